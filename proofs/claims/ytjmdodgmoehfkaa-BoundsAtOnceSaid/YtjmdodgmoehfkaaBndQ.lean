/- Contract of the reference's Distances. -/
import Derived.Test.YtjmdodgmoehfkaaProg
import Derived.Test.YtjmdodgmoehfkaaBndB
import Derived.Test.YtjmdodgmoehfkaaBndM
import Derived.Test.YtjmdodgmoehfkaaSeq4
import Derived.KernelRfl
namespace Go.Proofs.Ytjmdodgmoehfkaa
open Go.RowKit

variable {S S' : Nat → Prop}

theorem blk_rowsC {w : World} {g nn r k o : Nat} {ti : TypeId} {rs : List Nat} (h : Blk w g ti (rawVals ((rowsU nn rs).set k (.slice (some ⟨r, 0, none⟩) nn nn)))) (ho : o = k) (hk : k < nn ∧ rs.length ≤ nn) : w.cell? ⟨g, o, none⟩ = some (.slice (some ⟨r, 0, none⟩) nn nn) := by
  subst ho; rw [h.rule.1, List.getElem?_set_self (by rw [rowsU_len hk.2]; exact hk.1)]

set_option maxRecDepth 100000 in
set_option maxHeartbeats 1000000 in
theorem rdist_any (A : Option Addr) (c nn : Nat) (l : List E3) (w : World) (hf : Fl S w 3 (.slice A l.length c) l.length (edVals l)) (hv : vOk nn l = true) (h0' : 0 < nn) (h8 : nn ≤ 8) (hm : l.length ≤ 31) :
    Calls Try.prog 32 #[.agg #[.int .i64 (nn : Nat), .slice A l.length c]] w (fun e w' => ∃ A' m c' t ok, e = .returned (.tuple #[.slice A' m c', .bool ok]) ∧ RIss (fun b => w.heap.size ≤ b) w' (.slice A' m c') t ∧ ((ok = false ∧ P15.Neg (eds l) ∧ t = []) ∨ (ok = true ∧ ¬ P15.Neg (eds l) ∧ DistT l nn t)) ∧ Ext w w') := by
  have hc : Fl (Clip S w) w 3 (.slice A l.length c) l.length (edVals l) := hf.clip
  have hcc := (Fl.cel hc).2.1
  refine calls_enter (l := [(.agg #[(.int .i64 (nn : Nat)), (.slice A l.length c)])]) Try.func32 rfl rfl rfl (fun aA hF => ?_)
  refine wp_seq_k (fun K1 hK1 => ?_)
  refine wp_region_lit ?_
  refine wpl_op (i := 0) rfl (o_new (fun g => (.pointer (some ⟨g, 0, none⟩))) [(.int .i64 (nn : Nat)), (.slice A l.length c)] 24 hF rfl rfl rfl rfl (rn_box (hF.get rfl) (by kernel_rfl)) ?_)
  intro g2 w3 a8 hF9 z6 z7 b4 hx5; clear hF
  refine wpl_op (i := 1) rfl (o_val (v := (.slice none 0 0)) hF9 rfl rfl rfl rfl (rn_assign rfl) ?_)
  intro a10 hF11; clear hF9
  refine wpl_op (i := 2) rfl (o_val (v := (.bool false)) hF11 rfl rfl rfl rfl (rn_assign rfl) ?_)
  intro a12 hF13; clear hF11
  refine wpList_nil ?_
  refine hK1 _ _ ?_
  clear hK1
  refine wp_seq_k (fun K14 hK14 => ?_)
  refine wp_region_lit ?_
  refine wpl_op (i := 0) rfl (o_val (v := (.pointer (some ⟨g2, 0, none⟩))) hF13 rfl rfl rfl rfl (rn_field Try.underlying24 rfl (by kernel_rfl) (hF13.get rfl) rfl) ?_)
  intro a15 hF16; clear hF13
  refine wpl_op (i := 1) rfl (o_val (v := (.int .i64 (nn : Nat))) hF16 rfl rfl rfl rfl (rn_load (isAgg_no Try.underlying3 rfl) (hF16.get rfl) (b4.rule.1 0)) ?_)
  intro a17 hF18; clear hF16
  refine wpl_op (i := 2) rfl (o_val (v := (.int .i64 (nn : Nat))) hF18 rfl rfl rfl rfl (rn_assign (hF18.get rfl)) ?_)
  intro a19 hF20; clear hF18
  refine wpList_nil ?_
  refine hK14 _ _ ?_
  clear hK14
  refine wp_seq_k (fun K21 hK21 => ?_)
  refine wp_region_lit ?_
  refine wpl_op (i := 0) rfl (o_val (v := (.int .i64 (nn : Nat))) hF20 rfl rfl rfl rfl (rn_move (hF20.get rfl)) ?_)
  intro a22 hF23; clear hF20
  refine wpl_op (i := 1) rfl (o_new (fun g => (.slice (some ⟨g, 0, none⟩) nn nn)) (rawVals (List.replicate nn (Value.slice none 0 0))) 25 hF23 rfl rfl rfl rfl (rn_makeN El33 rfl (hF23.get rfl) (hF23.get rfl) (by omega) (by omega) rfl) ?_)
  intro g24 w25 a30 hF31 z28 z29 b26 hx27; clear hF23
  refine wpl_op (i := 2) rfl (o_val (v := (.slice (some ⟨g24, 0, none⟩) nn nn)) hF31 rfl rfl rfl rfl (rn_assign (hF31.get rfl)) ?_)
  intro a32 hF33; clear hF31
  refine wpList_nil ?_
  refine hK21 _ _ ?_
  clear hK21
  have hF34 := ((((((hF33.nil.cons (hF33.get (t := 5) (v := (.slice (some ⟨g24, 0, none⟩) nn nn)) rfl)).cons (hF33.get (t := 4) (v := (.int .i64 (nn : Nat))) rfl)).cons (hF33.get (t := 3) (v := (.bool false)) rfl)).cons (hF33.get (t := 2) (v := (.slice none 0 0)) rfl)).cons (hF33.get (t := 1) (v := (.pointer (some ⟨g2, 0, none⟩))) rfl)).cons (hF33.get (t := 0) (v := (.agg #[(.int .i64 (nn : Nat)), (.slice A l.length c)])) rfl))
  clear hF33
  refine wp_seq_k (fun K35 hK35 => ?_)
  refine wp_seq_k (fun K36 hK36 => ?_)
  refine wp_region_lit ?_
  refine wpl_op (i := 0) rfl (o_val (v := (.int .i64 0)) hF34 rfl rfl rfl rfl (rn_assign rfl) ?_)
  intro a37 hF38; clear hF34
  refine wpList_nil ?_
  refine hK36 _ _ ?_
  clear hK36
  refine wp_block ?_
  have hgt0 := b26.lt
  have htb0 := Tb.nil w25 g24 3
  have b39 : Blk w25 g2 24 [(.int .i64 (nn : Nat)), (.slice A l.length c)] := (b4.ext hx27)
  refine wp_loop (fun a' W => ∃ (k : Nat) (hi1 : Nat) (rs1 : List Nat) (t1 : List (List Int)), Sl 153 [(0, (.agg #[(.int .i64 (nn : Nat)), (.slice A l.length c)])), (1, (.pointer (some ⟨g2, 0, none⟩))), (2, (.slice none 0 0)), (3, (.bool false)), (4, (.int .i64 (nn : Nat))), (5, (.slice (some ⟨g24, 0, none⟩) nn nn)), (6, (.int .i64 (k : Nat)))] a' ∧ (k ≤ nn ∧ rs1.length = k) ∧ t1 = firstT nn k ∧ Ext w W ∧ Blk W g2 24 [(.int .i64 (nn : Nat)), (.slice A l.length c)] ∧ Blk W g24 25 (rawVals (rowsU nn rs1)) ∧ Tb W g24 hi1 3 rs1 t1 ∧ hi1 ≤ W.heap.size ∧ w25.heap.size ≤ W.heap.size) (fun a' _ => nn - (intOf (a'.eval (.tmp 6))).toNat) ⟨0, (g24 + 1), [], [], (((((((hF38.nil.cons (q_get hF38 (t := 6) rfl (by first | rfl | (congr 1; omega) | (congr 1; done)))).cons (q_get hF38 (t := 5) rfl rfl)).cons (q_get hF38 (t := 4) rfl rfl)).cons (q_get hF38 (t := 3) rfl rfl)).cons (q_get hF38 (t := 2) rfl rfl)).cons (q_get hF38 (t := 1) rfl rfl)).cons (q_get hF38 (t := 0) rfl rfl)), ⟨by omega, rfl⟩, rfl, (((Ext.refl w).trans hx5).trans hx27), b39, b26, htb0, (by omega), (Nat.le_refl _)⟩ ?_
  clear hF38
  rintro a40 w41 ⟨k, hi1, rs1, t1, hF42, hp44, hp45, hx43, b46, b47, hf48, hf49, hf50⟩
  have hL51 := hF42
  have z52 := hx43.size
  have z53 := b46.lt
  have z54 := b47.lt
  have hrs := hp44.2
  refine wp_seq_k (fun K55 hK55 => ?_)
  refine wp_seq_k (fun K56 hK56 => ?_)
  refine wp_region_lit ?_
  refine wpl_op (i := 0) rfl (o_val (v := (.int .i64 (k : Nat))) hF42 rfl rfl rfl rfl (rn_move (hF42.get rfl)) ?_)
  intro a57 hF58; clear hF42
  refine wpl_op (i := 1) rfl (o_val (v := (.int .i64 (nn : Nat))) hF58 rfl rfl rfl rfl (rn_move (hF58.get rfl)) ?_)
  intro a59 hF60; clear hF58
  refine wpl_op (i := 2) rfl (o_val (v := (.bool (decide (((k : Nat) : Int) < ((nn : Nat) : Int))))) hF60 rfl rfl rfl rfl (rn_lss (hF60.get rfl) (hF60.get rfl)) ?_)
  intro a61 hF62; clear hF60
  refine wpList_nil ?_
  refine hK56 _ _ ?_
  clear hK56
  by_cases hc63 : ((k : Nat) : Int) < ((nn : Nat) : Int)
  · skip
    refine wp_cond_true (c_true hF62 rfl (decide_eq_true hc63)) ?_
    refine wp_skip ?_
    refine hK55 _ _ ?_
    clear hK55
    refine wp_seq_k (fun K64 hK64 => ?_)
    refine wp_block ?_
    refine wp_seq_k (fun K65 hK65 => ?_)
    refine wp_region_lit ?_
    refine wpl_op (i := 0) rfl (o_val (v := (.slice (some ⟨g24, 0, none⟩) nn nn)) hF62 rfl rfl rfl rfl (rn_move (hF62.get rfl)) ?_)
    intro a66 hF67; clear hF62
    refine wpl_op (i := 1) rfl (o_val (v := (.int .i64 (k : Nat))) hF67 rfl rfl rfl rfl (rn_move (hF67.get rfl)) ?_)
    intro a68 hF69; clear hF67
    refine wpl_op (i := 2) rfl (o_val (v := (.int .i64 (nn : Nat))) hF69 rfl rfl rfl rfl (rn_move (hF69.get rfl)) ?_)
    intro a70 hF71; clear hF69
    refine wpl_op (i := 3) rfl (o_new (fun g => (.slice (some ⟨g, 0, none⟩) nn nn)) (intVals (List.replicate nn 0)) 3 hF71 rfl rfl rfl rfl (rn_makeN El25 rfl (hF71.get rfl) (hF71.get rfl) (by omega) (by omega) (by simp [intVals])) ?_)
    intro g72 w73 a78 hF79 z76 z77 b74 hx75; clear hF71
    refine wpl_op (i := 4) rfl (o_val (v := (.pointer (some ⟨g24, 0 + k, none⟩))) hF79 rfl rfl rfl rfl (rn_index1 Try.underlying33 (by kernel_rfl : (Try.prog.info? 25).map (·.size) = some 1) (hF79.get rfl) (hF79.get rfl) (by omega : (0 : Int) ≤ (k : Nat)) (by omega : ((k : Nat) : Int) < ((nn : Nat) : Int))) ?_)
    intro a80 hF81; clear hF79
    have b82 : Blk w73 g24 25 (rawVals (rowsU nn rs1)) := (b47.ext hx75)
    refine wpl_op (i := 5) rfl (o_store1 (new := rawVals ((rowsU nn rs1).set k (.slice (some ⟨g72, 0, none⟩) nn nn))) hF81 rfl rfl rfl rfl (hF81.get rfl) (hF81.get rfl) b82 (by kernel_rfl : (Try.prog.info? 25).map (·.size) = some 1) (by rw [rowsU_len (by omega)]; omega) rfl (congrArg (fun j => List.set (rowsU nn rs1) j _) (show 0 + k = k by omega)) ?_)
    intro w83 b84 hg85; have z86 := hg85.size
    refine wpList_nil ?_
    refine hK65 _ _ ?_
    clear hK65
    have hF87 := ((((((((hF81.nil.cons (hF81.get (t := 20) (v := (.bool (decide (((k : Nat) : Int) < ((nn : Nat) : Int))))) rfl)).cons (hF81.get (t := 6) (v := (.int .i64 (k : Nat))) rfl)).cons (hF81.get (t := 5) (v := (.slice (some ⟨g24, 0, none⟩) nn nn)) rfl)).cons (hF81.get (t := 4) (v := (.int .i64 (nn : Nat))) rfl)).cons (hF81.get (t := 3) (v := (.bool false)) rfl)).cons (hF81.get (t := 2) (v := (.slice none 0 0)) rfl)).cons (hF81.get (t := 1) (v := (.pointer (some ⟨g2, 0, none⟩))) rfl)).cons (hF81.get (t := 0) (v := (.agg #[(.int .i64 (nn : Nat)), (.slice A l.length c)])) rfl))
    clear hF81
    refine wp_seq_k (fun K88 hK88 => ?_)
    refine wp_seq_k (fun K89 hK89 => ?_)
    refine wp_region_lit ?_
    refine wpl_op (i := 0) rfl (o_val (v := (.int .i64 0)) hF87 rfl rfl rfl rfl (rn_assign rfl) ?_)
    intro a90 hF91; clear hF87
    refine wpList_nil ?_
    refine hK89 _ _ ?_
    clear hK89
    refine wp_block ?_
    have tb92 := ((hf48.ext hx75).far hg85 (by omega))
    have b93 : Blk w83 g2 24 [(.int .i64 (nn : Nat)), (.slice A l.length c)] := ((b46.ext hx75).grownN hg85 (by omega))
    have b94 : Blk w83 g72 3 (intVals (List.replicate nn 0)) := (b74.grownN hg85 (by omega))
    refine wp_loop (fun a' W => ∃ (c1 : Nat) (rw1 : List Int), Sl 153 [(0, (.agg #[(.int .i64 (nn : Nat)), (.slice A l.length c)])), (1, (.pointer (some ⟨g2, 0, none⟩))), (2, (.slice none 0 0)), (3, (.bool false)), (4, (.int .i64 (nn : Nat))), (5, (.slice (some ⟨g24, 0, none⟩) nn nn)), (6, (.int .i64 (k : Nat))), (20, (.bool (decide (((k : Nat) : Int) < ((nn : Nat) : Int))))), (7, (.int .i64 (c1 : Nat)))] a' ∧ c1 ≤ nn ∧ RepI 1152921504606846976 nn c1 rw1 ∧ Ext w W ∧ Blk W g2 24 [(.int .i64 (nn : Nat)), (.slice A l.length c)] ∧ Blk W g24 25 (rawVals ((rowsU nn rs1).set k (.slice (some ⟨g72, 0, none⟩) nn nn))) ∧ Blk W g72 3 (intVals rw1) ∧ Tb W g24 hi1 3 rs1 t1 ∧ hi1 ≤ W.heap.size ∧ w83.heap.size ≤ W.heap.size) (fun a' _ => nn - (intOf (a'.eval (.tmp 7))).toNat) ⟨0, (List.replicate nn 0), (((((((((hF91.nil.cons (q_get hF91 (t := 7) rfl (by first | rfl | (congr 1; omega) | (congr 1; done)))).cons (q_get hF91 (t := 20) rfl rfl)).cons (q_get hF91 (t := 6) rfl rfl)).cons (q_get hF91 (t := 5) rfl rfl)).cons (q_get hF91 (t := 4) rfl rfl)).cons (q_get hF91 (t := 3) rfl rfl)).cons (q_get hF91 (t := 2) rfl rfl)).cons (q_get hF91 (t := 1) rfl rfl)).cons (q_get hF91 (t := 0) rfl rfl)), (by omega), (RepI.zero _ _), ((((Ext.refl w).trans hx43).trans hx75).grownN hg85 (by omega)), b93, b84, b94, tb92, (by omega), (Nat.le_refl _)⟩ ?_
    clear hF91
    rintro a95 w96 ⟨c1, rw1, hF97, hp99, hp100, hx98, b101, b102, b103, hf104, hf105, hf106⟩
    have hL107 := hF97
    have z108 := hx98.size
    have z109 := b101.lt
    have z110 := b102.lt
    have z111 := b103.lt
    have hrwl := hp100.1
    refine wp_seq_k (fun K112 hK112 => ?_)
    refine wp_seq_k (fun K113 hK113 => ?_)
    refine wp_region_lit ?_
    refine wpl_op (i := 0) rfl (o_val (v := (.int .i64 (c1 : Nat))) hF97 rfl rfl rfl rfl (rn_move (hF97.get rfl)) ?_)
    intro a114 hF115; clear hF97
    refine wpl_op (i := 1) rfl (o_val (v := (.int .i64 (nn : Nat))) hF115 rfl rfl rfl rfl (rn_move (hF115.get rfl)) ?_)
    intro a116 hF117; clear hF115
    refine wpl_op (i := 2) rfl (o_val (v := (.bool (decide (((c1 : Nat) : Int) < ((nn : Nat) : Int))))) hF117 rfl rfl rfl rfl (rn_lss (hF117.get rfl) (hF117.get rfl)) ?_)
    intro a118 hF119; clear hF117
    refine wpList_nil ?_
    refine hK113 _ _ ?_
    clear hK113
    by_cases hc120 : ((c1 : Nat) : Int) < ((nn : Nat) : Int)
    · skip
      refine wp_cond_true (c_true hF119 rfl (decide_eq_true hc120)) ?_
      refine wp_skip ?_
      refine hK112 _ _ ?_
      clear hK112
      refine wp_seq_k (fun K121 hK121 => ?_)
      refine wp_block ?_
      refine wp_region_lit ?_
      refine wpl_op (i := 0) rfl (o_val (v := (.slice (some ⟨g24, 0, none⟩) nn nn)) hF119 rfl rfl rfl rfl (rn_move (hF119.get rfl)) ?_)
      intro a122 hF123; clear hF119
      refine wpl_op (i := 1) rfl (o_val (v := (.int .i64 (k : Nat))) hF123 rfl rfl rfl rfl (rn_move (hF123.get rfl)) ?_)
      intro a124 hF125; clear hF123
      refine wpl_op (i := 2) rfl (o_val (v := (.pointer (some ⟨g24, 0 + k, none⟩))) hF125 rfl rfl rfl rfl (rn_index1 Try.underlying33 (by kernel_rfl : (Try.prog.info? 25).map (·.size) = some 1) (hF125.get rfl) (hF125.get rfl) (by omega : (0 : Int) ≤ (k : Nat)) (by omega : ((k : Nat) : Int) < ((nn : Nat) : Int))) ?_)
      intro a126 hF127; clear hF125
      refine wpl_op (i := 3) rfl (o_val (v := (.slice (some ⟨g72, 0, none⟩) nn nn)) hF127 rfl rfl rfl rfl (rn_load (isAgg_no Try.underlying25 rfl) (hF127.get rfl) (blk_rowsC b102 (by omega) (by omega))) ?_)
      intro a128 hF129; clear hF127
      refine wpl_op (i := 4) rfl (o_val (v := (.int .i64 (c1 : Nat))) hF129 rfl rfl rfl rfl (rn_move (hF129.get rfl)) ?_)
      intro a130 hF131; clear hF129
      refine wpl_op (i := 5) rfl (o_val (v := (.pointer (some ⟨g72, 0 + c1, none⟩))) hF131 rfl rfl rfl rfl (rn_index1 Try.underlying25 (by kernel_rfl : (Try.prog.info? 3).map (·.size) = some 1) (hF131.get rfl) (hF131.get rfl) (by omega : (0 : Int) ≤ (c1 : Nat)) (by omega : ((c1 : Nat) : Int) < ((nn : Nat) : Int))) ?_)
      intro a132 hF133; clear hF131
      refine wpl_op (i := 6) rfl (o_store1 (new := (intVals (rw1.set c1 1152921504606846976))) hF133 rfl rfl rfl rfl (hF133.get rfl) rfl b103 (by kernel_rfl : (Try.prog.info? 3).map (·.size) = some 1) (by rw [intVals_len hrwl]; omega) rfl (intVals_set (by omega)) ?_)
      intro w134 b135 hg136; have z137 := hg136.size
      refine wpList_nil ?_
      refine hK121 _ _ ?_
      clear hK121
      have hF138 := ((((((((((hF133.nil.cons (hF133.get (t := 30) (v := (.bool (decide (((c1 : Nat) : Int) < ((nn : Nat) : Int))))) rfl)).cons (hF133.get (t := 7) (v := (.int .i64 (c1 : Nat))) rfl)).cons (hF133.get (t := 20) (v := (.bool (decide (((k : Nat) : Int) < ((nn : Nat) : Int))))) rfl)).cons (hF133.get (t := 6) (v := (.int .i64 (k : Nat))) rfl)).cons (hF133.get (t := 5) (v := (.slice (some ⟨g24, 0, none⟩) nn nn)) rfl)).cons (hF133.get (t := 4) (v := (.int .i64 (nn : Nat))) rfl)).cons (hF133.get (t := 3) (v := (.bool false)) rfl)).cons (hF133.get (t := 2) (v := (.slice none 0 0)) rfl)).cons (hF133.get (t := 1) (v := (.pointer (some ⟨g2, 0, none⟩))) rfl)).cons (hF133.get (t := 0) (v := (.agg #[(.int .i64 (nn : Nat)), (.slice A l.length c)])) rfl))
      clear hF133
      refine wp_region_lit ?_
      refine wpl_op (i := 0) rfl (o_val (v := (.int .i64 (c1 : Nat))) hF138 rfl rfl rfl rfl (rn_move (hF138.get rfl)) ?_)
      intro a139 hF140; clear hF138
      refine wpl_op (i := 1) rfl (o_val (v := (.int .i64 (c1 + 1 : Nat))) hF140 rfl rfl rfl rfl (rn_addN (a := c1) (b := 1) (hF140.get rfl) rfl (by omega)) ?_)
      intro a141 hF142; clear hF140
      refine wpl_op (i := 2) rfl (o_val (v := (.int .i64 (c1 + 1 : Nat))) hF142 rfl rfl rfl rfl (rn_assign (hF142.get rfl)) ?_)
      intro a143 hF144; clear hF142
      refine wpList_nil ?_
      have tb145 := (hf104.far hg136 (by omega))
      have b146 : Blk w134 g2 24 [(.int .i64 (nn : Nat)), (.slice A l.length c)] := (b101.grownN hg136 (by omega))
      have b147 : Blk w134 g24 25 (rawVals ((rowsU nn rs1).set k (.slice (some ⟨g72, 0, none⟩) nn nn))) := (b102.grownN hg136 (by omega))
      refine ⟨⟨(c1 + 1), rw1.set c1 1152921504606846976, (((((((((hF144.nil.cons (q_get hF144 (t := 7) rfl (by first | rfl | (congr 1; omega) | (congr 1; done)))).cons (q_get hF144 (t := 20) rfl rfl)).cons (q_get hF144 (t := 6) rfl rfl)).cons (q_get hF144 (t := 5) rfl rfl)).cons (q_get hF144 (t := 4) rfl rfl)).cons (q_get hF144 (t := 3) rfl rfl)).cons (q_get hF144 (t := 2) rfl rfl)).cons (q_get hF144 (t := 1) rfl rfl)).cons (q_get hF144 (t := 0) rfl rfl)), (by omega), (RepI.one hp100 (by omega)), (((Ext.refl w).trans hx98).grownN hg136 (by omega)), b146, b147, b135, tb145, (by omega), (by omega)⟩, ?_⟩
      rw [hF144.get (t := 7) rfl, hL107.get (t := 7) rfl]; simp [intOf] <;> omega
    · skip
      refine wp_cond_false (c_false hF119 rfl (decide_eq_false hc120)) ?_
      refine wp_exit ?_
      refine exit_then ?_
      refine exit_then ?_
      refine exit_here ?_
      refine hK88 _ _ ?_
      clear hK88
      refine wp_region_lit ?_
      refine wpl_op (i := 0) rfl (o_val (v := (.slice (some ⟨g24, 0, none⟩) nn nn)) hF119 rfl rfl rfl rfl (rn_move (hF119.get rfl)) ?_)
      intro a148 hF149; clear hF119
      refine wpl_op (i := 1) rfl (o_val (v := (.int .i64 (k : Nat))) hF149 rfl rfl rfl rfl (rn_move (hF149.get rfl)) ?_)
      intro a150 hF151; clear hF149
      refine wpl_op (i := 2) rfl (o_val (v := (.pointer (some ⟨g24, 0 + k, none⟩))) hF151 rfl rfl rfl rfl (rn_index1 Try.underlying33 (by kernel_rfl : (Try.prog.info? 25).map (·.size) = some 1) (hF151.get rfl) (hF151.get rfl) (by omega : (0 : Int) ≤ (k : Nat)) (by omega : ((k : Nat) : Int) < ((nn : Nat) : Int))) ?_)
      intro a152 hF153; clear hF151
      refine wpl_op (i := 3) rfl (o_val (v := (.slice (some ⟨g72, 0, none⟩) nn nn)) hF153 rfl rfl rfl rfl (rn_load (isAgg_no Try.underlying25 rfl) (hF153.get rfl) (blk_rowsC b102 (by omega) (by omega))) ?_)
      intro a154 hF155; clear hF153
      refine wpl_op (i := 4) rfl (o_val (v := (.int .i64 (k : Nat))) hF155 rfl rfl rfl rfl (rn_move (hF155.get rfl)) ?_)
      intro a156 hF157; clear hF155
      refine wpl_op (i := 5) rfl (o_val (v := (.pointer (some ⟨g72, 0 + k, none⟩))) hF157 rfl rfl rfl rfl (rn_index1 Try.underlying25 (by kernel_rfl : (Try.prog.info? 3).map (·.size) = some 1) (hF157.get rfl) (hF157.get rfl) (by omega : (0 : Int) ≤ (k : Nat)) (by omega : ((k : Nat) : Int) < ((nn : Nat) : Int))) ?_)
      intro a158 hF159; clear hF157
      refine wpl_op (i := 6) rfl (o_store1 (new := (intVals (rw1.set k 0))) hF159 rfl rfl rfl rfl (hF159.get rfl) rfl b103 (by kernel_rfl : (Try.prog.info? 3).map (·.size) = some 1) (by rw [intVals_len hrwl]; omega) rfl (intVals_set (by omega)) ?_)
      intro w160 b161 hg162; have z163 := hg162.size
      refine wpList_nil ?_
      refine hK64 _ _ ?_
      clear hK64
      have hF164 := ((((((((((hF159.nil.cons (hF159.get (t := 30) (v := (.bool (decide (((c1 : Nat) : Int) < ((nn : Nat) : Int))))) rfl)).cons (hF159.get (t := 7) (v := (.int .i64 (c1 : Nat))) rfl)).cons (hF159.get (t := 20) (v := (.bool (decide (((k : Nat) : Int) < ((nn : Nat) : Int))))) rfl)).cons (hF159.get (t := 6) (v := (.int .i64 (k : Nat))) rfl)).cons (hF159.get (t := 5) (v := (.slice (some ⟨g24, 0, none⟩) nn nn)) rfl)).cons (hF159.get (t := 4) (v := (.int .i64 (nn : Nat))) rfl)).cons (hF159.get (t := 3) (v := (.bool false)) rfl)).cons (hF159.get (t := 2) (v := (.slice none 0 0)) rfl)).cons (hF159.get (t := 1) (v := (.pointer (some ⟨g2, 0, none⟩))) rfl)).cons (hF159.get (t := 0) (v := (.agg #[(.int .i64 (nn : Nat)), (.slice A l.length c)])) rfl))
      clear hF159
      refine wp_region_lit ?_
      refine wpl_op (i := 0) rfl (o_val (v := (.int .i64 (k : Nat))) hF164 rfl rfl rfl rfl (rn_move (hF164.get rfl)) ?_)
      intro a165 hF166; clear hF164
      refine wpl_op (i := 1) rfl (o_val (v := (.int .i64 (k + 1 : Nat))) hF166 rfl rfl rfl rfl (rn_addN (a := k) (b := 1) (hF166.get rfl) rfl (by omega)) ?_)
      intro a167 hF168; clear hF166
      refine wpl_op (i := 2) rfl (o_val (v := (.int .i64 (k + 1 : Nat))) hF168 rfl rfl rfl rfl (rn_assign (hF168.get rfl)) ?_)
      intro a169 hF170; clear hF168
      refine wpList_nil ?_
      have hf171 := b161
      rw [RepI.all (show RepI _ nn nn rw1 from (show c1 = nn by omega) ▸ hp100)] at hf171
      have tb172 := (hf104.far hg162 (by omega))
      have hntb := Tb.push (hi' := g72 + 1) tb172 hf171 (by omega) (by omega) (by omega)
      have b173 : Blk w160 g24 25 (rawVals ((rowsU nn rs1).set k (.slice (some ⟨g72, 0, none⟩) nn nn))) := (b102.grownN hg162 (by omega))
      have hf174 := b173
      rw [rowsU_set (by omega) (by omega)] at hf174
      have b175 : Blk w160 g2 24 [(.int .i64 (nn : Nat)), (.slice A l.length c)] := (b101.grownN hg162 (by omega))
      refine ⟨⟨(k + 1), (g72 + 1), (rs1 ++ [g72]), (t1 ++ [(List.replicate nn 1152921504606846976).set k 0]), (((((((hF170.nil.cons (q_get hF170 (t := 6) rfl (by first | rfl | (congr 1; omega) | (congr 1; done)))).cons (q_get hF170 (t := 5) rfl rfl)).cons (q_get hF170 (t := 4) rfl rfl)).cons (q_get hF170 (t := 3) rfl rfl)).cons (q_get hF170 (t := 2) rfl rfl)).cons (q_get hF170 (t := 1) rfl rfl)).cons (q_get hF170 (t := 0) rfl rfl)), ⟨by omega, by simp; omega⟩, (by rw [hp45]; exact firstT_step _ _), (((Ext.refl w).trans hx98).grownN hg162 (by omega)), b175, hf174, hntb, (by omega), (by omega)⟩, ?_⟩
      rw [hF170.get (t := 6) rfl, hL51.get (t := 6) rfl]; simp [intOf] <;> omega
  · skip
    refine wp_cond_false (c_false hF62 rfl (decide_eq_false hc63)) ?_
    refine wp_exit ?_
    refine exit_then ?_
    refine exit_then ?_
    refine exit_here ?_
    refine hK35 _ _ ?_
    clear hK35
    refine wp_seq_k (fun K176 hK176 => ?_)
    refine wp_seq_k (fun K177 hK177 => ?_)
    refine wp_region_lit ?_
    refine wpl_op (i := 0) rfl (o_val (v := (.int .i64 0)) hF62 rfl rfl rfl rfl (rn_assign rfl) ?_)
    intro a178 hF179; clear hF62
    refine wpList_nil ?_
    refine hK177 _ _ ?_
    clear hK177
    refine wp_block ?_
    have hk : k = nn := by omega
    have hrl : rs1.length = nn := by omega
    have hed0 : EdT l nn t1 0 := by rw [hp45, hk]; exact EdT.start l nn
    refine wp_loop (fun a' W => ∃ (q1 : Nat) (t3 : List (List Int)), Sl 153 [(0, (.agg #[(.int .i64 (nn : Nat)), (.slice A l.length c)])), (1, (.pointer (some ⟨g2, 0, none⟩))), (2, (.slice none 0 0)), (3, (.bool false)), (4, (.int .i64 (nn : Nat))), (5, (.slice (some ⟨g24, 0, none⟩) nn nn)), (6, (.int .i64 (k : Nat))), (20, (.bool (decide (((k : Nat) : Int) < ((nn : Nat) : Int))))), (8, (.int .i64 (q1 : Nat)))] a' ∧ q1 ≤ l.length ∧ EdT l nn t3 q1 ∧ Ext w W ∧ Blk W g2 24 [(.int .i64 (nn : Nat)), (.slice A l.length c)] ∧ Blk W g24 25 (rawVals (rowsU nn rs1)) ∧ Tb W g24 hi1 3 rs1 t3 ∧ hi1 ≤ W.heap.size ∧ w41.heap.size ≤ W.heap.size) (fun a' _ => l.length - (intOf (a'.eval (.tmp 8))).toNat) ⟨0, t1, (((((((((hF179.nil.cons (q_get hF179 (t := 8) rfl (by first | rfl | (congr 1; omega) | (congr 1; done)))).cons (q_get hF179 (t := 20) rfl rfl)).cons (q_get hF179 (t := 6) rfl rfl)).cons (q_get hF179 (t := 5) rfl rfl)).cons (q_get hF179 (t := 4) rfl rfl)).cons (q_get hF179 (t := 3) rfl rfl)).cons (q_get hF179 (t := 2) rfl rfl)).cons (q_get hF179 (t := 1) rfl rfl)).cons (q_get hF179 (t := 0) rfl rfl)), (by omega), hed0, ((Ext.refl w).trans hx43), b46, b47, hf48, (by omega), (Nat.le_refl _)⟩ ?_
    clear hF179
    rintro a180 w181 ⟨q1, t3, hF182, hp184, hp185, hx183, b186, b187, hf188, hf189, hf190⟩
    have hL191 := hF182
    have z192 := hx183.size
    have z193 := b186.lt
    have z194 := b187.lt
    have hed := hp185
    refine wp_seq_k (fun K195 hK195 => ?_)
    refine wp_seq_k (fun K196 hK196 => ?_)
    refine wp_region_lit ?_
    refine wpl_op (i := 0) rfl (o_val (v := (.int .i64 (q1 : Nat))) hF182 rfl rfl rfl rfl (rn_move (hF182.get rfl)) ?_)
    intro a197 hF198; clear hF182
    refine wpl_op (i := 1) rfl (o_val (v := (.pointer (some ⟨g2, 1, none⟩))) hF198 rfl rfl rfl rfl (rn_field Try.underlying24 rfl (by kernel_rfl) (hF198.get rfl) rfl) ?_)
    intro a199 hF200; clear hF198
    refine wpl_op (i := 2) rfl (o_val (v := (.slice A l.length c)) hF200 rfl rfl rfl rfl (rn_load (isAgg_no Try.underlying22 rfl) (hF200.get rfl) (b186.rule.1 1)) ?_)
    intro a201 hF202; clear hF200
    refine wpl_op (i := 3) rfl (o_val (v := (.int .i64 (l.length : Nat))) hF202 rfl rfl rfl rfl (rn_len_slice Try.underlying22 (hF202.get rfl)) ?_)
    intro a203 hF204; clear hF202
    refine wpl_op (i := 4) rfl (o_val (v := (.bool (decide (((q1 : Nat) : Int) < ((l.length : Nat) : Int))))) hF204 rfl rfl rfl rfl (rn_lss (hF204.get rfl) (hF204.get rfl)) ?_)
    intro a205 hF206; clear hF204
    refine wpList_nil ?_
    refine hK196 _ _ ?_
    clear hK196
    have hF207 := ((((((((((hF206.nil.cons (hF206.get (t := 49) (v := (.bool (decide (((q1 : Nat) : Int) < ((l.length : Nat) : Int))))) rfl)).cons (hF206.get (t := 8) (v := (.int .i64 (q1 : Nat))) rfl)).cons (hF206.get (t := 20) (v := (.bool (decide (((k : Nat) : Int) < ((nn : Nat) : Int))))) rfl)).cons (hF206.get (t := 6) (v := (.int .i64 (k : Nat))) rfl)).cons (hF206.get (t := 5) (v := (.slice (some ⟨g24, 0, none⟩) nn nn)) rfl)).cons (hF206.get (t := 4) (v := (.int .i64 (nn : Nat))) rfl)).cons (hF206.get (t := 3) (v := (.bool false)) rfl)).cons (hF206.get (t := 2) (v := (.slice none 0 0)) rfl)).cons (hF206.get (t := 1) (v := (.pointer (some ⟨g2, 0, none⟩))) rfl)).cons (hF206.get (t := 0) (v := (.agg #[(.int .i64 (nn : Nat)), (.slice A l.length c)])) rfl))
    clear hF206
    by_cases hc208 : ((q1 : Nat) : Int) < ((l.length : Nat) : Int)
    · skip
      refine wp_cond_true (c_true hF207 rfl (decide_eq_true hc208)) ?_
      refine wp_skip ?_
      refine hK195 _ _ ?_
      clear hK195
      refine wp_seq_k (fun K209 hK209 => ?_)
      refine wp_block ?_
      refine wp_seq_k (fun K210 hK210 => ?_)
      have hxo := vOk_at hv (show q1 < l.length by omega)
      refine wp_region_lit ?_
      refine wpl_op (i := 0) rfl (o_val (v := (.pointer (some ⟨g2, 1, none⟩))) hF207 rfl rfl rfl rfl (rn_field Try.underlying24 rfl (by kernel_rfl) (hF207.get rfl) rfl) ?_)
      intro a211 hF212; clear hF207
      refine wpl_op (i := 1) rfl (o_val (v := (.slice A l.length c)) hF212 rfl rfl rfl rfl (rn_load (isAgg_no Try.underlying22 rfl) (hF212.get rfl) (b186.rule.1 1)) ?_)
      intro a213 hF214; clear hF212
      refine wpl_op (i := 2) rfl (o_val (v := (.int .i64 (q1 : Nat))) hF214 rfl rfl rfl rfl (rn_move (hF214.get rfl)) ?_)
      intro a215 hF216; clear hF214
      have d220 := (hc.ext hx183)
      obtain ⟨b217, o218, hA219, -⟩ := Fl.at d220 (by omega)
      refine wpl_op (i := 3) rfl (o_val (v := (.pointer (some ⟨b217, o218 + q1 * 3, none⟩))) hF216 rfl rfl rfl rfl (rn_indexE Try.underlying22 (by kernel_rfl : (Try.prog.info? 41).map (·.size) = some 3) ((hF216.get rfl).trans (by rw [hA219])) (hF216.get rfl) (by omega : (0 : Int) ≤ (q1 : Nat)) (by omega : ((q1 : Nat) : Int) < ((l.length : Nat) : Int)) (by omega)) ?_)
      intro a221 hF222; clear hF216
      refine wpl_op (i := 4) rfl (o_val (v := (.agg #[(.int .i64 ((l.getD q1 default).a)), (.int .i64 ((l.getD q1 default).b)), (.int .i64 ((l.getD q1 default).w))])) hF222 rfl rfl rfl rfl (rn_loadN (cs := [(.int .i64 ((l.getD q1 default).a)), (.int .i64 ((l.getD q1 default).b)), (.int .i64 ((l.getD q1 default).w))]) (hF222.get rfl) Try.underlying41 rfl (by kernel_rfl : (Try.prog.info? 41).map (·.size) = some 3) (Fl.recAt edCells_k d220 hA219 (by omega))) ?_)
      intro a223 hF224; clear hF222
      refine wpl_op (i := 5) rfl (o_new (fun g => (.pointer (some ⟨g, 0, none⟩))) [(.int .i64 0), (.int .i64 0), (.int .i64 0)] 41 hF224 rfl rfl rfl rfl (by kernel_rfl) ?_)
      intro g225 w226 a231 hF232 z229 z230 b227 hx228; clear hF224
      refine wpl_op (i := 6) rfl (o_store (cells := [(.int .i64 ((l.getD q1 default).a)), (.int .i64 ((l.getD q1 default).b)), (.int .i64 ((l.getD q1 default).w))]) hF232 rfl rfl rfl rfl (hF232.get rfl) (hF232.get rfl) b227 (by kernel_rfl : (Try.prog.info? 41).map (·.size) = some 3) rfl (by simp [Value.oneCell']) ?_)
      intro w233 b234 hg235; have z236 := hg235.size
      refine wpList_nil ?_
      refine hK210 _ _ ?_
      clear hK210
      have hF237 := (((((((((((hF232.nil.cons (hF232.get (t := 9) (v := (.pointer (some ⟨g225, 0, none⟩))) rfl)).cons (hF232.get (t := 49) (v := (.bool (decide (((q1 : Nat) : Int) < ((l.length : Nat) : Int))))) rfl)).cons (hF232.get (t := 8) (v := (.int .i64 (q1 : Nat))) rfl)).cons (hF232.get (t := 20) (v := (.bool (decide (((k : Nat) : Int) < ((nn : Nat) : Int))))) rfl)).cons (hF232.get (t := 6) (v := (.int .i64 (k : Nat))) rfl)).cons (hF232.get (t := 5) (v := (.slice (some ⟨g24, 0, none⟩) nn nn)) rfl)).cons (hF232.get (t := 4) (v := (.int .i64 (nn : Nat))) rfl)).cons (hF232.get (t := 3) (v := (.bool false)) rfl)).cons (hF232.get (t := 2) (v := (.slice none 0 0)) rfl)).cons (hF232.get (t := 1) (v := (.pointer (some ⟨g2, 0, none⟩))) rfl)).cons (hF232.get (t := 0) (v := (.agg #[(.int .i64 (nn : Nat)), (.slice A l.length c)])) rfl))
      clear hF232
      have hx239 : ∃ W, w233.drew = W ∧ Ext w233 W := ⟨_, rfl, (Ext.refl _).drew⟩
      obtain ⟨w238, e240, hx239⟩ := hx239
      have z241 := hx239.size
      refine any_start (fun W => Ext w238 W ∧ Blk W g225 41 [(.int .i64 ((l.getD q1 default).a)), (.int .i64 ((l.getD q1 default).b)), (.int .i64 ((l.getD q1 default).w))]) (fun i => i == 20) 21 #[false, false, false, false, false, false, false, false, false, false, false, false, false, false, false, false, false, false, false, false, false] rfl rfl rfl ?_
      rw [e240]; clear e240
      refine any_pure (i := 0) (v := (.slice (some ⟨g24, 0, none⟩) nn nn)) hF237 (by decide +kernel) (by decide +kernel) rfl rfl rfl rfl (fun _ _ _ _ h => h) rfl (fun W => (rn_move (hF237.get rfl))) ?_
      intro a242 hF243; clear hF237
      refine any_pure (i := 1) (v := (.pointer (some ⟨g225, 0, none⟩))) hF243 (by decide +kernel) (by decide +kernel) rfl rfl rfl rfl (fun _ _ _ _ h => h) rfl (fun W => (rn_field Try.underlying41 rfl (by kernel_rfl) (hF243.get rfl) rfl)) ?_
      intro a244 hF245; clear hF243
      have b247 : Blk w238 g225 41 [(.int .i64 ((l.getD q1 default).a)), (.int .i64 ((l.getD q1 default).b)), (.int .i64 ((l.getD q1 default).w))] := (b234.ext hx239)
      have hS246 : Ext w238 w238 ∧ Blk w238 g225 41 [(.int .i64 ((l.getD q1 default).a)), (.int .i64 ((l.getD q1 default).b)), (.int .i64 ((l.getD q1 default).w))] := ⟨(Ext.refl w238), b247⟩
      refine any_val (i := 2) (v := (.int .i64 ((l.getD q1 default).a))) hF245 (by decide +kernel) (by decide +kernel) rfl rfl rfl rfl (fun _ _ _ _ h => h) rfl hS246 (fun W hW => (rn_load (isAgg_no Try.underlying3 rfl) (hF245.get rfl) (hW.2.rule.1 0))) ?_
      intro a248 hF249; clear hF245
      refine any_pure (i := 3) (v := (.pointer (some ⟨g24, 0 + ((l.getD q1 default).a : Int).toNat, none⟩))) hF249 (by decide +kernel) (by decide +kernel) rfl rfl rfl rfl (fun _ _ _ _ h => h) rfl (fun W => (rn_index1 Try.underlying33 (by kernel_rfl : (Try.prog.info? 25).map (·.size) = some 1) (hF249.get rfl) (hF249.get rfl) (by omega : (0 : Int) ≤ (l.getD q1 default).a) (by omega : ((l.getD q1 default).a : Int) < ((nn : Nat) : Int)))) ?_
      intro a250 hF251; clear hF249
      have b252 : Blk w238 g24 25 (rawVals (rowsU nn rs1)) := (((b187.ext hx228).grownN hg235 (by omega)).ext hx239)
      refine any_val (i := 4) (v := (.slice (some ⟨(rs1.getD (((l.getD q1 default).a : Int).toNat) 0), 0, none⟩) nn nn)) hF251 (by decide +kernel) (by decide +kernel) rfl rfl rfl rfl (fun _ _ _ _ h => h) rfl hS246 (fun W hW => (rn_load (isAgg_no Try.underlying25 rfl) (hF251.get rfl) (blk_rowsU (nn := nn) (b252.ext hW.1) (i := (((l.getD q1 default).a : Int).toNat)) (by omega) (by omega)))) ?_
      intro a253 hF254; clear hF251
      refine any_pure (i := 5) (v := (.pointer (some ⟨g225, 1, none⟩))) hF254 (by decide +kernel) (by decide +kernel) rfl rfl rfl rfl (fun _ _ _ _ h => h) rfl (fun W => (rn_field Try.underlying41 rfl (by kernel_rfl) (hF254.get rfl) rfl)) ?_
      intro a255 hF256; clear hF254
      refine any_val (i := 6) (v := (.int .i64 ((l.getD q1 default).b))) hF256 (by decide +kernel) (by decide +kernel) rfl rfl rfl rfl (fun _ _ _ _ h => h) rfl hS246 (fun W hW => (rn_load (isAgg_no Try.underlying3 rfl) (hF256.get rfl) (hW.2.rule.1 1))) ?_
      intro a257 hF258; clear hF256
      refine any_pure (i := 7) (v := (.slice (some ⟨g24, 0, none⟩) nn nn)) hF258 (by decide +kernel) (by decide +kernel) rfl rfl rfl rfl (fun _ _ _ _ h => h) rfl (fun W => (rn_move (hF258.get rfl))) ?_
      intro a259 hF260; clear hF258
      refine any_pure (i := 8) (v := (.pointer (some ⟨g225, 0, none⟩))) hF260 (by decide +kernel) (by decide +kernel) rfl rfl rfl rfl (fun _ _ _ _ h => h) rfl (fun W => (rn_field Try.underlying41 rfl (by kernel_rfl) (hF260.get rfl) rfl)) ?_
      intro a261 hF262; clear hF260
      refine any_val (i := 9) (v := (.int .i64 ((l.getD q1 default).a))) hF262 (by decide +kernel) (by decide +kernel) rfl rfl rfl rfl (fun _ _ _ _ h => h) rfl hS246 (fun W hW => (rn_load (isAgg_no Try.underlying3 rfl) (hF262.get rfl) (hW.2.rule.1 0))) ?_
      intro a263 hF264; clear hF262
      refine any_pure (i := 10) (v := (.pointer (some ⟨g24, 0 + ((l.getD q1 default).a : Int).toNat, none⟩))) hF264 (by decide +kernel) (by decide +kernel) rfl rfl rfl rfl (fun _ _ _ _ h => h) rfl (fun W => (rn_index1 Try.underlying33 (by kernel_rfl : (Try.prog.info? 25).map (·.size) = some 1) (hF264.get rfl) (hF264.get rfl) (by omega : (0 : Int) ≤ (l.getD q1 default).a) (by omega : ((l.getD q1 default).a : Int) < ((nn : Nat) : Int)))) ?_
      intro a265 hF266; clear hF264
      refine any_val (i := 11) (v := (.slice (some ⟨(rs1.getD (((l.getD q1 default).a : Int).toNat) 0), 0, none⟩) nn nn)) hF266 (by decide +kernel) (by decide +kernel) rfl rfl rfl rfl (fun _ _ _ _ h => h) rfl hS246 (fun W hW => (rn_load (isAgg_no Try.underlying25 rfl) (hF266.get rfl) (blk_rowsU (nn := nn) (b252.ext hW.1) (i := (((l.getD q1 default).a : Int).toNat)) (by omega) (by omega)))) ?_
      intro a267 hF268; clear hF266
      refine any_pure (i := 12) (v := (.pointer (some ⟨g225, 1, none⟩))) hF268 (by decide +kernel) (by decide +kernel) rfl rfl rfl rfl (fun _ _ _ _ h => h) rfl (fun W => (rn_field Try.underlying41 rfl (by kernel_rfl) (hF268.get rfl) rfl)) ?_
      intro a269 hF270; clear hF268
      refine any_val (i := 13) (v := (.int .i64 ((l.getD q1 default).b))) hF270 (by decide +kernel) (by decide +kernel) rfl rfl rfl rfl (fun _ _ _ _ h => h) rfl hS246 (fun W hW => (rn_load (isAgg_no Try.underlying3 rfl) (hF270.get rfl) (hW.2.rule.1 1))) ?_
      intro a271 hF272; clear hF270
      refine any_pure (i := 14) (v := (.pointer (some ⟨(rs1.getD (((l.getD q1 default).a : Int).toNat) 0), 0 + ((l.getD q1 default).b : Int).toNat, none⟩))) hF272 (by decide +kernel) (by decide +kernel) rfl rfl rfl rfl (fun _ _ _ _ h => h) rfl (fun W => (rn_index1 Try.underlying25 (by kernel_rfl : (Try.prog.info? 3).map (·.size) = some 1) (hF272.get rfl) (hF272.get rfl) (by omega : (0 : Int) ≤ (l.getD q1 default).b) (by omega : ((l.getD q1 default).b : Int) < ((nn : Nat) : Int)))) ?_
      intro a273 hF274; clear hF272
      have tb275 := (((hf188.ext hx228).far hg235 (by omega)).ext hx239)
      refine any_val (i := 15) (v := (.int .i64 ((t3.getD (((l.getD q1 default).a : Int).toNat) []).getD (((l.getD q1 default).b : Int).toNat) 0))) hF274 (by decide +kernel) (by decide +kernel) rfl rfl rfl rfl (fun _ _ _ _ h => h) rfl hS246 (fun W hW => (rn_load (isAgg_no Try.underlying3 rfl) (hF274.get rfl) ((tb275.ext hW.1).cell (i := (((l.getD q1 default).a : Int).toNat)) (k := (((l.getD q1 default).b : Int).toNat)) (by omega) (by have := hed.sq.row (((l.getD q1 default).a : Int).toNat) (by omega); omega) (by omega)))) ?_
      intro a276 hF277; clear hF274
      refine any_pure (i := 16) (v := (.pointer (some ⟨g225, 2, none⟩))) hF277 (by decide +kernel) (by decide +kernel) rfl rfl rfl rfl (fun _ _ _ _ h => h) rfl (fun W => (rn_field Try.underlying41 rfl (by kernel_rfl) (hF277.get rfl) rfl)) ?_
      intro a278 hF279; clear hF277
      refine any_val (i := 17) (v := (.int .i64 ((l.getD q1 default).w))) hF279 (by decide +kernel) (by decide +kernel) rfl rfl rfl rfl (fun _ _ _ _ h => h) rfl hS246 (fun W hW => (rn_load (isAgg_no Try.underlying3 rfl) (hF279.get rfl) (hW.2.rule.1 2))) ?_
      intro a280 hF281; clear hF279
      refine any_pure (i := 18) (v := (.int .i64 (min (((t3.getD (((l.getD q1 default).a : Int).toNat) []).getD (((l.getD q1 default).b : Int).toNat) 0) : Int) ((l.getD q1 default).w : Int)))) hF281 (by decide +kernel) (by decide +kernel) rfl rfl rfl rfl (fun _ _ _ _ h => h) rfl (fun W => (rn_min2 Try.underlying3 (hF281.get rfl) (hF281.get rfl))) ?_
      intro a282 hF283; clear hF281
      refine any_pure (i := 19) (v := (.pointer (some ⟨(rs1.getD (((l.getD q1 default).a : Int).toNat) 0), 0 + ((l.getD q1 default).b : Int).toNat, none⟩))) hF283 (by decide +kernel) (by decide +kernel) rfl rfl rfl rfl (fun _ _ _ _ h => h) rfl (fun W => (rn_index1 Try.underlying25 (by kernel_rfl : (Try.prog.info? 3).map (·.size) = some 1) (hF283.get rfl) (hF283.get rfl) (by omega : (0 : Int) ≤ (l.getD q1 default).b) (by omega : ((l.getD q1 default).b : Int) < ((nn : Nat) : Int)))) ?_
      intro a284 hF285; clear hF283
      refine any_one (i := 20) (by decide +kernel) rfl ?_
      have z289 := tb275.lo (((l.getD q1 default).a : Int).toNat) (by omega); have z290 := tb275.up (((l.getD q1 default).a : Int).toNat) (by omega)
      refine o_store1 (new := intVals ((t3.getD (((l.getD q1 default).a : Int).toNat) []).set (((l.getD q1 default).b : Int).toNat) (min (((t3.getD (((l.getD q1 default).a : Int).toNat) []).getD (((l.getD q1 default).b : Int).toNat) 0) : Int) ((l.getD q1 default).w : Int)))) hF285 rfl rfl rfl rfl (hF285.get rfl) (hF285.get rfl) (tb275.row (((l.getD q1 default).a : Int).toNat) (by omega)) (by kernel_rfl : (Try.prog.info? 3).map (·.size) = some 1) (by rw [intVals_len (hed.sq.row (((l.getD q1 default).a : Int).toNat) (by omega))]; omega) rfl (intVals_set (by omega)) ?_
      intro w286 b287 hg288; have z291 := hg288.size
      have tb292 := tb275.set (by omega) b287 hg288
      refine ⟨fun h => absurd h (by decide), ?_⟩
      refine any_nil (by decide +kernel) ?_
      refine hK209 _ _ ?_
      clear hK209
      have hF293 := (((((((((((hF285.nil.cons (hF285.get (t := 9) (v := (.pointer (some ⟨g225, 0, none⟩))) rfl)).cons (hF285.get (t := 49) (v := (.bool (decide (((q1 : Nat) : Int) < ((l.length : Nat) : Int))))) rfl)).cons (hF285.get (t := 8) (v := (.int .i64 (q1 : Nat))) rfl)).cons (hF285.get (t := 20) (v := (.bool (decide (((k : Nat) : Int) < ((nn : Nat) : Int))))) rfl)).cons (hF285.get (t := 6) (v := (.int .i64 (k : Nat))) rfl)).cons (hF285.get (t := 5) (v := (.slice (some ⟨g24, 0, none⟩) nn nn)) rfl)).cons (hF285.get (t := 4) (v := (.int .i64 (nn : Nat))) rfl)).cons (hF285.get (t := 3) (v := (.bool false)) rfl)).cons (hF285.get (t := 2) (v := (.slice none 0 0)) rfl)).cons (hF285.get (t := 1) (v := (.pointer (some ⟨g2, 0, none⟩))) rfl)).cons (hF285.get (t := 0) (v := (.agg #[(.int .i64 (nn : Nat)), (.slice A l.length c)])) rfl))
      clear hF285
      refine wp_region_lit ?_
      refine wpl_op (i := 0) rfl (o_val (v := (.int .i64 (q1 : Nat))) hF293 rfl rfl rfl rfl (rn_move (hF293.get rfl)) ?_)
      intro a294 hF295; clear hF293
      refine wpl_op (i := 1) rfl (o_val (v := (.int .i64 (q1 + 1 : Nat))) hF295 rfl rfl rfl rfl (rn_addN (a := q1) (b := 1) (hF295.get rfl) rfl (by omega)) ?_)
      intro a296 hF297; clear hF295
      refine wpl_op (i := 2) rfl (o_val (v := (.int .i64 (q1 + 1 : Nat))) hF297 rfl rfl rfl rfl (rn_assign (hF297.get rfl)) ?_)
      intro a298 hF299; clear hF297
      refine wpList_nil ?_
      have b300 : Blk w286 g2 24 [(.int .i64 (nn : Nat)), (.slice A l.length c)] := ((((b186.ext hx228).grownN hg235 (by omega)).ext hx239).grownN hg288 (by omega))
      have b301 : Blk w286 g24 25 (rawVals (rowsU nn rs1)) := (b252.grownN hg288 (by omega))
      refine ⟨⟨(q1 + 1), (t3.set (((l.getD q1 default).a : Int).toNat) ((t3.getD (((l.getD q1 default).a : Int).toNat) []).set (((l.getD q1 default).b : Int).toNat) (min (((t3.getD (((l.getD q1 default).a : Int).toNat) []).getD (((l.getD q1 default).b : Int).toNat) 0) : Int) ((l.getD q1 default).w : Int)))), (((((((((hF299.nil.cons (q_get hF299 (t := 8) rfl (by first | rfl | (congr 1; omega) | (congr 1; done)))).cons (q_get hF299 (t := 20) rfl rfl)).cons (q_get hF299 (t := 6) rfl rfl)).cons (q_get hF299 (t := 5) rfl rfl)).cons (q_get hF299 (t := 4) rfl rfl)).cons (q_get hF299 (t := 3) rfl rfl)).cons (q_get hF299 (t := 2) rfl rfl)).cons (q_get hF299 (t := 1) rfl rfl)).cons (q_get hF299 (t := 0) rfl rfl)), (by omega), (hed.step hv (by omega)), ((((((Ext.refl w).trans hx183).trans hx228).grownN hg235 (by omega)).trans hx239).grownN hg288 (by omega)), b300, b301, tb292, (by omega), (by omega)⟩, ?_⟩
      rw [hF299.get (t := 8) rfl, hL191.get (t := 8) rfl]; simp [intOf] <;> omega
    · skip
      refine wp_cond_false (c_false hF207 rfl (decide_eq_false hc208)) ?_
      refine wp_exit ?_
      refine exit_then ?_
      refine exit_then ?_
      refine exit_here ?_
      refine hK176 _ _ ?_
      clear hK176
      refine wp_seq_k (fun K302 hK302 => ?_)
      refine wp_seq_k (fun K303 hK303 => ?_)
      refine wp_region_lit ?_
      refine wpl_op (i := 0) rfl (o_val (v := (.int .i64 0)) hF207 rfl rfl rfl rfl (rn_assign rfl) ?_)
      intro a304 hF305; clear hF207
      refine wpList_nil ?_
      refine hK303 _ _ ?_
      clear hK303
      refine wp_block ?_
      have hfw0 := hed.fw hv (by omega)
      refine wp_loop (fun a' W => ∃ (m1 : Nat) (t4 : List (List Int)), Sl 153 [(0, (.agg #[(.int .i64 (nn : Nat)), (.slice A l.length c)])), (1, (.pointer (some ⟨g2, 0, none⟩))), (2, (.slice none 0 0)), (3, (.bool false)), (4, (.int .i64 (nn : Nat))), (5, (.slice (some ⟨g24, 0, none⟩) nn nn)), (6, (.int .i64 (k : Nat))), (20, (.bool (decide (((k : Nat) : Int) < ((nn : Nat) : Int))))), (8, (.int .i64 (q1 : Nat))), (49, (.bool (decide (((q1 : Nat) : Int) < ((l.length : Nat) : Int))))), (10, (.int .i64 (m1 : Nat)))] a' ∧ m1 ≤ nn ∧ FwT l nn t4 m1 ∧ Ext w W ∧ Blk W g2 24 [(.int .i64 (nn : Nat)), (.slice A l.length c)] ∧ Blk W g24 25 (rawVals (rowsU nn rs1)) ∧ Tb W g24 hi1 3 rs1 t4 ∧ hi1 ≤ W.heap.size ∧ w181.heap.size ≤ W.heap.size) (fun a' _ => nn - (intOf (a'.eval (.tmp 10))).toNat) ⟨0, t3, (((((((((((hF305.nil.cons (q_get hF305 (t := 10) rfl (by first | rfl | (congr 1; omega) | (congr 1; done)))).cons (q_get hF305 (t := 49) rfl rfl)).cons (q_get hF305 (t := 8) rfl rfl)).cons (q_get hF305 (t := 20) rfl rfl)).cons (q_get hF305 (t := 6) rfl rfl)).cons (q_get hF305 (t := 5) rfl rfl)).cons (q_get hF305 (t := 4) rfl rfl)).cons (q_get hF305 (t := 3) rfl rfl)).cons (q_get hF305 (t := 2) rfl rfl)).cons (q_get hF305 (t := 1) rfl rfl)).cons (q_get hF305 (t := 0) rfl rfl)), (by omega), hfw0, ((Ext.refl w).trans hx183), b186, b187, hf188, (by omega), (Nat.le_refl _)⟩ ?_
      clear hF305
      rintro a306 w307 ⟨m1, t4, hF308, hp310, hp311, hx309, b312, b313, hf314, hf315, hf316⟩
      have hL317 := hF308
      have z318 := hx309.size
      have z319 := b312.lt
      have z320 := b313.lt
      have hfw := hp311
      refine wp_seq_k (fun K321 hK321 => ?_)
      refine wp_seq_k (fun K322 hK322 => ?_)
      refine wp_region_lit ?_
      refine wpl_op (i := 0) rfl (o_val (v := (.int .i64 (m1 : Nat))) hF308 rfl rfl rfl rfl (rn_move (hF308.get rfl)) ?_)
      intro a323 hF324; clear hF308
      refine wpl_op (i := 1) rfl (o_val (v := (.int .i64 (nn : Nat))) hF324 rfl rfl rfl rfl (rn_move (hF324.get rfl)) ?_)
      intro a325 hF326; clear hF324
      refine wpl_op (i := 2) rfl (o_val (v := (.bool (decide (((m1 : Nat) : Int) < ((nn : Nat) : Int))))) hF326 rfl rfl rfl rfl (rn_lss (hF326.get rfl) (hF326.get rfl)) ?_)
      intro a327 hF328; clear hF326
      refine wpList_nil ?_
      refine hK322 _ _ ?_
      clear hK322
      by_cases hc329 : ((m1 : Nat) : Int) < ((nn : Nat) : Int)
      · skip
        refine wp_cond_true (c_true hF328 rfl (decide_eq_true hc329)) ?_
        refine wp_skip ?_
        refine hK321 _ _ ?_
        clear hK321
        refine wp_seq_k (fun K330 hK330 => ?_)
        refine wp_block ?_
        refine wp_seq_k (fun K331 hK331 => ?_)
        refine wp_seq_k (fun K332 hK332 => ?_)
        refine wp_region_lit ?_
        refine wpl_op (i := 0) rfl (o_val (v := (.int .i64 0)) hF328 rfl rfl rfl rfl (rn_assign rfl) ?_)
        intro a333 hF334; clear hF328
        refine wpList_nil ?_
        refine hK332 _ _ ?_
        clear hK332
        refine wp_block ?_
        refine wp_loop (fun a' W => ∃ (i1 : Nat) (t5 : List (List Int)), Sl 153 [(0, (.agg #[(.int .i64 (nn : Nat)), (.slice A l.length c)])), (1, (.pointer (some ⟨g2, 0, none⟩))), (2, (.slice none 0 0)), (3, (.bool false)), (4, (.int .i64 (nn : Nat))), (5, (.slice (some ⟨g24, 0, none⟩) nn nn)), (6, (.int .i64 (k : Nat))), (20, (.bool (decide (((k : Nat) : Int) < ((nn : Nat) : Int))))), (8, (.int .i64 (q1 : Nat))), (49, (.bool (decide (((q1 : Nat) : Int) < ((l.length : Nat) : Int))))), (10, (.int .i64 (m1 : Nat))), (79, (.bool (decide (((m1 : Nat) : Int) < ((nn : Nat) : Int))))), (11, (.int .i64 (i1 : Nat)))] a' ∧ i1 ≤ nn ∧ PhT l nn t4 t5 m1 i1 0 ∧ Ext w W ∧ Blk W g2 24 [(.int .i64 (nn : Nat)), (.slice A l.length c)] ∧ Blk W g24 25 (rawVals (rowsU nn rs1)) ∧ Tb W g24 hi1 3 rs1 t5 ∧ hi1 ≤ W.heap.size ∧ w307.heap.size ≤ W.heap.size) (fun a' _ => nn - (intOf (a'.eval (.tmp 11))).toNat) ⟨0, t4, (((((((((((((hF334.nil.cons (q_get hF334 (t := 11) rfl (by first | rfl | (congr 1; omega) | (congr 1; done)))).cons (q_get hF334 (t := 79) rfl rfl)).cons (q_get hF334 (t := 10) rfl rfl)).cons (q_get hF334 (t := 49) rfl rfl)).cons (q_get hF334 (t := 8) rfl rfl)).cons (q_get hF334 (t := 20) rfl rfl)).cons (q_get hF334 (t := 6) rfl rfl)).cons (q_get hF334 (t := 5) rfl rfl)).cons (q_get hF334 (t := 4) rfl rfl)).cons (q_get hF334 (t := 3) rfl rfl)).cons (q_get hF334 (t := 2) rfl rfl)).cons (q_get hF334 (t := 1) rfl rfl)).cons (q_get hF334 (t := 0) rfl rfl)), (by omega), (hfw.start (by omega) h8), ((Ext.refl w).trans hx309), b312, b313, hf314, (by omega), (Nat.le_refl _)⟩ ?_
        clear hF334
        rintro a335 w336 ⟨i1, t5, hF337, hp339, hp340, hx338, b341, b342, hf343, hf344, hf345⟩
        have hL346 := hF337
        have z347 := hx338.size
        have z348 := b341.lt
        have z349 := b342.lt
        have hph5 := hp340
        refine wp_seq_k (fun K350 hK350 => ?_)
        refine wp_seq_k (fun K351 hK351 => ?_)
        refine wp_region_lit ?_
        refine wpl_op (i := 0) rfl (o_val (v := (.int .i64 (i1 : Nat))) hF337 rfl rfl rfl rfl (rn_move (hF337.get rfl)) ?_)
        intro a352 hF353; clear hF337
        refine wpl_op (i := 1) rfl (o_val (v := (.int .i64 (nn : Nat))) hF353 rfl rfl rfl rfl (rn_move (hF353.get rfl)) ?_)
        intro a354 hF355; clear hF353
        refine wpl_op (i := 2) rfl (o_val (v := (.bool (decide (((i1 : Nat) : Int) < ((nn : Nat) : Int))))) hF355 rfl rfl rfl rfl (rn_lss (hF355.get rfl) (hF355.get rfl)) ?_)
        intro a356 hF357; clear hF355
        refine wpList_nil ?_
        refine hK351 _ _ ?_
        clear hK351
        by_cases hc358 : ((i1 : Nat) : Int) < ((nn : Nat) : Int)
        · skip
          refine wp_cond_true (c_true hF357 rfl (decide_eq_true hc358)) ?_
          refine wp_skip ?_
          refine hK350 _ _ ?_
          clear hK350
          refine wp_seq_k (fun K359 hK359 => ?_)
          refine wp_block ?_
          refine wp_seq_k (fun K360 hK360 => ?_)
          refine wp_region_lit ?_
          refine wpl_op (i := 0) rfl (o_val (v := (.int .i64 0)) hF357 rfl rfl rfl rfl (rn_assign rfl) ?_)
          intro a361 hF362; clear hF357
          refine wpList_nil ?_
          refine hK360 _ _ ?_
          clear hK360
          refine wp_block ?_
          refine wp_loop (fun a' W => ∃ (c6 : Nat) (t6 : List (List Int)), Sl 153 [(0, (.agg #[(.int .i64 (nn : Nat)), (.slice A l.length c)])), (1, (.pointer (some ⟨g2, 0, none⟩))), (2, (.slice none 0 0)), (3, (.bool false)), (4, (.int .i64 (nn : Nat))), (5, (.slice (some ⟨g24, 0, none⟩) nn nn)), (6, (.int .i64 (k : Nat))), (20, (.bool (decide (((k : Nat) : Int) < ((nn : Nat) : Int))))), (8, (.int .i64 (q1 : Nat))), (49, (.bool (decide (((q1 : Nat) : Int) < ((l.length : Nat) : Int))))), (10, (.int .i64 (m1 : Nat))), (79, (.bool (decide (((m1 : Nat) : Int) < ((nn : Nat) : Int))))), (11, (.int .i64 (i1 : Nat))), (84, (.bool (decide (((i1 : Nat) : Int) < ((nn : Nat) : Int))))), (12, (.int .i64 (c6 : Nat)))] a' ∧ c6 ≤ nn ∧ PhT l nn t4 t6 m1 i1 c6 ∧ Ext w W ∧ Blk W g2 24 [(.int .i64 (nn : Nat)), (.slice A l.length c)] ∧ Blk W g24 25 (rawVals (rowsU nn rs1)) ∧ Tb W g24 hi1 3 rs1 t6 ∧ hi1 ≤ W.heap.size ∧ w336.heap.size ≤ W.heap.size) (fun a' _ => nn - (intOf (a'.eval (.tmp 12))).toNat) ⟨0, t5, (((((((((((((((hF362.nil.cons (q_get hF362 (t := 12) rfl (by first | rfl | (congr 1; omega) | (congr 1; done)))).cons (q_get hF362 (t := 84) rfl rfl)).cons (q_get hF362 (t := 11) rfl rfl)).cons (q_get hF362 (t := 79) rfl rfl)).cons (q_get hF362 (t := 10) rfl rfl)).cons (q_get hF362 (t := 49) rfl rfl)).cons (q_get hF362 (t := 8) rfl rfl)).cons (q_get hF362 (t := 20) rfl rfl)).cons (q_get hF362 (t := 6) rfl rfl)).cons (q_get hF362 (t := 5) rfl rfl)).cons (q_get hF362 (t := 4) rfl rfl)).cons (q_get hF362 (t := 3) rfl rfl)).cons (q_get hF362 (t := 2) rfl rfl)).cons (q_get hF362 (t := 1) rfl rfl)).cons (q_get hF362 (t := 0) rfl rfl)), (by omega), hph5, ((Ext.refl w).trans hx338), b341, b342, hf343, (by omega), (Nat.le_refl _)⟩ ?_
          clear hF362
          rintro a363 w364 ⟨c6, t6, hF365, hp367, hp368, hx366, b369, b370, hf371, hf372, hf373⟩
          have hL374 := hF365
          have z375 := hx366.size
          have z376 := b369.lt
          have z377 := b370.lt
          have hph6 := hp368
          refine wp_seq_k (fun K378 hK378 => ?_)
          refine wp_seq_k (fun K379 hK379 => ?_)
          refine wp_region_lit ?_
          refine wpl_op (i := 0) rfl (o_val (v := (.int .i64 (c6 : Nat))) hF365 rfl rfl rfl rfl (rn_move (hF365.get rfl)) ?_)
          intro a380 hF381; clear hF365
          refine wpl_op (i := 1) rfl (o_val (v := (.int .i64 (nn : Nat))) hF381 rfl rfl rfl rfl (rn_move (hF381.get rfl)) ?_)
          intro a382 hF383; clear hF381
          refine wpl_op (i := 2) rfl (o_val (v := (.bool (decide (((c6 : Nat) : Int) < ((nn : Nat) : Int))))) hF383 rfl rfl rfl rfl (rn_lss (hF383.get rfl) (hF383.get rfl)) ?_)
          intro a384 hF385; clear hF383
          refine wpList_nil ?_
          refine hK379 _ _ ?_
          clear hK379
          by_cases hc386 : ((c6 : Nat) : Int) < ((nn : Nat) : Int)
          · skip
            refine wp_cond_true (c_true hF385 rfl (decide_eq_true hc386)) ?_
            refine wp_skip ?_
            refine hK378 _ _ ?_
            clear hK378
            refine wp_seq_k (fun K387 hK387 => ?_)
            refine wp_block ?_
            refine wp_seq_k (fun K388 hK388 => ?_)
            have hsm := PhT.sums hph6 (by omega) h8 (show i1 < nn by omega) (show c6 < nn by omega)
            refine wp_region_lit ?_
            refine wpl_op (i := 0) rfl (o_val (v := (.slice (some ⟨g24, 0, none⟩) nn nn)) hF385 rfl rfl rfl rfl (rn_move (hF385.get rfl)) ?_)
            intro a389 hF390; clear hF385
            refine wpl_op (i := 1) rfl (o_val (v := (.int .i64 (i1 : Nat))) hF390 rfl rfl rfl rfl (rn_move (hF390.get rfl)) ?_)
            intro a391 hF392; clear hF390
            refine wpl_op (i := 2) rfl (o_val (v := (.pointer (some ⟨g24, 0 + i1, none⟩))) hF392 rfl rfl rfl rfl (rn_index1 Try.underlying33 (by kernel_rfl : (Try.prog.info? 25).map (·.size) = some 1) (hF392.get rfl) (hF392.get rfl) (by omega : (0 : Int) ≤ (i1 : Nat)) (by omega : ((i1 : Nat) : Int) < ((nn : Nat) : Int))) ?_)
            intro a393 hF394; clear hF392
            have z395 := hf371.lo i1 (by omega); have z396 := hf371.up i1 (by omega); have z397 := hph6.sq.row i1 (by omega)
            refine wpl_op (i := 3) rfl (o_val (v := (.slice (some ⟨(rs1.getD i1 0), 0, none⟩) nn nn)) hF394 rfl rfl rfl rfl (rn_load (isAgg_no Try.underlying25 rfl) (hF394.get rfl) (blk_rowsU (nn := nn) b370 (i := i1) (by omega) (by omega))) ?_)
            intro a398 hF399; clear hF394
            refine wpl_op (i := 4) rfl (o_val (v := (.int .i64 (m1 : Nat))) hF399 rfl rfl rfl rfl (rn_move (hF399.get rfl)) ?_)
            intro a400 hF401; clear hF399
            refine wpl_op (i := 5) rfl (o_val (v := (.pointer (some ⟨(rs1.getD i1 0), 0 + m1, none⟩))) hF401 rfl rfl rfl rfl (rn_index1 Try.underlying25 (by kernel_rfl : (Try.prog.info? 3).map (·.size) = some 1) (hF401.get rfl) (hF401.get rfl) (by omega : (0 : Int) ≤ (m1 : Nat)) (by omega : ((m1 : Nat) : Int) < ((nn : Nat) : Int))) ?_)
            intro a402 hF403; clear hF401
            refine wpl_op (i := 6) rfl (o_val (v := (.int .i64 ((t6.getD i1 []).getD m1 0))) hF403 rfl rfl rfl rfl (rn_load (isAgg_no Try.underlying3 rfl) (hF403.get rfl) (hf371.cell (i := i1) (k := m1) (by omega) (by have := hph6.sq.row i1 (by omega); omega) (by omega))) ?_)
            intro a404 hF405; clear hF403
            refine wpl_op (i := 7) rfl (o_val (v := (.bool (decide ((((t6.getD i1 []).getD m1 0) : Int) ≠ (1152921504606846976 : Int))))) hF405 rfl rfl rfl rfl (rn_neq (hF405.get rfl) rfl) ?_)
            intro a406 hF407; clear hF405
            refine wpl_op (i := 8) rfl (o_val (v := (.bool (decide ((((t6.getD i1 []).getD m1 0) : Int) ≠ (1152921504606846976 : Int))))) hF407 rfl rfl rfl rfl (rn_move (hF407.get rfl)) ?_)
            intro a408 hF409; clear hF407
            by_cases hc410 : (((t6.getD i1 []).getD m1 0) : Int) ≠ (1152921504606846976 : Int)
            · skip
              refine wpl_op (i := 9) rfl (o_val (v := (.slice (some ⟨g24, 0, none⟩) nn nn)) hF409 rfl (wanted_guard rfl rfl rfl hF409 rfl (decide_eq_true hc410) rfl) rfl rfl (rn_move (hF409.get rfl)) ?_)
              intro a411 hF412; clear hF409
              refine wpl_op (i := 10) rfl (o_val (v := (.int .i64 (m1 : Nat))) hF412 rfl (wanted_guard rfl rfl rfl hF412 rfl (decide_eq_true hc410) rfl) rfl rfl (rn_move (hF412.get rfl)) ?_)
              intro a413 hF414; clear hF412
              refine wpl_op (i := 11) rfl (o_val (v := (.pointer (some ⟨g24, 0 + m1, none⟩))) hF414 rfl (wanted_guard rfl rfl rfl hF414 rfl (decide_eq_true hc410) rfl) rfl rfl (rn_index1 Try.underlying33 (by kernel_rfl : (Try.prog.info? 25).map (·.size) = some 1) (hF414.get rfl) (hF414.get rfl) (by omega : (0 : Int) ≤ (m1 : Nat)) (by omega : ((m1 : Nat) : Int) < ((nn : Nat) : Int))) ?_)
              intro a415 hF416; clear hF414
              have z417 := hf371.lo m1 (by omega); have z418 := hf371.up m1 (by omega); have z419 := hph6.sq.row m1 (by omega)
              refine wpl_op (i := 12) rfl (o_val (v := (.slice (some ⟨(rs1.getD m1 0), 0, none⟩) nn nn)) hF416 rfl (wanted_guard rfl rfl rfl hF416 rfl (decide_eq_true hc410) rfl) rfl rfl (rn_load (isAgg_no Try.underlying25 rfl) (hF416.get rfl) (blk_rowsU (nn := nn) b370 (i := m1) (by omega) (by omega))) ?_)
              intro a420 hF421; clear hF416
              refine wpl_op (i := 13) rfl (o_val (v := (.int .i64 (c6 : Nat))) hF421 rfl (wanted_guard rfl rfl rfl hF421 rfl (decide_eq_true hc410) rfl) rfl rfl (rn_move (hF421.get rfl)) ?_)
              intro a422 hF423; clear hF421
              refine wpl_op (i := 14) rfl (o_val (v := (.pointer (some ⟨(rs1.getD m1 0), 0 + c6, none⟩))) hF423 rfl (wanted_guard rfl rfl rfl hF423 rfl (decide_eq_true hc410) rfl) rfl rfl (rn_index1 Try.underlying25 (by kernel_rfl : (Try.prog.info? 3).map (·.size) = some 1) (hF423.get rfl) (hF423.get rfl) (by omega : (0 : Int) ≤ (c6 : Nat)) (by omega : ((c6 : Nat) : Int) < ((nn : Nat) : Int))) ?_)
              intro a424 hF425; clear hF423
              refine wpl_op (i := 15) rfl (o_val (v := (.int .i64 ((t6.getD m1 []).getD c6 0))) hF425 rfl (wanted_guard rfl rfl rfl hF425 rfl (decide_eq_true hc410) rfl) rfl rfl (rn_load (isAgg_no Try.underlying3 rfl) (hF425.get rfl) (hf371.cell (i := m1) (k := c6) (by omega) (by have := hph6.sq.row m1 (by omega); omega) (by omega))) ?_)
              intro a426 hF427; clear hF425
              refine wpl_op (i := 16) rfl (o_val (v := (.bool (decide ((((t6.getD m1 []).getD c6 0) : Int) ≠ (1152921504606846976 : Int))))) hF427 rfl (wanted_guard rfl rfl rfl hF427 rfl (decide_eq_true hc410) rfl) rfl rfl (rn_neq (hF427.get rfl) rfl) ?_)
              intro a428 hF429; clear hF427
              refine wpl_op (i := 17) rfl (o_val (v := (.bool (decide ((((t6.getD m1 []).getD c6 0) : Int) ≠ (1152921504606846976 : Int))))) hF429 rfl rfl rfl rfl (rn_pickT (c_true hF429 rfl (decide_eq_true hc410)) (hF429.get rfl)) ?_)
              intro a430 hF431; clear hF429
              refine wpList_nil ?_
              refine hK388 _ _ ?_
              clear hK388
              have hF432 := (((((((((((((((((hF431.nil.cons (hF431.get (t := 109) (v := (.bool (decide ((((t6.getD m1 []).getD c6 0) : Int) ≠ (1152921504606846976 : Int))))) rfl)).cons (hF431.get (t := 89) (v := (.bool (decide (((c6 : Nat) : Int) < ((nn : Nat) : Int))))) rfl)).cons (hF431.get (t := 12) (v := (.int .i64 (c6 : Nat))) rfl)).cons (hF431.get (t := 84) (v := (.bool (decide (((i1 : Nat) : Int) < ((nn : Nat) : Int))))) rfl)).cons (hF431.get (t := 11) (v := (.int .i64 (i1 : Nat))) rfl)).cons (hF431.get (t := 79) (v := (.bool (decide (((m1 : Nat) : Int) < ((nn : Nat) : Int))))) rfl)).cons (hF431.get (t := 10) (v := (.int .i64 (m1 : Nat))) rfl)).cons (hF431.get (t := 49) (v := (.bool (decide (((q1 : Nat) : Int) < ((l.length : Nat) : Int))))) rfl)).cons (hF431.get (t := 8) (v := (.int .i64 (q1 : Nat))) rfl)).cons (hF431.get (t := 20) (v := (.bool (decide (((k : Nat) : Int) < ((nn : Nat) : Int))))) rfl)).cons (hF431.get (t := 6) (v := (.int .i64 (k : Nat))) rfl)).cons (hF431.get (t := 5) (v := (.slice (some ⟨g24, 0, none⟩) nn nn)) rfl)).cons (hF431.get (t := 4) (v := (.int .i64 (nn : Nat))) rfl)).cons (hF431.get (t := 3) (v := (.bool false)) rfl)).cons (hF431.get (t := 2) (v := (.slice none 0 0)) rfl)).cons (hF431.get (t := 1) (v := (.pointer (some ⟨g2, 0, none⟩))) rfl)).cons (hF431.get (t := 0) (v := (.agg #[(.int .i64 (nn : Nat)), (.slice A l.length c)])) rfl))
              clear hF431
              by_cases hc433 : (((t6.getD m1 []).getD c6 0) : Int) ≠ (1152921504606846976 : Int)
              · skip
                refine wp_cond_true (c_true hF432 rfl (decide_eq_true hc433)) ?_
                have hx435 : ∃ W, w364.drew = W ∧ Ext w364 W := ⟨_, rfl, (Ext.refl _).drew⟩
                obtain ⟨w434, e436, hx435⟩ := hx435
                have z437 := hx435.size
                refine any_start (fun W => Ext w434 W) (fun i => i == 29) 30 #[false, false, false, false, false, false, false, false, false, false, false, false, false, false, false, false, false, false, false, false, false, false, false, false, false, false, false, false, false, false] rfl rfl rfl ?_
                rw [e436]; clear e436
                refine any_pure (i := 0) (v := (.slice (some ⟨g24, 0, none⟩) nn nn)) hF432 (by decide +kernel) (by decide +kernel) rfl rfl rfl rfl (fun _ _ _ _ h => h) rfl (fun W => (rn_move (hF432.get rfl))) ?_
                intro a438 hF439; clear hF432
                refine any_pure (i := 1) (v := (.int .i64 (i1 : Nat))) hF439 (by decide +kernel) (by decide +kernel) rfl rfl rfl rfl (fun _ _ _ _ h => h) rfl (fun W => (rn_move (hF439.get rfl))) ?_
                intro a440 hF441; clear hF439
                refine any_pure (i := 2) (v := (.pointer (some ⟨g24, 0 + i1, none⟩))) hF441 (by decide +kernel) (by decide +kernel) rfl rfl rfl rfl (fun _ _ _ _ h => h) rfl (fun W => (rn_index1 Try.underlying33 (by kernel_rfl : (Try.prog.info? 25).map (·.size) = some 1) (hF441.get rfl) (hF441.get rfl) (by omega : (0 : Int) ≤ (i1 : Nat)) (by omega : ((i1 : Nat) : Int) < ((nn : Nat) : Int)))) ?_
                intro a442 hF443; clear hF441
                have hS444 : Ext w434 w434 := (Ext.refl w434)
                have b445 : Blk w434 g24 25 (rawVals (rowsU nn rs1)) := (b370.ext hx435)
                refine any_val (i := 3) (v := (.slice (some ⟨(rs1.getD i1 0), 0, none⟩) nn nn)) hF443 (by decide +kernel) (by decide +kernel) rfl rfl rfl rfl (fun _ _ _ _ h => h) rfl hS444 (fun W hW => (rn_load (isAgg_no Try.underlying25 rfl) (hF443.get rfl) (blk_rowsU (nn := nn) (b445.ext hW) (i := i1) (by omega) (by omega)))) ?_
                intro a446 hF447; clear hF443
                refine any_pure (i := 4) (v := (.int .i64 (c6 : Nat))) hF447 (by decide +kernel) (by decide +kernel) rfl rfl rfl rfl (fun _ _ _ _ h => h) rfl (fun W => (rn_move (hF447.get rfl))) ?_
                intro a448 hF449; clear hF447
                refine any_pure (i := 5) (v := (.slice (some ⟨g24, 0, none⟩) nn nn)) hF449 (by decide +kernel) (by decide +kernel) rfl rfl rfl rfl (fun _ _ _ _ h => h) rfl (fun W => (rn_move (hF449.get rfl))) ?_
                intro a450 hF451; clear hF449
                refine any_pure (i := 6) (v := (.int .i64 (i1 : Nat))) hF451 (by decide +kernel) (by decide +kernel) rfl rfl rfl rfl (fun _ _ _ _ h => h) rfl (fun W => (rn_move (hF451.get rfl))) ?_
                intro a452 hF453; clear hF451
                refine any_pure (i := 7) (v := (.pointer (some ⟨g24, 0 + i1, none⟩))) hF453 (by decide +kernel) (by decide +kernel) rfl rfl rfl rfl (fun _ _ _ _ h => h) rfl (fun W => (rn_index1 Try.underlying33 (by kernel_rfl : (Try.prog.info? 25).map (·.size) = some 1) (hF453.get rfl) (hF453.get rfl) (by omega : (0 : Int) ≤ (i1 : Nat)) (by omega : ((i1 : Nat) : Int) < ((nn : Nat) : Int)))) ?_
                intro a454 hF455; clear hF453
                refine any_val (i := 8) (v := (.slice (some ⟨(rs1.getD i1 0), 0, none⟩) nn nn)) hF455 (by decide +kernel) (by decide +kernel) rfl rfl rfl rfl (fun _ _ _ _ h => h) rfl hS444 (fun W hW => (rn_load (isAgg_no Try.underlying25 rfl) (hF455.get rfl) (blk_rowsU (nn := nn) (b445.ext hW) (i := i1) (by omega) (by omega)))) ?_
                intro a456 hF457; clear hF455
                refine any_pure (i := 9) (v := (.int .i64 (c6 : Nat))) hF457 (by decide +kernel) (by decide +kernel) rfl rfl rfl rfl (fun _ _ _ _ h => h) rfl (fun W => (rn_move (hF457.get rfl))) ?_
                intro a458 hF459; clear hF457
                refine any_pure (i := 10) (v := (.pointer (some ⟨(rs1.getD i1 0), 0 + c6, none⟩))) hF459 (by decide +kernel) (by decide +kernel) rfl rfl rfl rfl (fun _ _ _ _ h => h) rfl (fun W => (rn_index1 Try.underlying25 (by kernel_rfl : (Try.prog.info? 3).map (·.size) = some 1) (hF459.get rfl) (hF459.get rfl) (by omega : (0 : Int) ≤ (c6 : Nat)) (by omega : ((c6 : Nat) : Int) < ((nn : Nat) : Int)))) ?_
                intro a460 hF461; clear hF459
                have tb462 := (hf371.ext hx435)
                refine any_val (i := 11) (v := (.int .i64 ((t6.getD i1 []).getD c6 0))) hF461 (by decide +kernel) (by decide +kernel) rfl rfl rfl rfl (fun _ _ _ _ h => h) rfl hS444 (fun W hW => (rn_load (isAgg_no Try.underlying3 rfl) (hF461.get rfl) ((tb462.ext hW).cell (i := i1) (k := c6) (by omega) (by have := hph6.sq.row i1 (by omega); omega) (by omega)))) ?_
                intro a463 hF464; clear hF461
                refine any_pure (i := 12) (v := (.slice (some ⟨g24, 0, none⟩) nn nn)) hF464 (by decide +kernel) (by decide +kernel) rfl rfl rfl rfl (fun _ _ _ _ h => h) rfl (fun W => (rn_move (hF464.get rfl))) ?_
                intro a465 hF466; clear hF464
                refine any_pure (i := 13) (v := (.int .i64 (i1 : Nat))) hF466 (by decide +kernel) (by decide +kernel) rfl rfl rfl rfl (fun _ _ _ _ h => h) rfl (fun W => (rn_move (hF466.get rfl))) ?_
                intro a467 hF468; clear hF466
                refine any_pure (i := 14) (v := (.pointer (some ⟨g24, 0 + i1, none⟩))) hF468 (by decide +kernel) (by decide +kernel) rfl rfl rfl rfl (fun _ _ _ _ h => h) rfl (fun W => (rn_index1 Try.underlying33 (by kernel_rfl : (Try.prog.info? 25).map (·.size) = some 1) (hF468.get rfl) (hF468.get rfl) (by omega : (0 : Int) ≤ (i1 : Nat)) (by omega : ((i1 : Nat) : Int) < ((nn : Nat) : Int)))) ?_
                intro a469 hF470; clear hF468
                refine any_val (i := 15) (v := (.slice (some ⟨(rs1.getD i1 0), 0, none⟩) nn nn)) hF470 (by decide +kernel) (by decide +kernel) rfl rfl rfl rfl (fun _ _ _ _ h => h) rfl hS444 (fun W hW => (rn_load (isAgg_no Try.underlying25 rfl) (hF470.get rfl) (blk_rowsU (nn := nn) (b445.ext hW) (i := i1) (by omega) (by omega)))) ?_
                intro a471 hF472; clear hF470
                refine any_pure (i := 16) (v := (.int .i64 (m1 : Nat))) hF472 (by decide +kernel) (by decide +kernel) rfl rfl rfl rfl (fun _ _ _ _ h => h) rfl (fun W => (rn_move (hF472.get rfl))) ?_
                intro a473 hF474; clear hF472
                refine any_pure (i := 17) (v := (.pointer (some ⟨(rs1.getD i1 0), 0 + m1, none⟩))) hF474 (by decide +kernel) (by decide +kernel) rfl rfl rfl rfl (fun _ _ _ _ h => h) rfl (fun W => (rn_index1 Try.underlying25 (by kernel_rfl : (Try.prog.info? 3).map (·.size) = some 1) (hF474.get rfl) (hF474.get rfl) (by omega : (0 : Int) ≤ (m1 : Nat)) (by omega : ((m1 : Nat) : Int) < ((nn : Nat) : Int)))) ?_
                intro a475 hF476; clear hF474
                refine any_val (i := 18) (v := (.int .i64 ((t6.getD i1 []).getD m1 0))) hF476 (by decide +kernel) (by decide +kernel) rfl rfl rfl rfl (fun _ _ _ _ h => h) rfl hS444 (fun W hW => (rn_load (isAgg_no Try.underlying3 rfl) (hF476.get rfl) ((tb462.ext hW).cell (i := i1) (k := m1) (by omega) (by have := hph6.sq.row i1 (by omega); omega) (by omega)))) ?_
                intro a477 hF478; clear hF476
                refine any_pure (i := 19) (v := (.slice (some ⟨g24, 0, none⟩) nn nn)) hF478 (by decide +kernel) (by decide +kernel) rfl rfl rfl rfl (fun _ _ _ _ h => h) rfl (fun W => (rn_move (hF478.get rfl))) ?_
                intro a479 hF480; clear hF478
                refine any_pure (i := 20) (v := (.int .i64 (m1 : Nat))) hF480 (by decide +kernel) (by decide +kernel) rfl rfl rfl rfl (fun _ _ _ _ h => h) rfl (fun W => (rn_move (hF480.get rfl))) ?_
                intro a481 hF482; clear hF480
                refine any_pure (i := 21) (v := (.pointer (some ⟨g24, 0 + m1, none⟩))) hF482 (by decide +kernel) (by decide +kernel) rfl rfl rfl rfl (fun _ _ _ _ h => h) rfl (fun W => (rn_index1 Try.underlying33 (by kernel_rfl : (Try.prog.info? 25).map (·.size) = some 1) (hF482.get rfl) (hF482.get rfl) (by omega : (0 : Int) ≤ (m1 : Nat)) (by omega : ((m1 : Nat) : Int) < ((nn : Nat) : Int)))) ?_
                intro a483 hF484; clear hF482
                refine any_val (i := 22) (v := (.slice (some ⟨(rs1.getD m1 0), 0, none⟩) nn nn)) hF484 (by decide +kernel) (by decide +kernel) rfl rfl rfl rfl (fun _ _ _ _ h => h) rfl hS444 (fun W hW => (rn_load (isAgg_no Try.underlying25 rfl) (hF484.get rfl) (blk_rowsU (nn := nn) (b445.ext hW) (i := m1) (by omega) (by omega)))) ?_
                intro a485 hF486; clear hF484
                refine any_pure (i := 23) (v := (.int .i64 (c6 : Nat))) hF486 (by decide +kernel) (by decide +kernel) rfl rfl rfl rfl (fun _ _ _ _ h => h) rfl (fun W => (rn_move (hF486.get rfl))) ?_
                intro a487 hF488; clear hF486
                refine any_pure (i := 24) (v := (.pointer (some ⟨(rs1.getD m1 0), 0 + c6, none⟩))) hF488 (by decide +kernel) (by decide +kernel) rfl rfl rfl rfl (fun _ _ _ _ h => h) rfl (fun W => (rn_index1 Try.underlying25 (by kernel_rfl : (Try.prog.info? 3).map (·.size) = some 1) (hF488.get rfl) (hF488.get rfl) (by omega : (0 : Int) ≤ (c6 : Nat)) (by omega : ((c6 : Nat) : Int) < ((nn : Nat) : Int)))) ?_
                intro a489 hF490; clear hF488
                refine any_val (i := 25) (v := (.int .i64 ((t6.getD m1 []).getD c6 0))) hF490 (by decide +kernel) (by decide +kernel) rfl rfl rfl rfl (fun _ _ _ _ h => h) rfl hS444 (fun W hW => (rn_load (isAgg_no Try.underlying3 rfl) (hF490.get rfl) ((tb462.ext hW).cell (i := m1) (k := c6) (by omega) (by have := hph6.sq.row m1 (by omega); omega) (by omega)))) ?_
                intro a491 hF492; clear hF490
                refine any_pure (i := 26) (v := (.int .i64 (((t6.getD i1 []).getD m1 0) + ((t6.getD m1 []).getD c6 0)))) hF492 (by decide +kernel) (by decide +kernel) rfl rfl rfl rfl (fun _ _ _ _ h => h) rfl (fun W => (rn_add (hF492.get rfl) (hF492.get rfl) (by omega) (by omega))) ?_
                intro a493 hF494; clear hF492
                refine any_pure (i := 27) (v := (.int .i64 (min (((t6.getD i1 []).getD c6 0) : Int) (((t6.getD i1 []).getD m1 0) + ((t6.getD m1 []).getD c6 0) : Int)))) hF494 (by decide +kernel) (by decide +kernel) rfl rfl rfl rfl (fun _ _ _ _ h => h) rfl (fun W => (rn_min2 Try.underlying3 (hF494.get rfl) (hF494.get rfl))) ?_
                intro a495 hF496; clear hF494
                refine any_pure (i := 28) (v := (.pointer (some ⟨(rs1.getD i1 0), 0 + c6, none⟩))) hF496 (by decide +kernel) (by decide +kernel) rfl rfl rfl rfl (fun _ _ _ _ h => h) rfl (fun W => (rn_index1 Try.underlying25 (by kernel_rfl : (Try.prog.info? 3).map (·.size) = some 1) (hF496.get rfl) (hF496.get rfl) (by omega : (0 : Int) ≤ (c6 : Nat)) (by omega : ((c6 : Nat) : Int) < ((nn : Nat) : Int)))) ?_
                intro a497 hF498; clear hF496
                refine any_one (i := 29) (by decide +kernel) rfl ?_
                have z502 := tb462.lo i1 (by omega); have z503 := tb462.up i1 (by omega)
                refine o_store1 (new := intVals ((t6.getD i1 []).set c6 (min (((t6.getD i1 []).getD c6 0) : Int) (((t6.getD i1 []).getD m1 0) + ((t6.getD m1 []).getD c6 0) : Int)))) hF498 rfl rfl rfl rfl (hF498.get rfl) (hF498.get rfl) (tb462.row i1 (by omega)) (by kernel_rfl : (Try.prog.info? 3).map (·.size) = some 1) (by rw [intVals_len (hph6.sq.row i1 (by omega))]; omega) rfl (intVals_set (by omega)) ?_
                intro w499 b500 hg501; have z504 := hg501.size
                have tb505 := tb462.set (by omega) b500 hg501
                refine ⟨fun h => absurd h (by decide), ?_⟩
                refine any_nil (by decide +kernel) ?_
                refine hK387 _ _ ?_
                clear hK387
                have hF506 := (((((((((((((((((hF498.nil.cons (hF498.get (t := 109) (v := (.bool (decide ((((t6.getD m1 []).getD c6 0) : Int) ≠ (1152921504606846976 : Int))))) rfl)).cons (hF498.get (t := 89) (v := (.bool (decide (((c6 : Nat) : Int) < ((nn : Nat) : Int))))) rfl)).cons (hF498.get (t := 12) (v := (.int .i64 (c6 : Nat))) rfl)).cons (hF498.get (t := 84) (v := (.bool (decide (((i1 : Nat) : Int) < ((nn : Nat) : Int))))) rfl)).cons (hF498.get (t := 11) (v := (.int .i64 (i1 : Nat))) rfl)).cons (hF498.get (t := 79) (v := (.bool (decide (((m1 : Nat) : Int) < ((nn : Nat) : Int))))) rfl)).cons (hF498.get (t := 10) (v := (.int .i64 (m1 : Nat))) rfl)).cons (hF498.get (t := 49) (v := (.bool (decide (((q1 : Nat) : Int) < ((l.length : Nat) : Int))))) rfl)).cons (hF498.get (t := 8) (v := (.int .i64 (q1 : Nat))) rfl)).cons (hF498.get (t := 20) (v := (.bool (decide (((k : Nat) : Int) < ((nn : Nat) : Int))))) rfl)).cons (hF498.get (t := 6) (v := (.int .i64 (k : Nat))) rfl)).cons (hF498.get (t := 5) (v := (.slice (some ⟨g24, 0, none⟩) nn nn)) rfl)).cons (hF498.get (t := 4) (v := (.int .i64 (nn : Nat))) rfl)).cons (hF498.get (t := 3) (v := (.bool false)) rfl)).cons (hF498.get (t := 2) (v := (.slice none 0 0)) rfl)).cons (hF498.get (t := 1) (v := (.pointer (some ⟨g2, 0, none⟩))) rfl)).cons (hF498.get (t := 0) (v := (.agg #[(.int .i64 (nn : Nat)), (.slice A l.length c)])) rfl))
                clear hF498
                refine wp_region_lit ?_
                refine wpl_op (i := 0) rfl (o_val (v := (.int .i64 (c6 : Nat))) hF506 rfl rfl rfl rfl (rn_move (hF506.get rfl)) ?_)
                intro a507 hF508; clear hF506
                refine wpl_op (i := 1) rfl (o_val (v := (.int .i64 (c6 + 1 : Nat))) hF508 rfl rfl rfl rfl (rn_addN (a := c6) (b := 1) (hF508.get rfl) rfl (by omega)) ?_)
                intro a509 hF510; clear hF508
                refine wpl_op (i := 2) rfl (o_val (v := (.int .i64 (c6 + 1 : Nat))) hF510 rfl rfl rfl rfl (rn_assign (hF510.get rfl)) ?_)
                intro a511 hF512; clear hF510
                refine wpList_nil ?_
                have b513 : Blk w499 g2 24 [(.int .i64 (nn : Nat)), (.slice A l.length c)] := ((b369.ext hx435).grownN hg501 (by omega))
                have b514 : Blk w499 g24 25 (rawVals (rowsU nn rs1)) := (b445.grownN hg501 (by omega))
                refine ⟨⟨(c6 + 1), (t6.set i1 ((t6.getD i1 []).set c6 (min (((t6.getD i1 []).getD c6 0) : Int) (((t6.getD i1 []).getD m1 0) + ((t6.getD m1 []).getD c6 0) : Int)))), (((((((((((((((hF512.nil.cons (q_get hF512 (t := 12) rfl (by first | rfl | (congr 1; omega) | (congr 1; done)))).cons (q_get hF512 (t := 84) rfl rfl)).cons (q_get hF512 (t := 11) rfl rfl)).cons (q_get hF512 (t := 79) rfl rfl)).cons (q_get hF512 (t := 10) rfl rfl)).cons (q_get hF512 (t := 49) rfl rfl)).cons (q_get hF512 (t := 8) rfl rfl)).cons (q_get hF512 (t := 20) rfl rfl)).cons (q_get hF512 (t := 6) rfl rfl)).cons (q_get hF512 (t := 5) rfl rfl)).cons (q_get hF512 (t := 4) rfl rfl)).cons (q_get hF512 (t := 3) rfl rfl)).cons (q_get hF512 (t := 2) rfl rfl)).cons (q_get hF512 (t := 1) rfl rfl)).cons (q_get hF512 (t := 0) rfl rfl)), (by omega), (PhT.step hfw hph6 (by omega) h8 (by omega) (by omega) (by omega) (by omega)), ((((Ext.refl w).trans hx366).trans hx435).grownN hg501 (by omega)), b513, b514, tb505, (by omega), (by omega)⟩, ?_⟩
                rw [hF512.get (t := 12) rfl, hL374.get (t := 12) rfl]; simp [intOf] <;> omega
              · skip
                refine wp_cond_false (c_false hF432 rfl (decide_eq_false hc433)) ?_
                refine wp_skip ?_
                refine hK387 _ _ ?_
                clear hK387
                refine wp_region_lit ?_
                refine wpl_op (i := 0) rfl (o_val (v := (.int .i64 (c6 : Nat))) hF432 rfl rfl rfl rfl (rn_move (hF432.get rfl)) ?_)
                intro a515 hF516; clear hF432
                refine wpl_op (i := 1) rfl (o_val (v := (.int .i64 (c6 + 1 : Nat))) hF516 rfl rfl rfl rfl (rn_addN (a := c6) (b := 1) (hF516.get rfl) rfl (by omega)) ?_)
                intro a517 hF518; clear hF516
                refine wpl_op (i := 2) rfl (o_val (v := (.int .i64 (c6 + 1 : Nat))) hF518 rfl rfl rfl rfl (rn_assign (hF518.get rfl)) ?_)
                intro a519 hF520; clear hF518
                refine wpList_nil ?_
                refine ⟨⟨(c6 + 1), t6, (((((((((((((((hF520.nil.cons (q_get hF520 (t := 12) rfl (by first | rfl | (congr 1; omega) | (congr 1; done)))).cons (q_get hF520 (t := 84) rfl rfl)).cons (q_get hF520 (t := 11) rfl rfl)).cons (q_get hF520 (t := 79) rfl rfl)).cons (q_get hF520 (t := 10) rfl rfl)).cons (q_get hF520 (t := 49) rfl rfl)).cons (q_get hF520 (t := 8) rfl rfl)).cons (q_get hF520 (t := 20) rfl rfl)).cons (q_get hF520 (t := 6) rfl rfl)).cons (q_get hF520 (t := 5) rfl rfl)).cons (q_get hF520 (t := 4) rfl rfl)).cons (q_get hF520 (t := 3) rfl rfl)).cons (q_get hF520 (t := 2) rfl rfl)).cons (q_get hF520 (t := 1) rfl rfl)).cons (q_get hF520 (t := 0) rfl rfl)), (by omega), (PhT.skip hfw hph6 (by omega) h8 (by omega) (by omega) (by omega)), ((Ext.refl w).trans hx366), b369, b370, hf371, (by omega), (by omega)⟩, ?_⟩
                rw [hF520.get (t := 12) rfl, hL374.get (t := 12) rfl]; simp [intOf] <;> omega
            · skip
              refine wpl_op (i := 9) rfl (o_skip hF409 rfl (unwanted_guard rfl rfl rfl hF409 rfl (decide_eq_false hc410) rfl) rfl rfl ?_)
              intro a521 hF522; clear hF409
              refine wpl_op (i := 10) rfl (o_skip hF522 rfl (unwanted_guard rfl rfl rfl hF522 rfl (decide_eq_false hc410) rfl) rfl rfl ?_)
              intro a523 hF524; clear hF522
              refine wpl_op (i := 11) rfl (o_skip hF524 rfl (unwanted_guard rfl rfl rfl hF524 rfl (decide_eq_false hc410) rfl) rfl rfl ?_)
              intro a525 hF526; clear hF524
              refine wpl_op (i := 12) rfl (o_skip hF526 rfl (unwanted_guard rfl rfl rfl hF526 rfl (decide_eq_false hc410) rfl) rfl rfl ?_)
              intro a527 hF528; clear hF526
              refine wpl_op (i := 13) rfl (o_skip hF528 rfl (unwanted_guard rfl rfl rfl hF528 rfl (decide_eq_false hc410) rfl) rfl rfl ?_)
              intro a529 hF530; clear hF528
              refine wpl_op (i := 14) rfl (o_skip hF530 rfl (unwanted_guard rfl rfl rfl hF530 rfl (decide_eq_false hc410) rfl) rfl rfl ?_)
              intro a531 hF532; clear hF530
              refine wpl_op (i := 15) rfl (o_skip hF532 rfl (unwanted_guard rfl rfl rfl hF532 rfl (decide_eq_false hc410) rfl) rfl rfl ?_)
              intro a533 hF534; clear hF532
              refine wpl_op (i := 16) rfl (o_skip hF534 rfl (unwanted_guard rfl rfl rfl hF534 rfl (decide_eq_false hc410) rfl) rfl rfl ?_)
              intro a535 hF536; clear hF534
              refine wpl_op (i := 17) rfl (o_val (v := (.bool false)) hF536 rfl rfl rfl rfl (rn_pickF (c_false hF536 rfl (decide_eq_false hc410)) rfl) ?_)
              intro a537 hF538; clear hF536
              refine wpList_nil ?_
              refine hK388 _ _ ?_
              clear hK388
              have hF539 := (((((((((((((((((hF538.nil.cons (hF538.get (t := 109) (v := (.bool false)) rfl)).cons (hF538.get (t := 89) (v := (.bool (decide (((c6 : Nat) : Int) < ((nn : Nat) : Int))))) rfl)).cons (hF538.get (t := 12) (v := (.int .i64 (c6 : Nat))) rfl)).cons (hF538.get (t := 84) (v := (.bool (decide (((i1 : Nat) : Int) < ((nn : Nat) : Int))))) rfl)).cons (hF538.get (t := 11) (v := (.int .i64 (i1 : Nat))) rfl)).cons (hF538.get (t := 79) (v := (.bool (decide (((m1 : Nat) : Int) < ((nn : Nat) : Int))))) rfl)).cons (hF538.get (t := 10) (v := (.int .i64 (m1 : Nat))) rfl)).cons (hF538.get (t := 49) (v := (.bool (decide (((q1 : Nat) : Int) < ((l.length : Nat) : Int))))) rfl)).cons (hF538.get (t := 8) (v := (.int .i64 (q1 : Nat))) rfl)).cons (hF538.get (t := 20) (v := (.bool (decide (((k : Nat) : Int) < ((nn : Nat) : Int))))) rfl)).cons (hF538.get (t := 6) (v := (.int .i64 (k : Nat))) rfl)).cons (hF538.get (t := 5) (v := (.slice (some ⟨g24, 0, none⟩) nn nn)) rfl)).cons (hF538.get (t := 4) (v := (.int .i64 (nn : Nat))) rfl)).cons (hF538.get (t := 3) (v := (.bool false)) rfl)).cons (hF538.get (t := 2) (v := (.slice none 0 0)) rfl)).cons (hF538.get (t := 1) (v := (.pointer (some ⟨g2, 0, none⟩))) rfl)).cons (hF538.get (t := 0) (v := (.agg #[(.int .i64 (nn : Nat)), (.slice A l.length c)])) rfl))
              clear hF538
              refine wp_cond_false (c_false hF539 rfl rfl) ?_
              refine wp_skip ?_
              refine hK387 _ _ ?_
              clear hK387
              refine wp_region_lit ?_
              refine wpl_op (i := 0) rfl (o_val (v := (.int .i64 (c6 : Nat))) hF539 rfl rfl rfl rfl (rn_move (hF539.get rfl)) ?_)
              intro a540 hF541; clear hF539
              refine wpl_op (i := 1) rfl (o_val (v := (.int .i64 (c6 + 1 : Nat))) hF541 rfl rfl rfl rfl (rn_addN (a := c6) (b := 1) (hF541.get rfl) rfl (by omega)) ?_)
              intro a542 hF543; clear hF541
              refine wpl_op (i := 2) rfl (o_val (v := (.int .i64 (c6 + 1 : Nat))) hF543 rfl rfl rfl rfl (rn_assign (hF543.get rfl)) ?_)
              intro a544 hF545; clear hF543
              refine wpList_nil ?_
              refine ⟨⟨(c6 + 1), t6, (((((((((((((((hF545.nil.cons (q_get hF545 (t := 12) rfl (by first | rfl | (congr 1; omega) | (congr 1; done)))).cons (q_get hF545 (t := 84) rfl rfl)).cons (q_get hF545 (t := 11) rfl rfl)).cons (q_get hF545 (t := 79) rfl rfl)).cons (q_get hF545 (t := 10) rfl rfl)).cons (q_get hF545 (t := 49) rfl rfl)).cons (q_get hF545 (t := 8) rfl rfl)).cons (q_get hF545 (t := 20) rfl rfl)).cons (q_get hF545 (t := 6) rfl rfl)).cons (q_get hF545 (t := 5) rfl rfl)).cons (q_get hF545 (t := 4) rfl rfl)).cons (q_get hF545 (t := 3) rfl rfl)).cons (q_get hF545 (t := 2) rfl rfl)).cons (q_get hF545 (t := 1) rfl rfl)).cons (q_get hF545 (t := 0) rfl rfl)), (by omega), (PhT.skip hfw hph6 (by omega) h8 (by omega) (by omega) (by omega)), ((Ext.refl w).trans hx366), b369, b370, hf371, (by omega), (by omega)⟩, ?_⟩
              rw [hF545.get (t := 12) rfl, hL374.get (t := 12) rfl]; simp [intOf] <;> omega
          · skip
            refine wp_cond_false (c_false hF385 rfl (decide_eq_false hc386)) ?_
            refine wp_exit ?_
            refine exit_then ?_
            refine exit_then ?_
            refine exit_here ?_
            refine hK359 _ _ ?_
            clear hK359
            refine wp_region_lit ?_
            refine wpl_op (i := 0) rfl (o_val (v := (.int .i64 (i1 : Nat))) hF385 rfl rfl rfl rfl (rn_move (hF385.get rfl)) ?_)
            intro a546 hF547; clear hF385
            refine wpl_op (i := 1) rfl (o_val (v := (.int .i64 (i1 + 1 : Nat))) hF547 rfl rfl rfl rfl (rn_addN (a := i1) (b := 1) (hF547.get rfl) rfl (by omega)) ?_)
            intro a548 hF549; clear hF547
            refine wpl_op (i := 2) rfl (o_val (v := (.int .i64 (i1 + 1 : Nat))) hF549 rfl rfl rfl rfl (rn_assign (hF549.get rfl)) ?_)
            intro a550 hF551; clear hF549
            refine wpList_nil ?_
            refine ⟨⟨(i1 + 1), t6, (((((((((((((hF551.nil.cons (q_get hF551 (t := 11) rfl (by first | rfl | (congr 1; omega) | (congr 1; done)))).cons (q_get hF551 (t := 79) rfl rfl)).cons (q_get hF551 (t := 10) rfl rfl)).cons (q_get hF551 (t := 49) rfl rfl)).cons (q_get hF551 (t := 8) rfl rfl)).cons (q_get hF551 (t := 20) rfl rfl)).cons (q_get hF551 (t := 6) rfl rfl)).cons (q_get hF551 (t := 5) rfl rfl)).cons (q_get hF551 (t := 4) rfl rfl)).cons (q_get hF551 (t := 3) rfl rfl)).cons (q_get hF551 (t := 2) rfl rfl)).cons (q_get hF551 (t := 1) rfl rfl)).cons (q_get hF551 (t := 0) rfl rfl)), (by omega), (PhT.row ((show c6 = nn by omega) ▸ hph6)), ((Ext.refl w).trans hx366), b369, b370, hf371, (by omega), (by omega)⟩, ?_⟩
            rw [hF551.get (t := 11) rfl, hL346.get (t := 11) rfl]; simp [intOf] <;> omega
        · skip
          refine wp_cond_false (c_false hF357 rfl (decide_eq_false hc358)) ?_
          refine wp_exit ?_
          refine exit_then ?_
          refine exit_then ?_
          refine exit_here ?_
          refine hK331 _ _ ?_
          clear hK331
          refine wp_seq_k (fun K552 hK552 => ?_)
          refine wp_region_lit ?_
          refine wpl_op (i := 0) rfl (o_val (v := (.int .i64 0)) hF357 rfl rfl rfl rfl (rn_assign rfl) ?_)
          intro a553 hF554; clear hF357
          refine wpList_nil ?_
          refine hK552 _ _ ?_
          clear hK552
          refine wp_block ?_
          have hphn : PhT l nn t4 t5 m1 nn 0 := (show i1 = nn by omega) ▸ hph5
          refine wp_loop (fun a' W => ∃ (v7 : Nat), Sl 153 [(0, (.agg #[(.int .i64 (nn : Nat)), (.slice A l.length c)])), (1, (.pointer (some ⟨g2, 0, none⟩))), (2, (.slice none 0 0)), (3, (.bool false)), (4, (.int .i64 (nn : Nat))), (5, (.slice (some ⟨g24, 0, none⟩) nn nn)), (6, (.int .i64 (k : Nat))), (20, (.bool (decide (((k : Nat) : Int) < ((nn : Nat) : Int))))), (8, (.int .i64 (q1 : Nat))), (49, (.bool (decide (((q1 : Nat) : Int) < ((l.length : Nat) : Int))))), (10, (.int .i64 (m1 : Nat))), (79, (.bool (decide (((m1 : Nat) : Int) < ((nn : Nat) : Int))))), (11, (.int .i64 (i1 : Nat))), (84, (.bool (decide (((i1 : Nat) : Int) < ((nn : Nat) : Int))))), (13, (.int .i64 (v7 : Nat)))] a' ∧ v7 ≤ nn ∧ (∀ v, v < v7 → 0 ≤ (t5.getD v []).getD v 0) ∧ Ext w W ∧ Blk W g2 24 [(.int .i64 (nn : Nat)), (.slice A l.length c)] ∧ Blk W g24 25 (rawVals (rowsU nn rs1)) ∧ Tb W g24 hi1 3 rs1 t5 ∧ hi1 ≤ W.heap.size ∧ w336.heap.size ≤ W.heap.size) (fun a' _ => nn - (intOf (a'.eval (.tmp 13))).toNat) ⟨0, (((((((((((((((hF554.nil.cons (q_get hF554 (t := 13) rfl (by first | rfl | (congr 1; omega) | (congr 1; done)))).cons (q_get hF554 (t := 84) rfl rfl)).cons (q_get hF554 (t := 11) rfl rfl)).cons (q_get hF554 (t := 79) rfl rfl)).cons (q_get hF554 (t := 10) rfl rfl)).cons (q_get hF554 (t := 49) rfl rfl)).cons (q_get hF554 (t := 8) rfl rfl)).cons (q_get hF554 (t := 20) rfl rfl)).cons (q_get hF554 (t := 6) rfl rfl)).cons (q_get hF554 (t := 5) rfl rfl)).cons (q_get hF554 (t := 4) rfl rfl)).cons (q_get hF554 (t := 3) rfl rfl)).cons (q_get hF554 (t := 2) rfl rfl)).cons (q_get hF554 (t := 1) rfl rfl)).cons (q_get hF554 (t := 0) rfl rfl)), (by omega), (fun v hv => absurd hv (by omega)), ((Ext.refl w).trans hx338), b341, b342, hf343, (by omega), (Nat.le_refl _)⟩ ?_
          clear hF554
          rintro a555 w556 ⟨v7, hF557, hp559, hp560, hx558, b561, b562, hf563, hf564, hf565⟩
          have hL566 := hF557
          have z567 := hx558.size
          have z568 := b561.lt
          have z569 := b562.lt
          refine wp_seq_k (fun K570 hK570 => ?_)
          refine wp_seq_k (fun K571 hK571 => ?_)
          refine wp_region_lit ?_
          refine wpl_op (i := 0) rfl (o_val (v := (.int .i64 (v7 : Nat))) hF557 rfl rfl rfl rfl (rn_move (hF557.get rfl)) ?_)
          intro a572 hF573; clear hF557
          refine wpl_op (i := 1) rfl (o_val (v := (.int .i64 (nn : Nat))) hF573 rfl rfl rfl rfl (rn_move (hF573.get rfl)) ?_)
          intro a574 hF575; clear hF573
          refine wpl_op (i := 2) rfl (o_val (v := (.bool (decide (((v7 : Nat) : Int) < ((nn : Nat) : Int))))) hF575 rfl rfl rfl rfl (rn_lss (hF575.get rfl) (hF575.get rfl)) ?_)
          intro a576 hF577; clear hF575
          refine wpList_nil ?_
          refine hK571 _ _ ?_
          clear hK571
          by_cases hc578 : ((v7 : Nat) : Int) < ((nn : Nat) : Int)
          · skip
            refine wp_cond_true (c_true hF577 rfl (decide_eq_true hc578)) ?_
            refine wp_skip ?_
            refine hK570 _ _ ?_
            clear hK570
            refine wp_seq_k (fun K579 hK579 => ?_)
            refine wp_block ?_
            refine wp_seq_k (fun K580 hK580 => ?_)
            refine wp_region_lit ?_
            refine wpl_op (i := 0) rfl (o_val (v := (.slice (some ⟨g24, 0, none⟩) nn nn)) hF577 rfl rfl rfl rfl (rn_move (hF577.get rfl)) ?_)
            intro a581 hF582; clear hF577
            refine wpl_op (i := 1) rfl (o_val (v := (.int .i64 (v7 : Nat))) hF582 rfl rfl rfl rfl (rn_move (hF582.get rfl)) ?_)
            intro a583 hF584; clear hF582
            refine wpl_op (i := 2) rfl (o_val (v := (.pointer (some ⟨g24, 0 + v7, none⟩))) hF584 rfl rfl rfl rfl (rn_index1 Try.underlying33 (by kernel_rfl : (Try.prog.info? 25).map (·.size) = some 1) (hF584.get rfl) (hF584.get rfl) (by omega : (0 : Int) ≤ (v7 : Nat)) (by omega : ((v7 : Nat) : Int) < ((nn : Nat) : Int))) ?_)
            intro a585 hF586; clear hF584
            have z587 := hf563.lo v7 (by omega); have z588 := hf563.up v7 (by omega); have z589 := hphn.sq.row v7 (by omega)
            refine wpl_op (i := 3) rfl (o_val (v := (.slice (some ⟨(rs1.getD v7 0), 0, none⟩) nn nn)) hF586 rfl rfl rfl rfl (rn_load (isAgg_no Try.underlying25 rfl) (hF586.get rfl) (blk_rowsU (nn := nn) b562 (i := v7) (by omega) (by omega))) ?_)
            intro a590 hF591; clear hF586
            refine wpl_op (i := 4) rfl (o_val (v := (.int .i64 (v7 : Nat))) hF591 rfl rfl rfl rfl (rn_move (hF591.get rfl)) ?_)
            intro a592 hF593; clear hF591
            refine wpl_op (i := 5) rfl (o_val (v := (.pointer (some ⟨(rs1.getD v7 0), 0 + v7, none⟩))) hF593 rfl rfl rfl rfl (rn_index1 Try.underlying25 (by kernel_rfl : (Try.prog.info? 3).map (·.size) = some 1) (hF593.get rfl) (hF593.get rfl) (by omega : (0 : Int) ≤ (v7 : Nat)) (by omega : ((v7 : Nat) : Int) < ((nn : Nat) : Int))) ?_)
            intro a594 hF595; clear hF593
            refine wpl_op (i := 6) rfl (o_val (v := (.int .i64 ((t5.getD v7 []).getD v7 0))) hF595 rfl rfl rfl rfl (rn_load (isAgg_no Try.underlying3 rfl) (hF595.get rfl) (hf563.cell (i := v7) (k := v7) (by omega) (by have := hphn.sq.row v7 (by omega); omega) (by omega))) ?_)
            intro a596 hF597; clear hF595
            refine wpl_op (i := 7) rfl (o_val (v := (.bool (decide ((((t5.getD v7 []).getD v7 0) : Int) < (0 : Int))))) hF597 rfl rfl rfl rfl (rn_lss (hF597.get rfl) rfl) ?_)
            intro a598 hF599; clear hF597
            refine wpList_nil ?_
            refine hK580 _ _ ?_
            clear hK580
            have hF600 := (((((((((((((((((hF599.nil.cons (hF599.get (t := 151) (v := (.bool (decide ((((t5.getD v7 []).getD v7 0) : Int) < (0 : Int))))) rfl)).cons (hF599.get (t := 141) (v := (.bool (decide (((v7 : Nat) : Int) < ((nn : Nat) : Int))))) rfl)).cons (hF599.get (t := 13) (v := (.int .i64 (v7 : Nat))) rfl)).cons (hF599.get (t := 84) (v := (.bool (decide (((i1 : Nat) : Int) < ((nn : Nat) : Int))))) rfl)).cons (hF599.get (t := 11) (v := (.int .i64 (i1 : Nat))) rfl)).cons (hF599.get (t := 79) (v := (.bool (decide (((m1 : Nat) : Int) < ((nn : Nat) : Int))))) rfl)).cons (hF599.get (t := 10) (v := (.int .i64 (m1 : Nat))) rfl)).cons (hF599.get (t := 49) (v := (.bool (decide (((q1 : Nat) : Int) < ((l.length : Nat) : Int))))) rfl)).cons (hF599.get (t := 8) (v := (.int .i64 (q1 : Nat))) rfl)).cons (hF599.get (t := 20) (v := (.bool (decide (((k : Nat) : Int) < ((nn : Nat) : Int))))) rfl)).cons (hF599.get (t := 6) (v := (.int .i64 (k : Nat))) rfl)).cons (hF599.get (t := 5) (v := (.slice (some ⟨g24, 0, none⟩) nn nn)) rfl)).cons (hF599.get (t := 4) (v := (.int .i64 (nn : Nat))) rfl)).cons (hF599.get (t := 3) (v := (.bool false)) rfl)).cons (hF599.get (t := 2) (v := (.slice none 0 0)) rfl)).cons (hF599.get (t := 1) (v := (.pointer (some ⟨g2, 0, none⟩))) rfl)).cons (hF599.get (t := 0) (v := (.agg #[(.int .i64 (nn : Nat)), (.slice A l.length c)])) rfl))
            clear hF599
            by_cases hc601 : (((t5.getD v7 []).getD v7 0) : Int) < (0 : Int)
            · skip
              refine wp_cond_true (c_true hF600 rfl (decide_eq_true hc601)) ?_
              refine wp_seq_k (fun K602 hK602 => ?_)
              refine wp_region_lit ?_
              refine wpl_op (i := 0) rfl (o_val (v := (.slice none 0 0)) hF600 rfl rfl rfl rfl (rn_assign rfl) ?_)
              intro a603 hF604; clear hF600
              refine wpl_op (i := 1) rfl (o_val (v := (.bool false)) hF604 rfl rfl rfl rfl (rn_assign rfl) ?_)
              intro a605 hF606; clear hF604
              refine wpList_nil ?_
              refine hK602 _ _ ?_
              clear hK602
              refine wp_ret ?_
              refine ret_block ?_
              refine ret_then ?_
              refine ret_then ?_
              refine ret_block ?_
              refine ret_block ?_
              refine ret_then ?_
              refine ret_then ?_
              refine ret_block ?_
              refine ret_then ?_
              refine ret2 hF606 rfl rfl rfl ?_
              exact ⟨_, _, _, [], _, rfl, RIss.nil _, .inl ⟨rfl, hphn.neg (v := v7) (by omega) (by omega), rfl⟩, ((Ext.refl w).trans hx558)⟩
            · skip
              refine wp_cond_false (c_false hF600 rfl (decide_eq_false hc601)) ?_
              refine wp_skip ?_
              refine hK579 _ _ ?_
              clear hK579
              refine wp_region_lit ?_
              refine wpl_op (i := 0) rfl (o_val (v := (.int .i64 (v7 : Nat))) hF600 rfl rfl rfl rfl (rn_move (hF600.get rfl)) ?_)
              intro a607 hF608; clear hF600
              refine wpl_op (i := 1) rfl (o_val (v := (.int .i64 (v7 + 1 : Nat))) hF608 rfl rfl rfl rfl (rn_addN (a := v7) (b := 1) (hF608.get rfl) rfl (by omega)) ?_)
              intro a609 hF610; clear hF608
              refine wpl_op (i := 2) rfl (o_val (v := (.int .i64 (v7 + 1 : Nat))) hF610 rfl rfl rfl rfl (rn_assign (hF610.get rfl)) ?_)
              intro a611 hF612; clear hF610
              refine wpList_nil ?_
              refine ⟨⟨(v7 + 1), (((((((((((((((hF612.nil.cons (q_get hF612 (t := 13) rfl (by first | rfl | (congr 1; omega) | (congr 1; done)))).cons (q_get hF612 (t := 84) rfl rfl)).cons (q_get hF612 (t := 11) rfl rfl)).cons (q_get hF612 (t := 79) rfl rfl)).cons (q_get hF612 (t := 10) rfl rfl)).cons (q_get hF612 (t := 49) rfl rfl)).cons (q_get hF612 (t := 8) rfl rfl)).cons (q_get hF612 (t := 20) rfl rfl)).cons (q_get hF612 (t := 6) rfl rfl)).cons (q_get hF612 (t := 5) rfl rfl)).cons (q_get hF612 (t := 4) rfl rfl)).cons (q_get hF612 (t := 3) rfl rfl)).cons (q_get hF612 (t := 2) rfl rfl)).cons (q_get hF612 (t := 1) rfl rfl)).cons (q_get hF612 (t := 0) rfl rfl)), (by omega), (upto_step hp560 (by omega)), ((Ext.refl w).trans hx558), b561, b562, hf563, (by omega), (by omega)⟩, ?_⟩
              rw [hF612.get (t := 13) rfl, hL566.get (t := 13) rfl]; simp [intOf] <;> omega
          · skip
            refine wp_cond_false (c_false hF577 rfl (decide_eq_false hc578)) ?_
            refine wp_exit ?_
            refine exit_then ?_
            refine exit_then ?_
            refine exit_here ?_
            refine hK330 _ _ ?_
            clear hK330
            refine wp_region_lit ?_
            refine wpl_op (i := 0) rfl (o_val (v := (.int .i64 (m1 : Nat))) hF577 rfl rfl rfl rfl (rn_move (hF577.get rfl)) ?_)
            intro a613 hF614; clear hF577
            refine wpl_op (i := 1) rfl (o_val (v := (.int .i64 (m1 + 1 : Nat))) hF614 rfl rfl rfl rfl (rn_addN (a := m1) (b := 1) (hF614.get rfl) rfl (by omega)) ?_)
            intro a615 hF616; clear hF614
            refine wpl_op (i := 2) rfl (o_val (v := (.int .i64 (m1 + 1 : Nat))) hF616 rfl rfl rfl rfl (rn_assign (hF616.get rfl)) ?_)
            intro a617 hF618; clear hF616
            refine wpList_nil ?_
            refine ⟨⟨(m1 + 1), t5, (((((((((((hF618.nil.cons (q_get hF618 (t := 10) rfl (by first | rfl | (congr 1; omega) | (congr 1; done)))).cons (q_get hF618 (t := 49) rfl rfl)).cons (q_get hF618 (t := 8) rfl rfl)).cons (q_get hF618 (t := 20) rfl rfl)).cons (q_get hF618 (t := 6) rfl rfl)).cons (q_get hF618 (t := 5) rfl rfl)).cons (q_get hF618 (t := 4) rfl rfl)).cons (q_get hF618 (t := 3) rfl rfl)).cons (q_get hF618 (t := 2) rfl rfl)).cons (q_get hF618 (t := 1) rfl rfl)).cons (q_get hF618 (t := 0) rfl rfl)), (by omega), (PhT.close hfw hphn (by omega) h8 (fun v hv => hp560 v (by omega))), ((Ext.refl w).trans hx558), b561, b562, hf563, (by omega), (by omega)⟩, ?_⟩
            rw [hF618.get (t := 10) rfl, hL317.get (t := 10) rfl]; simp [intOf] <;> omega
      · skip
        refine wp_cond_false (c_false hF328 rfl (decide_eq_false hc329)) ?_
        refine wp_exit ?_
        refine exit_then ?_
        refine exit_then ?_
        refine exit_here ?_
        refine hK302 _ _ ?_
        clear hK302
        refine wp_seq_k (fun K619 hK619 => ?_)
        refine wp_region_lit ?_
        refine wpl_op (i := 0) rfl (o_val (v := (.slice (some ⟨g24, 0, none⟩) nn nn)) hF328 rfl rfl rfl rfl (rn_move (hF328.get rfl)) ?_)
        intro a620 hF621; clear hF328
        refine wpl_op (i := 1) rfl (o_val (v := (.slice (some ⟨g24, 0, none⟩) nn nn)) hF621 rfl rfl rfl rfl (rn_assign (hF621.get rfl)) ?_)
        intro a622 hF623; clear hF621
        refine wpl_op (i := 2) rfl (o_val (v := (.bool true)) hF623 rfl rfl rfl rfl (rn_assign rfl) ?_)
        intro a624 hF625; clear hF623
        refine wpList_nil ?_
        refine hK619 _ _ ?_
        clear hK619
        refine wp_ret ?_
        refine ret2 hF625 rfl rfl rfl ?_
        have hf626 := b313
        obtain ⟨hng, hdt⟩ := hfw.done (by omega) h0' h8 hv
        exact ⟨_, _, _, t4, _, rfl, hf314.riss (S := fun b => w.heap.size ≤ b) hf626 hrl hdt.row (by omega) (fun b hb => by omega), .inr ⟨rfl, hng, hdt⟩, ((Ext.refl w).trans hx309)⟩

end Go.Proofs.Ytjmdodgmoehfkaa
