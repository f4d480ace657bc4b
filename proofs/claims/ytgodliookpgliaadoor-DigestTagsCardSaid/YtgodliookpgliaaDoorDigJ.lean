/- Contract of Climb. -/
import Derived.Test.YtgodliookpgliaaDoorProg
import Derived.Test.YtgodliookpgliaaDoorDigI
import Derived.KernelRfl
namespace Go.Proofs.YtgodliookpgliaaDoor
open Go.RowKit

variable {S S' : Nat → Prop}

def zero32 : List UInt8 := List.replicate 32 0
def climbF (d : List UInt8) (at_ n : Int) (p : List (List UInt8)) : List UInt8 × Int := if (n < 1 ∨ 1099511627776 < n ∨ at_ < 0 ∨ n ≤ at_) ∨ p.length ≠ (dirs at_.toNat n.toNat).length then (zero32, 1) else (climbL nodeD leafD d at_.toNat n.toNat p, 0)
theorem dirs_step1 {a n a0 n0 h0 : Nat} {f : List Bool} (hh : h0 = half n0) (h : 2 ≤ n0) (h2 : a0 < h0) (e : dirs a n = f ++ dirs a0 n0) : dirs a n = (f ++ [decide (((a0 : Nat) : Int) < ((h0 : Nat) : Int))]) ++ dirs a0 h0 := by
  subst hh
  rw [e, dirs_first h h2, decide_eq_true (by omega)]; simp
theorem dirs_step2 {a n a0 n0 h0 : Nat} {f : List Bool} (hh : h0 = half n0) (h : 2 ≤ n0) (h2 : ¬ a0 < h0) (e : dirs a n = f ++ dirs a0 n0) : dirs a n = (f ++ [decide (((a0 : Nat) : Int) < ((h0 : Nat) : Int))]) ++ dirs (a0 - h0) (n0 - h0) := by
  subst hh
  rw [e, dirs_second h h2, decide_eq_false (by omega)]; simp
def climbTo (d : List UInt8) (f : List Bool) (p : List (List UInt8)) (k : Nat) : List UInt8 := ((p.take k).zip (f.reverse.take k)).foldl (step1 nodeD) (leafD d)
theorem climbTo_step {d x : List UInt8} {f : List Bool} {p : List (List UInt8)} {k m : Nat} {b : Bool} (hx : x = climbTo d f p k) (hk : k < p.length) (hl : p.length = f.length) (hm : m = f.length - 1 - k) (hb : f.getD m false = b) : step1 nodeD x (p.getD k [], b) = climbTo d f p (k + 1) := by
  subst hm
  have h1 : p.take (k + 1) = p.take k ++ [p.getD k []] := by rw [List.take_add_one, List.getD_eq_getElem?_getD, List.getElem?_eq_getElem hk]; simp
  have h2 : f.reverse.take (k + 1) = f.reverse.take k ++ [b] := by
    rw [List.take_add_one, List.getElem?_reverse (by omega), ← hb, List.getD_eq_getElem?_getD, List.getElem?_eq_getElem (by omega)]; simp
  rw [hx, climbTo, climbTo, h1, h2, List.zip_append (by simp; omega), List.foldl_append]; rfl
theorem climbTo_t {d x : List UInt8} {f : List Bool} {p : List (List UInt8)} {k m : Nat} (hx : x = climbTo d f p k) (hk : k < p.length) (hl : p.length = f.length) (hm : m = f.length - 1 - k) (hb : f.getD m false = true) : nodeD x (p.getD k []) = climbTo d f p (k + 1) := climbTo_step hx hk hl hm hb
theorem climbTo_f {d x : List UInt8} {f : List Bool} {p : List (List UInt8)} {k m : Nat} (hx : x = climbTo d f p k) (hk : k < p.length) (hl : p.length = f.length) (hm : m = f.length - 1 - k) (hb : f.getD m false = false) : nodeD (p.getD k []) x = climbTo d f p (k + 1) := climbTo_step hx hk hl hm hb
theorem climbTo_done {d x : List UInt8} {f : List Bool} {p : List (List UInt8)} {k a n : Nat} (hx : x = climbTo d f p k) (hk : k = p.length) (hl : p.length = f.length) (hf : dirs a n = f) : x = climbL nodeD leafD d a n p := by
  subst hk
  rw [hx, climbTo, climbL, hf, List.take_length, List.take_of_length_le (by simp; omega)]
theorem Fl.boollen {w : World} {v : Value} {n : Nat} {l : List Bool} (h : Fl S w 1 v n (boolVals l)) : l.length = n := by
  have := h.len; simp [boolVals] at this; omega
theorem climbF_len (d : List UInt8) (at_ n : Int) (p : List (List UInt8)) : (climbF d at_ n p).1.length = 32 := by
  unfold climbF
  split
  · rfl
  · show (climbL nodeD leafD d at_.toNat n.toNat p).length = 32
    unfold climbL
    generalize p.zip (dirs at_.toNat n.toNat).reverse = l
    have : ∀ (l : List (List UInt8 × Bool)) (x : List UInt8), x.length = 32 → (l.foldl (step1 nodeD) x).length = 32 := by
      intro l
      induction l with
      | nil => intro x h; exact h
      | cons q l ih => intro x h; exact ih _ (by unfold step1; split <;> exact nodeD_len _ _)
    exact this l _ (leafD_len d)

set_option maxRecDepth 100000 in
set_option maxHeartbeats 1000000 in
theorem climb_any (d : List UInt8) (at_ n : Int) (A : Option Addr) (c : Nat) (p : List (List UInt8)) (w : World) (hd : d.length = 32) (h32 : All32 p) (hf : Fl S w 32 (.slice A p.length c) p.length (digVals p)) (hG : Glob w) :
    Calls Tryd.prog 21 #[.agg (byteVals d).toArray, .int .i64 at_, .int .i64 n, .slice A p.length c] w (fun e w' => e = .returned (.tuple #[.agg (byteVals (climbF d at_ n p).1).toArray, .int .i64 (climbF d at_ n p).2]) ∧ Ext w w') := by
  have hc : Fl (Clip S w) w 32 (.slice A p.length c) p.length (digVals p) := hf.clip
  have hcc := (Fl.cel hc).2.1
  refine calls_enter (l := [(.agg (byteVals d).toArray), (.int .i64 at_), (.int .i64 n), (.slice A p.length c)]) Tryd.func21 rfl rfl rfl (fun aA hF => ?_)
  refine wp_seq_k (fun K1 hK1 => ?_)
  refine wp_region_lit ?_
  refine wpl_op (i := 0) rfl (o_new (fun g => (.pointer (some ⟨g, 0, none⟩))) (byteVals d) 26 hF rfl rfl rfl rfl (rn_box (hF.get rfl) (box_arr _)) ?_)
  intro g2 w3 a8 hF9 z6 z7 b4 hx5; clear hF
  refine wpl_op (i := 1) rfl (o_new (fun g => (.pointer (some ⟨g, 0, none⟩))) (byteVals (List.replicate 32 0)) 26 hF9 rfl rfl rfl rfl (by kernel_rfl) ?_)
  intro g10 w11 a16 hF17 z14 z15 b12 hx13; clear hF9
  refine wpl_op (i := 2) rfl (o_val (v := (.int .i64 0)) hF17 rfl rfl rfl rfl (rn_assign rfl) ?_)
  intro a18 hF19; clear hF17
  refine wpList_nil ?_
  refine hK1 _ _ ?_
  clear hK1
  refine wp_seq_k (fun K20 hK20 => ?_)
  refine wp_seq_k (fun K21 hK21 => ?_)
  refine wp_region_lit ?_
  refine wpl_op (i := 0) rfl (o_val (v := (.int .i64 n)) hF19 rfl rfl rfl rfl (rn_move (hF19.get rfl)) ?_)
  intro a22 hF23; clear hF19
  refine wpl_op (i := 1) rfl (o_val (v := (.bool (decide ((n : Int) < (1 : Int))))) hF23 rfl rfl rfl rfl (rn_lss (hF23.get rfl) rfl) ?_)
  intro a24 hF25; clear hF23
  refine wpl_op (i := 2) rfl (o_val (v := (.bool (decide ((n : Int) < (1 : Int))))) hF25 rfl rfl rfl rfl (rn_move (hF25.get rfl)) ?_)
  intro a26 hF27; clear hF25
  by_cases hc28 : (n : Int) < (1 : Int)
  · skip
    refine wpl_op (i := 3) rfl (o_skip hF27 rfl (unwanted_guard rfl rfl rfl hF27 rfl (decide_eq_true hc28) rfl) rfl rfl ?_)
    intro a29 hF30; clear hF27
    refine wpl_op (i := 4) rfl (o_skip hF30 rfl (unwanted_guard rfl rfl rfl hF30 rfl (decide_eq_true hc28) rfl) rfl rfl ?_)
    intro a31 hF32; clear hF30
    refine wpl_op (i := 5) rfl (o_val (v := (.bool true)) hF32 rfl rfl rfl rfl (rn_pickT (c_true hF32 rfl (decide_eq_true hc28)) rfl) ?_)
    intro a33 hF34; clear hF32
    refine wpl_op (i := 6) rfl (o_val (v := (.bool true)) hF34 rfl rfl rfl rfl (rn_move (hF34.get rfl)) ?_)
    intro a35 hF36; clear hF34
    refine wpl_op (i := 7) rfl (o_skip hF36 rfl (unwanted_guard rfl rfl rfl hF36 rfl rfl rfl) rfl rfl ?_)
    intro a37 hF38; clear hF36
    refine wpl_op (i := 8) rfl (o_skip hF38 rfl (unwanted_guard rfl rfl rfl hF38 rfl rfl rfl) rfl rfl ?_)
    intro a39 hF40; clear hF38
    refine wpl_op (i := 9) rfl (o_val (v := (.bool true)) hF40 rfl rfl rfl rfl (rn_pickT (c_true hF40 rfl rfl) rfl) ?_)
    intro a41 hF42; clear hF40
    refine wpl_op (i := 10) rfl (o_val (v := (.bool true)) hF42 rfl rfl rfl rfl (rn_move (hF42.get rfl)) ?_)
    intro a43 hF44; clear hF42
    refine wpl_op (i := 11) rfl (o_skip hF44 rfl (unwanted_guard rfl rfl rfl hF44 rfl rfl rfl) rfl rfl ?_)
    intro a45 hF46; clear hF44
    refine wpl_op (i := 12) rfl (o_skip hF46 rfl (unwanted_guard rfl rfl rfl hF46 rfl rfl rfl) rfl rfl ?_)
    intro a47 hF48; clear hF46
    refine wpl_op (i := 13) rfl (o_skip hF48 rfl (unwanted_guard rfl rfl rfl hF48 rfl rfl rfl) rfl rfl ?_)
    intro a49 hF50; clear hF48
    refine wpl_op (i := 14) rfl (o_val (v := (.bool true)) hF50 rfl rfl rfl rfl (rn_pickT (c_true hF50 rfl rfl) rfl) ?_)
    intro a51 hF52; clear hF50
    refine wpList_nil ?_
    refine hK21 _ _ ?_
    clear hK21
    have hF53 := ((((((((hF52.nil.cons (hF52.get (t := 28) (v := (.bool true)) rfl)).cons (hF52.get (t := 9) (v := (.int .i64 0)) rfl)).cons (hF52.get (t := 8) (v := (.pointer (some ⟨g10, 0, none⟩))) rfl)).cons (hF52.get (t := 4) (v := (.pointer (some ⟨g2, 0, none⟩))) rfl)).cons (hF52.get (t := 3) (v := (.slice A p.length c)) rfl)).cons (hF52.get (t := 2) (v := (.int .i64 n)) rfl)).cons (hF52.get (t := 1) (v := (.int .i64 at_)) rfl)).cons (hF52.get (t := 0) (v := (.agg (byteVals d).toArray)) rfl))
    clear hF52
    refine wp_cond_true (c_true hF53 rfl rfl) ?_
    refine wp_seq_k (fun K54 hK54 => ?_)
    refine wp_region_lit ?_
    refine wpl_op (i := 0) rfl (o_val (v := (.agg (byteVals (List.replicate 32 0)).toArray)) hF53 rfl rfl rfl rfl (rn_loadBlk (hF53.get rfl) b12 Tryd.underlying26 rfl ((by kernel_rfl : (Tryd.prog.info? 26).map (·.size) = some 32).trans (congrArg some (byteVals_len (show List.length (List.replicate 32 0) = _ from List.length_replicate)).symm))) ?_)
    intro a55 hF56; clear hF53
    refine wpl_op (i := 1) rfl (o_store (cells := (byteVals (List.replicate 32 0))) hF56 rfl rfl rfl rfl (hF56.get rfl) (hF56.get rfl) b12 ((by kernel_rfl : (Tryd.prog.info? 26).map (·.size) = some 32).trans (congrArg some (byteVals_len (show List.length (List.replicate 32 0) = _ from List.length_replicate)).symm)) ((byteVals_len (show List.length (List.replicate 32 0) = _ from List.length_replicate)).trans (byteVals_len (show List.length (List.replicate 32 0) = _ from List.length_replicate)).symm) (byteVals_one _) ?_)
    intro w57 b58 hg59; have z60 := hg59.size
    refine wpl_op (i := 2) rfl (o_val (v := (.int .i64 1)) hF56 rfl rfl rfl rfl (rn_assign rfl) ?_)
    intro a61 hF62; clear hF56
    refine wpList_nil ?_
    refine hK54 _ _ ?_
    clear hK54
    refine wp_ret ?_
    refine ret_then ?_
    refine retC1 hF62 rfl rfl rfl b58 Tryd.underlying26 rfl ((by kernel_rfl : (Tryd.prog.info? 26).map (·.size) = some 32).trans (congrArg some (byteVals_len (show List.length (List.replicate 32 0) = _ from List.length_replicate)).symm)) ?_
    have hcl : climbF d at_ n p = (zero32, 1) := by rw [climbF, if_pos (.inl (by omega))]
    exact ⟨by rw [hcl]; rfl, ((((Ext.refl w).trans hx5).trans hx13).grownN hg59 (by omega))⟩
  · skip
    refine wpl_op (i := 3) rfl (o_val (v := (.int .i64 n)) hF27 rfl (wanted_guard rfl rfl rfl hF27 rfl (decide_eq_false hc28) rfl) rfl rfl (rn_move (hF27.get rfl)) ?_)
    intro a63 hF64; clear hF27
    refine wpl_op (i := 4) rfl (o_val (v := (.bool (decide ((1099511627776 : Int) < (n : Int))))) hF64 rfl (wanted_guard rfl rfl rfl hF64 rfl (decide_eq_false hc28) rfl) rfl rfl (rn_gtr (hF64.get rfl) rfl) ?_)
    intro a65 hF66; clear hF64
    refine wpl_op (i := 5) rfl (o_val (v := (.bool (decide ((1099511627776 : Int) < (n : Int))))) hF66 rfl rfl rfl rfl (rn_pickF (c_false hF66 rfl (decide_eq_false hc28)) (hF66.get rfl)) ?_)
    intro a67 hF68; clear hF66
    refine wpl_op (i := 6) rfl (o_val (v := (.bool (decide ((1099511627776 : Int) < (n : Int))))) hF68 rfl rfl rfl rfl (rn_move (hF68.get rfl)) ?_)
    intro a69 hF70; clear hF68
    by_cases hc71 : (1099511627776 : Int) < (n : Int)
    · skip
      refine wpl_op (i := 7) rfl (o_skip hF70 rfl (unwanted_guard rfl rfl rfl hF70 rfl (decide_eq_true hc71) rfl) rfl rfl ?_)
      intro a72 hF73; clear hF70
      refine wpl_op (i := 8) rfl (o_skip hF73 rfl (unwanted_guard rfl rfl rfl hF73 rfl (decide_eq_true hc71) rfl) rfl rfl ?_)
      intro a74 hF75; clear hF73
      refine wpl_op (i := 9) rfl (o_val (v := (.bool true)) hF75 rfl rfl rfl rfl (rn_pickT (c_true hF75 rfl (decide_eq_true hc71)) rfl) ?_)
      intro a76 hF77; clear hF75
      refine wpl_op (i := 10) rfl (o_val (v := (.bool true)) hF77 rfl rfl rfl rfl (rn_move (hF77.get rfl)) ?_)
      intro a78 hF79; clear hF77
      refine wpl_op (i := 11) rfl (o_skip hF79 rfl (unwanted_guard rfl rfl rfl hF79 rfl rfl rfl) rfl rfl ?_)
      intro a80 hF81; clear hF79
      refine wpl_op (i := 12) rfl (o_skip hF81 rfl (unwanted_guard rfl rfl rfl hF81 rfl rfl rfl) rfl rfl ?_)
      intro a82 hF83; clear hF81
      refine wpl_op (i := 13) rfl (o_skip hF83 rfl (unwanted_guard rfl rfl rfl hF83 rfl rfl rfl) rfl rfl ?_)
      intro a84 hF85; clear hF83
      refine wpl_op (i := 14) rfl (o_val (v := (.bool true)) hF85 rfl rfl rfl rfl (rn_pickT (c_true hF85 rfl rfl) rfl) ?_)
      intro a86 hF87; clear hF85
      refine wpList_nil ?_
      refine hK21 _ _ ?_
      clear hK21
      have hF88 := ((((((((hF87.nil.cons (hF87.get (t := 28) (v := (.bool true)) rfl)).cons (hF87.get (t := 9) (v := (.int .i64 0)) rfl)).cons (hF87.get (t := 8) (v := (.pointer (some ⟨g10, 0, none⟩))) rfl)).cons (hF87.get (t := 4) (v := (.pointer (some ⟨g2, 0, none⟩))) rfl)).cons (hF87.get (t := 3) (v := (.slice A p.length c)) rfl)).cons (hF87.get (t := 2) (v := (.int .i64 n)) rfl)).cons (hF87.get (t := 1) (v := (.int .i64 at_)) rfl)).cons (hF87.get (t := 0) (v := (.agg (byteVals d).toArray)) rfl))
      clear hF87
      refine wp_cond_true (c_true hF88 rfl rfl) ?_
      refine wp_seq_k (fun K89 hK89 => ?_)
      refine wp_region_lit ?_
      refine wpl_op (i := 0) rfl (o_val (v := (.agg (byteVals (List.replicate 32 0)).toArray)) hF88 rfl rfl rfl rfl (rn_loadBlk (hF88.get rfl) b12 Tryd.underlying26 rfl ((by kernel_rfl : (Tryd.prog.info? 26).map (·.size) = some 32).trans (congrArg some (byteVals_len (show List.length (List.replicate 32 0) = _ from List.length_replicate)).symm))) ?_)
      intro a90 hF91; clear hF88
      refine wpl_op (i := 1) rfl (o_store (cells := (byteVals (List.replicate 32 0))) hF91 rfl rfl rfl rfl (hF91.get rfl) (hF91.get rfl) b12 ((by kernel_rfl : (Tryd.prog.info? 26).map (·.size) = some 32).trans (congrArg some (byteVals_len (show List.length (List.replicate 32 0) = _ from List.length_replicate)).symm)) ((byteVals_len (show List.length (List.replicate 32 0) = _ from List.length_replicate)).trans (byteVals_len (show List.length (List.replicate 32 0) = _ from List.length_replicate)).symm) (byteVals_one _) ?_)
      intro w92 b93 hg94; have z95 := hg94.size
      refine wpl_op (i := 2) rfl (o_val (v := (.int .i64 1)) hF91 rfl rfl rfl rfl (rn_assign rfl) ?_)
      intro a96 hF97; clear hF91
      refine wpList_nil ?_
      refine hK89 _ _ ?_
      clear hK89
      refine wp_ret ?_
      refine ret_then ?_
      refine retC1 hF97 rfl rfl rfl b93 Tryd.underlying26 rfl ((by kernel_rfl : (Tryd.prog.info? 26).map (·.size) = some 32).trans (congrArg some (byteVals_len (show List.length (List.replicate 32 0) = _ from List.length_replicate)).symm)) ?_
      have hcl : climbF d at_ n p = (zero32, 1) := by rw [climbF, if_pos (.inl (by omega))]
      exact ⟨by rw [hcl]; rfl, ((((Ext.refl w).trans hx5).trans hx13).grownN hg94 (by omega))⟩
    · skip
      refine wpl_op (i := 7) rfl (o_val (v := (.int .i64 at_)) hF70 rfl (wanted_guard rfl rfl rfl hF70 rfl (decide_eq_false hc71) rfl) rfl rfl (rn_move (hF70.get rfl)) ?_)
      intro a98 hF99; clear hF70
      refine wpl_op (i := 8) rfl (o_val (v := (.bool (decide ((at_ : Int) < (0 : Int))))) hF99 rfl (wanted_guard rfl rfl rfl hF99 rfl (decide_eq_false hc71) rfl) rfl rfl (rn_lss (hF99.get rfl) rfl) ?_)
      intro a100 hF101; clear hF99
      refine wpl_op (i := 9) rfl (o_val (v := (.bool (decide ((at_ : Int) < (0 : Int))))) hF101 rfl rfl rfl rfl (rn_pickF (c_false hF101 rfl (decide_eq_false hc71)) (hF101.get rfl)) ?_)
      intro a102 hF103; clear hF101
      refine wpl_op (i := 10) rfl (o_val (v := (.bool (decide ((at_ : Int) < (0 : Int))))) hF103 rfl rfl rfl rfl (rn_move (hF103.get rfl)) ?_)
      intro a104 hF105; clear hF103
      by_cases hc106 : (at_ : Int) < (0 : Int)
      · skip
        refine wpl_op (i := 11) rfl (o_skip hF105 rfl (unwanted_guard rfl rfl rfl hF105 rfl (decide_eq_true hc106) rfl) rfl rfl ?_)
        intro a107 hF108; clear hF105
        refine wpl_op (i := 12) rfl (o_skip hF108 rfl (unwanted_guard rfl rfl rfl hF108 rfl (decide_eq_true hc106) rfl) rfl rfl ?_)
        intro a109 hF110; clear hF108
        refine wpl_op (i := 13) rfl (o_skip hF110 rfl (unwanted_guard rfl rfl rfl hF110 rfl (decide_eq_true hc106) rfl) rfl rfl ?_)
        intro a111 hF112; clear hF110
        refine wpl_op (i := 14) rfl (o_val (v := (.bool true)) hF112 rfl rfl rfl rfl (rn_pickT (c_true hF112 rfl (decide_eq_true hc106)) rfl) ?_)
        intro a113 hF114; clear hF112
        refine wpList_nil ?_
        refine hK21 _ _ ?_
        clear hK21
        have hF115 := ((((((((hF114.nil.cons (hF114.get (t := 28) (v := (.bool true)) rfl)).cons (hF114.get (t := 9) (v := (.int .i64 0)) rfl)).cons (hF114.get (t := 8) (v := (.pointer (some ⟨g10, 0, none⟩))) rfl)).cons (hF114.get (t := 4) (v := (.pointer (some ⟨g2, 0, none⟩))) rfl)).cons (hF114.get (t := 3) (v := (.slice A p.length c)) rfl)).cons (hF114.get (t := 2) (v := (.int .i64 n)) rfl)).cons (hF114.get (t := 1) (v := (.int .i64 at_)) rfl)).cons (hF114.get (t := 0) (v := (.agg (byteVals d).toArray)) rfl))
        clear hF114
        refine wp_cond_true (c_true hF115 rfl rfl) ?_
        refine wp_seq_k (fun K116 hK116 => ?_)
        refine wp_region_lit ?_
        refine wpl_op (i := 0) rfl (o_val (v := (.agg (byteVals (List.replicate 32 0)).toArray)) hF115 rfl rfl rfl rfl (rn_loadBlk (hF115.get rfl) b12 Tryd.underlying26 rfl ((by kernel_rfl : (Tryd.prog.info? 26).map (·.size) = some 32).trans (congrArg some (byteVals_len (show List.length (List.replicate 32 0) = _ from List.length_replicate)).symm))) ?_)
        intro a117 hF118; clear hF115
        refine wpl_op (i := 1) rfl (o_store (cells := (byteVals (List.replicate 32 0))) hF118 rfl rfl rfl rfl (hF118.get rfl) (hF118.get rfl) b12 ((by kernel_rfl : (Tryd.prog.info? 26).map (·.size) = some 32).trans (congrArg some (byteVals_len (show List.length (List.replicate 32 0) = _ from List.length_replicate)).symm)) ((byteVals_len (show List.length (List.replicate 32 0) = _ from List.length_replicate)).trans (byteVals_len (show List.length (List.replicate 32 0) = _ from List.length_replicate)).symm) (byteVals_one _) ?_)
        intro w119 b120 hg121; have z122 := hg121.size
        refine wpl_op (i := 2) rfl (o_val (v := (.int .i64 1)) hF118 rfl rfl rfl rfl (rn_assign rfl) ?_)
        intro a123 hF124; clear hF118
        refine wpList_nil ?_
        refine hK116 _ _ ?_
        clear hK116
        refine wp_ret ?_
        refine ret_then ?_
        refine retC1 hF124 rfl rfl rfl b120 Tryd.underlying26 rfl ((by kernel_rfl : (Tryd.prog.info? 26).map (·.size) = some 32).trans (congrArg some (byteVals_len (show List.length (List.replicate 32 0) = _ from List.length_replicate)).symm)) ?_
        have hcl : climbF d at_ n p = (zero32, 1) := by rw [climbF, if_pos (.inl (by omega))]
        exact ⟨by rw [hcl]; rfl, ((((Ext.refl w).trans hx5).trans hx13).grownN hg121 (by omega))⟩
      · skip
        refine wpl_op (i := 11) rfl (o_val (v := (.int .i64 at_)) hF105 rfl (wanted_guard rfl rfl rfl hF105 rfl (decide_eq_false hc106) rfl) rfl rfl (rn_move (hF105.get rfl)) ?_)
        intro a125 hF126; clear hF105
        refine wpl_op (i := 12) rfl (o_val (v := (.int .i64 n)) hF126 rfl (wanted_guard rfl rfl rfl hF126 rfl (decide_eq_false hc106) rfl) rfl rfl (rn_move (hF126.get rfl)) ?_)
        intro a127 hF128; clear hF126
        refine wpl_op (i := 13) rfl (o_val (v := (.bool (decide ((n : Int) ≤ (at_ : Int))))) hF128 rfl (wanted_guard rfl rfl rfl hF128 rfl (decide_eq_false hc106) rfl) rfl rfl (rn_geq (hF128.get rfl) (hF128.get rfl)) ?_)
        intro a129 hF130; clear hF128
        refine wpl_op (i := 14) rfl (o_val (v := (.bool (decide ((n : Int) ≤ (at_ : Int))))) hF130 rfl rfl rfl rfl (rn_pickF (c_false hF130 rfl (decide_eq_false hc106)) (hF130.get rfl)) ?_)
        intro a131 hF132; clear hF130
        refine wpList_nil ?_
        refine hK21 _ _ ?_
        clear hK21
        have hF133 := ((((((((hF132.nil.cons (hF132.get (t := 28) (v := (.bool (decide ((n : Int) ≤ (at_ : Int))))) rfl)).cons (hF132.get (t := 9) (v := (.int .i64 0)) rfl)).cons (hF132.get (t := 8) (v := (.pointer (some ⟨g10, 0, none⟩))) rfl)).cons (hF132.get (t := 4) (v := (.pointer (some ⟨g2, 0, none⟩))) rfl)).cons (hF132.get (t := 3) (v := (.slice A p.length c)) rfl)).cons (hF132.get (t := 2) (v := (.int .i64 n)) rfl)).cons (hF132.get (t := 1) (v := (.int .i64 at_)) rfl)).cons (hF132.get (t := 0) (v := (.agg (byteVals d).toArray)) rfl))
        clear hF132
        by_cases hc134 : (n : Int) ≤ (at_ : Int)
        · skip
          refine wp_cond_true (c_true hF133 rfl (decide_eq_true hc134)) ?_
          refine wp_seq_k (fun K135 hK135 => ?_)
          refine wp_region_lit ?_
          refine wpl_op (i := 0) rfl (o_val (v := (.agg (byteVals (List.replicate 32 0)).toArray)) hF133 rfl rfl rfl rfl (rn_loadBlk (hF133.get rfl) b12 Tryd.underlying26 rfl ((by kernel_rfl : (Tryd.prog.info? 26).map (·.size) = some 32).trans (congrArg some (byteVals_len (show List.length (List.replicate 32 0) = _ from List.length_replicate)).symm))) ?_)
          intro a136 hF137; clear hF133
          refine wpl_op (i := 1) rfl (o_store (cells := (byteVals (List.replicate 32 0))) hF137 rfl rfl rfl rfl (hF137.get rfl) (hF137.get rfl) b12 ((by kernel_rfl : (Tryd.prog.info? 26).map (·.size) = some 32).trans (congrArg some (byteVals_len (show List.length (List.replicate 32 0) = _ from List.length_replicate)).symm)) ((byteVals_len (show List.length (List.replicate 32 0) = _ from List.length_replicate)).trans (byteVals_len (show List.length (List.replicate 32 0) = _ from List.length_replicate)).symm) (byteVals_one _) ?_)
          intro w138 b139 hg140; have z141 := hg140.size
          refine wpl_op (i := 2) rfl (o_val (v := (.int .i64 1)) hF137 rfl rfl rfl rfl (rn_assign rfl) ?_)
          intro a142 hF143; clear hF137
          refine wpList_nil ?_
          refine hK135 _ _ ?_
          clear hK135
          refine wp_ret ?_
          refine ret_then ?_
          refine retC1 hF143 rfl rfl rfl b139 Tryd.underlying26 rfl ((by kernel_rfl : (Tryd.prog.info? 26).map (·.size) = some 32).trans (congrArg some (byteVals_len (show List.length (List.replicate 32 0) = _ from List.length_replicate)).symm)) ?_
          have hcl : climbF d at_ n p = (zero32, 1) := by rw [climbF, if_pos (.inl (by omega))]
          exact ⟨by rw [hcl]; rfl, ((((Ext.refl w).trans hx5).trans hx13).grownN hg140 (by omega))⟩
        · skip
          refine wp_cond_false (c_false hF133 rfl (decide_eq_false hc134)) ?_
          refine wp_skip ?_
          refine hK20 _ _ ?_
          clear hK20
          refine wp_seq_k (fun K144 hK144 => ?_)
          refine wp_region_lit ?_
          refine wpl_op (i := 0) rfl (o_val (v := (.slice none 0 0)) hF133 rfl rfl rfl rfl (rn_assign rfl) ?_)
          intro a145 hF146; clear hF133
          refine wpList_nil ?_
          refine hK144 _ _ ?_
          clear hK144
          refine wp_seq_k (fun K147 hK147 => ?_)
          refine wp_block ?_
          obtain ⟨an, han⟩ : ∃ an : Nat, at_ = (an : Int) := ⟨at_.toNat, by omega⟩
          obtain ⟨nn, hnn⟩ : ∃ nn : Nat, n = (nn : Int) := ⟨n.toNat, by omega⟩
          have b148 : Blk w11 g2 26 (byteVals d) := (b4.ext hx13)
          refine wp_loop (fun a' W => ∃ (a0 : Nat) (n0 : Nat) (Af : Option Addr) (nf : Nat) (cf : Nat) (f0 : List Bool), Sl 81 [(0, (.agg (byteVals d).toArray)), (1, (.int .i64 (a0 : Nat))), (2, (.int .i64 (n0 : Nat))), (3, (.slice A p.length c)), (4, (.pointer (some ⟨g2, 0, none⟩))), (8, (.pointer (some ⟨g10, 0, none⟩))), (9, (.int .i64 0)), (28, (.bool (decide ((n : Int) ≤ (at_ : Int))))), (10, (.slice Af nf cf))] a' ∧ dirs an nn = f0 ++ dirs a0 n0 ∧ a0 < n0 ∧ nf + n0 ≤ nn ∧ Ext w W ∧ Blk W g2 26 (byteVals d) ∧ Blk W g10 26 (byteVals (List.replicate 32 0)) ∧ W.ownsRow w11.heap.size 4 1 (.slice Af nf cf) nf (boolVals f0) ∧ w11.heap.size ≤ W.heap.size) (fun a' _ => (intOf (a'.eval (.tmp 2))).toNat) ⟨an, nn, none, 0, 0, [], (((((((((hF146.nil.cons (q_get hF146 (t := 10) rfl (by first | rfl | (congr 1; omega) | (congr 1; done)))).cons (q_get hF146 (t := 28) rfl rfl)).cons (q_get hF146 (t := 9) rfl rfl)).cons (q_get hF146 (t := 8) rfl rfl)).cons (q_get hF146 (t := 4) rfl rfl)).cons (q_get hF146 (t := 3) rfl rfl)).cons (q_get hF146 (t := 2) rfl (by first | rfl | (congr 1; omega) | (congr 1; done)))).cons (q_get hF146 (t := 1) rfl (by first | rfl | (congr 1; omega) | (congr 1; done)))).cons (q_get hF146 (t := 0) rfl rfl)), rfl, (by omega), (by omega), (((Ext.refl w).trans hx5).trans hx13), b148, b12, (own_nil w11 w11.heap.size 4 1), (by omega)⟩ ?_
          clear hF146
          rintro a149 w150 ⟨a0, n0, Af, nf, cf, f0, hF151, hp153, hp154, hp155, hx152, b156, b157, r158, hf159⟩
          have hL160 := hF151
          have z161 := hx152.size
          have z162 := b156.lt
          have z163 := b157.lt
          have z164 := own_form0 r158
          refine wp_seq_k (fun K165 hK165 => ?_)
          refine wp_seq_k (fun K166 hK166 => ?_)
          refine wp_region_lit ?_
          refine wpl_op (i := 0) rfl (o_val (v := (.int .i64 (n0 : Nat))) hF151 rfl rfl rfl rfl (rn_move (hF151.get rfl)) ?_)
          intro a167 hF168; clear hF151
          refine wpl_op (i := 1) rfl (o_val (v := (.bool (decide ((1 : Int) < ((n0 : Nat) : Int))))) hF168 rfl rfl rfl rfl (rn_gtr (hF168.get rfl) rfl) ?_)
          intro a169 hF170; clear hF168
          refine wpList_nil ?_
          refine hK166 _ _ ?_
          clear hK166
          by_cases hc171 : (1 : Int) < ((n0 : Nat) : Int)
          · skip
            refine wp_cond_true (c_true hF170 rfl (decide_eq_true hc171)) ?_
            refine wp_skip ?_
            refine hK165 _ _ ?_
            clear hK165
            refine wp_block ?_
            refine wp_seq_k (fun K172 hK172 => ?_)
            refine wp_region_lit ?_
            refine wpl_op (i := 0) rfl (o_val (v := (.int .i64 (n0 : Nat))) hF170 rfl rfl rfl rfl (rn_move (hF170.get rfl)) ?_)
            intro a173 hF174; clear hF170
            have z175 := half_lt (n := n0) (by omega); have z176 := half_pos n0
            refine wpl_op (i := 1) rfl (o_call hF174 rfl rfl rfl rfl (rn_call (args1 (hF174.get rfl)) rfl (by kernel_rfl)) (half_any n0 _ (by omega) (by omega)) ?_)
            rintro _ w177 ⟨rfl, hx178⟩
            refine ⟨_, rfl, ?_⟩; intro a179 hF180; clear hF174; have z181 := hx178.size
            refine wpl_op (i := 2) rfl (o_val (v := (.int .i64 (half n0 : Nat))) hF180 rfl rfl rfl rfl (rn_assign (hF180.get rfl)) ?_)
            intro a182 hF183; clear hF180
            refine wpList_nil ?_
            refine hK172 _ _ ?_
            clear hK172
            refine wp_seq_k (fun K184 hK184 => ?_)
            refine wp_region_lit ?_
            refine wpl_op (i := 0) rfl (o_val (v := (.slice Af nf cf)) hF183 rfl rfl rfl rfl (rn_move (hF183.get rfl)) ?_)
            intro a185 hF186; clear hF183
            refine wpl_op (i := 1) rfl (o_val (v := (.int .i64 (a0 : Nat))) hF186 rfl rfl rfl rfl (rn_move (hF186.get rfl)) ?_)
            intro a187 hF188; clear hF186
            refine wpl_op (i := 2) rfl (o_val (v := (.int .i64 (half n0 : Nat))) hF188 rfl rfl rfl rfl (rn_move (hF188.get rfl)) ?_)
            intro a189 hF190; clear hF188
            refine wpl_op (i := 3) rfl (o_val (v := (.bool (decide (((a0 : Nat) : Int) < ((half n0 : Nat) : Int))))) hF190 rfl rfl rfl rfl (rn_lss (hF190.get rfl) (hF190.get rfl)) ?_)
            intro a191 hF192; clear hF190
            refine wpl_op (i := 4) rfl (o_new (fun g => (.slice (some ⟨g, 0, none⟩) 1 1)) [(.bool (decide (((a0 : Nat) : Int) < ((half n0 : Nat) : Int))))] 4 hF192 rfl rfl rfl rfl (rn_buildSlice (parts1 (hF192.get rfl)) (by kernel_rfl)) ?_)
            intro g193 w194 a199 hF200 z197 z198 b195 hx196; clear hF192
            have r201 := (own_ext (own_ext r158 hx178) hx196)
            have hf209 := r201
            refine wpl_op (i := 5) rfl (o_appA (zs := boolVals (f0 ++ ([decide (((a0 : Nat) : Int) < ((half n0 : Nat) : Int))]))) El60 hF200 rfl rfl rfl rfl rfl (hF200.get rfl) (hF200.get rfl) hf209 (Fl.cel (Fl.blk (S := fun b => b = g193) (k := 1) (n := 1) (c := 1) (cs := boolVals [decide (((a0 : Nat) : Int) < ((half n0 : Nat) : Int))]) b195 rfl (boolVals_one _) (by omega) rfl)).2.2 (by omega) (by omega) (by omega) (boolVals_app _ _) ?_)
            intro A202 c203 w204 a210 hF211 r205 hg206 z207 z208; clear hF200; have z212 := hg206.size
            refine wpl_op (i := 6) rfl (o_val (v := (.slice A202 (nf + 1) c203)) hF211 rfl rfl rfl rfl (rn_assign (hF211.get rfl)) ?_)
            intro a213 hF214; clear hF211
            refine wpList_nil ?_
            refine hK184 _ _ ?_
            clear hK184
            have hF215 := (((((((((((hF214.nil.cons (hF214.get (t := 11) (v := (.int .i64 (half n0 : Nat))) rfl)).cons (hF214.get (t := 31) (v := (.bool (decide ((1 : Int) < ((n0 : Nat) : Int))))) rfl)).cons (hF214.get (t := 10) (v := (.slice A202 (nf + 1) c203)) rfl)).cons (hF214.get (t := 28) (v := (.bool (decide ((n : Int) ≤ (at_ : Int))))) rfl)).cons (hF214.get (t := 9) (v := (.int .i64 0)) rfl)).cons (hF214.get (t := 8) (v := (.pointer (some ⟨g10, 0, none⟩))) rfl)).cons (hF214.get (t := 4) (v := (.pointer (some ⟨g2, 0, none⟩))) rfl)).cons (hF214.get (t := 3) (v := (.slice A p.length c)) rfl)).cons (hF214.get (t := 2) (v := (.int .i64 (n0 : Nat))) rfl)).cons (hF214.get (t := 1) (v := (.int .i64 (a0 : Nat))) rfl)).cons (hF214.get (t := 0) (v := (.agg (byteVals d).toArray)) rfl))
            clear hF214
            refine wp_seq_k (fun K216 hK216 => ?_)
            refine wp_region_lit ?_
            refine wpl_op (i := 0) rfl (o_val (v := (.int .i64 (a0 : Nat))) hF215 rfl rfl rfl rfl (rn_move (hF215.get rfl)) ?_)
            intro a217 hF218; clear hF215
            refine wpl_op (i := 1) rfl (o_val (v := (.int .i64 (half n0 : Nat))) hF218 rfl rfl rfl rfl (rn_move (hF218.get rfl)) ?_)
            intro a219 hF220; clear hF218
            refine wpl_op (i := 2) rfl (o_val (v := (.bool (decide (((a0 : Nat) : Int) < ((half n0 : Nat) : Int))))) hF220 rfl rfl rfl rfl (rn_lss (hF220.get rfl) (hF220.get rfl)) ?_)
            intro a221 hF222; clear hF220
            refine wpList_nil ?_
            refine hK216 _ _ ?_
            clear hK216
            by_cases hc223 : ((a0 : Nat) : Int) < ((half n0 : Nat) : Int)
            · skip
              refine wp_cond_true (c_true hF222 rfl (decide_eq_true hc223)) ?_
              refine wp_region_lit ?_
              refine wpl_op (i := 0) rfl (o_val (v := (.int .i64 (half n0 : Nat))) hF222 rfl rfl rfl rfl (rn_move (hF222.get rfl)) ?_)
              intro a224 hF225; clear hF222
              refine wpl_op (i := 1) rfl (o_val (v := (.int .i64 (half n0 : Nat))) hF225 rfl rfl rfl rfl (rn_assign (hF225.get rfl)) ?_)
              intro a226 hF227; clear hF225
              refine wpList_nil ?_
              have b228 : Blk w204 g2 26 (byteVals d) := (grown_blk hf209 hg206 ((b156.ext hx178).ext hx196) (by decide))
              have b229 : Blk w204 g10 26 (byteVals (List.replicate 32 0)) := (grown_blk hf209 hg206 ((b157.ext hx178).ext hx196) (by decide))
              refine ⟨⟨a0, half n0, A202, nf + 1, c203, f0 ++ ([decide (((a0 : Nat) : Int) < ((half n0 : Nat) : Int))]), (((((((((hF227.nil.cons (q_get hF227 (t := 10) rfl (by first | rfl | (congr 1; omega) | (congr 1; done)))).cons (q_get hF227 (t := 28) rfl rfl)).cons (q_get hF227 (t := 9) rfl rfl)).cons (q_get hF227 (t := 8) rfl rfl)).cons (q_get hF227 (t := 4) rfl rfl)).cons (q_get hF227 (t := 3) rfl rfl)).cons (q_get hF227 (t := 2) rfl (by first | rfl | (congr 1; omega) | (congr 1; done)))).cons (q_get hF227 (t := 1) rfl (by first | rfl | (congr 1; omega) | (congr 1; done)))).cons (q_get hF227 (t := 0) rfl rfl)), (dirs_step1 rfl (by omega) (by omega) hp153), (by omega), (by omega), (ext_row ((((Ext.refl w).trans hx152).trans hx178).trans hx196) hg206 hf209 (by omega)), b228, b229, r205, (by omega)⟩, ?_⟩
              rw [hF227.get (t := 2) rfl, hL160.get (t := 2) rfl]; simp [intOf]; omega
            · skip
              refine wp_cond_false (c_false hF222 rfl (decide_eq_false hc223)) ?_
              refine wp_region_lit ?_
              refine wpl_op (i := 0) rfl (o_val (v := (.int .i64 (a0 : Nat))) hF222 rfl rfl rfl rfl (rn_move (hF222.get rfl)) ?_)
              intro a230 hF231; clear hF222
              refine wpl_op (i := 1) rfl (o_val (v := (.int .i64 (half n0 : Nat))) hF231 rfl rfl rfl rfl (rn_move (hF231.get rfl)) ?_)
              intro a232 hF233; clear hF231
              refine wpl_op (i := 2) rfl (o_val (v := (.int .i64 (a0 - (half n0) : Nat))) hF233 rfl rfl rfl rfl (rn_subN (a := a0) (b := half n0) (hF233.get rfl) (hF233.get rfl) (by omega) (by omega)) ?_)
              intro a234 hF235; clear hF233
              refine wpl_op (i := 3) rfl (o_val (v := (.int .i64 (n0 : Nat))) hF235 rfl rfl rfl rfl (rn_move (hF235.get rfl)) ?_)
              intro a236 hF237; clear hF235
              refine wpl_op (i := 4) rfl (o_val (v := (.int .i64 (half n0 : Nat))) hF237 rfl rfl rfl rfl (rn_move (hF237.get rfl)) ?_)
              intro a238 hF239; clear hF237
              refine wpl_op (i := 5) rfl (o_val (v := (.int .i64 (n0 - (half n0) : Nat))) hF239 rfl rfl rfl rfl (rn_subN (a := n0) (b := half n0) (hF239.get rfl) (hF239.get rfl) (by omega) (by omega)) ?_)
              intro a240 hF241; clear hF239
              refine wpl_op (i := 6) rfl (o_val (v := (.int .i64 (a0 - (half n0) : Nat))) hF241 rfl rfl rfl rfl (rn_assign (hF241.get rfl)) ?_)
              intro a242 hF243; clear hF241
              refine wpl_op (i := 7) rfl (o_val (v := (.int .i64 (n0 - (half n0) : Nat))) hF243 rfl rfl rfl rfl (rn_assign (hF243.get rfl)) ?_)
              intro a244 hF245; clear hF243
              refine wpList_nil ?_
              have b246 : Blk w204 g2 26 (byteVals d) := (grown_blk hf209 hg206 ((b156.ext hx178).ext hx196) (by decide))
              have b247 : Blk w204 g10 26 (byteVals (List.replicate 32 0)) := (grown_blk hf209 hg206 ((b157.ext hx178).ext hx196) (by decide))
              refine ⟨⟨a0 - (half n0), n0 - (half n0), A202, nf + 1, c203, f0 ++ ([decide (((a0 : Nat) : Int) < ((half n0 : Nat) : Int))]), (((((((((hF245.nil.cons (q_get hF245 (t := 10) rfl (by first | rfl | (congr 1; omega) | (congr 1; done)))).cons (q_get hF245 (t := 28) rfl rfl)).cons (q_get hF245 (t := 9) rfl rfl)).cons (q_get hF245 (t := 8) rfl rfl)).cons (q_get hF245 (t := 4) rfl rfl)).cons (q_get hF245 (t := 3) rfl rfl)).cons (q_get hF245 (t := 2) rfl (by first | rfl | (congr 1; omega) | (congr 1; done)))).cons (q_get hF245 (t := 1) rfl (by first | rfl | (congr 1; omega) | (congr 1; done)))).cons (q_get hF245 (t := 0) rfl rfl)), (dirs_step2 rfl (by omega) (by omega) hp153), (by omega), (by omega), (ext_row ((((Ext.refl w).trans hx152).trans hx178).trans hx196) hg206 hf209 (by omega)), b246, b247, r205, (by omega)⟩, ?_⟩
              rw [hF245.get (t := 2) rfl, hL160.get (t := 2) rfl]; simp [intOf]; omega
          · skip
            refine wp_cond_false (c_false hF170 rfl (decide_eq_false hc171)) ?_
            refine wp_exit ?_
            refine exit_then ?_
            refine exit_then ?_
            refine exit_here ?_
            refine hK147 _ _ ?_
            clear hK147
            refine wp_seq_k (fun K248 hK248 => ?_)
            refine wp_seq_k (fun K249 hK249 => ?_)
            refine wp_region_lit ?_
            refine wpl_op (i := 0) rfl (o_val (v := (.slice A p.length c)) hF170 rfl rfl rfl rfl (rn_move (hF170.get rfl)) ?_)
            intro a250 hF251; clear hF170
            refine wpl_op (i := 1) rfl (o_val (v := (.int .i64 (p.length : Nat))) hF251 rfl rfl rfl rfl (rn_len_slice Tryd.underlying30 (hF251.get rfl)) ?_)
            intro a252 hF253; clear hF251
            refine wpl_op (i := 2) rfl (o_val (v := (.slice Af nf cf)) hF253 rfl rfl rfl rfl (rn_move (hF253.get rfl)) ?_)
            intro a254 hF255; clear hF253
            refine wpl_op (i := 3) rfl (o_val (v := (.int .i64 (nf : Nat))) hF255 rfl rfl rfl rfl (rn_len_slice Tryd.underlying60 (hF255.get rfl)) ?_)
            intro a256 hF257; clear hF255
            refine wpl_op (i := 4) rfl (o_val (v := (.bool (decide (((p.length : Nat) : Int) ≠ ((nf : Nat) : Int))))) hF257 rfl rfl rfl rfl (rn_neq (hF257.get rfl) (hF257.get rfl)) ?_)
            intro a258 hF259; clear hF257
            refine wpList_nil ?_
            refine hK249 _ _ ?_
            clear hK249
            have hF260 := (((((((((((hF259.nil.cons (hF259.get (t := 54) (v := (.bool (decide (((p.length : Nat) : Int) ≠ ((nf : Nat) : Int))))) rfl)).cons (hF259.get (t := 31) (v := (.bool (decide ((1 : Int) < ((n0 : Nat) : Int))))) rfl)).cons (hF259.get (t := 10) (v := (.slice Af nf cf)) rfl)).cons (hF259.get (t := 28) (v := (.bool (decide ((n : Int) ≤ (at_ : Int))))) rfl)).cons (hF259.get (t := 9) (v := (.int .i64 0)) rfl)).cons (hF259.get (t := 8) (v := (.pointer (some ⟨g10, 0, none⟩))) rfl)).cons (hF259.get (t := 4) (v := (.pointer (some ⟨g2, 0, none⟩))) rfl)).cons (hF259.get (t := 3) (v := (.slice A p.length c)) rfl)).cons (hF259.get (t := 2) (v := (.int .i64 (n0 : Nat))) rfl)).cons (hF259.get (t := 1) (v := (.int .i64 (a0 : Nat))) rfl)).cons (hF259.get (t := 0) (v := (.agg (byteVals d).toArray)) rfl))
            clear hF259
            by_cases hc261 : ((p.length : Nat) : Int) ≠ ((nf : Nat) : Int)
            · skip
              refine wp_cond_true (c_true hF260 rfl (decide_eq_true hc261)) ?_
              refine wp_seq_k (fun K262 hK262 => ?_)
              refine wp_region_lit ?_
              refine wpl_op (i := 0) rfl (o_val (v := (.agg (byteVals (List.replicate 32 0)).toArray)) hF260 rfl rfl rfl rfl (rn_loadBlk (hF260.get rfl) b157 Tryd.underlying26 rfl ((by kernel_rfl : (Tryd.prog.info? 26).map (·.size) = some 32).trans (congrArg some (byteVals_len (show List.length (List.replicate 32 0) = _ from List.length_replicate)).symm))) ?_)
              intro a263 hF264; clear hF260
              refine wpl_op (i := 1) rfl (o_store (cells := (byteVals (List.replicate 32 0))) hF264 rfl rfl rfl rfl (hF264.get rfl) (hF264.get rfl) b157 ((by kernel_rfl : (Tryd.prog.info? 26).map (·.size) = some 32).trans (congrArg some (byteVals_len (show List.length (List.replicate 32 0) = _ from List.length_replicate)).symm)) ((byteVals_len (show List.length (List.replicate 32 0) = _ from List.length_replicate)).trans (byteVals_len (show List.length (List.replicate 32 0) = _ from List.length_replicate)).symm) (byteVals_one _) ?_)
              intro w265 b266 hg267; have z268 := hg267.size
              refine wpl_op (i := 2) rfl (o_val (v := (.int .i64 1)) hF264 rfl rfl rfl rfl (rn_assign rfl) ?_)
              intro a269 hF270; clear hF264
              refine wpList_nil ?_
              refine hK262 _ _ ?_
              clear hK262
              refine wp_ret ?_
              refine ret_then ?_
              refine retC1 hF270 rfl rfl rfl b266 Tryd.underlying26 rfl ((by kernel_rfl : (Tryd.prog.info? 26).map (·.size) = some 32).trans (congrArg some (byteVals_len (show List.length (List.replicate 32 0) = _ from List.length_replicate)).symm)) ?_
              have hdir : dirs an nn = f0 := by rw [hp153, dirs_one (by omega), List.append_nil]
              have r271 := (own_grownT r158 b157 hg267 (by decide))
              have hnf := Fl.boollen (Fl.own (S := fun b => w11.heap.size ≤ b) r271 (fun b hb => hb) (boolVals_one _))
              have hcl : climbF d at_ n p = (zero32, 1) := by rw [climbF, han, hnn, Int.toNat_natCast, Int.toNat_natCast, hdir, if_pos (.inr (by omega))]
              exact ⟨by rw [hcl]; rfl, (((Ext.refl w).trans hx152).grownN hg267 (by omega))⟩
            · skip
              refine wp_cond_false (c_false hF260 rfl (decide_eq_false hc261)) ?_
              refine wp_skip ?_
              refine hK248 _ _ ?_
              clear hK248
              refine wp_seq_k (fun K272 hK272 => ?_)
              refine wp_region_lit ?_
              refine wpl_op (i := 0) rfl (o_val (v := (.agg (byteVals d).toArray)) hF260 rfl rfl rfl rfl (rn_loadBlk (hF260.get rfl) b156 Tryd.underlying26 rfl ((by kernel_rfl : (Tryd.prog.info? 26).map (·.size) = some 32).trans (congrArg some (byteVals_len hd).symm))) ?_)
              intro a273 hF274; clear hF260
              refine wpl_op (i := 1) rfl (o_call hF274 rfl rfl rfl rfl (rn_call (args1 (hF274.get rfl)) rfl (by kernel_rfl)) (leaf_any d _ hd (hG.ext ((Ext.refl w).trans hx152))) ?_)
              rintro _ w275 ⟨rfl, hx276⟩
              refine ⟨_, rfl, ?_⟩; intro a277 hF278; clear hF274; have z279 := hx276.size
              have b283 : Blk w275 g10 26 (byteVals (List.replicate 32 0)) := (b157.ext hx276)
              refine wpl_op (i := 2) rfl (o_store (cells := (byteVals (leafD d))) hF278 rfl rfl rfl rfl (hF278.get rfl) (hF278.get rfl) b283 ((by kernel_rfl : (Tryd.prog.info? 26).map (·.size) = some 32).trans (congrArg some (byteVals_len (leafD_len _)).symm)) ((byteVals_len (show List.length (List.replicate 32 0) = _ from List.length_replicate)).trans (byteVals_len (leafD_len _)).symm) (byteVals_one _) ?_)
              intro w280 b281 hg282; have z284 := hg282.size
              refine wpList_nil ?_
              refine hK272 _ _ ?_
              clear hK272
              refine wp_seq_k (fun K285 hK285 => ?_)
              refine wp_seq_k (fun K286 hK286 => ?_)
              refine wp_region_lit ?_
              refine wpl_op (i := 0) rfl (o_val (v := (.slice A p.length c)) hF278 rfl rfl rfl rfl (rn_move (hF278.get rfl)) ?_)
              intro a287 hF288; clear hF278
              refine wpl_op (i := 1) rfl (o_val (v := (.int .i64 (p.length : Nat))) hF288 rfl rfl rfl rfl (rn_len_slice Tryd.underlying30 (hF288.get rfl)) ?_)
              intro a289 hF290; clear hF288
              refine wpl_op (i := 2) rfl (o_val (v := (.int .i64 0)) hF290 rfl rfl rfl rfl (rn_move rfl) ?_)
              intro a291 hF292; clear hF290
              refine wpList_nil ?_
              refine hK286 _ _ ?_
              clear hK286
              refine wp_block ?_
              have hdir : dirs an nn = f0 := by rw [hp153, dirs_one (by omega), List.append_nil]
              have r293 := (own_grownT (own_ext r158 hx276) b283 hg282 (by decide))
              have hnf := Fl.boollen (Fl.own (S := fun b => w11.heap.size ≤ b) r293 (fun b hb => hb) (boolVals_one _))
              have b294 : Blk w280 g2 26 (byteVals d) := ((b156.ext hx276).grownN hg282 (by omega))
              refine wp_loop (fun a' W => ∃ (k : Nat) (xx : List UInt8), Sl 81 [(0, (.agg (byteVals d).toArray)), (1, (.int .i64 (a0 : Nat))), (2, (.int .i64 (n0 : Nat))), (3, (.slice A p.length c)), (4, (.pointer (some ⟨g2, 0, none⟩))), (8, (.pointer (some ⟨g10, 0, none⟩))), (9, (.int .i64 0)), (28, (.bool (decide ((n : Int) ≤ (at_ : Int))))), (10, (.slice Af nf cf)), (31, (.bool (decide ((1 : Int) < ((n0 : Nat) : Int))))), (54, (.bool (decide (((p.length : Nat) : Int) ≠ ((nf : Nat) : Int))))), (58, (.slice A p.length c)), (59, (.int .i64 (p.length : Nat))), (60, (.int .i64 (k : Nat)))] a' ∧ k ≤ p.length ∧ xx.length = 32 ∧ xx = climbTo d f0 p k ∧ Ext w W ∧ Blk W g2 26 (byteVals d) ∧ Blk W g10 26 (byteVals xx) ∧ W.ownsRow w11.heap.size 4 1 (.slice Af nf cf) nf (boolVals f0) ∧ w11.heap.size ≤ W.heap.size) (fun a' _ => p.length - (intOf (a'.eval (.tmp 60))).toNat) ⟨0, leafD d, ((((((((((((((hF292.nil.cons (q_get hF292 (t := 60) rfl (by first | rfl | (congr 1; omega) | (congr 1; done)))).cons (q_get hF292 (t := 59) rfl rfl)).cons (q_get hF292 (t := 58) rfl rfl)).cons (q_get hF292 (t := 54) rfl rfl)).cons (q_get hF292 (t := 31) rfl rfl)).cons (q_get hF292 (t := 10) rfl rfl)).cons (q_get hF292 (t := 28) rfl rfl)).cons (q_get hF292 (t := 9) rfl rfl)).cons (q_get hF292 (t := 8) rfl rfl)).cons (q_get hF292 (t := 4) rfl rfl)).cons (q_get hF292 (t := 3) rfl rfl)).cons (q_get hF292 (t := 2) rfl rfl)).cons (q_get hF292 (t := 1) rfl rfl)).cons (q_get hF292 (t := 0) rfl rfl)), (by omega), (leafD_len _), rfl, ((((Ext.refl w).trans hx152).trans hx276).grownN hg282 (by omega)), b294, b281, r293, (by omega)⟩ ?_
              clear hF292
              rintro a295 w296 ⟨k, xx, hF297, hp299, hp300, hp301, hx298, b302, b303, r304, hf305⟩
              have hL306 := hF297
              have z307 := hx298.size
              have z308 := b302.lt
              have z309 := b303.lt
              have z310 := own_form0 r304
              have hxl : xx.length = 32 := hp300
              refine wp_seq_k (fun K311 hK311 => ?_)
              refine wp_region_lit ?_
              refine wpl_op (i := 0) rfl (o_val (v := (.bool (decide (((k : Nat) : Int) < ((p.length : Nat) : Int))))) hF297 rfl rfl rfl rfl (rn_lss (hF297.get rfl) (hF297.get rfl)) ?_)
              intro a312 hF313; clear hF297
              refine wpList_nil ?_
              refine hK311 _ _ ?_
              clear hK311
              refine wp_seq_k (fun K314 hK314 => ?_)
              by_cases hc315 : ((k : Nat) : Int) < ((p.length : Nat) : Int)
              · skip
                refine wp_cond_true (c_true hF313 rfl (decide_eq_true hc315)) ?_
                refine wp_skip ?_
                refine hK314 _ _ ?_
                clear hK314
                refine wp_seq_k (fun K316 hK316 => ?_)
                refine wp_block ?_
                refine wp_seq_k (fun K317 hK317 => ?_)
                refine wp_region_lit ?_
                refine wpl_op (i := 0) rfl (o_val (v := (.int .i64 (k : Nat))) hF313 rfl rfl rfl rfl (rn_move (hF313.get rfl)) ?_)
                intro a318 hF319; clear hF313
                have d323 := (hc.ext hx298)
                obtain ⟨b320, o321, hA322, -⟩ := Fl.at d323 (by omega)
                refine wpl_op (i := 1) rfl (o_val (v := (.pointer (some ⟨b320, o321 + k * 32, none⟩))) hF319 rfl rfl rfl rfl (rn_indexE Tryd.underlying30 (by kernel_rfl : (Tryd.prog.info? 26).map (·.size) = some 32) ((hF319.get rfl).trans (by rw [hA322])) (hF319.get rfl) (by omega : (0 : Int) ≤ (k : Nat)) (by omega : ((k : Nat) : Int) < ((p.length : Nat) : Int)) (by omega)) ?_)
                intro a324 hF325; clear hF319
                refine wpl_op (i := 2) rfl (o_val (v := (.agg (byteVals (p.getD k [])).toArray)) hF325 rfl rfl rfl rfl (rn_loadN (cs := byteVals (p.getD k [])) (hF325.get rfl) Tryd.underlying26 rfl ((by kernel_rfl : (Tryd.prog.info? 26).map (·.size) = some 32).trans (congrArg some (byteVals_len (dig_len h32 k (by omega))).symm)) (Fl.digAt d323 hA322 h32 (by omega))) ?_)
                intro a326 hF327; clear hF325
                refine wpl_op (i := 3) rfl (o_new (fun g => (.pointer (some ⟨g, 0, none⟩))) (byteVals (List.replicate 32 0)) 26 hF327 rfl rfl rfl rfl (by kernel_rfl) ?_)
                intro g328 w329 a334 hF335 z332 z333 b330 hx331; clear hF327
                refine wpl_op (i := 4) rfl (o_val (v := (.int .i64 (k : Nat))) hF335 rfl rfl rfl rfl (rn_assign (hF335.get rfl)) ?_)
                intro a336 hF337; clear hF335
                refine wpl_op (i := 5) rfl (o_store (cells := (byteVals (p.getD k []))) hF337 rfl rfl rfl rfl (hF337.get rfl) (hF337.get rfl) b330 ((by kernel_rfl : (Tryd.prog.info? 26).map (·.size) = some 32).trans (congrArg some (byteVals_len (dig_len h32 k (by omega))).symm)) ((byteVals_len (show List.length (List.replicate 32 0) = _ from List.length_replicate)).trans (byteVals_len (dig_len h32 k (by omega))).symm) (byteVals_one _) ?_)
                intro w338 b339 hg340; have z341 := hg340.size
                refine wpList_nil ?_
                refine hK317 _ _ ?_
                clear hK317
                refine wp_seq_k (fun K342 hK342 => ?_)
                refine wp_region_lit ?_
                refine wpl_op (i := 0) rfl (o_val (v := (.slice Af nf cf)) hF337 rfl rfl rfl rfl (rn_move (hF337.get rfl)) ?_)
                intro a343 hF344; clear hF337
                refine wpl_op (i := 1) rfl (o_val (v := (.slice Af nf cf)) hF344 rfl rfl rfl rfl (rn_move (hF344.get rfl)) ?_)
                intro a345 hF346; clear hF344
                refine wpl_op (i := 2) rfl (o_val (v := (.int .i64 (nf : Nat))) hF346 rfl rfl rfl rfl (rn_len_slice Tryd.underlying60 (hF346.get rfl)) ?_)
                intro a347 hF348; clear hF346
                refine wpl_op (i := 3) rfl (o_val (v := (.int .i64 (nf - 1 : Nat))) hF348 rfl rfl rfl rfl (rn_subN (a := nf) (b := 1) (hF348.get rfl) rfl (by omega) (by omega)) ?_)
                intro a349 hF350; clear hF348
                refine wpl_op (i := 4) rfl (o_val (v := (.int .i64 (k : Nat))) hF350 rfl rfl rfl rfl (rn_move (hF350.get rfl)) ?_)
                intro a351 hF352; clear hF350
                refine wpl_op (i := 5) rfl (o_val (v := (.int .i64 ((nf - 1) - k : Nat))) hF352 rfl rfl rfl rfl (rn_subN (a := nf - 1) (b := k) (hF352.get rfl) (hF352.get rfl) (by omega) (by omega)) ?_)
                intro a353 hF354; clear hF352
                have r358 := (own_grownT (own_ext r304 hx331) b330 hg340 (by decide))
                have hf359 := (Fl.own (S := fun b => w11.heap.size ≤ b) r358 (fun b hb => hb) (boolVals_one _))
                obtain ⟨b355, o356, hA357, -⟩ := Fl.at hf359 (by omega)
                refine wpl_op (i := 6) rfl (o_val (v := (.pointer (some ⟨b355, o356 + ((nf - 1) - k), none⟩))) hF354 rfl rfl rfl rfl (rn_index1 Tryd.underlying60 (by kernel_rfl : (Tryd.prog.info? 4).map (·.size) = some 1) ((hF354.get rfl).trans (by rw [hA357])) (hF354.get rfl) (by omega : (0 : Int) ≤ ((nf - 1) - k : Nat)) (by omega : (((nf - 1) - k : Nat) : Int) < ((nf : Nat) : Int))) ?_)
                intro a360 hF361; clear hF354
                refine wpl_op (i := 7) rfl (o_val (v := (.bool (f0.getD ((nf - 1) - k) false))) hF361 rfl rfl rfl rfl (rn_load (isAgg_no Tryd.underlying4 rfl) (hF361.get rfl) (Fl.cellAt hf359 hA357 (boolVals_at (i := ((nf - 1) - k)) (by have := hnf; omega)))) ?_)
                intro a362 hF363; clear hF361
                refine wpList_nil ?_
                refine hK342 _ _ ?_
                clear hK342
                have hF364 := ((((((((((((((((((hF363.nil.cons (hF363.get (t := 72) (v := (.bool (f0.getD ((nf - 1) - k) false))) rfl)).cons (hF363.get (t := 12) (v := (.int .i64 (k : Nat))) rfl)).cons (hF363.get (t := 13) (v := (.pointer (some ⟨g328, 0, none⟩))) rfl)).cons (hF363.get (t := 61) (v := (.bool (decide (((k : Nat) : Int) < ((p.length : Nat) : Int))))) rfl)).cons (hF363.get (t := 60) (v := (.int .i64 (k : Nat))) rfl)).cons (hF363.get (t := 59) (v := (.int .i64 (p.length : Nat))) rfl)).cons (hF363.get (t := 58) (v := (.slice A p.length c)) rfl)).cons (hF363.get (t := 54) (v := (.bool (decide (((p.length : Nat) : Int) ≠ ((nf : Nat) : Int))))) rfl)).cons (hF363.get (t := 31) (v := (.bool (decide ((1 : Int) < ((n0 : Nat) : Int))))) rfl)).cons (hF363.get (t := 10) (v := (.slice Af nf cf)) rfl)).cons (hF363.get (t := 28) (v := (.bool (decide ((n : Int) ≤ (at_ : Int))))) rfl)).cons (hF363.get (t := 9) (v := (.int .i64 0)) rfl)).cons (hF363.get (t := 8) (v := (.pointer (some ⟨g10, 0, none⟩))) rfl)).cons (hF363.get (t := 4) (v := (.pointer (some ⟨g2, 0, none⟩))) rfl)).cons (hF363.get (t := 3) (v := (.slice A p.length c)) rfl)).cons (hF363.get (t := 2) (v := (.int .i64 (n0 : Nat))) rfl)).cons (hF363.get (t := 1) (v := (.int .i64 (a0 : Nat))) rfl)).cons (hF363.get (t := 0) (v := (.agg (byteVals d).toArray)) rfl))
                clear hF363
                rcases Bool.eq_false_or_eq_true (f0.getD ((nf - 1) - k) false) with hc365 | hc365
                · skip
                  refine wp_cond_true (c_true hF364 rfl hc365) ?_
                  refine wp_region_lit ?_
                  have b366 : Blk w338 g10 26 (byteVals xx) := ((b303.ext hx331).grownN hg340 (by omega))
                  refine wpl_op (i := 0) rfl (o_val (v := (.agg (byteVals xx).toArray)) hF364 rfl rfl rfl rfl (rn_loadBlk (hF364.get rfl) b366 Tryd.underlying26 rfl ((by kernel_rfl : (Tryd.prog.info? 26).map (·.size) = some 32).trans (congrArg some (byteVals_len hxl).symm))) ?_)
                  intro a367 hF368; clear hF364
                  refine wpl_op (i := 1) rfl (o_val (v := (.agg (byteVals (p.getD k [])).toArray)) hF368 rfl rfl rfl rfl (rn_loadBlk (hF368.get rfl) b339 Tryd.underlying26 rfl ((by kernel_rfl : (Tryd.prog.info? 26).map (·.size) = some 32).trans (congrArg some (byteVals_len (dig_len h32 k (by omega))).symm))) ?_)
                  intro a369 hF370; clear hF368
                  refine wpl_op (i := 2) rfl (o_call hF370 rfl rfl rfl rfl (rn_call (args2 (hF370.get rfl) (hF370.get rfl)) rfl (by kernel_rfl)) (node_any xx (p.getD k []) _ hxl (dig_len h32 k (by omega)) (hG.ext ((((Ext.refl w).trans hx298).trans hx331).grownN hg340 (by omega)))) ?_)
                  rintro _ w371 ⟨rfl, hx372⟩
                  refine ⟨_, rfl, ?_⟩; intro a373 hF374; clear hF370; have z375 := hx372.size
                  have b379 : Blk w371 g10 26 (byteVals xx) := (b366.ext hx372)
                  refine wpl_op (i := 3) rfl (o_store (cells := (byteVals (nodeD xx (p.getD k [])))) hF374 rfl rfl rfl rfl (hF374.get rfl) (hF374.get rfl) b379 ((by kernel_rfl : (Tryd.prog.info? 26).map (·.size) = some 32).trans (congrArg some (byteVals_len (nodeD_len _ _)).symm)) ((byteVals_len hxl).trans (byteVals_len (nodeD_len _ _)).symm) (byteVals_one _) ?_)
                  intro w376 b377 hg378; have z380 := hg378.size
                  refine wpList_nil ?_
                  refine hK316 _ _ ?_
                  clear hK316
                  refine wp_region_lit ?_
                  refine wpl_op (i := 0) rfl (o_val (v := (.int .i64 (k + 1 : Nat))) hF374 rfl rfl rfl rfl (rn_addN (a := k) (b := 1) (hF374.get rfl) rfl (by omega)) ?_)
                  intro a381 hF382; clear hF374
                  refine wpl_op (i := 1) rfl (o_val (v := (.int .i64 (k + 1 : Nat))) hF382 rfl rfl rfl rfl (rn_move (hF382.get rfl)) ?_)
                  intro a383 hF384; clear hF382
                  refine wpList_nil ?_
                  have b385 : Blk w376 g2 26 (byteVals d) := ((((b302.ext hx331).grownN hg340 (by omega)).ext hx372).grownN hg378 (by omega))
                  have r386 := (own_grownT (own_ext r358 hx372) b379 hg378 (by decide))
                  refine ⟨⟨(k + 1), nodeD xx (p.getD k []), ((((((((((((((hF384.nil.cons (q_get hF384 (t := 60) rfl (by first | rfl | (congr 1; omega) | (congr 1; done)))).cons (q_get hF384 (t := 59) rfl rfl)).cons (q_get hF384 (t := 58) rfl rfl)).cons (q_get hF384 (t := 54) rfl rfl)).cons (q_get hF384 (t := 31) rfl rfl)).cons (q_get hF384 (t := 10) rfl rfl)).cons (q_get hF384 (t := 28) rfl rfl)).cons (q_get hF384 (t := 9) rfl rfl)).cons (q_get hF384 (t := 8) rfl rfl)).cons (q_get hF384 (t := 4) rfl rfl)).cons (q_get hF384 (t := 3) rfl rfl)).cons (q_get hF384 (t := 2) rfl rfl)).cons (q_get hF384 (t := 1) rfl rfl)).cons (q_get hF384 (t := 0) rfl rfl)), (by omega), (nodeD_len _ _), (climbTo_t hp301 (by omega) (by omega) (by omega) hc365), ((((((Ext.refl w).trans hx298).trans hx331).grownN hg340 (by omega)).trans hx372).grownN hg378 (by omega)), b385, b377, r386, (by omega)⟩, ?_⟩
                  rw [hF384.get (t := 60) rfl, hL306.get (t := 60) rfl]; simp [intOf]; omega
                · skip
                  refine wp_cond_false (c_false hF364 rfl hc365) ?_
                  refine wp_region_lit ?_
                  refine wpl_op (i := 0) rfl (o_val (v := (.agg (byteVals (p.getD k [])).toArray)) hF364 rfl rfl rfl rfl (rn_loadBlk (hF364.get rfl) b339 Tryd.underlying26 rfl ((by kernel_rfl : (Tryd.prog.info? 26).map (·.size) = some 32).trans (congrArg some (byteVals_len (dig_len h32 k (by omega))).symm))) ?_)
                  intro a387 hF388; clear hF364
                  have b389 : Blk w338 g10 26 (byteVals xx) := ((b303.ext hx331).grownN hg340 (by omega))
                  refine wpl_op (i := 1) rfl (o_val (v := (.agg (byteVals xx).toArray)) hF388 rfl rfl rfl rfl (rn_loadBlk (hF388.get rfl) b389 Tryd.underlying26 rfl ((by kernel_rfl : (Tryd.prog.info? 26).map (·.size) = some 32).trans (congrArg some (byteVals_len hxl).symm))) ?_)
                  intro a390 hF391; clear hF388
                  refine wpl_op (i := 2) rfl (o_call hF391 rfl rfl rfl rfl (rn_call (args2 (hF391.get rfl) (hF391.get rfl)) rfl (by kernel_rfl)) (node_any (p.getD k []) xx _ (dig_len h32 k (by omega)) hxl (hG.ext ((((Ext.refl w).trans hx298).trans hx331).grownN hg340 (by omega)))) ?_)
                  rintro _ w392 ⟨rfl, hx393⟩
                  refine ⟨_, rfl, ?_⟩; intro a394 hF395; clear hF391; have z396 := hx393.size
                  have b400 : Blk w392 g10 26 (byteVals xx) := (b389.ext hx393)
                  refine wpl_op (i := 3) rfl (o_store (cells := (byteVals (nodeD (p.getD k []) xx))) hF395 rfl rfl rfl rfl (hF395.get rfl) (hF395.get rfl) b400 ((by kernel_rfl : (Tryd.prog.info? 26).map (·.size) = some 32).trans (congrArg some (byteVals_len (nodeD_len _ _)).symm)) ((byteVals_len hxl).trans (byteVals_len (nodeD_len _ _)).symm) (byteVals_one _) ?_)
                  intro w397 b398 hg399; have z401 := hg399.size
                  refine wpList_nil ?_
                  refine hK316 _ _ ?_
                  clear hK316
                  refine wp_region_lit ?_
                  refine wpl_op (i := 0) rfl (o_val (v := (.int .i64 (k + 1 : Nat))) hF395 rfl rfl rfl rfl (rn_addN (a := k) (b := 1) (hF395.get rfl) rfl (by omega)) ?_)
                  intro a402 hF403; clear hF395
                  refine wpl_op (i := 1) rfl (o_val (v := (.int .i64 (k + 1 : Nat))) hF403 rfl rfl rfl rfl (rn_move (hF403.get rfl)) ?_)
                  intro a404 hF405; clear hF403
                  refine wpList_nil ?_
                  have b406 : Blk w397 g2 26 (byteVals d) := ((((b302.ext hx331).grownN hg340 (by omega)).ext hx393).grownN hg399 (by omega))
                  have r407 := (own_grownT (own_ext r358 hx393) b400 hg399 (by decide))
                  refine ⟨⟨(k + 1), nodeD (p.getD k []) xx, ((((((((((((((hF405.nil.cons (q_get hF405 (t := 60) rfl (by first | rfl | (congr 1; omega) | (congr 1; done)))).cons (q_get hF405 (t := 59) rfl rfl)).cons (q_get hF405 (t := 58) rfl rfl)).cons (q_get hF405 (t := 54) rfl rfl)).cons (q_get hF405 (t := 31) rfl rfl)).cons (q_get hF405 (t := 10) rfl rfl)).cons (q_get hF405 (t := 28) rfl rfl)).cons (q_get hF405 (t := 9) rfl rfl)).cons (q_get hF405 (t := 8) rfl rfl)).cons (q_get hF405 (t := 4) rfl rfl)).cons (q_get hF405 (t := 3) rfl rfl)).cons (q_get hF405 (t := 2) rfl rfl)).cons (q_get hF405 (t := 1) rfl rfl)).cons (q_get hF405 (t := 0) rfl rfl)), (by omega), (nodeD_len _ _), (climbTo_f hp301 (by omega) (by omega) (by omega) hc365), ((((((Ext.refl w).trans hx298).trans hx331).grownN hg340 (by omega)).trans hx393).grownN hg399 (by omega)), b406, b398, r407, (by omega)⟩, ?_⟩
                  rw [hF405.get (t := 60) rfl, hL306.get (t := 60) rfl]; simp [intOf]; omega
              · skip
                refine wp_cond_false (c_false hF313 rfl (decide_eq_false hc315)) ?_
                refine wp_exit ?_
                refine exit_then ?_
                refine exit_then ?_
                refine exit_here ?_
                refine hK285 _ _ ?_
                clear hK285
                refine wp_seq_k (fun K408 hK408 => ?_)
                refine wp_region_lit ?_
                refine wpl_op (i := 0) rfl (o_val (v := (.agg (byteVals xx).toArray)) hF313 rfl rfl rfl rfl (rn_loadBlk (hF313.get rfl) b303 Tryd.underlying26 rfl ((by kernel_rfl : (Tryd.prog.info? 26).map (·.size) = some 32).trans (congrArg some (byteVals_len hxl).symm))) ?_)
                intro a409 hF410; clear hF313
                refine wpl_op (i := 1) rfl (o_store (cells := (byteVals xx)) hF410 rfl rfl rfl rfl (hF410.get rfl) (hF410.get rfl) b303 ((by kernel_rfl : (Tryd.prog.info? 26).map (·.size) = some 32).trans (congrArg some (byteVals_len hxl).symm)) ((byteVals_len hxl).trans (byteVals_len hxl).symm) (byteVals_one _) ?_)
                intro w411 b412 hg413; have z414 := hg413.size
                refine wpl_op (i := 2) rfl (o_val (v := (.int .i64 0)) hF410 rfl rfl rfl rfl (rn_assign rfl) ?_)
                intro a415 hF416; clear hF410
                refine wpList_nil ?_
                refine hK408 _ _ ?_
                clear hK408
                refine wp_ret ?_
                refine retC1 hF416 rfl rfl rfl b412 Tryd.underlying26 rfl ((by kernel_rfl : (Tryd.prog.info? 26).map (·.size) = some 32).trans (congrArg some (byteVals_len hxl).symm)) ?_
                have hcl : climbF d at_ n p = (climbL nodeD leafD d an nn p, 0) := by rw [climbF, han, hnn, Int.toNat_natCast, Int.toNat_natCast, hdir, if_neg (by omega)]
                have hdone := climbTo_done hp301 (by omega) (by omega) hdir
                exact ⟨by rw [hcl, ← hdone], (((Ext.refl w).trans hx298).grownN hg413 (by omega))⟩

theorem climb_at {v : Value} {m : Nat} (d : List UInt8) (at_ n : Int) (p : List (List UInt8)) (w : World) (hd : d.length = 32) (h32 : All32 p) (hf : Fl S w 32 v m (digVals p)) (hG : Glob w) : Calls Tryd.prog 21 #[.agg (byteVals d).toArray, .int .i64 at_, .int .i64 n, v] w (fun e w' => e = .returned (.tuple #[.agg (byteVals (climbF d at_ n p).1).toArray, .int .i64 (climbF d at_ n p).2]) ∧ Ext w w') := by
  have hm := Fl.dlen hf h32
  subst hm
  obtain ⟨A, c, rfl, _⟩ := hf.form
  exact climb_any d at_ n A c p w hd h32 hf hG

end Go.Proofs.YtgodliookpgliaaDoor
