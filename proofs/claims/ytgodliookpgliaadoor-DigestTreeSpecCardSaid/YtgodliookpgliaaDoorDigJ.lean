/- Contract of Climb. -/
import Derived.Test.YtgodliookpgliaaDoorProg
import Derived.Test.YtgodliookpgliaaDoorDigI
import Derived.KernelRfl
namespace Go.Proofs.YtgodliookpgliaaDoor
open Go.RowKit

variable {S S' : Nat → Prop}

def zero32 : List UInt8 := List.replicate 32 0
def climbF (d : List UInt8) (at_ n : Int) (p : List (List UInt8)) : List UInt8 × Int := if (n < 1 ∨ 1099511627776 < n ∨ at_ < 0 ∨ n ≤ at_) ∨ p.length ≠ (dirs at_.toNat n.toNat).length then (zero32, 1) else (climbL nodeD leafD d at_.toNat n.toNat p, 0)
theorem dirs_step1 {a n a0 n0 h0 : Nat} {f : List Bool} (hh : h0 = half n0) (h : 2 ≤ n0) (h2 : a0 < h0) (e : dirs a n = f ++ dirs a0 n0) : dirs a n = (f ++ [decide (((a0 : Nat) : Int) < ((h0 : Nat) : Int))]) ++ dirs a0 h0 := by
  subst hh
  rw [e, dirs_first h h2, decide_eq_true (by omega)]; simp
theorem dirs_step2 {a n a0 n0 h0 : Nat} {f : List Bool} (hh : h0 = half n0) (h : 2 ≤ n0) (h2 : ¬ a0 < h0) (e : dirs a n = f ++ dirs a0 n0) : dirs a n = (f ++ [decide (((a0 : Nat) : Int) < ((h0 : Nat) : Int))]) ++ dirs (a0 - h0) (n0 - h0) := by
  subst hh
  rw [e, dirs_second h h2, decide_eq_false (by omega)]; simp
def climbTo (d : List UInt8) (f : List Bool) (p : List (List UInt8)) (k : Nat) : List UInt8 := ((p.take k).zip (f.reverse.take k)).foldl (step1 nodeD) (leafD d)
theorem climbTo_step {d x : List UInt8} {f : List Bool} {p : List (List UInt8)} {k m : Nat} {b : Bool} (hx : x = climbTo d f p k) (hk : k < p.length) (hl : p.length = f.length) (hm : m = f.length - 1 - k) (hb : f.getD m false = b) : step1 nodeD x (p.getD k [], b) = climbTo d f p (k + 1) := by
  subst hm
  have h1 : p.take (k + 1) = p.take k ++ [p.getD k []] := by rw [List.take_add_one, List.getD_eq_getElem?_getD, List.getElem?_eq_getElem hk]; simp
  have h2 : f.reverse.take (k + 1) = f.reverse.take k ++ [b] := by
    rw [List.take_add_one, List.getElem?_reverse (by omega), ← hb, List.getD_eq_getElem?_getD, List.getElem?_eq_getElem (by omega)]; simp
  rw [hx, climbTo, climbTo, h1, h2, List.zip_append (by simp; omega), List.foldl_append]; rfl
theorem climbTo_t {d x : List UInt8} {f : List Bool} {p : List (List UInt8)} {k m : Nat} (hx : x = climbTo d f p k) (hk : k < p.length) (hl : p.length = f.length) (hm : m = f.length - 1 - k) (hb : f.getD m false = true) : nodeD x (p.getD k []) = climbTo d f p (k + 1) := climbTo_step hx hk hl hm hb
theorem climbTo_f {d x : List UInt8} {f : List Bool} {p : List (List UInt8)} {k m : Nat} (hx : x = climbTo d f p k) (hk : k < p.length) (hl : p.length = f.length) (hm : m = f.length - 1 - k) (hb : f.getD m false = false) : nodeD (p.getD k []) x = climbTo d f p (k + 1) := climbTo_step hx hk hl hm hb
theorem climbTo_done {d x : List UInt8} {f : List Bool} {p : List (List UInt8)} {k a n : Nat} (hx : x = climbTo d f p k) (hk : k = p.length) (hl : p.length = f.length) (hf : dirs a n = f) : x = climbL nodeD leafD d a n p := by
  subst hk
  rw [hx, climbTo, climbL, hf, List.take_length, List.take_of_length_le (by simp; omega)]
theorem Fl.boollen {w : World} {v : Value} {n : Nat} {l : List Bool} (h : Fl S w 1 v n (boolVals l)) : l.length = n := by
  have := h.len; simp [boolVals] at this; omega
theorem climbF_len (d : List UInt8) (at_ n : Int) (p : List (List UInt8)) : (climbF d at_ n p).1.length = 32 := by
  unfold climbF
  split
  · rfl
  · show (climbL nodeD leafD d at_.toNat n.toNat p).length = 32
    unfold climbL
    generalize p.zip (dirs at_.toNat n.toNat).reverse = l
    have : ∀ (l : List (List UInt8 × Bool)) (x : List UInt8), x.length = 32 → (l.foldl (step1 nodeD) x).length = 32 := by
      intro l
      induction l with
      | nil => intro x h; exact h
      | cons q l ih => intro x h; exact ih _ (by unfold step1; split <;> exact nodeD_len _ _)
    exact this l _ (leafD_len d)

set_option maxRecDepth 100000 in
set_option maxHeartbeats 1000000 in
theorem climb_any (d : List UInt8) (at_ n : Int) (A : Option Addr) (c : Nat) (p : List (List UInt8)) (w : World) (hd : d.length = 32) (h32 : All32 p) (hf : Fl S w 32 (.slice A p.length c) p.length (digVals p)) (hG : Glob w) :
    Calls Tryd.prog 21 #[.agg (byteVals d).toArray, .int .i64 at_, .int .i64 n, .slice A p.length c] w (fun e w' => e = .returned (.tuple #[.agg (byteVals (climbF d at_ n p).1).toArray, .int .i64 (climbF d at_ n p).2]) ∧ Ext w w') := by
  have hc : Fl (Clip S w) w 32 (.slice A p.length c) p.length (digVals p) := hf.clip
  have hcc := (Fl.cel hc).2.1
  refine calls_enter (l := [(.agg (byteVals d).toArray), (.int .i64 at_), (.int .i64 n), (.slice A p.length c)]) Tryd.func21 rfl rfl rfl (fun aA hF => ?_)
  refine wp_seq_k (fun K1 hK1 => ?_)
  refine wp_region_lit ?_
  refine wpl_op (i := 0) rfl (o_new (fun g => (.pointer (some ⟨g, 0, none⟩))) (byteVals d) 26 hF rfl rfl rfl rfl (rn_box (hF.get rfl) (box_arr _)) ?_)
  intro g2 w3 a8 hF9 z6 z7 b4 hx5; clear hF
  refine wpl_op (i := 1) rfl (o_new (fun g => (.pointer (some ⟨g, 0, none⟩))) (byteVals (List.replicate 32 0)) 26 hF9 rfl rfl rfl rfl (by kernel_rfl) ?_)
  intro g10 w11 a16 hF17 z14 z15 b12 hx13; clear hF9
  refine wpl_op (i := 2) rfl (o_val (v := (.int .i64 0)) hF17 rfl rfl rfl rfl (rn_assign rfl) ?_)
  intro a18 hF19; clear hF17
  refine wpList_nil ?_
  refine hK1 _ _ ?_
  clear hK1
  refine wp_seq_k (fun K20 hK20 => ?_)
  refine wp_seq_k (fun K21 hK21 => ?_)
  refine wp_region_lit ?_
  refine wpl_op (i := 0) rfl (o_val (v := (.int .i64 n)) hF19 rfl rfl rfl rfl (rn_move (hF19.get rfl)) ?_)
  intro a22 hF23; clear hF19
  refine wpl_op (i := 1) rfl (o_val (v := (.bool (decide ((n : Int) < (1 : Int))))) hF23 rfl rfl rfl rfl (rn_lss (hF23.get rfl) rfl) ?_)
  intro a24 hF25; clear hF23
  refine wpl_op (i := 2) rfl (o_val (v := (.bool (decide ((n : Int) < (1 : Int))))) hF25 rfl rfl rfl rfl (rn_move (hF25.get rfl)) ?_)
  intro a26 hF27; clear hF25
  by_cases hc28 : (n : Int) < (1 : Int)
  · skip
    refine wpl_op (i := 3) rfl (o_skip hF27 rfl (unwanted_guard rfl rfl rfl hF27 rfl (decide_eq_true hc28) rfl) rfl rfl ?_)
    intro a29 hF30; clear hF27
    refine wpl_op (i := 4) rfl (o_skip hF30 rfl (unwanted_guard rfl rfl rfl hF30 rfl (decide_eq_true hc28) rfl) rfl rfl ?_)
    intro a31 hF32; clear hF30
    refine wpl_op (i := 5) rfl (o_val (v := (.bool true)) hF32 rfl rfl rfl rfl (rn_pickT (c_true hF32 rfl (decide_eq_true hc28)) rfl) ?_)
    intro a33 hF34; clear hF32
    refine wpl_op (i := 6) rfl (o_val (v := (.bool true)) hF34 rfl rfl rfl rfl (rn_move (hF34.get rfl)) ?_)
    intro a35 hF36; clear hF34
    refine wpl_op (i := 7) rfl (o_skip hF36 rfl (unwanted_guard rfl rfl rfl hF36 rfl rfl rfl) rfl rfl ?_)
    intro a37 hF38; clear hF36
    refine wpl_op (i := 8) rfl (o_skip hF38 rfl (unwanted_guard rfl rfl rfl hF38 rfl rfl rfl) rfl rfl ?_)
    intro a39 hF40; clear hF38
    refine wpl_op (i := 9) rfl (o_val (v := (.bool true)) hF40 rfl rfl rfl rfl (rn_pickT (c_true hF40 rfl rfl) rfl) ?_)
    intro a41 hF42; clear hF40
    refine wpl_op (i := 10) rfl (o_val (v := (.bool true)) hF42 rfl rfl rfl rfl (rn_move (hF42.get rfl)) ?_)
    intro a43 hF44; clear hF42
    refine wpl_op (i := 11) rfl (o_skip hF44 rfl (unwanted_guard rfl rfl rfl hF44 rfl rfl rfl) rfl rfl ?_)
    intro a45 hF46; clear hF44
    refine wpl_op (i := 12) rfl (o_skip hF46 rfl (unwanted_guard rfl rfl rfl hF46 rfl rfl rfl) rfl rfl ?_)
    intro a47 hF48; clear hF46
    refine wpl_op (i := 13) rfl (o_skip hF48 rfl (unwanted_guard rfl rfl rfl hF48 rfl rfl rfl) rfl rfl ?_)
    intro a49 hF50; clear hF48
    refine wpl_op (i := 14) rfl (o_val (v := (.bool true)) hF50 rfl rfl rfl rfl (rn_pickT (c_true hF50 rfl rfl) rfl) ?_)
    intro a51 hF52; clear hF50
    refine wpList_nil ?_
    refine hK21 _ _ ?_
    clear hK21
    have hF53 := ((((((((hF52.nil.cons (hF52.get (t := 28) (v := (.bool true)) rfl)).cons (hF52.get (t := 9) (v := (.int .i64 0)) rfl)).cons (hF52.get (t := 8) (v := (.pointer (some ⟨g10, 0, none⟩))) rfl)).cons (hF52.get (t := 4) (v := (.pointer (some ⟨g2, 0, none⟩))) rfl)).cons (hF52.get (t := 3) (v := (.slice A p.length c)) rfl)).cons (hF52.get (t := 2) (v := (.int .i64 n)) rfl)).cons (hF52.get (t := 1) (v := (.int .i64 at_)) rfl)).cons (hF52.get (t := 0) (v := (.agg (byteVals d).toArray)) rfl))
    clear hF52
    refine wp_cond_true (c_true hF53 rfl rfl) ?_
    refine wp_seq_k (fun K54 hK54 => ?_)
    refine wp_region_lit ?_
    refine wpl_op (i := 0) rfl (o_val (v := (.agg (byteVals (List.replicate 32 0)).toArray)) hF53 rfl rfl rfl rfl (rn_loadBlk (hF53.get rfl) b12 Tryd.underlying26 rfl ((by kernel_rfl : (Tryd.prog.info? 26).map (·.size) = some 32).trans (congrArg some (byteVals_len (show List.length (List.replicate 32 0) = _ from List.length_replicate)).symm))) ?_)
    intro a55 hF56; clear hF53
    refine wpl_op (i := 1) rfl (o_store (cells := (byteVals (List.replicate 32 0))) hF56 rfl rfl rfl rfl (hF56.get rfl) (hF56.get rfl) b12 ((by kernel_rfl : (Tryd.prog.info? 26).map (·.size) = some 32).trans (congrArg some (byteVals_len (show List.length (List.replicate 32 0) = _ from List.length_replicate)).symm)) ((byteVals_len (show List.length (List.replicate 32 0) = _ from List.length_replicate)).trans (byteVals_len (show List.length (List.replicate 32 0) = _ from List.length_replicate)).symm) (byteVals_one _) ?_)
    intro w57 b58 hg59; have z60 := hg59.size
    refine wpl_op (i := 2) rfl (o_val (v := (.int .i64 1)) hF56 rfl rfl rfl rfl (rn_assign rfl) ?_)
    intro a61 hF62; clear hF56
    refine wpList_nil ?_
    refine hK54 _ _ ?_
    clear hK54
    refine wp_ret ?_
    refine ret_then ?_
    refine retC1 hF62 rfl rfl rfl b58 Tryd.underlying26 rfl ((by kernel_rfl : (Tryd.prog.info? 26).map (·.size) = some 32).trans (congrArg some (byteVals_len (show List.length (List.replicate 32 0) = _ from List.length_replicate)).symm)) ?_
    have hcl : climbF d at_ n p = (zero32, 1) := by rw [climbF, if_pos (.inl (by omega))]
    exact ⟨by rw [hcl]; rfl, ((((Ext.refl w).trans hx5).trans hx13).grownN hg59 (by omega))⟩
  · skip
    refine wpl_op (i := 3) rfl (o_val (v := (.int .i64 n)) hF27 rfl (wanted_guard rfl rfl rfl hF27 rfl (decide_eq_false hc28) rfl) rfl rfl (rn_move (hF27.get rfl)) ?_)
    intro a63 hF64; clear hF27
    refine wpl_op (i := 4) rfl (o_val (v := (.bool (decide ((1099511627776 : Int) < (n : Int))))) hF64 rfl (wanted_guard rfl rfl rfl hF64 rfl (decide_eq_false hc28) rfl) rfl rfl (rn_gtr (hF64.get rfl) rfl) ?_)
    intro a65 hF66; clear hF64
    refine wpl_op (i := 5) rfl (o_val (v := (.bool (decide ((1099511627776 : Int) < (n : Int))))) hF66 rfl rfl rfl rfl (rn_pickF (c_false hF66 rfl (decide_eq_false hc28)) (hF66.get rfl)) ?_)
    intro a67 hF68; clear hF66
    refine wpl_op (i := 6) rfl (o_val (v := (.bool (decide ((1099511627776 : Int) < (n : Int))))) hF68 rfl rfl rfl rfl (rn_move (hF68.get rfl)) ?_)
    intro a69 hF70; clear hF68
    by_cases hc71 : (1099511627776 : Int) < (n : Int)
    · skip
      refine wpl_op (i := 7) rfl (o_skip hF70 rfl (unwanted_guard rfl rfl rfl hF70 rfl (decide_eq_true hc71) rfl) rfl rfl ?_)
      intro a72 hF73; clear hF70
      refine wpl_op (i := 8) rfl (o_skip hF73 rfl (unwanted_guard rfl rfl rfl hF73 rfl (decide_eq_true hc71) rfl) rfl rfl ?_)
      intro a74 hF75; clear hF73
      refine wpl_op (i := 9) rfl (o_val (v := (.bool true)) hF75 rfl rfl rfl rfl (rn_pickT (c_true hF75 rfl (decide_eq_true hc71)) rfl) ?_)
      intro a76 hF77; clear hF75
      refine wpl_op (i := 10) rfl (o_val (v := (.bool true)) hF77 rfl rfl rfl rfl (rn_move (hF77.get rfl)) ?_)
      intro a78 hF79; clear hF77
      refine wpl_op (i := 11) rfl (o_skip hF79 rfl (unwanted_guard rfl rfl rfl hF79 rfl rfl rfl) rfl rfl ?_)
      intro a80 hF81; clear hF79
      refine wpl_op (i := 12) rfl (o_skip hF81 rfl (unwanted_guard rfl rfl rfl hF81 rfl rfl rfl) rfl rfl ?_)
      intro a82 hF83; clear hF81
      refine wpl_op (i := 13) rfl (o_skip hF83 rfl (unwanted_guard rfl rfl rfl hF83 rfl rfl rfl) rfl rfl ?_)
      intro a84 hF85; clear hF83
      refine wpl_op (i := 14) rfl (o_val (v := (.bool true)) hF85 rfl rfl rfl rfl (rn_pickT (c_true hF85 rfl rfl) rfl) ?_)
      intro a86 hF87; clear hF85
      refine wpList_nil ?_
      refine hK21 _ _ ?_
      clear hK21
      have hF88 := ((((((((hF87.nil.cons (hF87.get (t := 28) (v := (.bool true)) rfl)).cons (hF87.get (t := 9) (v := (.int .i64 0)) rfl)).cons (hF87.get (t := 8) (v := (.pointer (some ⟨g10, 0, none⟩))) rfl)).cons (hF87.get (t := 4) (v := (.pointer (some ⟨g2, 0, none⟩))) rfl)).cons (hF87.get (t := 3) (v := (.slice A p.length c)) rfl)).cons (hF87.get (t := 2) (v := (.int .i64 n)) rfl)).cons (hF87.get (t := 1) (v := (.int .i64 at_)) rfl)).cons (hF87.get (t := 0) (v := (.agg (byteVals d).toArray)) rfl))
      clear hF87
      refine wp_cond_true (c_true hF88 rfl rfl) ?_
      refine wp_seq_k (fun K89 hK89 => ?_)
      refine wp_region_lit ?_
      refine wpl_op (i := 0) rfl (o_val (v := (.agg (byteVals (List.replicate 32 0)).toArray)) hF88 rfl rfl rfl rfl (rn_loadBlk (hF88.get rfl) b12 Tryd.underlying26 rfl ((by kernel_rfl : (Tryd.prog.info? 26).map (·.size) = some 32).trans (congrArg some (byteVals_len (show List.length (List.replicate 32 0) = _ from List.length_replicate)).symm))) ?_)
      intro a90 hF91; clear hF88
      refine wpl_op (i := 1) rfl (o_store (cells := (byteVals (List.replicate 32 0))) hF91 rfl rfl rfl rfl (hF91.get rfl) (hF91.get rfl) b12 ((by kernel_rfl : (Tryd.prog.info? 26).map (·.size) = some 32).trans (congrArg some (byteVals_len (show List.length (List.replicate 32 0) = _ from List.length_replicate)).symm)) ((byteVals_len (show List.length (List.replicate 32 0) = _ from List.length_replicate)).trans (byteVals_len (show List.length (List.replicate 32 0) = _ from List.length_replicate)).symm) (byteVals_one _) ?_)
      intro w92 b93 hg94; have z95 := hg94.size
      refine wpl_op (i := 2) rfl (o_val (v := (.int .i64 1)) hF91 rfl rfl rfl rfl (rn_assign rfl) ?_)
      intro a96 hF97; clear hF91
      refine wpList_nil ?_
      refine hK89 _ _ ?_
      clear hK89
      refine wp_ret ?_
      refine ret_then ?_
      refine retC1 hF97 rfl rfl rfl b93 Tryd.underlying26 rfl ((by kernel_rfl : (Tryd.prog.info? 26).map (·.size) = some 32).trans (congrArg some (byteVals_len (show List.length (List.replicate 32 0) = _ from List.length_replicate)).symm)) ?_
      have hcl : climbF d at_ n p = (zero32, 1) := by rw [climbF, if_pos (.inl (by omega))]
      exact ⟨by rw [hcl]; rfl, ((((Ext.refl w).trans hx5).trans hx13).grownN hg94 (by omega))⟩
    · skip
      refine wpl_op (i := 7) rfl (o_val (v := (.int .i64 at_)) hF70 rfl (wanted_guard rfl rfl rfl hF70 rfl (decide_eq_false hc71) rfl) rfl rfl (rn_move (hF70.get rfl)) ?_)
      intro a98 hF99; clear hF70
      refine wpl_op (i := 8) rfl (o_val (v := (.bool (decide ((at_ : Int) < (0 : Int))))) hF99 rfl (wanted_guard rfl rfl rfl hF99 rfl (decide_eq_false hc71) rfl) rfl rfl (rn_lss (hF99.get rfl) rfl) ?_)
      intro a100 hF101; clear hF99
      refine wpl_op (i := 9) rfl (o_val (v := (.bool (decide ((at_ : Int) < (0 : Int))))) hF101 rfl rfl rfl rfl (rn_pickF (c_false hF101 rfl (decide_eq_false hc71)) (hF101.get rfl)) ?_)
      intro a102 hF103; clear hF101
      refine wpl_op (i := 10) rfl (o_val (v := (.bool (decide ((at_ : Int) < (0 : Int))))) hF103 rfl rfl rfl rfl (rn_move (hF103.get rfl)) ?_)
      intro a104 hF105; clear hF103
      by_cases hc106 : (at_ : Int) < (0 : Int)
      · skip
        refine wpl_op (i := 11) rfl (o_skip hF105 rfl (unwanted_guard rfl rfl rfl hF105 rfl (decide_eq_true hc106) rfl) rfl rfl ?_)
        intro a107 hF108; clear hF105
        refine wpl_op (i := 12) rfl (o_skip hF108 rfl (unwanted_guard rfl rfl rfl hF108 rfl (decide_eq_true hc106) rfl) rfl rfl ?_)
        intro a109 hF110; clear hF108
        refine wpl_op (i := 13) rfl (o_skip hF110 rfl (unwanted_guard rfl rfl rfl hF110 rfl (decide_eq_true hc106) rfl) rfl rfl ?_)
        intro a111 hF112; clear hF110
        refine wpl_op (i := 14) rfl (o_val (v := (.bool true)) hF112 rfl rfl rfl rfl (rn_pickT (c_true hF112 rfl (decide_eq_true hc106)) rfl) ?_)
        intro a113 hF114; clear hF112
        refine wpList_nil ?_
        refine hK21 _ _ ?_
        clear hK21
        have hF115 := ((((((((hF114.nil.cons (hF114.get (t := 28) (v := (.bool true)) rfl)).cons (hF114.get (t := 9) (v := (.int .i64 0)) rfl)).cons (hF114.get (t := 8) (v := (.pointer (some ⟨g10, 0, none⟩))) rfl)).cons (hF114.get (t := 4) (v := (.pointer (some ⟨g2, 0, none⟩))) rfl)).cons (hF114.get (t := 3) (v := (.slice A p.length c)) rfl)).cons (hF114.get (t := 2) (v := (.int .i64 n)) rfl)).cons (hF114.get (t := 1) (v := (.int .i64 at_)) rfl)).cons (hF114.get (t := 0) (v := (.agg (byteVals d).toArray)) rfl))
        clear hF114
        refine wp_cond_true (c_true hF115 rfl rfl) ?_
        refine wp_seq_k (fun K116 hK116 => ?_)
        refine wp_region_lit ?_
        refine wpl_op (i := 0) rfl (o_val (v := (.agg (byteVals (List.replicate 32 0)).toArray)) hF115 rfl rfl rfl rfl (rn_loadBlk (hF115.get rfl) b12 Tryd.underlying26 rfl ((by kernel_rfl : (Tryd.prog.info? 26).map (·.size) = some 32).trans (congrArg some (byteVals_len (show List.length (List.replicate 32 0) = _ from List.length_replicate)).symm))) ?_)
        intro a117 hF118; clear hF115
        refine wpl_op (i := 1) rfl (o_store (cells := (byteVals (List.replicate 32 0))) hF118 rfl rfl rfl rfl (hF118.get rfl) (hF118.get rfl) b12 ((by kernel_rfl : (Tryd.prog.info? 26).map (·.size) = some 32).trans (congrArg some (byteVals_len (show List.length (List.replicate 32 0) = _ from List.length_replicate)).symm)) ((byteVals_len (show List.length (List.replicate 32 0) = _ from List.length_replicate)).trans (byteVals_len (show List.length (List.replicate 32 0) = _ from List.length_replicate)).symm) (byteVals_one _) ?_)
        intro w119 b120 hg121; have z122 := hg121.size
        refine wpl_op (i := 2) rfl (o_val (v := (.int .i64 1)) hF118 rfl rfl rfl rfl (rn_assign rfl) ?_)
        intro a123 hF124; clear hF118
        refine wpList_nil ?_
        refine hK116 _ _ ?_
        clear hK116
        refine wp_ret ?_
        refine ret_then ?_
        refine retC1 hF124 rfl rfl rfl b120 Tryd.underlying26 rfl ((by kernel_rfl : (Tryd.prog.info? 26).map (·.size) = some 32).trans (congrArg some (byteVals_len (show List.length (List.replicate 32 0) = _ from List.length_replicate)).symm)) ?_
        have hcl : climbF d at_ n p = (zero32, 1) := by rw [climbF, if_pos (.inl (by omega))]
        exact ⟨by rw [hcl]; rfl, ((((Ext.refl w).trans hx5).trans hx13).grownN hg121 (by omega))⟩
      · skip
        refine wpl_op (i := 11) rfl (o_val (v := (.int .i64 at_)) hF105 rfl (wanted_guard rfl rfl rfl hF105 rfl (decide_eq_false hc106) rfl) rfl rfl (rn_move (hF105.get rfl)) ?_)
        intro a125 hF126; clear hF105
        refine wpl_op (i := 12) rfl (o_val (v := (.int .i64 n)) hF126 rfl (wanted_guard rfl rfl rfl hF126 rfl (decide_eq_false hc106) rfl) rfl rfl (rn_move (hF126.get rfl)) ?_)
        intro a127 hF128; clear hF126
        refine wpl_op (i := 13) rfl (o_val (v := (.bool (decide ((n : Int) ≤ (at_ : Int))))) hF128 rfl (wanted_guard rfl rfl rfl hF128 rfl (decide_eq_false hc106) rfl) rfl rfl (rn_geq (hF128.get rfl) (hF128.get rfl)) ?_)
        intro a129 hF130; clear hF128
        refine wpl_op (i := 14) rfl (o_val (v := (.bool (decide ((n : Int) ≤ (at_ : Int))))) hF130 rfl rfl rfl rfl (rn_pickF (c_false hF130 rfl (decide_eq_false hc106)) (hF130.get rfl)) ?_)
        intro a131 hF132; clear hF130
        refine wpList_nil ?_
        refine hK21 _ _ ?_
        clear hK21
        have hF133 := ((((((((hF132.nil.cons (hF132.get (t := 28) (v := (.bool (decide ((n : Int) ≤ (at_ : Int))))) rfl)).cons (hF132.get (t := 9) (v := (.int .i64 0)) rfl)).cons (hF132.get (t := 8) (v := (.pointer (some ⟨g10, 0, none⟩))) rfl)).cons (hF132.get (t := 4) (v := (.pointer (some ⟨g2, 0, none⟩))) rfl)).cons (hF132.get (t := 3) (v := (.slice A p.length c)) rfl)).cons (hF132.get (t := 2) (v := (.int .i64 n)) rfl)).cons (hF132.get (t := 1) (v := (.int .i64 at_)) rfl)).cons (hF132.get (t := 0) (v := (.agg (byteVals d).toArray)) rfl))
        clear hF132
        by_cases hc134 : (n : Int) ≤ (at_ : Int)
        · skip
          refine wp_cond_true (c_true hF133 rfl (decide_eq_true hc134)) ?_
          refine wp_seq_k (fun K135 hK135 => ?_)
          refine wp_region_lit ?_
          refine wpl_op (i := 0) rfl (o_val (v := (.agg (byteVals (List.replicate 32 0)).toArray)) hF133 rfl rfl rfl rfl (rn_loadBlk (hF133.get rfl) b12 Tryd.underlying26 rfl ((by kernel_rfl : (Tryd.prog.info? 26).map (·.size) = some 32).trans (congrArg some (byteVals_len (show List.length (List.replicate 32 0) = _ from List.length_replicate)).symm))) ?_)
          intro a136 hF137; clear hF133
          refine wpl_op (i := 1) rfl (o_store (cells := (byteVals (List.replicate 32 0))) hF137 rfl rfl rfl rfl (hF137.get rfl) (hF137.get rfl) b12 ((by kernel_rfl : (Tryd.prog.info? 26).map (·.size) = some 32).trans (congrArg some (byteVals_len (show List.length (List.replicate 32 0) = _ from List.length_replicate)).symm)) ((byteVals_len (show List.length (List.replicate 32 0) = _ from List.length_replicate)).trans (byteVals_len (show List.length (List.replicate 32 0) = _ from List.length_replicate)).symm) (byteVals_one _) ?_)
          intro w138 b139 hg140; have z141 := hg140.size
          refine wpl_op (i := 2) rfl (o_val (v := (.int .i64 1)) hF137 rfl rfl rfl rfl (rn_assign rfl) ?_)
          intro a142 hF143; clear hF137
          refine wpList_nil ?_
          refine hK135 _ _ ?_
          clear hK135
          refine wp_ret ?_
          refine ret_then ?_
          refine retC1 hF143 rfl rfl rfl b139 Tryd.underlying26 rfl ((by kernel_rfl : (Tryd.prog.info? 26).map (·.size) = some 32).trans (congrArg some (byteVals_len (show List.length (List.replicate 32 0) = _ from List.length_replicate)).symm)) ?_
          have hcl : climbF d at_ n p = (zero32, 1) := by rw [climbF, if_pos (.inl (by omega))]
          exact ⟨by rw [hcl]; rfl, ((((Ext.refl w).trans hx5).trans hx13).grownN hg140 (by omega))⟩
        · skip
          refine wp_cond_false (c_false hF133 rfl (decide_eq_false hc134)) ?_
          refine wp_skip ?_
          refine hK20 _ _ ?_
          clear hK20
          refine wp_seq_k (fun K144 hK144 => ?_)
          refine wp_region_lit ?_
          refine wpl_op (i := 0) rfl (o_val (v := (.slice none 0 0)) hF133 rfl rfl rfl rfl (rn_assign rfl) ?_)
          intro a145 hF146; clear hF133
          refine wpList_nil ?_
          refine hK144 _ _ ?_
          clear hK144
          refine wp_seq_k (fun K147 hK147 => ?_)
          refine wp_block ?_
          obtain ⟨an, han⟩ : ∃ an : Nat, at_ = (an : Int) := ⟨at_.toNat, by omega⟩
          obtain ⟨nn, hnn⟩ : ∃ nn : Nat, n = (nn : Int) := ⟨n.toNat, by omega⟩
          have b148 : Blk w11 g2 26 (byteVals d) := (b4.ext hx13)
          refine wp_loop (fun a' W => ∃ (a0 : Nat) (n0 : Nat) (Af : Option Addr) (nf : Nat) (cf : Nat) (f0 : List Bool), Sl 81 [(0, (.agg (byteVals d).toArray)), (1, (.int .i64 (a0 : Nat))), (2, (.int .i64 (n0 : Nat))), (3, (.slice A p.length c)), (4, (.pointer (some ⟨g2, 0, none⟩))), (8, (.pointer (some ⟨g10, 0, none⟩))), (9, (.int .i64 0)), (28, (.bool (decide ((n : Int) ≤ (at_ : Int))))), (10, (.slice Af nf cf))] a' ∧ dirs an nn = f0 ++ dirs a0 n0 ∧ a0 < n0 ∧ nf + n0 ≤ nn ∧ Ext w W ∧ Blk W g2 26 (byteVals d) ∧ Blk W g10 26 (byteVals (List.replicate 32 0)) ∧ W.ownsRow w11.heap.size 4 1 (.slice Af nf cf) nf (boolVals f0) ∧ w11.heap.size ≤ W.heap.size ∧ w11.heap.size ≤ W.heap.size) (fun a' _ => (intOf (a'.eval (.tmp 2))).toNat) ⟨an, nn, none, 0, 0, [], (((((((((hF146.nil.cons (q_get hF146 (t := 10) rfl (by first | rfl | (congr 1; omega) | (congr 1; done)))).cons (q_get hF146 (t := 28) rfl rfl)).cons (q_get hF146 (t := 9) rfl rfl)).cons (q_get hF146 (t := 8) rfl rfl)).cons (q_get hF146 (t := 4) rfl rfl)).cons (q_get hF146 (t := 3) rfl rfl)).cons (q_get hF146 (t := 2) rfl (by first | rfl | (congr 1; omega) | (congr 1; done)))).cons (q_get hF146 (t := 1) rfl (by first | rfl | (congr 1; omega) | (congr 1; done)))).cons (q_get hF146 (t := 0) rfl rfl)), rfl, (by omega), (by omega), (((Ext.refl w).trans hx5).trans hx13), b148, b12, (own_nil w11 w11.heap.size 4 1), (by omega), (Nat.le_refl _)⟩ ?_
          clear hF146
          rintro a149 w150 ⟨a0, n0, Af, nf, cf, f0, hF151, hp153, hp154, hp155, hx152, b156, b157, r158, hf159, hf160⟩
          have hL161 := hF151
          have z162 := hx152.size
          have z163 := b156.lt
          have z164 := b157.lt
          have z165 := own_form0 r158
          refine wp_seq_k (fun K166 hK166 => ?_)
          refine wp_seq_k (fun K167 hK167 => ?_)
          refine wp_region_lit ?_
          refine wpl_op (i := 0) rfl (o_val (v := (.int .i64 (n0 : Nat))) hF151 rfl rfl rfl rfl (rn_move (hF151.get rfl)) ?_)
          intro a168 hF169; clear hF151
          refine wpl_op (i := 1) rfl (o_val (v := (.bool (decide ((1 : Int) < ((n0 : Nat) : Int))))) hF169 rfl rfl rfl rfl (rn_gtr (hF169.get rfl) rfl) ?_)
          intro a170 hF171; clear hF169
          refine wpList_nil ?_
          refine hK167 _ _ ?_
          clear hK167
          by_cases hc172 : (1 : Int) < ((n0 : Nat) : Int)
          · skip
            refine wp_cond_true (c_true hF171 rfl (decide_eq_true hc172)) ?_
            refine wp_skip ?_
            refine hK166 _ _ ?_
            clear hK166
            refine wp_block ?_
            refine wp_seq_k (fun K173 hK173 => ?_)
            refine wp_region_lit ?_
            refine wpl_op (i := 0) rfl (o_val (v := (.int .i64 (n0 : Nat))) hF171 rfl rfl rfl rfl (rn_move (hF171.get rfl)) ?_)
            intro a174 hF175; clear hF171
            have z176 := half_lt (n := n0) (by omega); have z177 := half_pos n0
            refine wpl_op (i := 1) rfl (o_call hF175 rfl rfl rfl rfl (rn_call (args1 (hF175.get rfl)) rfl (by kernel_rfl)) (half_any n0 _ (by omega) (by omega)) ?_)
            rintro _ w178 ⟨rfl, hx179⟩
            refine ⟨_, rfl, ?_⟩; intro a180 hF181; clear hF175; have z182 := hx179.size
            refine wpl_op (i := 2) rfl (o_val (v := (.int .i64 (half n0 : Nat))) hF181 rfl rfl rfl rfl (rn_assign (hF181.get rfl)) ?_)
            intro a183 hF184; clear hF181
            refine wpList_nil ?_
            refine hK173 _ _ ?_
            clear hK173
            refine wp_seq_k (fun K185 hK185 => ?_)
            refine wp_region_lit ?_
            refine wpl_op (i := 0) rfl (o_val (v := (.slice Af nf cf)) hF184 rfl rfl rfl rfl (rn_move (hF184.get rfl)) ?_)
            intro a186 hF187; clear hF184
            refine wpl_op (i := 1) rfl (o_val (v := (.int .i64 (a0 : Nat))) hF187 rfl rfl rfl rfl (rn_move (hF187.get rfl)) ?_)
            intro a188 hF189; clear hF187
            refine wpl_op (i := 2) rfl (o_val (v := (.int .i64 (half n0 : Nat))) hF189 rfl rfl rfl rfl (rn_move (hF189.get rfl)) ?_)
            intro a190 hF191; clear hF189
            refine wpl_op (i := 3) rfl (o_val (v := (.bool (decide (((a0 : Nat) : Int) < ((half n0 : Nat) : Int))))) hF191 rfl rfl rfl rfl (rn_lss (hF191.get rfl) (hF191.get rfl)) ?_)
            intro a192 hF193; clear hF191
            refine wpl_op (i := 4) rfl (o_new (fun g => (.slice (some ⟨g, 0, none⟩) 1 1)) [(.bool (decide (((a0 : Nat) : Int) < ((half n0 : Nat) : Int))))] 4 hF193 rfl rfl rfl rfl (rn_buildSlice (parts1 (hF193.get rfl)) (by kernel_rfl)) ?_)
            intro g194 w195 a200 hF201 z198 z199 b196 hx197; clear hF193
            have r202 := (own_ext (own_ext r158 hx179) hx197)
            have hf210 := r202
            refine wpl_op (i := 5) rfl (o_appA (zs := boolVals (f0 ++ ([decide (((a0 : Nat) : Int) < ((half n0 : Nat) : Int))]))) El60 hF201 rfl rfl rfl rfl rfl (hF201.get rfl) (hF201.get rfl) hf210 (Fl.cel (Fl.blk (S := fun b => b = g194) (k := 1) (n := 1) (c := 1) (cs := boolVals [decide (((a0 : Nat) : Int) < ((half n0 : Nat) : Int))]) b196 rfl (boolVals_one _) (by omega) rfl)).2.2 (by omega) (by omega) (by omega) (boolVals_app _ _) ?_)
            intro A203 c204 w205 a211 hF212 r206 hg207 z208 z209; clear hF201; have z213 := hg207.size
            refine wpl_op (i := 6) rfl (o_val (v := (.slice A203 (nf + 1) c204)) hF212 rfl rfl rfl rfl (rn_assign (hF212.get rfl)) ?_)
            intro a214 hF215; clear hF212
            refine wpList_nil ?_
            refine hK185 _ _ ?_
            clear hK185
            have hF216 := (((((((((((hF215.nil.cons (hF215.get (t := 11) (v := (.int .i64 (half n0 : Nat))) rfl)).cons (hF215.get (t := 31) (v := (.bool (decide ((1 : Int) < ((n0 : Nat) : Int))))) rfl)).cons (hF215.get (t := 10) (v := (.slice A203 (nf + 1) c204)) rfl)).cons (hF215.get (t := 28) (v := (.bool (decide ((n : Int) ≤ (at_ : Int))))) rfl)).cons (hF215.get (t := 9) (v := (.int .i64 0)) rfl)).cons (hF215.get (t := 8) (v := (.pointer (some ⟨g10, 0, none⟩))) rfl)).cons (hF215.get (t := 4) (v := (.pointer (some ⟨g2, 0, none⟩))) rfl)).cons (hF215.get (t := 3) (v := (.slice A p.length c)) rfl)).cons (hF215.get (t := 2) (v := (.int .i64 (n0 : Nat))) rfl)).cons (hF215.get (t := 1) (v := (.int .i64 (a0 : Nat))) rfl)).cons (hF215.get (t := 0) (v := (.agg (byteVals d).toArray)) rfl))
            clear hF215
            refine wp_seq_k (fun K217 hK217 => ?_)
            refine wp_region_lit ?_
            refine wpl_op (i := 0) rfl (o_val (v := (.int .i64 (a0 : Nat))) hF216 rfl rfl rfl rfl (rn_move (hF216.get rfl)) ?_)
            intro a218 hF219; clear hF216
            refine wpl_op (i := 1) rfl (o_val (v := (.int .i64 (half n0 : Nat))) hF219 rfl rfl rfl rfl (rn_move (hF219.get rfl)) ?_)
            intro a220 hF221; clear hF219
            refine wpl_op (i := 2) rfl (o_val (v := (.bool (decide (((a0 : Nat) : Int) < ((half n0 : Nat) : Int))))) hF221 rfl rfl rfl rfl (rn_lss (hF221.get rfl) (hF221.get rfl)) ?_)
            intro a222 hF223; clear hF221
            refine wpList_nil ?_
            refine hK217 _ _ ?_
            clear hK217
            by_cases hc224 : ((a0 : Nat) : Int) < ((half n0 : Nat) : Int)
            · skip
              refine wp_cond_true (c_true hF223 rfl (decide_eq_true hc224)) ?_
              refine wp_region_lit ?_
              refine wpl_op (i := 0) rfl (o_val (v := (.int .i64 (half n0 : Nat))) hF223 rfl rfl rfl rfl (rn_move (hF223.get rfl)) ?_)
              intro a225 hF226; clear hF223
              refine wpl_op (i := 1) rfl (o_val (v := (.int .i64 (half n0 : Nat))) hF226 rfl rfl rfl rfl (rn_assign (hF226.get rfl)) ?_)
              intro a227 hF228; clear hF226
              refine wpList_nil ?_
              have b229 : Blk w205 g2 26 (byteVals d) := (grown_blk hf210 hg207 ((b156.ext hx179).ext hx197) (by decide))
              have b230 : Blk w205 g10 26 (byteVals (List.replicate 32 0)) := (grown_blk hf210 hg207 ((b157.ext hx179).ext hx197) (by decide))
              refine ⟨⟨a0, half n0, A203, nf + 1, c204, f0 ++ ([decide (((a0 : Nat) : Int) < ((half n0 : Nat) : Int))]), (((((((((hF228.nil.cons (q_get hF228 (t := 10) rfl (by first | rfl | (congr 1; omega) | (congr 1; done)))).cons (q_get hF228 (t := 28) rfl rfl)).cons (q_get hF228 (t := 9) rfl rfl)).cons (q_get hF228 (t := 8) rfl rfl)).cons (q_get hF228 (t := 4) rfl rfl)).cons (q_get hF228 (t := 3) rfl rfl)).cons (q_get hF228 (t := 2) rfl (by first | rfl | (congr 1; omega) | (congr 1; done)))).cons (q_get hF228 (t := 1) rfl (by first | rfl | (congr 1; omega) | (congr 1; done)))).cons (q_get hF228 (t := 0) rfl rfl)), (dirs_step1 rfl (by omega) (by omega) hp153), (by omega), (by omega), (ext_row ((((Ext.refl w).trans hx152).trans hx179).trans hx197) hg207 hf210 (by omega)), b229, b230, r206, (by omega), (by omega)⟩, ?_⟩
              rw [hF228.get (t := 2) rfl, hL161.get (t := 2) rfl]; simp [intOf] <;> omega
            · skip
              refine wp_cond_false (c_false hF223 rfl (decide_eq_false hc224)) ?_
              refine wp_region_lit ?_
              refine wpl_op (i := 0) rfl (o_val (v := (.int .i64 (a0 : Nat))) hF223 rfl rfl rfl rfl (rn_move (hF223.get rfl)) ?_)
              intro a231 hF232; clear hF223
              refine wpl_op (i := 1) rfl (o_val (v := (.int .i64 (half n0 : Nat))) hF232 rfl rfl rfl rfl (rn_move (hF232.get rfl)) ?_)
              intro a233 hF234; clear hF232
              refine wpl_op (i := 2) rfl (o_val (v := (.int .i64 (a0 - (half n0) : Nat))) hF234 rfl rfl rfl rfl (rn_subN (a := a0) (b := half n0) (hF234.get rfl) (hF234.get rfl) (by omega) (by omega)) ?_)
              intro a235 hF236; clear hF234
              refine wpl_op (i := 3) rfl (o_val (v := (.int .i64 (n0 : Nat))) hF236 rfl rfl rfl rfl (rn_move (hF236.get rfl)) ?_)
              intro a237 hF238; clear hF236
              refine wpl_op (i := 4) rfl (o_val (v := (.int .i64 (half n0 : Nat))) hF238 rfl rfl rfl rfl (rn_move (hF238.get rfl)) ?_)
              intro a239 hF240; clear hF238
              refine wpl_op (i := 5) rfl (o_val (v := (.int .i64 (n0 - (half n0) : Nat))) hF240 rfl rfl rfl rfl (rn_subN (a := n0) (b := half n0) (hF240.get rfl) (hF240.get rfl) (by omega) (by omega)) ?_)
              intro a241 hF242; clear hF240
              refine wpl_op (i := 6) rfl (o_val (v := (.int .i64 (a0 - (half n0) : Nat))) hF242 rfl rfl rfl rfl (rn_assign (hF242.get rfl)) ?_)
              intro a243 hF244; clear hF242
              refine wpl_op (i := 7) rfl (o_val (v := (.int .i64 (n0 - (half n0) : Nat))) hF244 rfl rfl rfl rfl (rn_assign (hF244.get rfl)) ?_)
              intro a245 hF246; clear hF244
              refine wpList_nil ?_
              have b247 : Blk w205 g2 26 (byteVals d) := (grown_blk hf210 hg207 ((b156.ext hx179).ext hx197) (by decide))
              have b248 : Blk w205 g10 26 (byteVals (List.replicate 32 0)) := (grown_blk hf210 hg207 ((b157.ext hx179).ext hx197) (by decide))
              refine ⟨⟨a0 - (half n0), n0 - (half n0), A203, nf + 1, c204, f0 ++ ([decide (((a0 : Nat) : Int) < ((half n0 : Nat) : Int))]), (((((((((hF246.nil.cons (q_get hF246 (t := 10) rfl (by first | rfl | (congr 1; omega) | (congr 1; done)))).cons (q_get hF246 (t := 28) rfl rfl)).cons (q_get hF246 (t := 9) rfl rfl)).cons (q_get hF246 (t := 8) rfl rfl)).cons (q_get hF246 (t := 4) rfl rfl)).cons (q_get hF246 (t := 3) rfl rfl)).cons (q_get hF246 (t := 2) rfl (by first | rfl | (congr 1; omega) | (congr 1; done)))).cons (q_get hF246 (t := 1) rfl (by first | rfl | (congr 1; omega) | (congr 1; done)))).cons (q_get hF246 (t := 0) rfl rfl)), (dirs_step2 rfl (by omega) (by omega) hp153), (by omega), (by omega), (ext_row ((((Ext.refl w).trans hx152).trans hx179).trans hx197) hg207 hf210 (by omega)), b247, b248, r206, (by omega), (by omega)⟩, ?_⟩
              rw [hF246.get (t := 2) rfl, hL161.get (t := 2) rfl]; simp [intOf] <;> omega
          · skip
            refine wp_cond_false (c_false hF171 rfl (decide_eq_false hc172)) ?_
            refine wp_exit ?_
            refine exit_then ?_
            refine exit_then ?_
            refine exit_here ?_
            refine hK147 _ _ ?_
            clear hK147
            refine wp_seq_k (fun K249 hK249 => ?_)
            refine wp_seq_k (fun K250 hK250 => ?_)
            refine wp_region_lit ?_
            refine wpl_op (i := 0) rfl (o_val (v := (.slice A p.length c)) hF171 rfl rfl rfl rfl (rn_move (hF171.get rfl)) ?_)
            intro a251 hF252; clear hF171
            refine wpl_op (i := 1) rfl (o_val (v := (.int .i64 (p.length : Nat))) hF252 rfl rfl rfl rfl (rn_len_slice Tryd.underlying30 (hF252.get rfl)) ?_)
            intro a253 hF254; clear hF252
            refine wpl_op (i := 2) rfl (o_val (v := (.slice Af nf cf)) hF254 rfl rfl rfl rfl (rn_move (hF254.get rfl)) ?_)
            intro a255 hF256; clear hF254
            refine wpl_op (i := 3) rfl (o_val (v := (.int .i64 (nf : Nat))) hF256 rfl rfl rfl rfl (rn_len_slice Tryd.underlying60 (hF256.get rfl)) ?_)
            intro a257 hF258; clear hF256
            refine wpl_op (i := 4) rfl (o_val (v := (.bool (decide (((p.length : Nat) : Int) ≠ ((nf : Nat) : Int))))) hF258 rfl rfl rfl rfl (rn_neq (hF258.get rfl) (hF258.get rfl)) ?_)
            intro a259 hF260; clear hF258
            refine wpList_nil ?_
            refine hK250 _ _ ?_
            clear hK250
            have hF261 := (((((((((((hF260.nil.cons (hF260.get (t := 54) (v := (.bool (decide (((p.length : Nat) : Int) ≠ ((nf : Nat) : Int))))) rfl)).cons (hF260.get (t := 31) (v := (.bool (decide ((1 : Int) < ((n0 : Nat) : Int))))) rfl)).cons (hF260.get (t := 10) (v := (.slice Af nf cf)) rfl)).cons (hF260.get (t := 28) (v := (.bool (decide ((n : Int) ≤ (at_ : Int))))) rfl)).cons (hF260.get (t := 9) (v := (.int .i64 0)) rfl)).cons (hF260.get (t := 8) (v := (.pointer (some ⟨g10, 0, none⟩))) rfl)).cons (hF260.get (t := 4) (v := (.pointer (some ⟨g2, 0, none⟩))) rfl)).cons (hF260.get (t := 3) (v := (.slice A p.length c)) rfl)).cons (hF260.get (t := 2) (v := (.int .i64 (n0 : Nat))) rfl)).cons (hF260.get (t := 1) (v := (.int .i64 (a0 : Nat))) rfl)).cons (hF260.get (t := 0) (v := (.agg (byteVals d).toArray)) rfl))
            clear hF260
            by_cases hc262 : ((p.length : Nat) : Int) ≠ ((nf : Nat) : Int)
            · skip
              refine wp_cond_true (c_true hF261 rfl (decide_eq_true hc262)) ?_
              refine wp_seq_k (fun K263 hK263 => ?_)
              refine wp_region_lit ?_
              refine wpl_op (i := 0) rfl (o_val (v := (.agg (byteVals (List.replicate 32 0)).toArray)) hF261 rfl rfl rfl rfl (rn_loadBlk (hF261.get rfl) b157 Tryd.underlying26 rfl ((by kernel_rfl : (Tryd.prog.info? 26).map (·.size) = some 32).trans (congrArg some (byteVals_len (show List.length (List.replicate 32 0) = _ from List.length_replicate)).symm))) ?_)
              intro a264 hF265; clear hF261
              refine wpl_op (i := 1) rfl (o_store (cells := (byteVals (List.replicate 32 0))) hF265 rfl rfl rfl rfl (hF265.get rfl) (hF265.get rfl) b157 ((by kernel_rfl : (Tryd.prog.info? 26).map (·.size) = some 32).trans (congrArg some (byteVals_len (show List.length (List.replicate 32 0) = _ from List.length_replicate)).symm)) ((byteVals_len (show List.length (List.replicate 32 0) = _ from List.length_replicate)).trans (byteVals_len (show List.length (List.replicate 32 0) = _ from List.length_replicate)).symm) (byteVals_one _) ?_)
              intro w266 b267 hg268; have z269 := hg268.size
              refine wpl_op (i := 2) rfl (o_val (v := (.int .i64 1)) hF265 rfl rfl rfl rfl (rn_assign rfl) ?_)
              intro a270 hF271; clear hF265
              refine wpList_nil ?_
              refine hK263 _ _ ?_
              clear hK263
              refine wp_ret ?_
              refine ret_then ?_
              refine retC1 hF271 rfl rfl rfl b267 Tryd.underlying26 rfl ((by kernel_rfl : (Tryd.prog.info? 26).map (·.size) = some 32).trans (congrArg some (byteVals_len (show List.length (List.replicate 32 0) = _ from List.length_replicate)).symm)) ?_
              have hdir : dirs an nn = f0 := by rw [hp153, dirs_one (by omega), List.append_nil]
              have r272 := (own_grownT r158 b157 hg268 (by decide))
              have hnf := Fl.boollen (Fl.own (S := fun b => w11.heap.size ≤ b) r272 (fun b hb => hb) (boolVals_one _))
              have hcl : climbF d at_ n p = (zero32, 1) := by rw [climbF, han, hnn, Int.toNat_natCast, Int.toNat_natCast, hdir, if_pos (.inr (by omega))]
              exact ⟨by rw [hcl]; rfl, (((Ext.refl w).trans hx152).grownN hg268 (by omega))⟩
            · skip
              refine wp_cond_false (c_false hF261 rfl (decide_eq_false hc262)) ?_
              refine wp_skip ?_
              refine hK249 _ _ ?_
              clear hK249
              refine wp_seq_k (fun K273 hK273 => ?_)
              refine wp_region_lit ?_
              refine wpl_op (i := 0) rfl (o_val (v := (.agg (byteVals d).toArray)) hF261 rfl rfl rfl rfl (rn_loadBlk (hF261.get rfl) b156 Tryd.underlying26 rfl ((by kernel_rfl : (Tryd.prog.info? 26).map (·.size) = some 32).trans (congrArg some (byteVals_len hd).symm))) ?_)
              intro a274 hF275; clear hF261
              refine wpl_op (i := 1) rfl (o_call hF275 rfl rfl rfl rfl (rn_call (args1 (hF275.get rfl)) rfl (by kernel_rfl)) (leaf_any d _ hd (hG.ext ((Ext.refl w).trans hx152))) ?_)
              rintro _ w276 ⟨rfl, hx277⟩
              refine ⟨_, rfl, ?_⟩; intro a278 hF279; clear hF275; have z280 := hx277.size
              have b284 : Blk w276 g10 26 (byteVals (List.replicate 32 0)) := (b157.ext hx277)
              refine wpl_op (i := 2) rfl (o_store (cells := (byteVals (leafD d))) hF279 rfl rfl rfl rfl (hF279.get rfl) (hF279.get rfl) b284 ((by kernel_rfl : (Tryd.prog.info? 26).map (·.size) = some 32).trans (congrArg some (byteVals_len (leafD_len _)).symm)) ((byteVals_len (show List.length (List.replicate 32 0) = _ from List.length_replicate)).trans (byteVals_len (leafD_len _)).symm) (byteVals_one _) ?_)
              intro w281 b282 hg283; have z285 := hg283.size
              refine wpList_nil ?_
              refine hK273 _ _ ?_
              clear hK273
              refine wp_seq_k (fun K286 hK286 => ?_)
              refine wp_seq_k (fun K287 hK287 => ?_)
              refine wp_region_lit ?_
              refine wpl_op (i := 0) rfl (o_val (v := (.slice A p.length c)) hF279 rfl rfl rfl rfl (rn_move (hF279.get rfl)) ?_)
              intro a288 hF289; clear hF279
              refine wpl_op (i := 1) rfl (o_val (v := (.int .i64 (p.length : Nat))) hF289 rfl rfl rfl rfl (rn_len_slice Tryd.underlying30 (hF289.get rfl)) ?_)
              intro a290 hF291; clear hF289
              refine wpl_op (i := 2) rfl (o_val (v := (.int .i64 0)) hF291 rfl rfl rfl rfl (rn_move rfl) ?_)
              intro a292 hF293; clear hF291
              refine wpList_nil ?_
              refine hK287 _ _ ?_
              clear hK287
              refine wp_block ?_
              have hdir : dirs an nn = f0 := by rw [hp153, dirs_one (by omega), List.append_nil]
              have r294 := (own_grownT (own_ext r158 hx277) b284 hg283 (by decide))
              have hnf := Fl.boollen (Fl.own (S := fun b => w11.heap.size ≤ b) r294 (fun b hb => hb) (boolVals_one _))
              have b295 : Blk w281 g2 26 (byteVals d) := ((b156.ext hx277).grownN hg283 (by omega))
              refine wp_loop (fun a' W => ∃ (k : Nat) (xx : List UInt8), Sl 81 [(0, (.agg (byteVals d).toArray)), (1, (.int .i64 (a0 : Nat))), (2, (.int .i64 (n0 : Nat))), (3, (.slice A p.length c)), (4, (.pointer (some ⟨g2, 0, none⟩))), (8, (.pointer (some ⟨g10, 0, none⟩))), (9, (.int .i64 0)), (28, (.bool (decide ((n : Int) ≤ (at_ : Int))))), (10, (.slice Af nf cf)), (31, (.bool (decide ((1 : Int) < ((n0 : Nat) : Int))))), (54, (.bool (decide (((p.length : Nat) : Int) ≠ ((nf : Nat) : Int))))), (58, (.slice A p.length c)), (59, (.int .i64 (p.length : Nat))), (60, (.int .i64 (k : Nat)))] a' ∧ k ≤ p.length ∧ xx.length = 32 ∧ xx = climbTo d f0 p k ∧ Ext w W ∧ Blk W g2 26 (byteVals d) ∧ Blk W g10 26 (byteVals xx) ∧ W.ownsRow w11.heap.size 4 1 (.slice Af nf cf) nf (boolVals f0) ∧ w11.heap.size ≤ W.heap.size ∧ w281.heap.size ≤ W.heap.size) (fun a' _ => p.length - (intOf (a'.eval (.tmp 60))).toNat) ⟨0, leafD d, ((((((((((((((hF293.nil.cons (q_get hF293 (t := 60) rfl (by first | rfl | (congr 1; omega) | (congr 1; done)))).cons (q_get hF293 (t := 59) rfl rfl)).cons (q_get hF293 (t := 58) rfl rfl)).cons (q_get hF293 (t := 54) rfl rfl)).cons (q_get hF293 (t := 31) rfl rfl)).cons (q_get hF293 (t := 10) rfl rfl)).cons (q_get hF293 (t := 28) rfl rfl)).cons (q_get hF293 (t := 9) rfl rfl)).cons (q_get hF293 (t := 8) rfl rfl)).cons (q_get hF293 (t := 4) rfl rfl)).cons (q_get hF293 (t := 3) rfl rfl)).cons (q_get hF293 (t := 2) rfl rfl)).cons (q_get hF293 (t := 1) rfl rfl)).cons (q_get hF293 (t := 0) rfl rfl)), (by omega), (leafD_len _), rfl, ((((Ext.refl w).trans hx152).trans hx277).grownN hg283 (by omega)), b295, b282, r294, (by omega), (Nat.le_refl _)⟩ ?_
              clear hF293
              rintro a296 w297 ⟨k, xx, hF298, hp300, hp301, hp302, hx299, b303, b304, r305, hf306, hf307⟩
              have hL308 := hF298
              have z309 := hx299.size
              have z310 := b303.lt
              have z311 := b304.lt
              have z312 := own_form0 r305
              have hxl : xx.length = 32 := hp301
              refine wp_seq_k (fun K313 hK313 => ?_)
              refine wp_region_lit ?_
              refine wpl_op (i := 0) rfl (o_val (v := (.bool (decide (((k : Nat) : Int) < ((p.length : Nat) : Int))))) hF298 rfl rfl rfl rfl (rn_lss (hF298.get rfl) (hF298.get rfl)) ?_)
              intro a314 hF315; clear hF298
              refine wpList_nil ?_
              refine hK313 _ _ ?_
              clear hK313
              refine wp_seq_k (fun K316 hK316 => ?_)
              by_cases hc317 : ((k : Nat) : Int) < ((p.length : Nat) : Int)
              · skip
                refine wp_cond_true (c_true hF315 rfl (decide_eq_true hc317)) ?_
                refine wp_skip ?_
                refine hK316 _ _ ?_
                clear hK316
                refine wp_seq_k (fun K318 hK318 => ?_)
                refine wp_block ?_
                refine wp_seq_k (fun K319 hK319 => ?_)
                refine wp_region_lit ?_
                refine wpl_op (i := 0) rfl (o_val (v := (.int .i64 (k : Nat))) hF315 rfl rfl rfl rfl (rn_move (hF315.get rfl)) ?_)
                intro a320 hF321; clear hF315
                have d325 := (hc.ext hx299)
                obtain ⟨b322, o323, hA324, -⟩ := Fl.at d325 (by omega)
                refine wpl_op (i := 1) rfl (o_val (v := (.pointer (some ⟨b322, o323 + k * 32, none⟩))) hF321 rfl rfl rfl rfl (rn_indexE Tryd.underlying30 (by kernel_rfl : (Tryd.prog.info? 26).map (·.size) = some 32) ((hF321.get rfl).trans (by rw [hA324])) (hF321.get rfl) (by omega : (0 : Int) ≤ (k : Nat)) (by omega : ((k : Nat) : Int) < ((p.length : Nat) : Int)) (by omega)) ?_)
                intro a326 hF327; clear hF321
                refine wpl_op (i := 2) rfl (o_val (v := (.agg (byteVals (p.getD k [])).toArray)) hF327 rfl rfl rfl rfl (rn_loadN (cs := byteVals (p.getD k [])) (hF327.get rfl) Tryd.underlying26 rfl ((by kernel_rfl : (Tryd.prog.info? 26).map (·.size) = some 32).trans (congrArg some (byteVals_len (dig_len h32 k (by omega))).symm)) (Fl.digAt d325 hA324 h32 (by omega))) ?_)
                intro a328 hF329; clear hF327
                refine wpl_op (i := 3) rfl (o_new (fun g => (.pointer (some ⟨g, 0, none⟩))) (byteVals (List.replicate 32 0)) 26 hF329 rfl rfl rfl rfl (by kernel_rfl) ?_)
                intro g330 w331 a336 hF337 z334 z335 b332 hx333; clear hF329
                refine wpl_op (i := 4) rfl (o_val (v := (.int .i64 (k : Nat))) hF337 rfl rfl rfl rfl (rn_assign (hF337.get rfl)) ?_)
                intro a338 hF339; clear hF337
                refine wpl_op (i := 5) rfl (o_store (cells := (byteVals (p.getD k []))) hF339 rfl rfl rfl rfl (hF339.get rfl) (hF339.get rfl) b332 ((by kernel_rfl : (Tryd.prog.info? 26).map (·.size) = some 32).trans (congrArg some (byteVals_len (dig_len h32 k (by omega))).symm)) ((byteVals_len (show List.length (List.replicate 32 0) = _ from List.length_replicate)).trans (byteVals_len (dig_len h32 k (by omega))).symm) (byteVals_one _) ?_)
                intro w340 b341 hg342; have z343 := hg342.size
                refine wpList_nil ?_
                refine hK319 _ _ ?_
                clear hK319
                refine wp_seq_k (fun K344 hK344 => ?_)
                refine wp_region_lit ?_
                refine wpl_op (i := 0) rfl (o_val (v := (.slice Af nf cf)) hF339 rfl rfl rfl rfl (rn_move (hF339.get rfl)) ?_)
                intro a345 hF346; clear hF339
                refine wpl_op (i := 1) rfl (o_val (v := (.slice Af nf cf)) hF346 rfl rfl rfl rfl (rn_move (hF346.get rfl)) ?_)
                intro a347 hF348; clear hF346
                refine wpl_op (i := 2) rfl (o_val (v := (.int .i64 (nf : Nat))) hF348 rfl rfl rfl rfl (rn_len_slice Tryd.underlying60 (hF348.get rfl)) ?_)
                intro a349 hF350; clear hF348
                refine wpl_op (i := 3) rfl (o_val (v := (.int .i64 (nf - 1 : Nat))) hF350 rfl rfl rfl rfl (rn_subN (a := nf) (b := 1) (hF350.get rfl) rfl (by omega) (by omega)) ?_)
                intro a351 hF352; clear hF350
                refine wpl_op (i := 4) rfl (o_val (v := (.int .i64 (k : Nat))) hF352 rfl rfl rfl rfl (rn_move (hF352.get rfl)) ?_)
                intro a353 hF354; clear hF352
                refine wpl_op (i := 5) rfl (o_val (v := (.int .i64 ((nf - 1) - k : Nat))) hF354 rfl rfl rfl rfl (rn_subN (a := nf - 1) (b := k) (hF354.get rfl) (hF354.get rfl) (by omega) (by omega)) ?_)
                intro a355 hF356; clear hF354
                have r360 := (own_grownT (own_ext r305 hx333) b332 hg342 (by decide))
                have hf361 := (Fl.own (S := fun b => w11.heap.size ≤ b) r360 (fun b hb => hb) (boolVals_one _))
                obtain ⟨b357, o358, hA359, -⟩ := Fl.at hf361 (by omega)
                refine wpl_op (i := 6) rfl (o_val (v := (.pointer (some ⟨b357, o358 + ((nf - 1) - k), none⟩))) hF356 rfl rfl rfl rfl (rn_index1 Tryd.underlying60 (by kernel_rfl : (Tryd.prog.info? 4).map (·.size) = some 1) ((hF356.get rfl).trans (by rw [hA359])) (hF356.get rfl) (by omega : (0 : Int) ≤ ((nf - 1) - k : Nat)) (by omega : (((nf - 1) - k : Nat) : Int) < ((nf : Nat) : Int))) ?_)
                intro a362 hF363; clear hF356
                refine wpl_op (i := 7) rfl (o_val (v := (.bool (f0.getD ((nf - 1) - k) false))) hF363 rfl rfl rfl rfl (rn_load (isAgg_no Tryd.underlying4 rfl) (hF363.get rfl) (Fl.cellAt hf361 hA359 (boolVals_at (i := ((nf - 1) - k)) (by have := hnf; omega)))) ?_)
                intro a364 hF365; clear hF363
                refine wpList_nil ?_
                refine hK344 _ _ ?_
                clear hK344
                have hF366 := ((((((((((((((((((hF365.nil.cons (hF365.get (t := 72) (v := (.bool (f0.getD ((nf - 1) - k) false))) rfl)).cons (hF365.get (t := 12) (v := (.int .i64 (k : Nat))) rfl)).cons (hF365.get (t := 13) (v := (.pointer (some ⟨g330, 0, none⟩))) rfl)).cons (hF365.get (t := 61) (v := (.bool (decide (((k : Nat) : Int) < ((p.length : Nat) : Int))))) rfl)).cons (hF365.get (t := 60) (v := (.int .i64 (k : Nat))) rfl)).cons (hF365.get (t := 59) (v := (.int .i64 (p.length : Nat))) rfl)).cons (hF365.get (t := 58) (v := (.slice A p.length c)) rfl)).cons (hF365.get (t := 54) (v := (.bool (decide (((p.length : Nat) : Int) ≠ ((nf : Nat) : Int))))) rfl)).cons (hF365.get (t := 31) (v := (.bool (decide ((1 : Int) < ((n0 : Nat) : Int))))) rfl)).cons (hF365.get (t := 10) (v := (.slice Af nf cf)) rfl)).cons (hF365.get (t := 28) (v := (.bool (decide ((n : Int) ≤ (at_ : Int))))) rfl)).cons (hF365.get (t := 9) (v := (.int .i64 0)) rfl)).cons (hF365.get (t := 8) (v := (.pointer (some ⟨g10, 0, none⟩))) rfl)).cons (hF365.get (t := 4) (v := (.pointer (some ⟨g2, 0, none⟩))) rfl)).cons (hF365.get (t := 3) (v := (.slice A p.length c)) rfl)).cons (hF365.get (t := 2) (v := (.int .i64 (n0 : Nat))) rfl)).cons (hF365.get (t := 1) (v := (.int .i64 (a0 : Nat))) rfl)).cons (hF365.get (t := 0) (v := (.agg (byteVals d).toArray)) rfl))
                clear hF365
                rcases Bool.eq_false_or_eq_true (f0.getD ((nf - 1) - k) false) with hc367 | hc367
                · skip
                  refine wp_cond_true (c_true hF366 rfl hc367) ?_
                  refine wp_region_lit ?_
                  have b368 : Blk w340 g10 26 (byteVals xx) := ((b304.ext hx333).grownN hg342 (by omega))
                  refine wpl_op (i := 0) rfl (o_val (v := (.agg (byteVals xx).toArray)) hF366 rfl rfl rfl rfl (rn_loadBlk (hF366.get rfl) b368 Tryd.underlying26 rfl ((by kernel_rfl : (Tryd.prog.info? 26).map (·.size) = some 32).trans (congrArg some (byteVals_len hxl).symm))) ?_)
                  intro a369 hF370; clear hF366
                  refine wpl_op (i := 1) rfl (o_val (v := (.agg (byteVals (p.getD k [])).toArray)) hF370 rfl rfl rfl rfl (rn_loadBlk (hF370.get rfl) b341 Tryd.underlying26 rfl ((by kernel_rfl : (Tryd.prog.info? 26).map (·.size) = some 32).trans (congrArg some (byteVals_len (dig_len h32 k (by omega))).symm))) ?_)
                  intro a371 hF372; clear hF370
                  refine wpl_op (i := 2) rfl (o_call hF372 rfl rfl rfl rfl (rn_call (args2 (hF372.get rfl) (hF372.get rfl)) rfl (by kernel_rfl)) (node_any xx (p.getD k []) _ hxl (dig_len h32 k (by omega)) (hG.ext ((((Ext.refl w).trans hx299).trans hx333).grownN hg342 (by omega)))) ?_)
                  rintro _ w373 ⟨rfl, hx374⟩
                  refine ⟨_, rfl, ?_⟩; intro a375 hF376; clear hF372; have z377 := hx374.size
                  have b381 : Blk w373 g10 26 (byteVals xx) := (b368.ext hx374)
                  refine wpl_op (i := 3) rfl (o_store (cells := (byteVals (nodeD xx (p.getD k [])))) hF376 rfl rfl rfl rfl (hF376.get rfl) (hF376.get rfl) b381 ((by kernel_rfl : (Tryd.prog.info? 26).map (·.size) = some 32).trans (congrArg some (byteVals_len (nodeD_len _ _)).symm)) ((byteVals_len hxl).trans (byteVals_len (nodeD_len _ _)).symm) (byteVals_one _) ?_)
                  intro w378 b379 hg380; have z382 := hg380.size
                  refine wpList_nil ?_
                  refine hK318 _ _ ?_
                  clear hK318
                  refine wp_region_lit ?_
                  refine wpl_op (i := 0) rfl (o_val (v := (.int .i64 (k + 1 : Nat))) hF376 rfl rfl rfl rfl (rn_addN (a := k) (b := 1) (hF376.get rfl) rfl (by omega)) ?_)
                  intro a383 hF384; clear hF376
                  refine wpl_op (i := 1) rfl (o_val (v := (.int .i64 (k + 1 : Nat))) hF384 rfl rfl rfl rfl (rn_move (hF384.get rfl)) ?_)
                  intro a385 hF386; clear hF384
                  refine wpList_nil ?_
                  have b387 : Blk w378 g2 26 (byteVals d) := ((((b303.ext hx333).grownN hg342 (by omega)).ext hx374).grownN hg380 (by omega))
                  have r388 := (own_grownT (own_ext r360 hx374) b381 hg380 (by decide))
                  refine ⟨⟨(k + 1), nodeD xx (p.getD k []), ((((((((((((((hF386.nil.cons (q_get hF386 (t := 60) rfl (by first | rfl | (congr 1; omega) | (congr 1; done)))).cons (q_get hF386 (t := 59) rfl rfl)).cons (q_get hF386 (t := 58) rfl rfl)).cons (q_get hF386 (t := 54) rfl rfl)).cons (q_get hF386 (t := 31) rfl rfl)).cons (q_get hF386 (t := 10) rfl rfl)).cons (q_get hF386 (t := 28) rfl rfl)).cons (q_get hF386 (t := 9) rfl rfl)).cons (q_get hF386 (t := 8) rfl rfl)).cons (q_get hF386 (t := 4) rfl rfl)).cons (q_get hF386 (t := 3) rfl rfl)).cons (q_get hF386 (t := 2) rfl rfl)).cons (q_get hF386 (t := 1) rfl rfl)).cons (q_get hF386 (t := 0) rfl rfl)), (by omega), (nodeD_len _ _), (climbTo_t hp302 (by omega) (by omega) (by omega) hc367), ((((((Ext.refl w).trans hx299).trans hx333).grownN hg342 (by omega)).trans hx374).grownN hg380 (by omega)), b387, b379, r388, (by omega), (by omega)⟩, ?_⟩
                  rw [hF386.get (t := 60) rfl, hL308.get (t := 60) rfl]; simp [intOf] <;> omega
                · skip
                  refine wp_cond_false (c_false hF366 rfl hc367) ?_
                  refine wp_region_lit ?_
                  refine wpl_op (i := 0) rfl (o_val (v := (.agg (byteVals (p.getD k [])).toArray)) hF366 rfl rfl rfl rfl (rn_loadBlk (hF366.get rfl) b341 Tryd.underlying26 rfl ((by kernel_rfl : (Tryd.prog.info? 26).map (·.size) = some 32).trans (congrArg some (byteVals_len (dig_len h32 k (by omega))).symm))) ?_)
                  intro a389 hF390; clear hF366
                  have b391 : Blk w340 g10 26 (byteVals xx) := ((b304.ext hx333).grownN hg342 (by omega))
                  refine wpl_op (i := 1) rfl (o_val (v := (.agg (byteVals xx).toArray)) hF390 rfl rfl rfl rfl (rn_loadBlk (hF390.get rfl) b391 Tryd.underlying26 rfl ((by kernel_rfl : (Tryd.prog.info? 26).map (·.size) = some 32).trans (congrArg some (byteVals_len hxl).symm))) ?_)
                  intro a392 hF393; clear hF390
                  refine wpl_op (i := 2) rfl (o_call hF393 rfl rfl rfl rfl (rn_call (args2 (hF393.get rfl) (hF393.get rfl)) rfl (by kernel_rfl)) (node_any (p.getD k []) xx _ (dig_len h32 k (by omega)) hxl (hG.ext ((((Ext.refl w).trans hx299).trans hx333).grownN hg342 (by omega)))) ?_)
                  rintro _ w394 ⟨rfl, hx395⟩
                  refine ⟨_, rfl, ?_⟩; intro a396 hF397; clear hF393; have z398 := hx395.size
                  have b402 : Blk w394 g10 26 (byteVals xx) := (b391.ext hx395)
                  refine wpl_op (i := 3) rfl (o_store (cells := (byteVals (nodeD (p.getD k []) xx))) hF397 rfl rfl rfl rfl (hF397.get rfl) (hF397.get rfl) b402 ((by kernel_rfl : (Tryd.prog.info? 26).map (·.size) = some 32).trans (congrArg some (byteVals_len (nodeD_len _ _)).symm)) ((byteVals_len hxl).trans (byteVals_len (nodeD_len _ _)).symm) (byteVals_one _) ?_)
                  intro w399 b400 hg401; have z403 := hg401.size
                  refine wpList_nil ?_
                  refine hK318 _ _ ?_
                  clear hK318
                  refine wp_region_lit ?_
                  refine wpl_op (i := 0) rfl (o_val (v := (.int .i64 (k + 1 : Nat))) hF397 rfl rfl rfl rfl (rn_addN (a := k) (b := 1) (hF397.get rfl) rfl (by omega)) ?_)
                  intro a404 hF405; clear hF397
                  refine wpl_op (i := 1) rfl (o_val (v := (.int .i64 (k + 1 : Nat))) hF405 rfl rfl rfl rfl (rn_move (hF405.get rfl)) ?_)
                  intro a406 hF407; clear hF405
                  refine wpList_nil ?_
                  have b408 : Blk w399 g2 26 (byteVals d) := ((((b303.ext hx333).grownN hg342 (by omega)).ext hx395).grownN hg401 (by omega))
                  have r409 := (own_grownT (own_ext r360 hx395) b402 hg401 (by decide))
                  refine ⟨⟨(k + 1), nodeD (p.getD k []) xx, ((((((((((((((hF407.nil.cons (q_get hF407 (t := 60) rfl (by first | rfl | (congr 1; omega) | (congr 1; done)))).cons (q_get hF407 (t := 59) rfl rfl)).cons (q_get hF407 (t := 58) rfl rfl)).cons (q_get hF407 (t := 54) rfl rfl)).cons (q_get hF407 (t := 31) rfl rfl)).cons (q_get hF407 (t := 10) rfl rfl)).cons (q_get hF407 (t := 28) rfl rfl)).cons (q_get hF407 (t := 9) rfl rfl)).cons (q_get hF407 (t := 8) rfl rfl)).cons (q_get hF407 (t := 4) rfl rfl)).cons (q_get hF407 (t := 3) rfl rfl)).cons (q_get hF407 (t := 2) rfl rfl)).cons (q_get hF407 (t := 1) rfl rfl)).cons (q_get hF407 (t := 0) rfl rfl)), (by omega), (nodeD_len _ _), (climbTo_f hp302 (by omega) (by omega) (by omega) hc367), ((((((Ext.refl w).trans hx299).trans hx333).grownN hg342 (by omega)).trans hx395).grownN hg401 (by omega)), b408, b400, r409, (by omega), (by omega)⟩, ?_⟩
                  rw [hF407.get (t := 60) rfl, hL308.get (t := 60) rfl]; simp [intOf] <;> omega
              · skip
                refine wp_cond_false (c_false hF315 rfl (decide_eq_false hc317)) ?_
                refine wp_exit ?_
                refine exit_then ?_
                refine exit_then ?_
                refine exit_here ?_
                refine hK286 _ _ ?_
                clear hK286
                refine wp_seq_k (fun K410 hK410 => ?_)
                refine wp_region_lit ?_
                refine wpl_op (i := 0) rfl (o_val (v := (.agg (byteVals xx).toArray)) hF315 rfl rfl rfl rfl (rn_loadBlk (hF315.get rfl) b304 Tryd.underlying26 rfl ((by kernel_rfl : (Tryd.prog.info? 26).map (·.size) = some 32).trans (congrArg some (byteVals_len hxl).symm))) ?_)
                intro a411 hF412; clear hF315
                refine wpl_op (i := 1) rfl (o_store (cells := (byteVals xx)) hF412 rfl rfl rfl rfl (hF412.get rfl) (hF412.get rfl) b304 ((by kernel_rfl : (Tryd.prog.info? 26).map (·.size) = some 32).trans (congrArg some (byteVals_len hxl).symm)) ((byteVals_len hxl).trans (byteVals_len hxl).symm) (byteVals_one _) ?_)
                intro w413 b414 hg415; have z416 := hg415.size
                refine wpl_op (i := 2) rfl (o_val (v := (.int .i64 0)) hF412 rfl rfl rfl rfl (rn_assign rfl) ?_)
                intro a417 hF418; clear hF412
                refine wpList_nil ?_
                refine hK410 _ _ ?_
                clear hK410
                refine wp_ret ?_
                refine retC1 hF418 rfl rfl rfl b414 Tryd.underlying26 rfl ((by kernel_rfl : (Tryd.prog.info? 26).map (·.size) = some 32).trans (congrArg some (byteVals_len hxl).symm)) ?_
                have hcl : climbF d at_ n p = (climbL nodeD leafD d an nn p, 0) := by rw [climbF, han, hnn, Int.toNat_natCast, Int.toNat_natCast, hdir, if_neg (by omega)]
                have hdone := climbTo_done hp302 (by omega) (by omega) hdir
                exact ⟨by rw [hcl, ← hdone], (((Ext.refl w).trans hx299).grownN hg415 (by omega))⟩

theorem climb_at {v : Value} {m : Nat} (d : List UInt8) (at_ n : Int) (p : List (List UInt8)) (w : World) (hd : d.length = 32) (h32 : All32 p) (hf : Fl S w 32 v m (digVals p)) (hG : Glob w) : Calls Tryd.prog 21 #[.agg (byteVals d).toArray, .int .i64 at_, .int .i64 n, v] w (fun e w' => e = .returned (.tuple #[.agg (byteVals (climbF d at_ n p).1).toArray, .int .i64 (climbF d at_ n p).2]) ∧ Ext w w') := by
  have hm := Fl.dlen hf h32
  subst hm
  obtain ⟨A, c, rfl, _⟩ := hf.form
  exact climb_any d at_ n A c p w hd h32 hf hG

end Go.Proofs.YtgodliookpgliaaDoor
