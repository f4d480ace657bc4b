/- The law DigestPlaces walked. -/
import Derived.Test.YtgodliookpgliaaDoorProg
import Derived.Test.YtgodliookpgliaaDoorLawB3
import Derived.Test.YtgodliookpgliaaDoorWk11
import Derived.KernelRfl
namespace Go.Proofs.YtgodliookpgliaaDoor
open Go.RowKit

variable {S S' : Nat → Prop}

/-- the bits that two numbers have both -/
def andI (a b : Int) : Int := IntKind.i64.wrap ((BitVec.ofInt IntKind.i64.bits a &&& BitVec.ofInt IntKind.i64.bits b).toNat : Nat)
theorem rn_andI {P : Program} {ρ : Operand → Value} {W : World} {d : Option Tmp} {t xt yt : TypeId} {p : String} {af : Array Edge} {g : Option (Nat × Bool)} {x y : Operand} {a b : Int} (hx : ρ x = .int .i64 a) (hy : ρ y = .int .i64 b) : (execOp ρ ⟨d, .binOp .and xt x y yt, t, p, af, g⟩).run P W = .ok (.value (.int .i64 (andI a b))) W :=
  rn_bin hx hy guard_int (by simp only [binOp, Op.intBits, ne_eq, not_true_eq_false, if_false, Sem.run_pure]; rfl)
theorem path_out (l : List (List UInt8)) (a : Int) (h : a < 0 ∨ (l.length : Int) ≤ a) : pathF l a = ([], 1) := by rw [pathF, if_pos h]
theorem path_at' (l : List (List UInt8)) (a : Int) (h0 : 0 ≤ a) (h : a < (l.length : Int)) : pathF l a = (pathD l a.toNat, 0) := by rw [pathF, if_neg (by omega)]
theorem pathF_dirs (l : List (List UInt8)) (a : Int) (h0 : 0 ≤ a) (h : a < (l.length : Int)) : (pathF l a).1.length = (dirs a.toNat ((l.length : Nat) : Int).toNat).length := by rw [path_at' l a h0 h, Int.toNat_natCast]; exact path_len _ _ _ _ _

set_option maxRecDepth 100000 in
set_option maxHeartbeats 1000000 in
theorem places_any (A : Option Addr) (c : Nat) (s : List UInt8) (w : World) (hf : Fl S w 1 (.slice A s.length c) s.length (byteVals s)) (hG : Glob w) (at_ n : Int) :
    Calls Tryd.prog 9 #[.slice A s.length c, .int .i64 at_, .int .i64 n] w (fun e w' => e = .returned (.bool true) ∧ Ext w w') := by
  have hc : Fl (Clip S w) w 1 (.slice A s.length c) s.length (byteVals s) := hf.clip
  have hcc := (Fl.cel hc).2.1
  refine calls_enter (l := [(.slice A s.length c), (.int .i64 at_), (.int .i64 n)]) Tryd.func9 rfl rfl rfl (fun aA hF => ?_)
  refine wp_seq_k (fun K1 hK1 => ?_)
  refine wp_region_lit ?_
  refine wpl_op (i := 0) rfl (o_val (v := (.bool false)) hF rfl rfl rfl rfl (rn_assign rfl) ?_)
  intro a2 hF3; clear hF
  refine wpList_nil ?_
  refine hK1 _ _ ?_
  clear hK1
  refine wp_seq_k (fun K4 hK4 => ?_)
  refine wp_seq_k (fun K5 hK5 => ?_)
  refine wp_region_lit ?_
  refine wpl_op (i := 0) rfl (o_call hF3 rfl rfl rfl rfl (rn_call (args0 ) rfl (by kernel_rfl)) (sane_any _ (hG.ext (Ext.refl w))) ?_)
  rintro _ w6 ⟨rfl, hx7⟩
  refine ⟨_, rfl, ?_⟩; intro a8 hF9; clear hF3; have z10 := hx7.size
  refine wpl_op (i := 1) rfl (o_val (v := (.bool false)) hF9 rfl rfl rfl rfl (rn_not' (hF9.get rfl) rfl) ?_)
  intro a11 hF12; clear hF9
  refine wpList_nil ?_
  refine hK5 _ _ ?_
  clear hK5
  refine wp_cond_false (c_false hF12 rfl rfl) ?_
  refine wp_skip ?_
  refine hK4 _ _ ?_
  clear hK4
  refine wp_seq_k (fun K13 hK13 => ?_)
  refine wp_region_lit ?_
  refine wpl_op (i := 0) rfl (o_val (v := (.slice A s.length c)) hF12 rfl rfl rfl rfl (rn_move (hF12.get rfl)) ?_)
  intro a14 hF15; clear hF12
  have d16 := (hc.ext hx7)
  refine wpl_op (i := 1) rfl (o_call hF15 rfl rfl rfl rfl (rn_call (args1 (hF15.get rfl)) rfl (by kernel_rfl)) (digsOf_at s _ (v := (.slice A s.length c)) (n := s.length) d16) ?_)
  rintro _ w23 ⟨A17, c18, rfl, hf19, hx24⟩
  have z20 := (Fl.cel hf19).2.1; have z22 := digsOf_len s
  refine ⟨_, rfl, ?_⟩; intro a25 hF26; clear hF15; have z27 := hx24.size
  have hf28 : Fl (Clip (fun b => w6.heap.size ≤ b) w23) w23 32 (.slice A17 ((digsOf s).length) c18) ((digsOf s).length) (digVals (digsOf s)) := hf19.clip
  refine wpl_op (i := 2) rfl (o_val (v := (.slice A17 ((digsOf s).length) c18)) hF26 rfl rfl rfl rfl (rn_assign (hF26.get rfl)) ?_)
  intro a29 hF30; clear hF26
  refine wpList_nil ?_
  refine hK13 _ _ ?_
  clear hK13
  refine wp_seq_k (fun K31 hK31 => ?_)
  refine wp_region_lit ?_
  refine wpl_op (i := 0) rfl (o_val (v := (.slice A17 ((digsOf s).length) c18)) hF30 rfl rfl rfl rfl (rn_move (hF30.get rfl)) ?_)
  intro a32 hF33; clear hF30
  refine wpl_op (i := 1) rfl (o_val (v := (.int .i64 at_)) hF33 rfl rfl rfl rfl (rn_move (hF33.get rfl)) ?_)
  intro a34 hF35; clear hF33
  refine wpl_op (i := 2) rfl (o_call hF35 rfl rfl rfl rfl (rn_call (args2 (hF35.get rfl) (hF35.get rfl)) rfl (by kernel_rfl)) (path_at (digsOf s) at_ _ (v := (.slice A17 ((digsOf s).length) c18)) (n := (digsOf s).length) (digsOf_32 _) hf28 (hG.ext (((Ext.refl w).trans hx7).trans hx24)) (by omega)) ?_)
  rintro _ w43 ⟨A36, n37, c38, rfl, hf39, h3240, hx44⟩
  have z41 := (Fl.cel hf39).2.1
  have z42 := Fl.dlen hf39 h3240
  refine ⟨_, rfl, ?_⟩; intro a45 hF46; clear hF35; have z47 := hx44.size
  have hf48 : Fl (Clip (fun b => w23.heap.size ≤ b) w43) w43 32 (.slice A36 n37 c38) n37 (digVals ((pathF (digsOf s) at_).1)) := hf39.clip
  have hq49 := Fl.dlen hf48 (pathF_32 (digsOf s) at_)
  refine wpl_op (i := 3) rfl (o_val (v := (.tuple #[(.slice A36 n37 c38), (.int .i64 ((pathF (digsOf s) at_).2))])) hF46 rfl rfl rfl rfl (rn_move (hF46.get rfl)) ?_)
  intro a50 hF51; clear hF46
  refine wpl_op (i := 4) rfl (o_val (v := (.slice A36 n37 c38)) hF51 rfl rfl rfl rfl (rn_extract (hF51.get rfl) rfl) ?_)
  intro a52 hF53; clear hF51
  refine wpl_op (i := 5) rfl (o_val (v := (.int .i64 ((pathF (digsOf s) at_).2))) hF53 rfl rfl rfl rfl (rn_extract (hF53.get rfl) rfl) ?_)
  intro a54 hF55; clear hF53
  refine wpl_op (i := 6) rfl (o_val (v := (.slice A36 n37 c38)) hF55 rfl rfl rfl rfl (rn_assign (hF55.get rfl)) ?_)
  intro a56 hF57; clear hF55
  refine wpl_op (i := 7) rfl (o_val (v := (.int .i64 ((pathF (digsOf s) at_).2))) hF57 rfl rfl rfl rfl (rn_assign (hF57.get rfl)) ?_)
  intro a58 hF59; clear hF57
  refine wpList_nil ?_
  refine hK31 _ _ ?_
  clear hK31
  have hF60 := ((((((((hF59.nil.cons (hF59.get (t := 9) (v := (.int .i64 ((pathF (digsOf s) at_).2))) rfl)).cons (hF59.get (t := 8) (v := (.slice A36 n37 c38)) rfl)).cons (hF59.get (t := 7) (v := (.slice A17 ((digsOf s).length) c18)) rfl)).cons (hF59.get (t := 16) (v := (.bool false)) rfl)).cons (hF59.get (t := 6) (v := (.bool false)) rfl)).cons (hF59.get (t := 2) (v := (.int .i64 n)) rfl)).cons (hF59.get (t := 1) (v := (.int .i64 at_)) rfl)).cons (hF59.get (t := 0) (v := (.slice A s.length c)) rfl))
  clear hF59
  refine wp_seq_k (fun K61 hK61 => ?_)
  refine wp_seq_k (fun K62 hK62 => ?_)
  refine wp_region_lit ?_
  refine wpl_op (i := 0) rfl (o_val (v := (.int .i64 at_)) hF60 rfl rfl rfl rfl (rn_move (hF60.get rfl)) ?_)
  intro a63 hF64; clear hF60
  refine wpl_op (i := 1) rfl (o_val (v := (.bool (decide ((at_ : Int) < (0 : Int))))) hF64 rfl rfl rfl rfl (rn_lss (hF64.get rfl) rfl) ?_)
  intro a65 hF66; clear hF64
  refine wpl_op (i := 2) rfl (o_val (v := (.bool (decide ((at_ : Int) < (0 : Int))))) hF66 rfl rfl rfl rfl (rn_move (hF66.get rfl)) ?_)
  intro a67 hF68; clear hF66
  by_cases hc69 : (at_ : Int) < (0 : Int)
  · skip
    refine wpl_op (i := 3) rfl (o_skip hF68 rfl (unwanted_guard rfl rfl rfl hF68 rfl (decide_eq_true hc69) rfl) rfl rfl ?_)
    intro a70 hF71; clear hF68
    refine wpl_op (i := 4) rfl (o_skip hF71 rfl (unwanted_guard rfl rfl rfl hF71 rfl (decide_eq_true hc69) rfl) rfl rfl ?_)
    intro a72 hF73; clear hF71
    refine wpl_op (i := 5) rfl (o_skip hF73 rfl (unwanted_guard rfl rfl rfl hF73 rfl (decide_eq_true hc69) rfl) rfl rfl ?_)
    intro a74 hF75; clear hF73
    refine wpl_op (i := 6) rfl (o_skip hF75 rfl (unwanted_guard rfl rfl rfl hF75 rfl (decide_eq_true hc69) rfl) rfl rfl ?_)
    intro a76 hF77; clear hF75
    refine wpl_op (i := 7) rfl (o_val (v := (.bool true)) hF77 rfl rfl rfl rfl (rn_pickT (c_true hF77 rfl (decide_eq_true hc69)) rfl) ?_)
    intro a78 hF79; clear hF77
    refine wpList_nil ?_
    refine hK62 _ _ ?_
    clear hK62
    have hF80 := (((((((((hF79.nil.cons (hF79.get (t := 32) (v := (.bool true)) rfl)).cons (hF79.get (t := 9) (v := (.int .i64 ((pathF (digsOf s) at_).2))) rfl)).cons (hF79.get (t := 8) (v := (.slice A36 n37 c38)) rfl)).cons (hF79.get (t := 7) (v := (.slice A17 ((digsOf s).length) c18)) rfl)).cons (hF79.get (t := 16) (v := (.bool false)) rfl)).cons (hF79.get (t := 6) (v := (.bool false)) rfl)).cons (hF79.get (t := 2) (v := (.int .i64 n)) rfl)).cons (hF79.get (t := 1) (v := (.int .i64 at_)) rfl)).cons (hF79.get (t := 0) (v := (.slice A s.length c)) rfl))
    clear hF79
    refine wp_cond_true (c_true hF80 rfl rfl) ?_
    refine wp_seq_k (fun K81 hK81 => ?_)
    refine wp_region_lit ?_
    refine wpl_op (i := 0) rfl (o_val (v := (.int .i64 ((pathF (digsOf s) at_).2))) hF80 rfl rfl rfl rfl (rn_move (hF80.get rfl)) ?_)
    intro a82 hF83; clear hF80
    refine wpl_op (i := 1) rfl (o_val (v := (.bool (decide (((pathF (digsOf s) at_).2 : Int) = (1 : Int))))) hF83 rfl rfl rfl rfl (rn_eql (hF83.get rfl) rfl) ?_)
    intro a84 hF85; clear hF83
    refine wpl_op (i := 2) rfl (o_val (v := (.bool (decide (((pathF (digsOf s) at_).2 : Int) = (1 : Int))))) hF85 rfl rfl rfl rfl (rn_move (hF85.get rfl)) ?_)
    intro a86 hF87; clear hF85
    refine wpl_op (i := 3) rfl (o_val (v := (.slice A36 n37 c38)) hF87 rfl (wanted_guard rfl rfl rfl hF87 rfl ((decide_eq_true (by rw [path_out _ _ (by omega)])) : decide (((pathF (digsOf s) at_).2 : Int) = (1 : Int)) = true) rfl) rfl rfl (rn_move (hF87.get rfl)) ?_)
    intro a89 hF90; clear hF87
    refine wpl_op (i := 4) rfl (o_val (v := (.int .i64 (n37 : Nat))) hF90 rfl (wanted_guard rfl rfl rfl hF90 rfl ((decide_eq_true (by rw [path_out _ _ (by omega)])) : decide (((pathF (digsOf s) at_).2 : Int) = (1 : Int)) = true) rfl) rfl rfl (rn_len_slice Tryd.underlying30 (hF90.get rfl)) ?_)
    intro a91 hF92; clear hF90
    refine wpl_op (i := 5) rfl (o_val (v := (.bool (decide (((n37 : Nat) : Int) = (0 : Int))))) hF92 rfl (wanted_guard rfl rfl rfl hF92 rfl ((decide_eq_true (by rw [path_out _ _ (by omega)])) : decide (((pathF (digsOf s) at_).2 : Int) = (1 : Int)) = true) rfl) rfl rfl (rn_eql (hF92.get rfl) rfl) ?_)
    intro a93 hF94; clear hF92
    refine wpl_op (i := 6) rfl (o_val (v := (.bool (decide (((n37 : Nat) : Int) = (0 : Int))))) hF94 rfl rfl rfl rfl (rn_pickT (c_true hF94 rfl ((decide_eq_true (by rw [path_out _ _ (by omega)])) : decide (((pathF (digsOf s) at_).2 : Int) = (1 : Int)) = true)) (hF94.get rfl)) ?_)
    intro a95 hF96; clear hF94
    refine wpl_op (i := 7) rfl (o_val (v := (.bool (decide (((n37 : Nat) : Int) = (0 : Int))))) hF96 rfl rfl rfl rfl (rn_assign (hF96.get rfl)) ?_)
    intro a97 hF98; clear hF96
    refine wpList_nil ?_
    refine hK81 _ _ ?_
    clear hK81
    have hF99 := (((((((((hF98.nil.cons (hF98.get (t := 32) (v := (.bool true)) rfl)).cons (hF98.get (t := 9) (v := (.int .i64 ((pathF (digsOf s) at_).2))) rfl)).cons (hF98.get (t := 8) (v := (.slice A36 n37 c38)) rfl)).cons (hF98.get (t := 7) (v := (.slice A17 ((digsOf s).length) c18)) rfl)).cons (hF98.get (t := 16) (v := (.bool false)) rfl)).cons (hF98.get (t := 6) (v := (.bool (decide (((n37 : Nat) : Int) = (0 : Int))))) rfl)).cons (hF98.get (t := 2) (v := (.int .i64 n)) rfl)).cons (hF98.get (t := 1) (v := (.int .i64 at_)) rfl)).cons (hF98.get (t := 0) (v := (.slice A s.length c)) rfl))
    clear hF98
    refine wp_ret ?_
    refine ret_then ?_
    refine ret1 hF99 rfl rfl ?_
    exact ⟨congrArg (fun b => Ending.returned (.bool b)) ((decide_eq_true (by have hq := hq49; rw [path_out _ _ (by omega)] at hq; simp at hq; omega)) : decide (((n37 : Nat) : Int) = (0 : Int)) = true), ((((Ext.refl w).trans hx7).trans hx24).trans hx44)⟩
  · skip
    refine wpl_op (i := 3) rfl (o_val (v := (.int .i64 at_)) hF68 rfl (wanted_guard rfl rfl rfl hF68 rfl (decide_eq_false hc69) rfl) rfl rfl (rn_move (hF68.get rfl)) ?_)
    intro a100 hF101; clear hF68
    refine wpl_op (i := 4) rfl (o_val (v := (.slice A17 ((digsOf s).length) c18)) hF101 rfl (wanted_guard rfl rfl rfl hF101 rfl (decide_eq_false hc69) rfl) rfl rfl (rn_move (hF101.get rfl)) ?_)
    intro a102 hF103; clear hF101
    refine wpl_op (i := 5) rfl (o_val (v := (.int .i64 ((digsOf s).length : Nat))) hF103 rfl (wanted_guard rfl rfl rfl hF103 rfl (decide_eq_false hc69) rfl) rfl rfl (rn_len_slice Tryd.underlying30 (hF103.get rfl)) ?_)
    intro a104 hF105; clear hF103
    refine wpl_op (i := 6) rfl (o_val (v := (.bool (decide ((((digsOf s).length : Nat) : Int) ≤ (at_ : Int))))) hF105 rfl (wanted_guard rfl rfl rfl hF105 rfl (decide_eq_false hc69) rfl) rfl rfl (rn_geq (hF105.get rfl) (hF105.get rfl)) ?_)
    intro a106 hF107; clear hF105
    refine wpl_op (i := 7) rfl (o_val (v := (.bool (decide ((((digsOf s).length : Nat) : Int) ≤ (at_ : Int))))) hF107 rfl rfl rfl rfl (rn_pickF (c_false hF107 rfl (decide_eq_false hc69)) (hF107.get rfl)) ?_)
    intro a108 hF109; clear hF107
    refine wpList_nil ?_
    refine hK62 _ _ ?_
    clear hK62
    have hF110 := (((((((((hF109.nil.cons (hF109.get (t := 32) (v := (.bool (decide ((((digsOf s).length : Nat) : Int) ≤ (at_ : Int))))) rfl)).cons (hF109.get (t := 9) (v := (.int .i64 ((pathF (digsOf s) at_).2))) rfl)).cons (hF109.get (t := 8) (v := (.slice A36 n37 c38)) rfl)).cons (hF109.get (t := 7) (v := (.slice A17 ((digsOf s).length) c18)) rfl)).cons (hF109.get (t := 16) (v := (.bool false)) rfl)).cons (hF109.get (t := 6) (v := (.bool false)) rfl)).cons (hF109.get (t := 2) (v := (.int .i64 n)) rfl)).cons (hF109.get (t := 1) (v := (.int .i64 at_)) rfl)).cons (hF109.get (t := 0) (v := (.slice A s.length c)) rfl))
    clear hF109
    by_cases hc111 : (((digsOf s).length : Nat) : Int) ≤ (at_ : Int)
    · skip
      refine wp_cond_true (c_true hF110 rfl (decide_eq_true hc111)) ?_
      refine wp_seq_k (fun K112 hK112 => ?_)
      refine wp_region_lit ?_
      refine wpl_op (i := 0) rfl (o_val (v := (.int .i64 ((pathF (digsOf s) at_).2))) hF110 rfl rfl rfl rfl (rn_move (hF110.get rfl)) ?_)
      intro a113 hF114; clear hF110
      refine wpl_op (i := 1) rfl (o_val (v := (.bool (decide (((pathF (digsOf s) at_).2 : Int) = (1 : Int))))) hF114 rfl rfl rfl rfl (rn_eql (hF114.get rfl) rfl) ?_)
      intro a115 hF116; clear hF114
      refine wpl_op (i := 2) rfl (o_val (v := (.bool (decide (((pathF (digsOf s) at_).2 : Int) = (1 : Int))))) hF116 rfl rfl rfl rfl (rn_move (hF116.get rfl)) ?_)
      intro a117 hF118; clear hF116
      refine wpl_op (i := 3) rfl (o_val (v := (.slice A36 n37 c38)) hF118 rfl (wanted_guard rfl rfl rfl hF118 rfl ((decide_eq_true (by rw [path_out _ _ (by omega)])) : decide (((pathF (digsOf s) at_).2 : Int) = (1 : Int)) = true) rfl) rfl rfl (rn_move (hF118.get rfl)) ?_)
      intro a120 hF121; clear hF118
      refine wpl_op (i := 4) rfl (o_val (v := (.int .i64 (n37 : Nat))) hF121 rfl (wanted_guard rfl rfl rfl hF121 rfl ((decide_eq_true (by rw [path_out _ _ (by omega)])) : decide (((pathF (digsOf s) at_).2 : Int) = (1 : Int)) = true) rfl) rfl rfl (rn_len_slice Tryd.underlying30 (hF121.get rfl)) ?_)
      intro a122 hF123; clear hF121
      refine wpl_op (i := 5) rfl (o_val (v := (.bool (decide (((n37 : Nat) : Int) = (0 : Int))))) hF123 rfl (wanted_guard rfl rfl rfl hF123 rfl ((decide_eq_true (by rw [path_out _ _ (by omega)])) : decide (((pathF (digsOf s) at_).2 : Int) = (1 : Int)) = true) rfl) rfl rfl (rn_eql (hF123.get rfl) rfl) ?_)
      intro a124 hF125; clear hF123
      refine wpl_op (i := 6) rfl (o_val (v := (.bool (decide (((n37 : Nat) : Int) = (0 : Int))))) hF125 rfl rfl rfl rfl (rn_pickT (c_true hF125 rfl ((decide_eq_true (by rw [path_out _ _ (by omega)])) : decide (((pathF (digsOf s) at_).2 : Int) = (1 : Int)) = true)) (hF125.get rfl)) ?_)
      intro a126 hF127; clear hF125
      refine wpl_op (i := 7) rfl (o_val (v := (.bool (decide (((n37 : Nat) : Int) = (0 : Int))))) hF127 rfl rfl rfl rfl (rn_assign (hF127.get rfl)) ?_)
      intro a128 hF129; clear hF127
      refine wpList_nil ?_
      refine hK112 _ _ ?_
      clear hK112
      have hF130 := (((((((((hF129.nil.cons (hF129.get (t := 32) (v := (.bool (decide ((((digsOf s).length : Nat) : Int) ≤ (at_ : Int))))) rfl)).cons (hF129.get (t := 9) (v := (.int .i64 ((pathF (digsOf s) at_).2))) rfl)).cons (hF129.get (t := 8) (v := (.slice A36 n37 c38)) rfl)).cons (hF129.get (t := 7) (v := (.slice A17 ((digsOf s).length) c18)) rfl)).cons (hF129.get (t := 16) (v := (.bool false)) rfl)).cons (hF129.get (t := 6) (v := (.bool (decide (((n37 : Nat) : Int) = (0 : Int))))) rfl)).cons (hF129.get (t := 2) (v := (.int .i64 n)) rfl)).cons (hF129.get (t := 1) (v := (.int .i64 at_)) rfl)).cons (hF129.get (t := 0) (v := (.slice A s.length c)) rfl))
      clear hF129
      refine wp_ret ?_
      refine ret_then ?_
      refine ret1 hF130 rfl rfl ?_
      exact ⟨congrArg (fun b => Ending.returned (.bool b)) ((decide_eq_true (by have hq := hq49; rw [path_out _ _ (by omega)] at hq; simp at hq; omega)) : decide (((n37 : Nat) : Int) = (0 : Int)) = true), ((((Ext.refl w).trans hx7).trans hx24).trans hx44)⟩
    · skip
      refine wp_cond_false (c_false hF110 rfl (decide_eq_false hc111)) ?_
      refine wp_skip ?_
      refine hK61 _ _ ?_
      clear hK61
      refine wp_seq_k (fun K131 hK131 => ?_)
      refine wp_seq_k (fun K132 hK132 => ?_)
      refine wp_region_lit ?_
      refine wpl_op (i := 0) rfl (o_val (v := (.int .i64 ((pathF (digsOf s) at_).2))) hF110 rfl rfl rfl rfl (rn_move (hF110.get rfl)) ?_)
      intro a133 hF134; clear hF110
      refine wpl_op (i := 1) rfl (o_val (v := (.bool (decide (((pathF (digsOf s) at_).2 : Int) ≠ (0 : Int))))) hF134 rfl rfl rfl rfl (rn_neq (hF134.get rfl) rfl) ?_)
      intro a135 hF136; clear hF134
      refine wpl_op (i := 2) rfl (o_val (v := (.bool (decide (((pathF (digsOf s) at_).2 : Int) ≠ (0 : Int))))) hF136 rfl rfl rfl rfl (rn_move (hF136.get rfl)) ?_)
      intro a137 hF138; clear hF136
      refine wpl_op (i := 3) rfl (o_val (v := (.slice A36 n37 c38)) hF138 rfl (wanted_guard rfl rfl rfl hF138 rfl ((decide_eq_false (by rw [path_at' _ _ (by omega) (by omega)]; simp)) : decide (((pathF (digsOf s) at_).2 : Int) ≠ (0 : Int)) = false) rfl) rfl rfl (rn_move (hF138.get rfl)) ?_)
      intro a140 hF141; clear hF138
      refine wpl_op (i := 4) rfl (o_val (v := (.int .i64 (n37 : Nat))) hF141 rfl (wanted_guard rfl rfl rfl hF141 rfl ((decide_eq_false (by rw [path_at' _ _ (by omega) (by omega)]; simp)) : decide (((pathF (digsOf s) at_).2 : Int) ≠ (0 : Int)) = false) rfl) rfl rfl (rn_len_slice Tryd.underlying30 (hF141.get rfl)) ?_)
      intro a142 hF143; clear hF141
      refine wpl_op (i := 5) rfl (o_val (v := (.int .i64 at_)) hF143 rfl (wanted_guard rfl rfl rfl hF143 rfl ((decide_eq_false (by rw [path_at' _ _ (by omega) (by omega)]; simp)) : decide (((pathF (digsOf s) at_).2 : Int) ≠ (0 : Int)) = false) rfl) rfl rfl (rn_move (hF143.get rfl)) ?_)
      intro a144 hF145; clear hF143
      refine wpl_op (i := 6) rfl (o_val (v := (.slice A17 ((digsOf s).length) c18)) hF145 rfl (wanted_guard rfl rfl rfl hF145 rfl ((decide_eq_false (by rw [path_at' _ _ (by omega) (by omega)]; simp)) : decide (((pathF (digsOf s) at_).2 : Int) ≠ (0 : Int)) = false) rfl) rfl rfl (rn_move (hF145.get rfl)) ?_)
      intro a146 hF147; clear hF145
      refine wpl_op (i := 7) rfl (o_val (v := (.int .i64 ((digsOf s).length : Nat))) hF147 rfl (wanted_guard rfl rfl rfl hF147 rfl ((decide_eq_false (by rw [path_at' _ _ (by omega) (by omega)]; simp)) : decide (((pathF (digsOf s) at_).2 : Int) ≠ (0 : Int)) = false) rfl) rfl rfl (rn_len_slice Tryd.underlying30 (hF147.get rfl)) ?_)
      intro a148 hF149; clear hF147
      refine wpl_op (i := 8) rfl (o_call hF149 rfl (wanted_guard rfl rfl rfl hF149 rfl ((decide_eq_false (by rw [path_at' _ _ (by omega) (by omega)]; simp)) : decide (((pathF (digsOf s) at_).2 : Int) ≠ (0 : Int)) = false) rfl) rfl rfl (rn_call (args2 (hF149.get rfl) (hF149.get rfl)) rfl (by kernel_rfl)) (steps_at (at_) (((digsOf s).length : Nat)) _ (by omega) (by omega) (by omega)) ?_)
      rintro _ w150 ⟨rfl, hx151⟩
      refine ⟨_, rfl, ?_⟩; intro a152 hF153; clear hF149; have z154 := hx151.size
      refine wpl_op (i := 9) rfl (o_val (v := (.bool (decide (((n37 : Nat) : Int) ≠ (((dirs (at_ : Int).toNat (((digsOf s).length : Nat) : Int).toNat).length : Nat) : Int))))) hF153 rfl (wanted_guard rfl rfl rfl hF153 rfl ((decide_eq_false (by rw [path_at' _ _ (by omega) (by omega)]; simp)) : decide (((pathF (digsOf s) at_).2 : Int) ≠ (0 : Int)) = false) rfl) rfl rfl (rn_neq (hF153.get rfl) (hF153.get rfl)) ?_)
      intro a155 hF156; clear hF153
      refine wpl_op (i := 10) rfl (o_val (v := (.bool (decide (((n37 : Nat) : Int) ≠ (((dirs (at_ : Int).toNat (((digsOf s).length : Nat) : Int).toNat).length : Nat) : Int))))) hF156 rfl rfl rfl rfl (rn_pickF (c_false hF156 rfl ((decide_eq_false (by rw [path_at' _ _ (by omega) (by omega)]; simp)) : decide (((pathF (digsOf s) at_).2 : Int) ≠ (0 : Int)) = false)) (hF156.get rfl)) ?_)
      intro a157 hF158; clear hF156
      refine wpList_nil ?_
      refine hK132 _ _ ?_
      clear hK132
      have hF159 := ((((((((((hF158.nil.cons (hF158.get (t := 50) (v := (.bool (decide (((n37 : Nat) : Int) ≠ (((dirs (at_ : Int).toNat (((digsOf s).length : Nat) : Int).toNat).length : Nat) : Int))))) rfl)).cons (hF158.get (t := 32) (v := (.bool (decide ((((digsOf s).length : Nat) : Int) ≤ (at_ : Int))))) rfl)).cons (hF158.get (t := 9) (v := (.int .i64 ((pathF (digsOf s) at_).2))) rfl)).cons (hF158.get (t := 8) (v := (.slice A36 n37 c38)) rfl)).cons (hF158.get (t := 7) (v := (.slice A17 ((digsOf s).length) c18)) rfl)).cons (hF158.get (t := 16) (v := (.bool false)) rfl)).cons (hF158.get (t := 6) (v := (.bool false)) rfl)).cons (hF158.get (t := 2) (v := (.int .i64 n)) rfl)).cons (hF158.get (t := 1) (v := (.int .i64 at_)) rfl)).cons (hF158.get (t := 0) (v := (.slice A s.length c)) rfl))
      clear hF158
      refine wp_cond_false (c_false hF159 rfl ((decide_eq_false (by have hq := hq49; rw [pathF_dirs _ _ (by omega) (by omega)] at hq; omega)) : decide (((n37 : Nat) : Int) ≠ (((dirs (at_ : Int).toNat (((digsOf s).length : Nat) : Int).toNat).length : Nat) : Int)) = false)) ?_
      refine wp_skip ?_
      refine hK131 _ _ ?_
      clear hK131
      refine wp_seq_k (fun K161 hK161 => ?_)
      refine wp_seq_k (fun K162 hK162 => ?_)
      refine wp_region_lit ?_
      refine wpl_op (i := 0) rfl (o_val (v := (.int .i64 n)) hF159 rfl rfl rfl rfl (rn_move (hF159.get rfl)) ?_)
      intro a163 hF164; clear hF159
      refine wpl_op (i := 1) rfl (o_val (v := (.int .i64 n)) hF164 rfl rfl rfl rfl (rn_move (hF164.get rfl)) ?_)
      intro a165 hF166; clear hF164
      refine wpl_op (i := 2) rfl (o_val (v := (.int .i64 (andI (n) (31)))) hF166 rfl rfl rfl rfl (rn_andI (hF166.get rfl) rfl) ?_)
      intro a167 hF168; clear hF166
      refine wpl_op (i := 3) rfl (o_val (v := (.slice A17 ((digsOf s).length) c18)) hF168 rfl rfl rfl rfl (rn_move (hF168.get rfl)) ?_)
      intro a169 hF170; clear hF168
      refine wpl_op (i := 4) rfl (o_val (v := (.int .i64 ((digsOf s).length : Nat))) hF170 rfl rfl rfl rfl (rn_len_slice Tryd.underlying30 (hF170.get rfl)) ?_)
      intro a171 hF172; clear hF170
      refine wpl_op (i := 5) rfl (o_val (v := (.int .i64 (((digsOf s).length) + 1 : Nat))) hF172 rfl rfl rfl rfl (rn_addN (a := (digsOf s).length) (b := 1) (hF172.get rfl) rfl (by omega)) ?_)
      intro a173 hF174; clear hF172
      refine wpl_op (i := 6) rfl (o_val (v := (.slice A17 ((digsOf s).length) c18)) hF174 rfl rfl rfl rfl (rn_move (hF174.get rfl)) ?_)
      intro a175 hF176; clear hF174
      refine wpl_op (i := 7) rfl (o_val (v := (.int .i64 ((digsOf s).length : Nat))) hF176 rfl rfl rfl rfl (rn_len_slice Tryd.underlying30 (hF176.get rfl)) ?_)
      intro a177 hF178; clear hF176
      refine wpl_op (i := 8) rfl (o_val (v := (.int .i64 (2 * ((digsOf s).length) : Nat))) hF178 rfl rfl rfl rfl (rn_mulN (a := 2) (b := (digsOf s).length) rfl (hF178.get rfl) (by omega)) ?_)
      intro a179 hF180; clear hF178
      refine wpl_op (i := 9) rfl (o_new (fun g => (.slice (some ⟨g, 0, none⟩) 4 4)) [(.int .i64 n), (.int .i64 (andI (n) (31))), (.int .i64 (((digsOf s).length) + 1 : Nat)), (.int .i64 (2 * ((digsOf s).length) : Nat))] 3 hF180 rfl rfl rfl rfl (rn_buildSlice (parts4 (hF180.get rfl) (hF180.get rfl) (hF180.get rfl) (hF180.get rfl)) (by kernel_rfl)) ?_)
      intro g181 w182 a187 hF188 z185 z186 b183 hx184; clear hF180
      refine wpl_op (i := 10) rfl (o_val (v := (.int .i64 4)) hF188 rfl rfl rfl rfl (rn_len_slice Tryd.underlying33 (hF188.get rfl)) ?_)
      intro a189 hF190; clear hF188
      refine wpl_op (i := 11) rfl (o_val (v := (.int .i64 0)) hF190 rfl rfl rfl rfl (rn_move rfl) ?_)
      intro a191 hF192; clear hF190
      refine wpList_nil ?_
      refine hK162 _ _ ?_
      clear hK162
      have hF193 := (((((((((((((hF192.nil.cons (hF192.get (t := 62) (v := (.int .i64 0)) rfl)).cons (hF192.get (t := 61) (v := (.int .i64 4)) rfl)).cons (hF192.get (t := 60) (v := (.slice (some ⟨g181, 0, none⟩) 4 4)) rfl)).cons (hF192.get (t := 50) (v := (.bool (decide (((n37 : Nat) : Int) ≠ (((dirs (at_ : Int).toNat (((digsOf s).length : Nat) : Int).toNat).length : Nat) : Int))))) rfl)).cons (hF192.get (t := 32) (v := (.bool (decide ((((digsOf s).length : Nat) : Int) ≤ (at_ : Int))))) rfl)).cons (hF192.get (t := 9) (v := (.int .i64 ((pathF (digsOf s) at_).2))) rfl)).cons (hF192.get (t := 8) (v := (.slice A36 n37 c38)) rfl)).cons (hF192.get (t := 7) (v := (.slice A17 ((digsOf s).length) c18)) rfl)).cons (hF192.get (t := 16) (v := (.bool false)) rfl)).cons (hF192.get (t := 6) (v := (.bool false)) rfl)).cons (hF192.get (t := 2) (v := (.int .i64 n)) rfl)).cons (hF192.get (t := 1) (v := (.int .i64 at_)) rfl)).cons (hF192.get (t := 0) (v := (.slice A s.length c)) rfl))
      clear hF192
      refine wp_block ?_
      have d195 := (((hf28.ext hx44).ext hx151).ext hx184)
      have d196 := ((hf48.ext hx151).ext hx184)
      refine wp_loop (fun a' W => ∃ (kc194 : Nat), Sl 105 [(0, (.slice A s.length c)), (1, (.int .i64 at_)), (2, (.int .i64 n)), (6, (.bool false)), (16, (.bool false)), (7, (.slice A17 ((digsOf s).length) c18)), (8, (.slice A36 n37 c38)), (9, (.int .i64 ((pathF (digsOf s) at_).2))), (32, (.bool (decide ((((digsOf s).length : Nat) : Int) ≤ (at_ : Int))))), (50, (.bool (decide (((n37 : Nat) : Int) ≠ (((dirs (at_ : Int).toNat (((digsOf s).length : Nat) : Int).toNat).length : Nat) : Int))))), (60, (.slice (some ⟨g181, 0, none⟩) 4 4)), (61, (.int .i64 4)), (62, (.int .i64 (kc194 : Nat)))] a' ∧ kc194 ≤ 4 ∧ Ext w W ∧ Blk W g181 3 [(.int .i64 n), (.int .i64 (andI (n) (31))), (.int .i64 (((digsOf s).length) + 1 : Nat)), (.int .i64 (2 * ((digsOf s).length) : Nat))] ∧ Fl (Clip (fun b => w6.heap.size ≤ b) w23) W 32 (.slice A17 ((digsOf s).length) c18) ((digsOf s).length) (digVals (digsOf s)) ∧ Fl (Clip (fun b => w23.heap.size ≤ b) w43) W 32 (.slice A36 n37 c38) n37 (digVals ((pathF (digsOf s) at_).1)) ∧ w182.heap.size ≤ W.heap.size) (fun a' _ => 4 - (intOf (a'.eval (.tmp 62))).toNat) ⟨0, (((((((((((((hF193.nil.cons (q_get hF193 (t := 62) rfl (by first | rfl | (congr 1; omega) | (congr 1; done)))).cons (q_get hF193 (t := 61) rfl rfl)).cons (q_get hF193 (t := 60) rfl rfl)).cons (q_get hF193 (t := 50) rfl rfl)).cons (q_get hF193 (t := 32) rfl rfl)).cons (q_get hF193 (t := 9) rfl rfl)).cons (q_get hF193 (t := 8) rfl rfl)).cons (q_get hF193 (t := 7) rfl rfl)).cons (q_get hF193 (t := 16) rfl rfl)).cons (q_get hF193 (t := 6) rfl rfl)).cons (q_get hF193 (t := 2) rfl rfl)).cons (q_get hF193 (t := 1) rfl rfl)).cons (q_get hF193 (t := 0) rfl rfl)), (by omega), ((((((Ext.refl w).trans hx7).trans hx24).trans hx44).trans hx151).trans hx184), b183, d195, d196, (Nat.le_refl _)⟩ ?_
      clear hF193
      rintro a197 w198 ⟨kc194, hF199, hp201, hx200, b202, hf203, hf204, hf205⟩
      have hL206 := hF199
      have z207 := hx200.size
      have z208 := b202.lt
      rcases (show kc194 = 0 ∨ kc194 = 1 ∨ kc194 = 2 ∨ kc194 = 3 ∨ kc194 = 4 by omega) with hk209 | hk209 | hk209 | hk209 | hk209
      · subst hk209
        refine wp_seq_k (fun K210 hK210 => ?_)
        refine wp_region_lit ?_
        refine wpl_op (i := 0) rfl (o_val (v := (.bool true)) hF199 rfl rfl rfl rfl (rn_lss' (hF199.get rfl) (hF199.get rfl) (by decide)) ?_)
        intro a211 hF212; clear hF199
        refine wpList_nil ?_
        refine hK210 _ _ ?_
        clear hK210
        refine wp_seq_k (fun K213 hK213 => ?_)
        refine wp_cond_true (c_true hF212 rfl rfl) ?_
        refine wp_skip ?_
        refine hK213 _ _ ?_
        clear hK213
        refine wp_seq_k (fun K214 hK214 => ?_)
        refine wp_block ?_
        refine wp_seq_k (fun K215 hK215 => ?_)
        refine wp_region_lit ?_
        refine wpl_op (i := 0) rfl (o_val (v := (.pointer (some ⟨g181, 0 + 0, none⟩))) hF212 rfl rfl rfl rfl (rn_index1 Tryd.underlying33 (by kernel_rfl : (Tryd.prog.info? 3).map (·.size) = some 1) (hF212.get rfl) (hF212.get rfl) (by omega : (0 : Int) ≤ 0) (by omega : (0 : Int) < ((4 : Nat) : Int))) ?_)
        intro a216 hF217; clear hF212
        refine wpl_op (i := 1) rfl (o_val (v := (.int .i64 n)) hF217 rfl rfl rfl rfl (rn_load (isAgg_no Tryd.underlying3 rfl) (hF217.get rfl) (b202.rule.1 (0 + 0))) ?_)
        intro a218 hF219; clear hF217
        refine wpl_op (i := 2) rfl (o_val (v := (.int .i64 n)) hF219 rfl rfl rfl rfl (rn_assign (hF219.get rfl)) ?_)
        intro a220 hF221; clear hF219
        refine wpList_nil ?_
        refine hK215 _ _ ?_
        clear hK215
        refine wp_seq_k (fun K222 hK222 => ?_)
        refine wp_region_lit ?_
        refine wpl_op (i := 0) rfl (o_val (v := (.int .i64 n)) hF221 rfl rfl rfl rfl (rn_move (hF221.get rfl)) ?_)
        intro a223 hF224; clear hF221
        refine wpl_op (i := 1) rfl (o_val (v := (.int .i64 at_)) hF224 rfl rfl rfl rfl (rn_move (hF224.get rfl)) ?_)
        intro a225 hF226; clear hF224
        refine wpl_op (i := 2) rfl (o_val (v := (.bool (decide ((at_ : Int) < (n : Int))))) hF226 rfl rfl rfl rfl (rn_gtr (hF226.get rfl) (hF226.get rfl)) ?_)
        intro a227 hF228; clear hF226
        refine wpl_op (i := 3) rfl (o_val (v := (.bool (decide ((at_ : Int) < (n : Int))))) hF228 rfl rfl rfl rfl (rn_move (hF228.get rfl)) ?_)
        intro a229 hF230; clear hF228
        by_cases hc231 : (at_ : Int) < (n : Int)
        · skip
          refine wpl_op (i := 4) rfl (o_val (v := (.int .i64 n)) hF230 rfl (wanted_guard rfl rfl rfl hF230 rfl (decide_eq_true hc231) rfl) rfl rfl (rn_move (hF230.get rfl)) ?_)
          intro a232 hF233; clear hF230
          refine wpl_op (i := 5) rfl (o_val (v := (.bool (decide ((n : Int) ≤ (1099511627776 : Int))))) hF233 rfl (wanted_guard rfl rfl rfl hF233 rfl (decide_eq_true hc231) rfl) rfl rfl (rn_leq (hF233.get rfl) rfl) ?_)
          intro a234 hF235; clear hF233
          refine wpl_op (i := 6) rfl (o_val (v := (.bool (decide ((n : Int) ≤ (1099511627776 : Int))))) hF235 rfl rfl rfl rfl (rn_pickT (c_true hF235 rfl (decide_eq_true hc231)) (hF235.get rfl)) ?_)
          intro a236 hF237; clear hF235
          refine wpl_op (i := 7) rfl (o_val (v := (.bool (decide ((n : Int) ≤ (1099511627776 : Int))))) hF237 rfl rfl rfl rfl (rn_move (hF237.get rfl)) ?_)
          intro a238 hF239; clear hF237
          by_cases hc240 : (n : Int) ≤ (1099511627776 : Int)
          · skip
            refine wpl_op (i := 8) rfl (o_val (v := (.int .i64 at_)) hF239 rfl (wanted_guard rfl rfl rfl hF239 rfl (decide_eq_true hc240) rfl) rfl rfl (rn_move (hF239.get rfl)) ?_)
            intro a241 hF242; clear hF239
            refine wpl_op (i := 9) rfl (o_val (v := (.int .i64 n)) hF242 rfl (wanted_guard rfl rfl rfl hF242 rfl (decide_eq_true hc240) rfl) rfl rfl (rn_move (hF242.get rfl)) ?_)
            intro a243 hF244; clear hF242
            refine wpl_op (i := 10) rfl (o_call hF244 rfl (wanted_guard rfl rfl rfl hF244 rfl (decide_eq_true hc240) rfl) rfl rfl (rn_call (args2 (hF244.get rfl) (hF244.get rfl)) rfl (by kernel_rfl)) (steps_at (at_) (n) _ (by omega) (by omega) (by omega)) ?_)
            rintro _ w245 ⟨rfl, hx246⟩
            refine ⟨_, rfl, ?_⟩; intro a247 hF248; clear hF244; have z249 := hx246.size
            refine wpl_op (i := 11) rfl (o_val (v := (.slice A36 n37 c38)) hF248 rfl (wanted_guard rfl rfl rfl hF248 rfl (decide_eq_true hc240) rfl) rfl rfl (rn_move (hF248.get rfl)) ?_)
            intro a250 hF251; clear hF248
            refine wpl_op (i := 12) rfl (o_val (v := (.int .i64 (n37 : Nat))) hF251 rfl (wanted_guard rfl rfl rfl hF251 rfl (decide_eq_true hc240) rfl) rfl rfl (rn_len_slice Tryd.underlying30 (hF251.get rfl)) ?_)
            intro a252 hF253; clear hF251
            refine wpl_op (i := 13) rfl (o_val (v := (.bool (decide ((((dirs (at_ : Int).toNat (n : Int).toNat).length : Nat) : Int) = ((n37 : Nat) : Int))))) hF253 rfl (wanted_guard rfl rfl rfl hF253 rfl (decide_eq_true hc240) rfl) rfl rfl (rn_eql (hF253.get rfl) (hF253.get rfl)) ?_)
            intro a254 hF255; clear hF253
            refine wpl_op (i := 14) rfl (o_val (v := (.bool (decide ((((dirs (at_ : Int).toNat (n : Int).toNat).length : Nat) : Int) = ((n37 : Nat) : Int))))) hF255 rfl rfl rfl rfl (rn_pickT (c_true hF255 rfl (decide_eq_true hc240)) (hF255.get rfl)) ?_)
            intro a256 hF257; clear hF255
            refine wpl_op (i := 15) rfl (o_val (v := (.bool (decide ((((dirs (at_ : Int).toNat (n : Int).toNat).length : Nat) : Int) = ((n37 : Nat) : Int))))) hF257 rfl rfl rfl rfl (rn_assign (hF257.get rfl)) ?_)
            intro a258 hF259; clear hF257
            refine wpList_nil ?_
            refine hK222 _ _ ?_
            clear hK222
            have hF260 := ((((((((((((((((hF259.nil.cons (hF259.get (t := 12) (v := (.bool (decide ((((dirs (at_ : Int).toNat (n : Int).toNat).length : Nat) : Int) = ((n37 : Nat) : Int))))) rfl)).cons (hF259.get (t := 11) (v := (.int .i64 n)) rfl)).cons (hF259.get (t := 63) (v := (.bool true)) rfl)).cons (hF259.get (t := 62) (v := (.int .i64 0)) rfl)).cons (hF259.get (t := 61) (v := (.int .i64 4)) rfl)).cons (hF259.get (t := 60) (v := (.slice (some ⟨g181, 0, none⟩) 4 4)) rfl)).cons (hF259.get (t := 50) (v := (.bool (decide (((n37 : Nat) : Int) ≠ (((dirs (at_ : Int).toNat (((digsOf s).length : Nat) : Int).toNat).length : Nat) : Int))))) rfl)).cons (hF259.get (t := 32) (v := (.bool (decide ((((digsOf s).length : Nat) : Int) ≤ (at_ : Int))))) rfl)).cons (hF259.get (t := 9) (v := (.int .i64 ((pathF (digsOf s) at_).2))) rfl)).cons (hF259.get (t := 8) (v := (.slice A36 n37 c38)) rfl)).cons (hF259.get (t := 7) (v := (.slice A17 ((digsOf s).length) c18)) rfl)).cons (hF259.get (t := 16) (v := (.bool false)) rfl)).cons (hF259.get (t := 6) (v := (.bool false)) rfl)).cons (hF259.get (t := 2) (v := (.int .i64 n)) rfl)).cons (hF259.get (t := 1) (v := (.int .i64 at_)) rfl)).cons (hF259.get (t := 0) (v := (.slice A s.length c)) rfl))
            clear hF259
            refine wp_seq_k (fun K261 hK261 => ?_)
            refine wp_region_lit ?_
            refine wpl_op (i := 0) rfl (o_val (v := (.slice A17 ((digsOf s).length) c18)) hF260 rfl rfl rfl rfl (rn_move (hF260.get rfl)) ?_)
            intro a262 hF263; clear hF260
            refine wpl_op (i := 1) rfl (o_val (v := (.int .i64 at_)) hF263 rfl rfl rfl rfl (rn_move (hF263.get rfl)) ?_)
            intro a264 hF265; clear hF263
            have d269 := (hf203.ext hx246)
            obtain ⟨b266, o267, hA268, -⟩ := Fl.at d269 (by omega)
            refine wpl_op (i := 2) rfl (o_val (v := (.pointer (some ⟨b266, o267 + (at_ : Int).toNat * 32, none⟩))) hF265 rfl rfl rfl rfl (rn_indexE Tryd.underlying30 (by kernel_rfl : (Tryd.prog.info? 26).map (·.size) = some 32) ((hF265.get rfl).trans (by rw [hA268])) (hF265.get rfl) (by omega : (0 : Int) ≤ at_) (by omega : (at_ : Int) < (((digsOf s).length : Nat) : Int)) (by omega)) ?_)
            intro a270 hF271; clear hF265
            refine wpl_op (i := 3) rfl (o_val (v := (.agg (byteVals ((digsOf s).getD ((at_ : Int).toNat) [])).toArray)) hF271 rfl rfl rfl rfl (rn_loadN (cs := byteVals ((digsOf s).getD ((at_ : Int).toNat) [])) (hF271.get rfl) Tryd.underlying26 rfl ((by kernel_rfl : (Tryd.prog.info? 26).map (·.size) = some 32).trans (congrArg some (byteVals_len (dig_len (digsOf_32 _) ((at_ : Int).toNat) (by omega))).symm)) (Fl.digAt d269 hA268 (digsOf_32 _) (by omega))) ?_)
            intro a272 hF273; clear hF271
            refine wpl_op (i := 4) rfl (o_val (v := (.int .i64 at_)) hF273 rfl rfl rfl rfl (rn_move (hF273.get rfl)) ?_)
            intro a274 hF275; clear hF273
            refine wpl_op (i := 5) rfl (o_val (v := (.int .i64 n)) hF275 rfl rfl rfl rfl (rn_move (hF275.get rfl)) ?_)
            intro a276 hF277; clear hF275
            refine wpl_op (i := 6) rfl (o_val (v := (.slice A36 n37 c38)) hF277 rfl rfl rfl rfl (rn_move (hF277.get rfl)) ?_)
            intro a278 hF279; clear hF277
            have d280 := (hf204.ext hx246)
            refine wpl_op (i := 7) rfl (o_call hF279 rfl rfl rfl rfl (rn_call (args4 (hF279.get rfl) (hF279.get rfl) (hF279.get rfl) (hF279.get rfl)) rfl (by kernel_rfl)) (climb_at ((digsOf s).getD ((at_ : Int).toNat) []) at_ n ((pathF (digsOf s) at_).1) _ (v := (.slice A36 n37 c38)) (m := n37) (dig_len (digsOf_32 _) ((at_ : Int).toNat) (by omega)) (pathF_32 (digsOf s) at_) d280 (hG.ext (((Ext.refl w).trans hx200).trans hx246))) ?_)
            rintro _ w281 ⟨rfl, hx282⟩
            refine ⟨_, rfl, ?_⟩; intro a283 hF284; clear hF279; have z285 := hx282.size
            refine wpl_op (i := 8) rfl (o_val (v := (.tuple #[(.agg (byteVals ((climbF ((digsOf s).getD ((at_ : Int).toNat) []) at_ n ((pathF (digsOf s) at_).1)).1)).toArray), (.int .i64 ((climbF ((digsOf s).getD ((at_ : Int).toNat) []) at_ n ((pathF (digsOf s) at_).1)).2))])) hF284 rfl rfl rfl rfl (rn_move (hF284.get rfl)) ?_)
            intro a286 hF287; clear hF284
            refine wpl_op (i := 9) rfl (o_val (v := (.agg (byteVals ((climbF ((digsOf s).getD ((at_ : Int).toNat) []) at_ n ((pathF (digsOf s) at_).1)).1)).toArray)) hF287 rfl rfl rfl rfl (rn_extract (hF287.get rfl) rfl) ?_)
            intro a288 hF289; clear hF287
            refine wpl_op (i := 10) rfl (o_val (v := (.int .i64 ((climbF ((digsOf s).getD ((at_ : Int).toNat) []) at_ n ((pathF (digsOf s) at_).1)).2))) hF289 rfl rfl rfl rfl (rn_extract (hF289.get rfl) rfl) ?_)
            intro a290 hF291; clear hF289
            refine wpl_op (i := 11) rfl (o_new (fun g => (.pointer (some ⟨g, 0, none⟩))) (byteVals (List.replicate 32 0)) 26 hF291 rfl rfl rfl rfl (by kernel_rfl) ?_)
            intro g292 w293 a298 hF299 z296 z297 b294 hx295; clear hF291
            refine wpl_op (i := 12) rfl (o_store (cells := (byteVals ((climbF ((digsOf s).getD ((at_ : Int).toNat) []) at_ n ((pathF (digsOf s) at_).1)).1))) hF299 rfl rfl rfl rfl (hF299.get rfl) (hF299.get rfl) b294 ((by kernel_rfl : (Tryd.prog.info? 26).map (·.size) = some 32).trans (congrArg some (byteVals_len (climbF_len _ _ _ _)).symm)) ((byteVals_len (show List.length (List.replicate 32 0) = _ from List.length_replicate)).trans (byteVals_len (climbF_len _ _ _ _)).symm) (byteVals_one _) ?_)
            intro w300 b301 hg302; have z303 := hg302.size
            refine wpl_op (i := 13) rfl (o_val (v := (.int .i64 ((climbF ((digsOf s).getD ((at_ : Int).toNat) []) at_ n ((pathF (digsOf s) at_).1)).2))) hF299 rfl rfl rfl rfl (rn_assign (hF299.get rfl)) ?_)
            intro a304 hF305; clear hF299
            refine wpList_nil ?_
            refine hK261 _ _ ?_
            clear hK261
            have hF306 := (((((((((((((((((hF305.nil.cons (hF305.get (t := 14) (v := (.int .i64 ((climbF ((digsOf s).getD ((at_ : Int).toNat) []) at_ n ((pathF (digsOf s) at_).1)).2))) rfl)).cons (hF305.get (t := 12) (v := (.bool (decide ((((dirs (at_ : Int).toNat (n : Int).toNat).length : Nat) : Int) = ((n37 : Nat) : Int))))) rfl)).cons (hF305.get (t := 11) (v := (.int .i64 n)) rfl)).cons (hF305.get (t := 63) (v := (.bool true)) rfl)).cons (hF305.get (t := 62) (v := (.int .i64 0)) rfl)).cons (hF305.get (t := 61) (v := (.int .i64 4)) rfl)).cons (hF305.get (t := 60) (v := (.slice (some ⟨g181, 0, none⟩) 4 4)) rfl)).cons (hF305.get (t := 50) (v := (.bool (decide (((n37 : Nat) : Int) ≠ (((dirs (at_ : Int).toNat (((digsOf s).length : Nat) : Int).toNat).length : Nat) : Int))))) rfl)).cons (hF305.get (t := 32) (v := (.bool (decide ((((digsOf s).length : Nat) : Int) ≤ (at_ : Int))))) rfl)).cons (hF305.get (t := 9) (v := (.int .i64 ((pathF (digsOf s) at_).2))) rfl)).cons (hF305.get (t := 8) (v := (.slice A36 n37 c38)) rfl)).cons (hF305.get (t := 7) (v := (.slice A17 ((digsOf s).length) c18)) rfl)).cons (hF305.get (t := 16) (v := (.bool false)) rfl)).cons (hF305.get (t := 6) (v := (.bool false)) rfl)).cons (hF305.get (t := 2) (v := (.int .i64 n)) rfl)).cons (hF305.get (t := 1) (v := (.int .i64 at_)) rfl)).cons (hF305.get (t := 0) (v := (.slice A s.length c)) rfl))
            clear hF305
            refine wp_seq_k (fun K307 hK307 => ?_)
            refine wp_region_lit ?_
            refine wpl_op (i := 0) rfl (o_val (v := (.bool (decide ((((dirs (at_ : Int).toNat (n : Int).toNat).length : Nat) : Int) = ((n37 : Nat) : Int))))) hF306 rfl rfl rfl rfl (rn_move (hF306.get rfl)) ?_)
            intro a308 hF309; clear hF306
            refine wpl_op (i := 1) rfl (o_val (v := (.int .i64 ((climbF ((digsOf s).getD ((at_ : Int).toNat) []) at_ n ((pathF (digsOf s) at_).1)).2))) hF309 rfl rfl rfl rfl (rn_move (hF309.get rfl)) ?_)
            intro a310 hF311; clear hF309
            refine wpl_op (i := 2) rfl (o_val (v := (.bool (decide (((climbF ((digsOf s).getD ((at_ : Int).toNat) []) at_ n ((pathF (digsOf s) at_).1)).2 : Int) = (0 : Int))))) hF311 rfl rfl rfl rfl (rn_eql (hF311.get rfl) rfl) ?_)
            intro a312 hF313; clear hF311
            by_cases hc314 : (((dirs (at_ : Int).toNat (n : Int).toNat).length : Nat) : Int) = ((n37 : Nat) : Int)
            · skip
              refine wpl_op (i := 3) rfl (o_val (v := (.bool false)) hF313 rfl rfl rfl rfl (rn_neB Tryd.underlying4 (hF313.get rfl) (hF313.get rfl) (show _ = true from (decide_eq_true hc314)) (show _ = true from ((decide_eq_true (by rw [climbF, if_neg (by omega)])) : decide (((climbF ((digsOf s).getD ((at_ : Int).toNat) []) at_ n ((pathF (digsOf s) at_).1)).2 : Int) = (0 : Int)) = true)) rfl) ?_)
              intro a316 hF317; clear hF313
              refine wpl_op (i := 4) rfl (o_val (v := (.bool false)) hF317 rfl rfl rfl rfl (rn_move (hF317.get rfl)) ?_)
              intro a318 hF319; clear hF317
              refine wpl_op (i := 5) rfl (o_val (v := (.bool (decide ((((dirs (at_ : Int).toNat (n : Int).toNat).length : Nat) : Int) = ((n37 : Nat) : Int))))) hF319 rfl (wanted_guard rfl rfl rfl hF319 rfl rfl rfl) rfl rfl (rn_move (hF319.get rfl)) ?_)
              intro a320 hF321; clear hF319
              refine wpl_op (i := 6) rfl (o_val (v := (.bool (!(decide ((((dirs (at_ : Int).toNat (n : Int).toNat).length : Nat) : Int) = ((n37 : Nat) : Int)))))) hF321 rfl (wanted_guard rfl rfl rfl hF321 rfl rfl rfl) rfl rfl (rn_not' (hF321.get rfl) rfl) ?_)
              intro a322 hF323; clear hF321
              refine wpl_op (i := 7) rfl (o_val (v := (.bool (!(decide ((((dirs (at_ : Int).toNat (n : Int).toNat).length : Nat) : Int) = ((n37 : Nat) : Int)))))) hF323 rfl (wanted_guard rfl rfl rfl hF323 rfl rfl rfl) rfl rfl (rn_move (hF323.get rfl)) ?_)
              intro a324 hF325; clear hF323
              refine wpl_op (i := 8) rfl (o_skip hF325 rfl (unwanted_guard rfl rfl rfl hF325 rfl (not_t (decide_eq_true hc314)) rfl) rfl rfl ?_)
              intro a326 hF327; clear hF325
              refine wpl_op (i := 9) rfl (o_skip hF327 rfl (unwanted_guard rfl rfl rfl hF327 rfl (not_t (decide_eq_true hc314)) rfl) rfl rfl ?_)
              intro a328 hF329; clear hF327
              refine wpl_op (i := 10) rfl (o_val (v := (.bool false)) hF329 rfl (wanted_guard rfl rfl rfl hF329 rfl rfl rfl) rfl rfl (rn_pickF (c_false hF329 rfl (not_t (decide_eq_true hc314))) rfl) ?_)
              intro a330 hF331; clear hF329
              refine wpl_op (i := 11) rfl (o_val (v := (.bool false)) hF331 rfl rfl rfl rfl (rn_pickF (c_false hF331 rfl rfl) (hF331.get rfl)) ?_)
              intro a332 hF333; clear hF331
              refine wpList_nil ?_
              refine hK307 _ _ ?_
              clear hK307
              have hF334 := ((((((((((((((((((hF333.nil.cons (hF333.get (t := 103) (v := (.bool false)) rfl)).cons (hF333.get (t := 14) (v := (.int .i64 ((climbF ((digsOf s).getD ((at_ : Int).toNat) []) at_ n ((pathF (digsOf s) at_).1)).2))) rfl)).cons (hF333.get (t := 12) (v := (.bool (decide ((((dirs (at_ : Int).toNat (n : Int).toNat).length : Nat) : Int) = ((n37 : Nat) : Int))))) rfl)).cons (hF333.get (t := 11) (v := (.int .i64 n)) rfl)).cons (hF333.get (t := 63) (v := (.bool true)) rfl)).cons (hF333.get (t := 62) (v := (.int .i64 0)) rfl)).cons (hF333.get (t := 61) (v := (.int .i64 4)) rfl)).cons (hF333.get (t := 60) (v := (.slice (some ⟨g181, 0, none⟩) 4 4)) rfl)).cons (hF333.get (t := 50) (v := (.bool (decide (((n37 : Nat) : Int) ≠ (((dirs (at_ : Int).toNat (((digsOf s).length : Nat) : Int).toNat).length : Nat) : Int))))) rfl)).cons (hF333.get (t := 32) (v := (.bool (decide ((((digsOf s).length : Nat) : Int) ≤ (at_ : Int))))) rfl)).cons (hF333.get (t := 9) (v := (.int .i64 ((pathF (digsOf s) at_).2))) rfl)).cons (hF333.get (t := 8) (v := (.slice A36 n37 c38)) rfl)).cons (hF333.get (t := 7) (v := (.slice A17 ((digsOf s).length) c18)) rfl)).cons (hF333.get (t := 16) (v := (.bool false)) rfl)).cons (hF333.get (t := 6) (v := (.bool false)) rfl)).cons (hF333.get (t := 2) (v := (.int .i64 n)) rfl)).cons (hF333.get (t := 1) (v := (.int .i64 at_)) rfl)).cons (hF333.get (t := 0) (v := (.slice A s.length c)) rfl))
              clear hF333
              refine wp_cond_false (c_false hF334 rfl rfl) ?_
              refine wp_skip ?_
              refine hK214 _ _ ?_
              clear hK214
              refine wp_region_lit ?_
              refine wpl_op (i := 0) rfl (o_val (v := (.int .i64 1)) hF334 rfl rfl rfl rfl (rn_add (hF334.get rfl) rfl (by omega) (by omega)) ?_)
              intro a335 hF336; clear hF334
              refine wpl_op (i := 1) rfl (o_val (v := (.int .i64 1)) hF336 rfl rfl rfl rfl (rn_move (hF336.get rfl)) ?_)
              intro a337 hF338; clear hF336
              refine wpList_nil ?_
              have d339 := (hf203.pres (((((Pres.refl w198).ext hx246).ext hx282).ext hx295).grownN hg302 (fun h => by simp only [Clip] at h; omega)))
              have d340 := (hf204.pres (((((Pres.refl w198).ext hx246).ext hx282).ext hx295).grownN hg302 (fun h => by simp only [Clip] at h; omega)))
              have b341 : Blk w300 g181 3 [(.int .i64 n), (.int .i64 (andI (n) (31))), (.int .i64 (((digsOf s).length) + 1 : Nat)), (.int .i64 (2 * ((digsOf s).length) : Nat))] := ((((b202.ext hx246).ext hx282).ext hx295).grownN hg302 (by omega))
              refine ⟨⟨1, (((((((((((((hF338.nil.cons (q_get hF338 (t := 62) rfl (by first | rfl | (congr 1; omega) | (congr 1; done)))).cons (q_get hF338 (t := 61) rfl rfl)).cons (q_get hF338 (t := 60) rfl rfl)).cons (q_get hF338 (t := 50) rfl rfl)).cons (q_get hF338 (t := 32) rfl rfl)).cons (q_get hF338 (t := 9) rfl rfl)).cons (q_get hF338 (t := 8) rfl rfl)).cons (q_get hF338 (t := 7) rfl rfl)).cons (q_get hF338 (t := 16) rfl rfl)).cons (q_get hF338 (t := 6) rfl rfl)).cons (q_get hF338 (t := 2) rfl rfl)).cons (q_get hF338 (t := 1) rfl rfl)).cons (q_get hF338 (t := 0) rfl rfl)), (by omega), ((((((Ext.refl w).trans hx200).trans hx246).trans hx282).trans hx295).grownN hg302 (by omega)), b341, d339, d340, (by omega)⟩, ?_⟩
              rw [hF338.get (t := 62) rfl, hL206.get (t := 62) rfl]; simp [intOf] <;> omega
            · skip
              refine wpl_op (i := 3) rfl (o_val (v := (.bool false)) hF313 rfl rfl rfl rfl (rn_neB Tryd.underlying4 (hF313.get rfl) (hF313.get rfl) (show _ = false from (decide_eq_false hc314)) (show _ = false from ((decide_eq_false (by rw [climbF, if_pos (by omega)]; simp)) : decide (((climbF ((digsOf s).getD ((at_ : Int).toNat) []) at_ n ((pathF (digsOf s) at_).1)).2 : Int) = (0 : Int)) = false)) rfl) ?_)
              intro a343 hF344; clear hF313
              refine wpl_op (i := 4) rfl (o_val (v := (.bool false)) hF344 rfl rfl rfl rfl (rn_move (hF344.get rfl)) ?_)
              intro a345 hF346; clear hF344
              refine wpl_op (i := 5) rfl (o_val (v := (.bool (decide ((((dirs (at_ : Int).toNat (n : Int).toNat).length : Nat) : Int) = ((n37 : Nat) : Int))))) hF346 rfl (wanted_guard rfl rfl rfl hF346 rfl rfl rfl) rfl rfl (rn_move (hF346.get rfl)) ?_)
              intro a347 hF348; clear hF346
              refine wpl_op (i := 6) rfl (o_val (v := (.bool (!(decide ((((dirs (at_ : Int).toNat (n : Int).toNat).length : Nat) : Int) = ((n37 : Nat) : Int)))))) hF348 rfl (wanted_guard rfl rfl rfl hF348 rfl rfl rfl) rfl rfl (rn_not' (hF348.get rfl) rfl) ?_)
              intro a349 hF350; clear hF348
              refine wpl_op (i := 7) rfl (o_val (v := (.bool (!(decide ((((dirs (at_ : Int).toNat (n : Int).toNat).length : Nat) : Int) = ((n37 : Nat) : Int)))))) hF350 rfl (wanted_guard rfl rfl rfl hF350 rfl rfl rfl) rfl rfl (rn_move (hF350.get rfl)) ?_)
              intro a351 hF352; clear hF350
              refine wpl_op (i := 8) rfl (o_val (v := (.int .i64 ((climbF ((digsOf s).getD ((at_ : Int).toNat) []) at_ n ((pathF (digsOf s) at_).1)).2))) hF352 rfl (wanted_guard rfl rfl rfl hF352 rfl (not_f (decide_eq_false hc314)) rfl) rfl rfl (rn_move (hF352.get rfl)) ?_)
              intro a353 hF354; clear hF352
              refine wpl_op (i := 9) rfl (o_val (v := (.bool (decide (((climbF ((digsOf s).getD ((at_ : Int).toNat) []) at_ n ((pathF (digsOf s) at_).1)).2 : Int) ≠ (1 : Int))))) hF354 rfl (wanted_guard rfl rfl rfl hF354 rfl (not_f (decide_eq_false hc314)) rfl) rfl rfl (rn_neq (hF354.get rfl) rfl) ?_)
              intro a355 hF356; clear hF354
              refine wpl_op (i := 10) rfl (o_val (v := (.bool (decide (((climbF ((digsOf s).getD ((at_ : Int).toNat) []) at_ n ((pathF (digsOf s) at_).1)).2 : Int) ≠ (1 : Int))))) hF356 rfl (wanted_guard rfl rfl rfl hF356 rfl rfl rfl) rfl rfl (rn_pickT (c_true hF356 rfl (not_f (decide_eq_false hc314))) (hF356.get rfl)) ?_)
              intro a357 hF358; clear hF356
              refine wpl_op (i := 11) rfl (o_val (v := (.bool (decide (((climbF ((digsOf s).getD ((at_ : Int).toNat) []) at_ n ((pathF (digsOf s) at_).1)).2 : Int) ≠ (1 : Int))))) hF358 rfl rfl rfl rfl (rn_pickF (c_false hF358 rfl rfl) (hF358.get rfl)) ?_)
              intro a359 hF360; clear hF358
              refine wpList_nil ?_
              refine hK307 _ _ ?_
              clear hK307
              have hF361 := ((((((((((((((((((hF360.nil.cons (hF360.get (t := 103) (v := (.bool (decide (((climbF ((digsOf s).getD ((at_ : Int).toNat) []) at_ n ((pathF (digsOf s) at_).1)).2 : Int) ≠ (1 : Int))))) rfl)).cons (hF360.get (t := 14) (v := (.int .i64 ((climbF ((digsOf s).getD ((at_ : Int).toNat) []) at_ n ((pathF (digsOf s) at_).1)).2))) rfl)).cons (hF360.get (t := 12) (v := (.bool (decide ((((dirs (at_ : Int).toNat (n : Int).toNat).length : Nat) : Int) = ((n37 : Nat) : Int))))) rfl)).cons (hF360.get (t := 11) (v := (.int .i64 n)) rfl)).cons (hF360.get (t := 63) (v := (.bool true)) rfl)).cons (hF360.get (t := 62) (v := (.int .i64 0)) rfl)).cons (hF360.get (t := 61) (v := (.int .i64 4)) rfl)).cons (hF360.get (t := 60) (v := (.slice (some ⟨g181, 0, none⟩) 4 4)) rfl)).cons (hF360.get (t := 50) (v := (.bool (decide (((n37 : Nat) : Int) ≠ (((dirs (at_ : Int).toNat (((digsOf s).length : Nat) : Int).toNat).length : Nat) : Int))))) rfl)).cons (hF360.get (t := 32) (v := (.bool (decide ((((digsOf s).length : Nat) : Int) ≤ (at_ : Int))))) rfl)).cons (hF360.get (t := 9) (v := (.int .i64 ((pathF (digsOf s) at_).2))) rfl)).cons (hF360.get (t := 8) (v := (.slice A36 n37 c38)) rfl)).cons (hF360.get (t := 7) (v := (.slice A17 ((digsOf s).length) c18)) rfl)).cons (hF360.get (t := 16) (v := (.bool false)) rfl)).cons (hF360.get (t := 6) (v := (.bool false)) rfl)).cons (hF360.get (t := 2) (v := (.int .i64 n)) rfl)).cons (hF360.get (t := 1) (v := (.int .i64 at_)) rfl)).cons (hF360.get (t := 0) (v := (.slice A s.length c)) rfl))
              clear hF360
              refine wp_cond_false (c_false hF361 rfl ((decide_eq_false (by rw [climbF, if_pos (by omega)]; simp)) : decide (((climbF ((digsOf s).getD ((at_ : Int).toNat) []) at_ n ((pathF (digsOf s) at_).1)).2 : Int) ≠ (1 : Int)) = false)) ?_
              refine wp_skip ?_
              refine hK214 _ _ ?_
              clear hK214
              refine wp_region_lit ?_
              refine wpl_op (i := 0) rfl (o_val (v := (.int .i64 1)) hF361 rfl rfl rfl rfl (rn_add (hF361.get rfl) rfl (by omega) (by omega)) ?_)
              intro a363 hF364; clear hF361
              refine wpl_op (i := 1) rfl (o_val (v := (.int .i64 1)) hF364 rfl rfl rfl rfl (rn_move (hF364.get rfl)) ?_)
              intro a365 hF366; clear hF364
              refine wpList_nil ?_
              have d367 := (hf203.pres (((((Pres.refl w198).ext hx246).ext hx282).ext hx295).grownN hg302 (fun h => by simp only [Clip] at h; omega)))
              have d368 := (hf204.pres (((((Pres.refl w198).ext hx246).ext hx282).ext hx295).grownN hg302 (fun h => by simp only [Clip] at h; omega)))
              have b369 : Blk w300 g181 3 [(.int .i64 n), (.int .i64 (andI (n) (31))), (.int .i64 (((digsOf s).length) + 1 : Nat)), (.int .i64 (2 * ((digsOf s).length) : Nat))] := ((((b202.ext hx246).ext hx282).ext hx295).grownN hg302 (by omega))
              refine ⟨⟨1, (((((((((((((hF366.nil.cons (q_get hF366 (t := 62) rfl (by first | rfl | (congr 1; omega) | (congr 1; done)))).cons (q_get hF366 (t := 61) rfl rfl)).cons (q_get hF366 (t := 60) rfl rfl)).cons (q_get hF366 (t := 50) rfl rfl)).cons (q_get hF366 (t := 32) rfl rfl)).cons (q_get hF366 (t := 9) rfl rfl)).cons (q_get hF366 (t := 8) rfl rfl)).cons (q_get hF366 (t := 7) rfl rfl)).cons (q_get hF366 (t := 16) rfl rfl)).cons (q_get hF366 (t := 6) rfl rfl)).cons (q_get hF366 (t := 2) rfl rfl)).cons (q_get hF366 (t := 1) rfl rfl)).cons (q_get hF366 (t := 0) rfl rfl)), (by omega), ((((((Ext.refl w).trans hx200).trans hx246).trans hx282).trans hx295).grownN hg302 (by omega)), b369, d367, d368, (by omega)⟩, ?_⟩
              rw [hF366.get (t := 62) rfl, hL206.get (t := 62) rfl]; simp [intOf] <;> omega
          · skip
            refine wpl_op (i := 8) rfl (o_skip hF239 rfl (unwanted_guard rfl rfl rfl hF239 rfl (decide_eq_false hc240) rfl) rfl rfl ?_)
            intro a370 hF371; clear hF239
            refine wpl_op (i := 9) rfl (o_skip hF371 rfl (unwanted_guard rfl rfl rfl hF371 rfl (decide_eq_false hc240) rfl) rfl rfl ?_)
            intro a372 hF373; clear hF371
            refine wpl_op (i := 10) rfl (o_skip hF373 rfl (unwanted_guard rfl rfl rfl hF373 rfl (decide_eq_false hc240) rfl) rfl rfl ?_)
            intro a374 hF375; clear hF373
            refine wpl_op (i := 11) rfl (o_skip hF375 rfl (unwanted_guard rfl rfl rfl hF375 rfl (decide_eq_false hc240) rfl) rfl rfl ?_)
            intro a376 hF377; clear hF375
            refine wpl_op (i := 12) rfl (o_skip hF377 rfl (unwanted_guard rfl rfl rfl hF377 rfl (decide_eq_false hc240) rfl) rfl rfl ?_)
            intro a378 hF379; clear hF377
            refine wpl_op (i := 13) rfl (o_skip hF379 rfl (unwanted_guard rfl rfl rfl hF379 rfl (decide_eq_false hc240) rfl) rfl rfl ?_)
            intro a380 hF381; clear hF379
            refine wpl_op (i := 14) rfl (o_val (v := (.bool false)) hF381 rfl rfl rfl rfl (rn_pickF (c_false hF381 rfl (decide_eq_false hc240)) rfl) ?_)
            intro a382 hF383; clear hF381
            refine wpl_op (i := 15) rfl (o_val (v := (.bool false)) hF383 rfl rfl rfl rfl (rn_assign (hF383.get rfl)) ?_)
            intro a384 hF385; clear hF383
            refine wpList_nil ?_
            refine hK222 _ _ ?_
            clear hK222
            have hF386 := ((((((((((((((((hF385.nil.cons (hF385.get (t := 12) (v := (.bool false)) rfl)).cons (hF385.get (t := 11) (v := (.int .i64 n)) rfl)).cons (hF385.get (t := 63) (v := (.bool true)) rfl)).cons (hF385.get (t := 62) (v := (.int .i64 0)) rfl)).cons (hF385.get (t := 61) (v := (.int .i64 4)) rfl)).cons (hF385.get (t := 60) (v := (.slice (some ⟨g181, 0, none⟩) 4 4)) rfl)).cons (hF385.get (t := 50) (v := (.bool (decide (((n37 : Nat) : Int) ≠ (((dirs (at_ : Int).toNat (((digsOf s).length : Nat) : Int).toNat).length : Nat) : Int))))) rfl)).cons (hF385.get (t := 32) (v := (.bool (decide ((((digsOf s).length : Nat) : Int) ≤ (at_ : Int))))) rfl)).cons (hF385.get (t := 9) (v := (.int .i64 ((pathF (digsOf s) at_).2))) rfl)).cons (hF385.get (t := 8) (v := (.slice A36 n37 c38)) rfl)).cons (hF385.get (t := 7) (v := (.slice A17 ((digsOf s).length) c18)) rfl)).cons (hF385.get (t := 16) (v := (.bool false)) rfl)).cons (hF385.get (t := 6) (v := (.bool false)) rfl)).cons (hF385.get (t := 2) (v := (.int .i64 n)) rfl)).cons (hF385.get (t := 1) (v := (.int .i64 at_)) rfl)).cons (hF385.get (t := 0) (v := (.slice A s.length c)) rfl))
            clear hF385
            refine wp_seq_k (fun K387 hK387 => ?_)
            refine wp_region_lit ?_
            refine wpl_op (i := 0) rfl (o_val (v := (.slice A17 ((digsOf s).length) c18)) hF386 rfl rfl rfl rfl (rn_move (hF386.get rfl)) ?_)
            intro a388 hF389; clear hF386
            refine wpl_op (i := 1) rfl (o_val (v := (.int .i64 at_)) hF389 rfl rfl rfl rfl (rn_move (hF389.get rfl)) ?_)
            intro a390 hF391; clear hF389
            obtain ⟨b392, o393, hA394, -⟩ := Fl.at hf203 (by omega)
            refine wpl_op (i := 2) rfl (o_val (v := (.pointer (some ⟨b392, o393 + (at_ : Int).toNat * 32, none⟩))) hF391 rfl rfl rfl rfl (rn_indexE Tryd.underlying30 (by kernel_rfl : (Tryd.prog.info? 26).map (·.size) = some 32) ((hF391.get rfl).trans (by rw [hA394])) (hF391.get rfl) (by omega : (0 : Int) ≤ at_) (by omega : (at_ : Int) < (((digsOf s).length : Nat) : Int)) (by omega)) ?_)
            intro a395 hF396; clear hF391
            refine wpl_op (i := 3) rfl (o_val (v := (.agg (byteVals ((digsOf s).getD ((at_ : Int).toNat) [])).toArray)) hF396 rfl rfl rfl rfl (rn_loadN (cs := byteVals ((digsOf s).getD ((at_ : Int).toNat) [])) (hF396.get rfl) Tryd.underlying26 rfl ((by kernel_rfl : (Tryd.prog.info? 26).map (·.size) = some 32).trans (congrArg some (byteVals_len (dig_len (digsOf_32 _) ((at_ : Int).toNat) (by omega))).symm)) (Fl.digAt hf203 hA394 (digsOf_32 _) (by omega))) ?_)
            intro a397 hF398; clear hF396
            refine wpl_op (i := 4) rfl (o_val (v := (.int .i64 at_)) hF398 rfl rfl rfl rfl (rn_move (hF398.get rfl)) ?_)
            intro a399 hF400; clear hF398
            refine wpl_op (i := 5) rfl (o_val (v := (.int .i64 n)) hF400 rfl rfl rfl rfl (rn_move (hF400.get rfl)) ?_)
            intro a401 hF402; clear hF400
            refine wpl_op (i := 6) rfl (o_val (v := (.slice A36 n37 c38)) hF402 rfl rfl rfl rfl (rn_move (hF402.get rfl)) ?_)
            intro a403 hF404; clear hF402
            refine wpl_op (i := 7) rfl (o_call hF404 rfl rfl rfl rfl (rn_call (args4 (hF404.get rfl) (hF404.get rfl) (hF404.get rfl) (hF404.get rfl)) rfl (by kernel_rfl)) (climb_at ((digsOf s).getD ((at_ : Int).toNat) []) at_ n ((pathF (digsOf s) at_).1) _ (v := (.slice A36 n37 c38)) (m := n37) (dig_len (digsOf_32 _) ((at_ : Int).toNat) (by omega)) (pathF_32 (digsOf s) at_) hf204 (hG.ext ((Ext.refl w).trans hx200))) ?_)
            rintro _ w405 ⟨rfl, hx406⟩
            refine ⟨_, rfl, ?_⟩; intro a407 hF408; clear hF404; have z409 := hx406.size
            refine wpl_op (i := 8) rfl (o_val (v := (.tuple #[(.agg (byteVals ((climbF ((digsOf s).getD ((at_ : Int).toNat) []) at_ n ((pathF (digsOf s) at_).1)).1)).toArray), (.int .i64 ((climbF ((digsOf s).getD ((at_ : Int).toNat) []) at_ n ((pathF (digsOf s) at_).1)).2))])) hF408 rfl rfl rfl rfl (rn_move (hF408.get rfl)) ?_)
            intro a410 hF411; clear hF408
            refine wpl_op (i := 9) rfl (o_val (v := (.agg (byteVals ((climbF ((digsOf s).getD ((at_ : Int).toNat) []) at_ n ((pathF (digsOf s) at_).1)).1)).toArray)) hF411 rfl rfl rfl rfl (rn_extract (hF411.get rfl) rfl) ?_)
            intro a412 hF413; clear hF411
            refine wpl_op (i := 10) rfl (o_val (v := (.int .i64 ((climbF ((digsOf s).getD ((at_ : Int).toNat) []) at_ n ((pathF (digsOf s) at_).1)).2))) hF413 rfl rfl rfl rfl (rn_extract (hF413.get rfl) rfl) ?_)
            intro a414 hF415; clear hF413
            refine wpl_op (i := 11) rfl (o_new (fun g => (.pointer (some ⟨g, 0, none⟩))) (byteVals (List.replicate 32 0)) 26 hF415 rfl rfl rfl rfl (by kernel_rfl) ?_)
            intro g416 w417 a422 hF423 z420 z421 b418 hx419; clear hF415
            refine wpl_op (i := 12) rfl (o_store (cells := (byteVals ((climbF ((digsOf s).getD ((at_ : Int).toNat) []) at_ n ((pathF (digsOf s) at_).1)).1))) hF423 rfl rfl rfl rfl (hF423.get rfl) (hF423.get rfl) b418 ((by kernel_rfl : (Tryd.prog.info? 26).map (·.size) = some 32).trans (congrArg some (byteVals_len (climbF_len _ _ _ _)).symm)) ((byteVals_len (show List.length (List.replicate 32 0) = _ from List.length_replicate)).trans (byteVals_len (climbF_len _ _ _ _)).symm) (byteVals_one _) ?_)
            intro w424 b425 hg426; have z427 := hg426.size
            refine wpl_op (i := 13) rfl (o_val (v := (.int .i64 ((climbF ((digsOf s).getD ((at_ : Int).toNat) []) at_ n ((pathF (digsOf s) at_).1)).2))) hF423 rfl rfl rfl rfl (rn_assign (hF423.get rfl)) ?_)
            intro a428 hF429; clear hF423
            refine wpList_nil ?_
            refine hK387 _ _ ?_
            clear hK387
            have hF430 := (((((((((((((((((hF429.nil.cons (hF429.get (t := 14) (v := (.int .i64 ((climbF ((digsOf s).getD ((at_ : Int).toNat) []) at_ n ((pathF (digsOf s) at_).1)).2))) rfl)).cons (hF429.get (t := 12) (v := (.bool false)) rfl)).cons (hF429.get (t := 11) (v := (.int .i64 n)) rfl)).cons (hF429.get (t := 63) (v := (.bool true)) rfl)).cons (hF429.get (t := 62) (v := (.int .i64 0)) rfl)).cons (hF429.get (t := 61) (v := (.int .i64 4)) rfl)).cons (hF429.get (t := 60) (v := (.slice (some ⟨g181, 0, none⟩) 4 4)) rfl)).cons (hF429.get (t := 50) (v := (.bool (decide (((n37 : Nat) : Int) ≠ (((dirs (at_ : Int).toNat (((digsOf s).length : Nat) : Int).toNat).length : Nat) : Int))))) rfl)).cons (hF429.get (t := 32) (v := (.bool (decide ((((digsOf s).length : Nat) : Int) ≤ (at_ : Int))))) rfl)).cons (hF429.get (t := 9) (v := (.int .i64 ((pathF (digsOf s) at_).2))) rfl)).cons (hF429.get (t := 8) (v := (.slice A36 n37 c38)) rfl)).cons (hF429.get (t := 7) (v := (.slice A17 ((digsOf s).length) c18)) rfl)).cons (hF429.get (t := 16) (v := (.bool false)) rfl)).cons (hF429.get (t := 6) (v := (.bool false)) rfl)).cons (hF429.get (t := 2) (v := (.int .i64 n)) rfl)).cons (hF429.get (t := 1) (v := (.int .i64 at_)) rfl)).cons (hF429.get (t := 0) (v := (.slice A s.length c)) rfl))
            clear hF429
            refine wp_seq_k (fun K431 hK431 => ?_)
            refine wp_region_lit ?_
            refine wpl_op (i := 0) rfl (o_val (v := (.bool false)) hF430 rfl rfl rfl rfl (rn_move (hF430.get rfl)) ?_)
            intro a432 hF433; clear hF430
            refine wpl_op (i := 1) rfl (o_val (v := (.int .i64 ((climbF ((digsOf s).getD ((at_ : Int).toNat) []) at_ n ((pathF (digsOf s) at_).1)).2))) hF433 rfl rfl rfl rfl (rn_move (hF433.get rfl)) ?_)
            intro a434 hF435; clear hF433
            refine wpl_op (i := 2) rfl (o_val (v := (.bool (decide (((climbF ((digsOf s).getD ((at_ : Int).toNat) []) at_ n ((pathF (digsOf s) at_).1)).2 : Int) = (0 : Int))))) hF435 rfl rfl rfl rfl (rn_eql (hF435.get rfl) rfl) ?_)
            intro a436 hF437; clear hF435
            refine wpl_op (i := 3) rfl (o_val (v := (.bool false)) hF437 rfl rfl rfl rfl (rn_neB Tryd.underlying4 (hF437.get rfl) (hF437.get rfl) (show _ = false from rfl) (show _ = false from ((decide_eq_false (by rw [climbF, if_pos (by omega)]; simp)) : decide (((climbF ((digsOf s).getD ((at_ : Int).toNat) []) at_ n ((pathF (digsOf s) at_).1)).2 : Int) = (0 : Int)) = false)) rfl) ?_)
            intro a439 hF440; clear hF437
            refine wpl_op (i := 4) rfl (o_val (v := (.bool false)) hF440 rfl rfl rfl rfl (rn_move (hF440.get rfl)) ?_)
            intro a441 hF442; clear hF440
            refine wpl_op (i := 5) rfl (o_val (v := (.bool false)) hF442 rfl (wanted_guard rfl rfl rfl hF442 rfl rfl rfl) rfl rfl (rn_move (hF442.get rfl)) ?_)
            intro a443 hF444; clear hF442
            refine wpl_op (i := 6) rfl (o_val (v := (.bool true)) hF444 rfl (wanted_guard rfl rfl rfl hF444 rfl rfl rfl) rfl rfl (rn_not' (hF444.get rfl) rfl) ?_)
            intro a445 hF446; clear hF444
            refine wpl_op (i := 7) rfl (o_val (v := (.bool true)) hF446 rfl (wanted_guard rfl rfl rfl hF446 rfl rfl rfl) rfl rfl (rn_move (hF446.get rfl)) ?_)
            intro a447 hF448; clear hF446
            refine wpl_op (i := 8) rfl (o_val (v := (.int .i64 ((climbF ((digsOf s).getD ((at_ : Int).toNat) []) at_ n ((pathF (digsOf s) at_).1)).2))) hF448 rfl (wanted_guard rfl rfl rfl hF448 rfl rfl rfl) rfl rfl (rn_move (hF448.get rfl)) ?_)
            intro a449 hF450; clear hF448
            refine wpl_op (i := 9) rfl (o_val (v := (.bool (decide (((climbF ((digsOf s).getD ((at_ : Int).toNat) []) at_ n ((pathF (digsOf s) at_).1)).2 : Int) ≠ (1 : Int))))) hF450 rfl (wanted_guard rfl rfl rfl hF450 rfl rfl rfl) rfl rfl (rn_neq (hF450.get rfl) rfl) ?_)
            intro a451 hF452; clear hF450
            refine wpl_op (i := 10) rfl (o_val (v := (.bool (decide (((climbF ((digsOf s).getD ((at_ : Int).toNat) []) at_ n ((pathF (digsOf s) at_).1)).2 : Int) ≠ (1 : Int))))) hF452 rfl (wanted_guard rfl rfl rfl hF452 rfl rfl rfl) rfl rfl (rn_pickT (c_true hF452 rfl rfl) (hF452.get rfl)) ?_)
            intro a453 hF454; clear hF452
            refine wpl_op (i := 11) rfl (o_val (v := (.bool (decide (((climbF ((digsOf s).getD ((at_ : Int).toNat) []) at_ n ((pathF (digsOf s) at_).1)).2 : Int) ≠ (1 : Int))))) hF454 rfl rfl rfl rfl (rn_pickF (c_false hF454 rfl rfl) (hF454.get rfl)) ?_)
            intro a455 hF456; clear hF454
            refine wpList_nil ?_
            refine hK431 _ _ ?_
            clear hK431
            have hF457 := ((((((((((((((((((hF456.nil.cons (hF456.get (t := 103) (v := (.bool (decide (((climbF ((digsOf s).getD ((at_ : Int).toNat) []) at_ n ((pathF (digsOf s) at_).1)).2 : Int) ≠ (1 : Int))))) rfl)).cons (hF456.get (t := 14) (v := (.int .i64 ((climbF ((digsOf s).getD ((at_ : Int).toNat) []) at_ n ((pathF (digsOf s) at_).1)).2))) rfl)).cons (hF456.get (t := 12) (v := (.bool false)) rfl)).cons (hF456.get (t := 11) (v := (.int .i64 n)) rfl)).cons (hF456.get (t := 63) (v := (.bool true)) rfl)).cons (hF456.get (t := 62) (v := (.int .i64 0)) rfl)).cons (hF456.get (t := 61) (v := (.int .i64 4)) rfl)).cons (hF456.get (t := 60) (v := (.slice (some ⟨g181, 0, none⟩) 4 4)) rfl)).cons (hF456.get (t := 50) (v := (.bool (decide (((n37 : Nat) : Int) ≠ (((dirs (at_ : Int).toNat (((digsOf s).length : Nat) : Int).toNat).length : Nat) : Int))))) rfl)).cons (hF456.get (t := 32) (v := (.bool (decide ((((digsOf s).length : Nat) : Int) ≤ (at_ : Int))))) rfl)).cons (hF456.get (t := 9) (v := (.int .i64 ((pathF (digsOf s) at_).2))) rfl)).cons (hF456.get (t := 8) (v := (.slice A36 n37 c38)) rfl)).cons (hF456.get (t := 7) (v := (.slice A17 ((digsOf s).length) c18)) rfl)).cons (hF456.get (t := 16) (v := (.bool false)) rfl)).cons (hF456.get (t := 6) (v := (.bool false)) rfl)).cons (hF456.get (t := 2) (v := (.int .i64 n)) rfl)).cons (hF456.get (t := 1) (v := (.int .i64 at_)) rfl)).cons (hF456.get (t := 0) (v := (.slice A s.length c)) rfl))
            clear hF456
            refine wp_cond_false (c_false hF457 rfl ((decide_eq_false (by rw [climbF, if_pos (by omega)]; simp)) : decide (((climbF ((digsOf s).getD ((at_ : Int).toNat) []) at_ n ((pathF (digsOf s) at_).1)).2 : Int) ≠ (1 : Int)) = false)) ?_
            refine wp_skip ?_
            refine hK214 _ _ ?_
            clear hK214
            refine wp_region_lit ?_
            refine wpl_op (i := 0) rfl (o_val (v := (.int .i64 1)) hF457 rfl rfl rfl rfl (rn_add (hF457.get rfl) rfl (by omega) (by omega)) ?_)
            intro a459 hF460; clear hF457
            refine wpl_op (i := 1) rfl (o_val (v := (.int .i64 1)) hF460 rfl rfl rfl rfl (rn_move (hF460.get rfl)) ?_)
            intro a461 hF462; clear hF460
            refine wpList_nil ?_
            have d463 := (hf203.pres ((((Pres.refl w198).ext hx406).ext hx419).grownN hg426 (fun h => by simp only [Clip] at h; omega)))
            have d464 := (hf204.pres ((((Pres.refl w198).ext hx406).ext hx419).grownN hg426 (fun h => by simp only [Clip] at h; omega)))
            have b465 : Blk w424 g181 3 [(.int .i64 n), (.int .i64 (andI (n) (31))), (.int .i64 (((digsOf s).length) + 1 : Nat)), (.int .i64 (2 * ((digsOf s).length) : Nat))] := (((b202.ext hx406).ext hx419).grownN hg426 (by omega))
            refine ⟨⟨1, (((((((((((((hF462.nil.cons (q_get hF462 (t := 62) rfl (by first | rfl | (congr 1; omega) | (congr 1; done)))).cons (q_get hF462 (t := 61) rfl rfl)).cons (q_get hF462 (t := 60) rfl rfl)).cons (q_get hF462 (t := 50) rfl rfl)).cons (q_get hF462 (t := 32) rfl rfl)).cons (q_get hF462 (t := 9) rfl rfl)).cons (q_get hF462 (t := 8) rfl rfl)).cons (q_get hF462 (t := 7) rfl rfl)).cons (q_get hF462 (t := 16) rfl rfl)).cons (q_get hF462 (t := 6) rfl rfl)).cons (q_get hF462 (t := 2) rfl rfl)).cons (q_get hF462 (t := 1) rfl rfl)).cons (q_get hF462 (t := 0) rfl rfl)), (by omega), (((((Ext.refl w).trans hx200).trans hx406).trans hx419).grownN hg426 (by omega)), b465, d463, d464, (by omega)⟩, ?_⟩
            rw [hF462.get (t := 62) rfl, hL206.get (t := 62) rfl]; simp [intOf] <;> omega
        · skip
          refine wpl_op (i := 4) rfl (o_skip hF230 rfl (unwanted_guard rfl rfl rfl hF230 rfl (decide_eq_false hc231) rfl) rfl rfl ?_)
          intro a466 hF467; clear hF230
          refine wpl_op (i := 5) rfl (o_skip hF467 rfl (unwanted_guard rfl rfl rfl hF467 rfl (decide_eq_false hc231) rfl) rfl rfl ?_)
          intro a468 hF469; clear hF467
          refine wpl_op (i := 6) rfl (o_val (v := (.bool false)) hF469 rfl rfl rfl rfl (rn_pickF (c_false hF469 rfl (decide_eq_false hc231)) rfl) ?_)
          intro a470 hF471; clear hF469
          refine wpl_op (i := 7) rfl (o_val (v := (.bool false)) hF471 rfl rfl rfl rfl (rn_move (hF471.get rfl)) ?_)
          intro a472 hF473; clear hF471
          refine wpl_op (i := 8) rfl (o_skip hF473 rfl (unwanted_guard rfl rfl rfl hF473 rfl rfl rfl) rfl rfl ?_)
          intro a474 hF475; clear hF473
          refine wpl_op (i := 9) rfl (o_skip hF475 rfl (unwanted_guard rfl rfl rfl hF475 rfl rfl rfl) rfl rfl ?_)
          intro a476 hF477; clear hF475
          refine wpl_op (i := 10) rfl (o_skip hF477 rfl (unwanted_guard rfl rfl rfl hF477 rfl rfl rfl) rfl rfl ?_)
          intro a478 hF479; clear hF477
          refine wpl_op (i := 11) rfl (o_skip hF479 rfl (unwanted_guard rfl rfl rfl hF479 rfl rfl rfl) rfl rfl ?_)
          intro a480 hF481; clear hF479
          refine wpl_op (i := 12) rfl (o_skip hF481 rfl (unwanted_guard rfl rfl rfl hF481 rfl rfl rfl) rfl rfl ?_)
          intro a482 hF483; clear hF481
          refine wpl_op (i := 13) rfl (o_skip hF483 rfl (unwanted_guard rfl rfl rfl hF483 rfl rfl rfl) rfl rfl ?_)
          intro a484 hF485; clear hF483
          refine wpl_op (i := 14) rfl (o_val (v := (.bool false)) hF485 rfl rfl rfl rfl (rn_pickF (c_false hF485 rfl rfl) rfl) ?_)
          intro a486 hF487; clear hF485
          refine wpl_op (i := 15) rfl (o_val (v := (.bool false)) hF487 rfl rfl rfl rfl (rn_assign (hF487.get rfl)) ?_)
          intro a488 hF489; clear hF487
          refine wpList_nil ?_
          refine hK222 _ _ ?_
          clear hK222
          have hF490 := ((((((((((((((((hF489.nil.cons (hF489.get (t := 12) (v := (.bool false)) rfl)).cons (hF489.get (t := 11) (v := (.int .i64 n)) rfl)).cons (hF489.get (t := 63) (v := (.bool true)) rfl)).cons (hF489.get (t := 62) (v := (.int .i64 0)) rfl)).cons (hF489.get (t := 61) (v := (.int .i64 4)) rfl)).cons (hF489.get (t := 60) (v := (.slice (some ⟨g181, 0, none⟩) 4 4)) rfl)).cons (hF489.get (t := 50) (v := (.bool (decide (((n37 : Nat) : Int) ≠ (((dirs (at_ : Int).toNat (((digsOf s).length : Nat) : Int).toNat).length : Nat) : Int))))) rfl)).cons (hF489.get (t := 32) (v := (.bool (decide ((((digsOf s).length : Nat) : Int) ≤ (at_ : Int))))) rfl)).cons (hF489.get (t := 9) (v := (.int .i64 ((pathF (digsOf s) at_).2))) rfl)).cons (hF489.get (t := 8) (v := (.slice A36 n37 c38)) rfl)).cons (hF489.get (t := 7) (v := (.slice A17 ((digsOf s).length) c18)) rfl)).cons (hF489.get (t := 16) (v := (.bool false)) rfl)).cons (hF489.get (t := 6) (v := (.bool false)) rfl)).cons (hF489.get (t := 2) (v := (.int .i64 n)) rfl)).cons (hF489.get (t := 1) (v := (.int .i64 at_)) rfl)).cons (hF489.get (t := 0) (v := (.slice A s.length c)) rfl))
          clear hF489
          refine wp_seq_k (fun K491 hK491 => ?_)
          refine wp_region_lit ?_
          refine wpl_op (i := 0) rfl (o_val (v := (.slice A17 ((digsOf s).length) c18)) hF490 rfl rfl rfl rfl (rn_move (hF490.get rfl)) ?_)
          intro a492 hF493; clear hF490
          refine wpl_op (i := 1) rfl (o_val (v := (.int .i64 at_)) hF493 rfl rfl rfl rfl (rn_move (hF493.get rfl)) ?_)
          intro a494 hF495; clear hF493
          obtain ⟨b496, o497, hA498, -⟩ := Fl.at hf203 (by omega)
          refine wpl_op (i := 2) rfl (o_val (v := (.pointer (some ⟨b496, o497 + (at_ : Int).toNat * 32, none⟩))) hF495 rfl rfl rfl rfl (rn_indexE Tryd.underlying30 (by kernel_rfl : (Tryd.prog.info? 26).map (·.size) = some 32) ((hF495.get rfl).trans (by rw [hA498])) (hF495.get rfl) (by omega : (0 : Int) ≤ at_) (by omega : (at_ : Int) < (((digsOf s).length : Nat) : Int)) (by omega)) ?_)
          intro a499 hF500; clear hF495
          refine wpl_op (i := 3) rfl (o_val (v := (.agg (byteVals ((digsOf s).getD ((at_ : Int).toNat) [])).toArray)) hF500 rfl rfl rfl rfl (rn_loadN (cs := byteVals ((digsOf s).getD ((at_ : Int).toNat) [])) (hF500.get rfl) Tryd.underlying26 rfl ((by kernel_rfl : (Tryd.prog.info? 26).map (·.size) = some 32).trans (congrArg some (byteVals_len (dig_len (digsOf_32 _) ((at_ : Int).toNat) (by omega))).symm)) (Fl.digAt hf203 hA498 (digsOf_32 _) (by omega))) ?_)
          intro a501 hF502; clear hF500
          refine wpl_op (i := 4) rfl (o_val (v := (.int .i64 at_)) hF502 rfl rfl rfl rfl (rn_move (hF502.get rfl)) ?_)
          intro a503 hF504; clear hF502
          refine wpl_op (i := 5) rfl (o_val (v := (.int .i64 n)) hF504 rfl rfl rfl rfl (rn_move (hF504.get rfl)) ?_)
          intro a505 hF506; clear hF504
          refine wpl_op (i := 6) rfl (o_val (v := (.slice A36 n37 c38)) hF506 rfl rfl rfl rfl (rn_move (hF506.get rfl)) ?_)
          intro a507 hF508; clear hF506
          refine wpl_op (i := 7) rfl (o_call hF508 rfl rfl rfl rfl (rn_call (args4 (hF508.get rfl) (hF508.get rfl) (hF508.get rfl) (hF508.get rfl)) rfl (by kernel_rfl)) (climb_at ((digsOf s).getD ((at_ : Int).toNat) []) at_ n ((pathF (digsOf s) at_).1) _ (v := (.slice A36 n37 c38)) (m := n37) (dig_len (digsOf_32 _) ((at_ : Int).toNat) (by omega)) (pathF_32 (digsOf s) at_) hf204 (hG.ext ((Ext.refl w).trans hx200))) ?_)
          rintro _ w509 ⟨rfl, hx510⟩
          refine ⟨_, rfl, ?_⟩; intro a511 hF512; clear hF508; have z513 := hx510.size
          refine wpl_op (i := 8) rfl (o_val (v := (.tuple #[(.agg (byteVals ((climbF ((digsOf s).getD ((at_ : Int).toNat) []) at_ n ((pathF (digsOf s) at_).1)).1)).toArray), (.int .i64 ((climbF ((digsOf s).getD ((at_ : Int).toNat) []) at_ n ((pathF (digsOf s) at_).1)).2))])) hF512 rfl rfl rfl rfl (rn_move (hF512.get rfl)) ?_)
          intro a514 hF515; clear hF512
          refine wpl_op (i := 9) rfl (o_val (v := (.agg (byteVals ((climbF ((digsOf s).getD ((at_ : Int).toNat) []) at_ n ((pathF (digsOf s) at_).1)).1)).toArray)) hF515 rfl rfl rfl rfl (rn_extract (hF515.get rfl) rfl) ?_)
          intro a516 hF517; clear hF515
          refine wpl_op (i := 10) rfl (o_val (v := (.int .i64 ((climbF ((digsOf s).getD ((at_ : Int).toNat) []) at_ n ((pathF (digsOf s) at_).1)).2))) hF517 rfl rfl rfl rfl (rn_extract (hF517.get rfl) rfl) ?_)
          intro a518 hF519; clear hF517
          refine wpl_op (i := 11) rfl (o_new (fun g => (.pointer (some ⟨g, 0, none⟩))) (byteVals (List.replicate 32 0)) 26 hF519 rfl rfl rfl rfl (by kernel_rfl) ?_)
          intro g520 w521 a526 hF527 z524 z525 b522 hx523; clear hF519
          refine wpl_op (i := 12) rfl (o_store (cells := (byteVals ((climbF ((digsOf s).getD ((at_ : Int).toNat) []) at_ n ((pathF (digsOf s) at_).1)).1))) hF527 rfl rfl rfl rfl (hF527.get rfl) (hF527.get rfl) b522 ((by kernel_rfl : (Tryd.prog.info? 26).map (·.size) = some 32).trans (congrArg some (byteVals_len (climbF_len _ _ _ _)).symm)) ((byteVals_len (show List.length (List.replicate 32 0) = _ from List.length_replicate)).trans (byteVals_len (climbF_len _ _ _ _)).symm) (byteVals_one _) ?_)
          intro w528 b529 hg530; have z531 := hg530.size
          refine wpl_op (i := 13) rfl (o_val (v := (.int .i64 ((climbF ((digsOf s).getD ((at_ : Int).toNat) []) at_ n ((pathF (digsOf s) at_).1)).2))) hF527 rfl rfl rfl rfl (rn_assign (hF527.get rfl)) ?_)
          intro a532 hF533; clear hF527
          refine wpList_nil ?_
          refine hK491 _ _ ?_
          clear hK491
          have hF534 := (((((((((((((((((hF533.nil.cons (hF533.get (t := 14) (v := (.int .i64 ((climbF ((digsOf s).getD ((at_ : Int).toNat) []) at_ n ((pathF (digsOf s) at_).1)).2))) rfl)).cons (hF533.get (t := 12) (v := (.bool false)) rfl)).cons (hF533.get (t := 11) (v := (.int .i64 n)) rfl)).cons (hF533.get (t := 63) (v := (.bool true)) rfl)).cons (hF533.get (t := 62) (v := (.int .i64 0)) rfl)).cons (hF533.get (t := 61) (v := (.int .i64 4)) rfl)).cons (hF533.get (t := 60) (v := (.slice (some ⟨g181, 0, none⟩) 4 4)) rfl)).cons (hF533.get (t := 50) (v := (.bool (decide (((n37 : Nat) : Int) ≠ (((dirs (at_ : Int).toNat (((digsOf s).length : Nat) : Int).toNat).length : Nat) : Int))))) rfl)).cons (hF533.get (t := 32) (v := (.bool (decide ((((digsOf s).length : Nat) : Int) ≤ (at_ : Int))))) rfl)).cons (hF533.get (t := 9) (v := (.int .i64 ((pathF (digsOf s) at_).2))) rfl)).cons (hF533.get (t := 8) (v := (.slice A36 n37 c38)) rfl)).cons (hF533.get (t := 7) (v := (.slice A17 ((digsOf s).length) c18)) rfl)).cons (hF533.get (t := 16) (v := (.bool false)) rfl)).cons (hF533.get (t := 6) (v := (.bool false)) rfl)).cons (hF533.get (t := 2) (v := (.int .i64 n)) rfl)).cons (hF533.get (t := 1) (v := (.int .i64 at_)) rfl)).cons (hF533.get (t := 0) (v := (.slice A s.length c)) rfl))
          clear hF533
          refine wp_seq_k (fun K535 hK535 => ?_)
          refine wp_region_lit ?_
          refine wpl_op (i := 0) rfl (o_val (v := (.bool false)) hF534 rfl rfl rfl rfl (rn_move (hF534.get rfl)) ?_)
          intro a536 hF537; clear hF534
          refine wpl_op (i := 1) rfl (o_val (v := (.int .i64 ((climbF ((digsOf s).getD ((at_ : Int).toNat) []) at_ n ((pathF (digsOf s) at_).1)).2))) hF537 rfl rfl rfl rfl (rn_move (hF537.get rfl)) ?_)
          intro a538 hF539; clear hF537
          refine wpl_op (i := 2) rfl (o_val (v := (.bool (decide (((climbF ((digsOf s).getD ((at_ : Int).toNat) []) at_ n ((pathF (digsOf s) at_).1)).2 : Int) = (0 : Int))))) hF539 rfl rfl rfl rfl (rn_eql (hF539.get rfl) rfl) ?_)
          intro a540 hF541; clear hF539
          refine wpl_op (i := 3) rfl (o_val (v := (.bool false)) hF541 rfl rfl rfl rfl (rn_neB Tryd.underlying4 (hF541.get rfl) (hF541.get rfl) (show _ = false from rfl) (show _ = false from ((decide_eq_false (by rw [climbF, if_pos (by omega)]; simp)) : decide (((climbF ((digsOf s).getD ((at_ : Int).toNat) []) at_ n ((pathF (digsOf s) at_).1)).2 : Int) = (0 : Int)) = false)) rfl) ?_)
          intro a543 hF544; clear hF541
          refine wpl_op (i := 4) rfl (o_val (v := (.bool false)) hF544 rfl rfl rfl rfl (rn_move (hF544.get rfl)) ?_)
          intro a545 hF546; clear hF544
          refine wpl_op (i := 5) rfl (o_val (v := (.bool false)) hF546 rfl (wanted_guard rfl rfl rfl hF546 rfl rfl rfl) rfl rfl (rn_move (hF546.get rfl)) ?_)
          intro a547 hF548; clear hF546
          refine wpl_op (i := 6) rfl (o_val (v := (.bool true)) hF548 rfl (wanted_guard rfl rfl rfl hF548 rfl rfl rfl) rfl rfl (rn_not' (hF548.get rfl) rfl) ?_)
          intro a549 hF550; clear hF548
          refine wpl_op (i := 7) rfl (o_val (v := (.bool true)) hF550 rfl (wanted_guard rfl rfl rfl hF550 rfl rfl rfl) rfl rfl (rn_move (hF550.get rfl)) ?_)
          intro a551 hF552; clear hF550
          refine wpl_op (i := 8) rfl (o_val (v := (.int .i64 ((climbF ((digsOf s).getD ((at_ : Int).toNat) []) at_ n ((pathF (digsOf s) at_).1)).2))) hF552 rfl (wanted_guard rfl rfl rfl hF552 rfl rfl rfl) rfl rfl (rn_move (hF552.get rfl)) ?_)
          intro a553 hF554; clear hF552
          refine wpl_op (i := 9) rfl (o_val (v := (.bool (decide (((climbF ((digsOf s).getD ((at_ : Int).toNat) []) at_ n ((pathF (digsOf s) at_).1)).2 : Int) ≠ (1 : Int))))) hF554 rfl (wanted_guard rfl rfl rfl hF554 rfl rfl rfl) rfl rfl (rn_neq (hF554.get rfl) rfl) ?_)
          intro a555 hF556; clear hF554
          refine wpl_op (i := 10) rfl (o_val (v := (.bool (decide (((climbF ((digsOf s).getD ((at_ : Int).toNat) []) at_ n ((pathF (digsOf s) at_).1)).2 : Int) ≠ (1 : Int))))) hF556 rfl (wanted_guard rfl rfl rfl hF556 rfl rfl rfl) rfl rfl (rn_pickT (c_true hF556 rfl rfl) (hF556.get rfl)) ?_)
          intro a557 hF558; clear hF556
          refine wpl_op (i := 11) rfl (o_val (v := (.bool (decide (((climbF ((digsOf s).getD ((at_ : Int).toNat) []) at_ n ((pathF (digsOf s) at_).1)).2 : Int) ≠ (1 : Int))))) hF558 rfl rfl rfl rfl (rn_pickF (c_false hF558 rfl rfl) (hF558.get rfl)) ?_)
          intro a559 hF560; clear hF558
          refine wpList_nil ?_
          refine hK535 _ _ ?_
          clear hK535
          have hF561 := ((((((((((((((((((hF560.nil.cons (hF560.get (t := 103) (v := (.bool (decide (((climbF ((digsOf s).getD ((at_ : Int).toNat) []) at_ n ((pathF (digsOf s) at_).1)).2 : Int) ≠ (1 : Int))))) rfl)).cons (hF560.get (t := 14) (v := (.int .i64 ((climbF ((digsOf s).getD ((at_ : Int).toNat) []) at_ n ((pathF (digsOf s) at_).1)).2))) rfl)).cons (hF560.get (t := 12) (v := (.bool false)) rfl)).cons (hF560.get (t := 11) (v := (.int .i64 n)) rfl)).cons (hF560.get (t := 63) (v := (.bool true)) rfl)).cons (hF560.get (t := 62) (v := (.int .i64 0)) rfl)).cons (hF560.get (t := 61) (v := (.int .i64 4)) rfl)).cons (hF560.get (t := 60) (v := (.slice (some ⟨g181, 0, none⟩) 4 4)) rfl)).cons (hF560.get (t := 50) (v := (.bool (decide (((n37 : Nat) : Int) ≠ (((dirs (at_ : Int).toNat (((digsOf s).length : Nat) : Int).toNat).length : Nat) : Int))))) rfl)).cons (hF560.get (t := 32) (v := (.bool (decide ((((digsOf s).length : Nat) : Int) ≤ (at_ : Int))))) rfl)).cons (hF560.get (t := 9) (v := (.int .i64 ((pathF (digsOf s) at_).2))) rfl)).cons (hF560.get (t := 8) (v := (.slice A36 n37 c38)) rfl)).cons (hF560.get (t := 7) (v := (.slice A17 ((digsOf s).length) c18)) rfl)).cons (hF560.get (t := 16) (v := (.bool false)) rfl)).cons (hF560.get (t := 6) (v := (.bool false)) rfl)).cons (hF560.get (t := 2) (v := (.int .i64 n)) rfl)).cons (hF560.get (t := 1) (v := (.int .i64 at_)) rfl)).cons (hF560.get (t := 0) (v := (.slice A s.length c)) rfl))
          clear hF560
          refine wp_cond_false (c_false hF561 rfl ((decide_eq_false (by rw [climbF, if_pos (by omega)]; simp)) : decide (((climbF ((digsOf s).getD ((at_ : Int).toNat) []) at_ n ((pathF (digsOf s) at_).1)).2 : Int) ≠ (1 : Int)) = false)) ?_
          refine wp_skip ?_
          refine hK214 _ _ ?_
          clear hK214
          refine wp_region_lit ?_
          refine wpl_op (i := 0) rfl (o_val (v := (.int .i64 1)) hF561 rfl rfl rfl rfl (rn_add (hF561.get rfl) rfl (by omega) (by omega)) ?_)
          intro a563 hF564; clear hF561
          refine wpl_op (i := 1) rfl (o_val (v := (.int .i64 1)) hF564 rfl rfl rfl rfl (rn_move (hF564.get rfl)) ?_)
          intro a565 hF566; clear hF564
          refine wpList_nil ?_
          have d567 := (hf203.pres ((((Pres.refl w198).ext hx510).ext hx523).grownN hg530 (fun h => by simp only [Clip] at h; omega)))
          have d568 := (hf204.pres ((((Pres.refl w198).ext hx510).ext hx523).grownN hg530 (fun h => by simp only [Clip] at h; omega)))
          have b569 : Blk w528 g181 3 [(.int .i64 n), (.int .i64 (andI (n) (31))), (.int .i64 (((digsOf s).length) + 1 : Nat)), (.int .i64 (2 * ((digsOf s).length) : Nat))] := (((b202.ext hx510).ext hx523).grownN hg530 (by omega))
          refine ⟨⟨1, (((((((((((((hF566.nil.cons (q_get hF566 (t := 62) rfl (by first | rfl | (congr 1; omega) | (congr 1; done)))).cons (q_get hF566 (t := 61) rfl rfl)).cons (q_get hF566 (t := 60) rfl rfl)).cons (q_get hF566 (t := 50) rfl rfl)).cons (q_get hF566 (t := 32) rfl rfl)).cons (q_get hF566 (t := 9) rfl rfl)).cons (q_get hF566 (t := 8) rfl rfl)).cons (q_get hF566 (t := 7) rfl rfl)).cons (q_get hF566 (t := 16) rfl rfl)).cons (q_get hF566 (t := 6) rfl rfl)).cons (q_get hF566 (t := 2) rfl rfl)).cons (q_get hF566 (t := 1) rfl rfl)).cons (q_get hF566 (t := 0) rfl rfl)), (by omega), (((((Ext.refl w).trans hx200).trans hx510).trans hx523).grownN hg530 (by omega)), b569, d567, d568, (by omega)⟩, ?_⟩
          rw [hF566.get (t := 62) rfl, hL206.get (t := 62) rfl]; simp [intOf] <;> omega
      · subst hk209
        refine wp_seq_k (fun K570 hK570 => ?_)
        refine wp_region_lit ?_
        refine wpl_op (i := 0) rfl (o_val (v := (.bool true)) hF199 rfl rfl rfl rfl (rn_lss' (hF199.get rfl) (hF199.get rfl) (by decide)) ?_)
        intro a571 hF572; clear hF199
        refine wpList_nil ?_
        refine hK570 _ _ ?_
        clear hK570
        refine wp_seq_k (fun K573 hK573 => ?_)
        refine wp_cond_true (c_true hF572 rfl rfl) ?_
        refine wp_skip ?_
        refine hK573 _ _ ?_
        clear hK573
        refine wp_seq_k (fun K574 hK574 => ?_)
        refine wp_block ?_
        refine wp_seq_k (fun K575 hK575 => ?_)
        refine wp_region_lit ?_
        refine wpl_op (i := 0) rfl (o_val (v := (.pointer (some ⟨g181, 0 + 1, none⟩))) hF572 rfl rfl rfl rfl (rn_index1 Tryd.underlying33 (by kernel_rfl : (Tryd.prog.info? 3).map (·.size) = some 1) (hF572.get rfl) (hF572.get rfl) (by omega : (0 : Int) ≤ 1) (by omega : (1 : Int) < ((4 : Nat) : Int))) ?_)
        intro a576 hF577; clear hF572
        refine wpl_op (i := 1) rfl (o_val (v := (.int .i64 (andI (n) (31)))) hF577 rfl rfl rfl rfl (rn_load (isAgg_no Tryd.underlying3 rfl) (hF577.get rfl) (b202.rule.1 (0 + 1))) ?_)
        intro a578 hF579; clear hF577
        refine wpl_op (i := 2) rfl (o_val (v := (.int .i64 (andI (n) (31)))) hF579 rfl rfl rfl rfl (rn_assign (hF579.get rfl)) ?_)
        intro a580 hF581; clear hF579
        refine wpList_nil ?_
        refine hK575 _ _ ?_
        clear hK575
        refine wp_seq_k (fun K582 hK582 => ?_)
        refine wp_region_lit ?_
        refine wpl_op (i := 0) rfl (o_val (v := (.int .i64 (andI (n) (31)))) hF581 rfl rfl rfl rfl (rn_move (hF581.get rfl)) ?_)
        intro a583 hF584; clear hF581
        refine wpl_op (i := 1) rfl (o_val (v := (.int .i64 at_)) hF584 rfl rfl rfl rfl (rn_move (hF584.get rfl)) ?_)
        intro a585 hF586; clear hF584
        refine wpl_op (i := 2) rfl (o_val (v := (.bool (decide ((at_ : Int) < ((andI (n) (31)) : Int))))) hF586 rfl rfl rfl rfl (rn_gtr (hF586.get rfl) (hF586.get rfl)) ?_)
        intro a587 hF588; clear hF586
        refine wpl_op (i := 3) rfl (o_val (v := (.bool (decide ((at_ : Int) < ((andI (n) (31)) : Int))))) hF588 rfl rfl rfl rfl (rn_move (hF588.get rfl)) ?_)
        intro a589 hF590; clear hF588
        by_cases hc591 : (at_ : Int) < ((andI (n) (31)) : Int)
        · skip
          refine wpl_op (i := 4) rfl (o_val (v := (.int .i64 (andI (n) (31)))) hF590 rfl (wanted_guard rfl rfl rfl hF590 rfl (decide_eq_true hc591) rfl) rfl rfl (rn_move (hF590.get rfl)) ?_)
          intro a592 hF593; clear hF590
          refine wpl_op (i := 5) rfl (o_val (v := (.bool (decide (((andI (n) (31)) : Int) ≤ (1099511627776 : Int))))) hF593 rfl (wanted_guard rfl rfl rfl hF593 rfl (decide_eq_true hc591) rfl) rfl rfl (rn_leq (hF593.get rfl) rfl) ?_)
          intro a594 hF595; clear hF593
          refine wpl_op (i := 6) rfl (o_val (v := (.bool (decide (((andI (n) (31)) : Int) ≤ (1099511627776 : Int))))) hF595 rfl rfl rfl rfl (rn_pickT (c_true hF595 rfl (decide_eq_true hc591)) (hF595.get rfl)) ?_)
          intro a596 hF597; clear hF595
          refine wpl_op (i := 7) rfl (o_val (v := (.bool (decide (((andI (n) (31)) : Int) ≤ (1099511627776 : Int))))) hF597 rfl rfl rfl rfl (rn_move (hF597.get rfl)) ?_)
          intro a598 hF599; clear hF597
          by_cases hc600 : ((andI (n) (31)) : Int) ≤ (1099511627776 : Int)
          · skip
            refine wpl_op (i := 8) rfl (o_val (v := (.int .i64 at_)) hF599 rfl (wanted_guard rfl rfl rfl hF599 rfl (decide_eq_true hc600) rfl) rfl rfl (rn_move (hF599.get rfl)) ?_)
            intro a601 hF602; clear hF599
            refine wpl_op (i := 9) rfl (o_val (v := (.int .i64 (andI (n) (31)))) hF602 rfl (wanted_guard rfl rfl rfl hF602 rfl (decide_eq_true hc600) rfl) rfl rfl (rn_move (hF602.get rfl)) ?_)
            intro a603 hF604; clear hF602
            refine wpl_op (i := 10) rfl (o_call hF604 rfl (wanted_guard rfl rfl rfl hF604 rfl (decide_eq_true hc600) rfl) rfl rfl (rn_call (args2 (hF604.get rfl) (hF604.get rfl)) rfl (by kernel_rfl)) (steps_at (at_) ((andI (n) (31))) _ (by omega) (by omega) (by omega)) ?_)
            rintro _ w605 ⟨rfl, hx606⟩
            refine ⟨_, rfl, ?_⟩; intro a607 hF608; clear hF604; have z609 := hx606.size
            refine wpl_op (i := 11) rfl (o_val (v := (.slice A36 n37 c38)) hF608 rfl (wanted_guard rfl rfl rfl hF608 rfl (decide_eq_true hc600) rfl) rfl rfl (rn_move (hF608.get rfl)) ?_)
            intro a610 hF611; clear hF608
            refine wpl_op (i := 12) rfl (o_val (v := (.int .i64 (n37 : Nat))) hF611 rfl (wanted_guard rfl rfl rfl hF611 rfl (decide_eq_true hc600) rfl) rfl rfl (rn_len_slice Tryd.underlying30 (hF611.get rfl)) ?_)
            intro a612 hF613; clear hF611
            refine wpl_op (i := 13) rfl (o_val (v := (.bool (decide ((((dirs (at_ : Int).toNat ((andI (n) (31)) : Int).toNat).length : Nat) : Int) = ((n37 : Nat) : Int))))) hF613 rfl (wanted_guard rfl rfl rfl hF613 rfl (decide_eq_true hc600) rfl) rfl rfl (rn_eql (hF613.get rfl) (hF613.get rfl)) ?_)
            intro a614 hF615; clear hF613
            refine wpl_op (i := 14) rfl (o_val (v := (.bool (decide ((((dirs (at_ : Int).toNat ((andI (n) (31)) : Int).toNat).length : Nat) : Int) = ((n37 : Nat) : Int))))) hF615 rfl rfl rfl rfl (rn_pickT (c_true hF615 rfl (decide_eq_true hc600)) (hF615.get rfl)) ?_)
            intro a616 hF617; clear hF615
            refine wpl_op (i := 15) rfl (o_val (v := (.bool (decide ((((dirs (at_ : Int).toNat ((andI (n) (31)) : Int).toNat).length : Nat) : Int) = ((n37 : Nat) : Int))))) hF617 rfl rfl rfl rfl (rn_assign (hF617.get rfl)) ?_)
            intro a618 hF619; clear hF617
            refine wpList_nil ?_
            refine hK582 _ _ ?_
            clear hK582
            have hF620 := ((((((((((((((((hF619.nil.cons (hF619.get (t := 12) (v := (.bool (decide ((((dirs (at_ : Int).toNat ((andI (n) (31)) : Int).toNat).length : Nat) : Int) = ((n37 : Nat) : Int))))) rfl)).cons (hF619.get (t := 11) (v := (.int .i64 (andI (n) (31)))) rfl)).cons (hF619.get (t := 63) (v := (.bool true)) rfl)).cons (hF619.get (t := 62) (v := (.int .i64 1)) rfl)).cons (hF619.get (t := 61) (v := (.int .i64 4)) rfl)).cons (hF619.get (t := 60) (v := (.slice (some ⟨g181, 0, none⟩) 4 4)) rfl)).cons (hF619.get (t := 50) (v := (.bool (decide (((n37 : Nat) : Int) ≠ (((dirs (at_ : Int).toNat (((digsOf s).length : Nat) : Int).toNat).length : Nat) : Int))))) rfl)).cons (hF619.get (t := 32) (v := (.bool (decide ((((digsOf s).length : Nat) : Int) ≤ (at_ : Int))))) rfl)).cons (hF619.get (t := 9) (v := (.int .i64 ((pathF (digsOf s) at_).2))) rfl)).cons (hF619.get (t := 8) (v := (.slice A36 n37 c38)) rfl)).cons (hF619.get (t := 7) (v := (.slice A17 ((digsOf s).length) c18)) rfl)).cons (hF619.get (t := 16) (v := (.bool false)) rfl)).cons (hF619.get (t := 6) (v := (.bool false)) rfl)).cons (hF619.get (t := 2) (v := (.int .i64 n)) rfl)).cons (hF619.get (t := 1) (v := (.int .i64 at_)) rfl)).cons (hF619.get (t := 0) (v := (.slice A s.length c)) rfl))
            clear hF619
            refine wp_seq_k (fun K621 hK621 => ?_)
            refine wp_region_lit ?_
            refine wpl_op (i := 0) rfl (o_val (v := (.slice A17 ((digsOf s).length) c18)) hF620 rfl rfl rfl rfl (rn_move (hF620.get rfl)) ?_)
            intro a622 hF623; clear hF620
            refine wpl_op (i := 1) rfl (o_val (v := (.int .i64 at_)) hF623 rfl rfl rfl rfl (rn_move (hF623.get rfl)) ?_)
            intro a624 hF625; clear hF623
            have d629 := (hf203.ext hx606)
            obtain ⟨b626, o627, hA628, -⟩ := Fl.at d629 (by omega)
            refine wpl_op (i := 2) rfl (o_val (v := (.pointer (some ⟨b626, o627 + (at_ : Int).toNat * 32, none⟩))) hF625 rfl rfl rfl rfl (rn_indexE Tryd.underlying30 (by kernel_rfl : (Tryd.prog.info? 26).map (·.size) = some 32) ((hF625.get rfl).trans (by rw [hA628])) (hF625.get rfl) (by omega : (0 : Int) ≤ at_) (by omega : (at_ : Int) < (((digsOf s).length : Nat) : Int)) (by omega)) ?_)
            intro a630 hF631; clear hF625
            refine wpl_op (i := 3) rfl (o_val (v := (.agg (byteVals ((digsOf s).getD ((at_ : Int).toNat) [])).toArray)) hF631 rfl rfl rfl rfl (rn_loadN (cs := byteVals ((digsOf s).getD ((at_ : Int).toNat) [])) (hF631.get rfl) Tryd.underlying26 rfl ((by kernel_rfl : (Tryd.prog.info? 26).map (·.size) = some 32).trans (congrArg some (byteVals_len (dig_len (digsOf_32 _) ((at_ : Int).toNat) (by omega))).symm)) (Fl.digAt d629 hA628 (digsOf_32 _) (by omega))) ?_)
            intro a632 hF633; clear hF631
            refine wpl_op (i := 4) rfl (o_val (v := (.int .i64 at_)) hF633 rfl rfl rfl rfl (rn_move (hF633.get rfl)) ?_)
            intro a634 hF635; clear hF633
            refine wpl_op (i := 5) rfl (o_val (v := (.int .i64 (andI (n) (31)))) hF635 rfl rfl rfl rfl (rn_move (hF635.get rfl)) ?_)
            intro a636 hF637; clear hF635
            refine wpl_op (i := 6) rfl (o_val (v := (.slice A36 n37 c38)) hF637 rfl rfl rfl rfl (rn_move (hF637.get rfl)) ?_)
            intro a638 hF639; clear hF637
            have d640 := (hf204.ext hx606)
            refine wpl_op (i := 7) rfl (o_call hF639 rfl rfl rfl rfl (rn_call (args4 (hF639.get rfl) (hF639.get rfl) (hF639.get rfl) (hF639.get rfl)) rfl (by kernel_rfl)) (climb_at ((digsOf s).getD ((at_ : Int).toNat) []) at_ (andI (n) (31)) ((pathF (digsOf s) at_).1) _ (v := (.slice A36 n37 c38)) (m := n37) (dig_len (digsOf_32 _) ((at_ : Int).toNat) (by omega)) (pathF_32 (digsOf s) at_) d640 (hG.ext (((Ext.refl w).trans hx200).trans hx606))) ?_)
            rintro _ w641 ⟨rfl, hx642⟩
            refine ⟨_, rfl, ?_⟩; intro a643 hF644; clear hF639; have z645 := hx642.size
            refine wpl_op (i := 8) rfl (o_val (v := (.tuple #[(.agg (byteVals ((climbF ((digsOf s).getD ((at_ : Int).toNat) []) at_ (andI (n) (31)) ((pathF (digsOf s) at_).1)).1)).toArray), (.int .i64 ((climbF ((digsOf s).getD ((at_ : Int).toNat) []) at_ (andI (n) (31)) ((pathF (digsOf s) at_).1)).2))])) hF644 rfl rfl rfl rfl (rn_move (hF644.get rfl)) ?_)
            intro a646 hF647; clear hF644
            refine wpl_op (i := 9) rfl (o_val (v := (.agg (byteVals ((climbF ((digsOf s).getD ((at_ : Int).toNat) []) at_ (andI (n) (31)) ((pathF (digsOf s) at_).1)).1)).toArray)) hF647 rfl rfl rfl rfl (rn_extract (hF647.get rfl) rfl) ?_)
            intro a648 hF649; clear hF647
            refine wpl_op (i := 10) rfl (o_val (v := (.int .i64 ((climbF ((digsOf s).getD ((at_ : Int).toNat) []) at_ (andI (n) (31)) ((pathF (digsOf s) at_).1)).2))) hF649 rfl rfl rfl rfl (rn_extract (hF649.get rfl) rfl) ?_)
            intro a650 hF651; clear hF649
            refine wpl_op (i := 11) rfl (o_new (fun g => (.pointer (some ⟨g, 0, none⟩))) (byteVals (List.replicate 32 0)) 26 hF651 rfl rfl rfl rfl (by kernel_rfl) ?_)
            intro g652 w653 a658 hF659 z656 z657 b654 hx655; clear hF651
            refine wpl_op (i := 12) rfl (o_store (cells := (byteVals ((climbF ((digsOf s).getD ((at_ : Int).toNat) []) at_ (andI (n) (31)) ((pathF (digsOf s) at_).1)).1))) hF659 rfl rfl rfl rfl (hF659.get rfl) (hF659.get rfl) b654 ((by kernel_rfl : (Tryd.prog.info? 26).map (·.size) = some 32).trans (congrArg some (byteVals_len (climbF_len _ _ _ _)).symm)) ((byteVals_len (show List.length (List.replicate 32 0) = _ from List.length_replicate)).trans (byteVals_len (climbF_len _ _ _ _)).symm) (byteVals_one _) ?_)
            intro w660 b661 hg662; have z663 := hg662.size
            refine wpl_op (i := 13) rfl (o_val (v := (.int .i64 ((climbF ((digsOf s).getD ((at_ : Int).toNat) []) at_ (andI (n) (31)) ((pathF (digsOf s) at_).1)).2))) hF659 rfl rfl rfl rfl (rn_assign (hF659.get rfl)) ?_)
            intro a664 hF665; clear hF659
            refine wpList_nil ?_
            refine hK621 _ _ ?_
            clear hK621
            have hF666 := (((((((((((((((((hF665.nil.cons (hF665.get (t := 14) (v := (.int .i64 ((climbF ((digsOf s).getD ((at_ : Int).toNat) []) at_ (andI (n) (31)) ((pathF (digsOf s) at_).1)).2))) rfl)).cons (hF665.get (t := 12) (v := (.bool (decide ((((dirs (at_ : Int).toNat ((andI (n) (31)) : Int).toNat).length : Nat) : Int) = ((n37 : Nat) : Int))))) rfl)).cons (hF665.get (t := 11) (v := (.int .i64 (andI (n) (31)))) rfl)).cons (hF665.get (t := 63) (v := (.bool true)) rfl)).cons (hF665.get (t := 62) (v := (.int .i64 1)) rfl)).cons (hF665.get (t := 61) (v := (.int .i64 4)) rfl)).cons (hF665.get (t := 60) (v := (.slice (some ⟨g181, 0, none⟩) 4 4)) rfl)).cons (hF665.get (t := 50) (v := (.bool (decide (((n37 : Nat) : Int) ≠ (((dirs (at_ : Int).toNat (((digsOf s).length : Nat) : Int).toNat).length : Nat) : Int))))) rfl)).cons (hF665.get (t := 32) (v := (.bool (decide ((((digsOf s).length : Nat) : Int) ≤ (at_ : Int))))) rfl)).cons (hF665.get (t := 9) (v := (.int .i64 ((pathF (digsOf s) at_).2))) rfl)).cons (hF665.get (t := 8) (v := (.slice A36 n37 c38)) rfl)).cons (hF665.get (t := 7) (v := (.slice A17 ((digsOf s).length) c18)) rfl)).cons (hF665.get (t := 16) (v := (.bool false)) rfl)).cons (hF665.get (t := 6) (v := (.bool false)) rfl)).cons (hF665.get (t := 2) (v := (.int .i64 n)) rfl)).cons (hF665.get (t := 1) (v := (.int .i64 at_)) rfl)).cons (hF665.get (t := 0) (v := (.slice A s.length c)) rfl))
            clear hF665
            refine wp_seq_k (fun K667 hK667 => ?_)
            refine wp_region_lit ?_
            refine wpl_op (i := 0) rfl (o_val (v := (.bool (decide ((((dirs (at_ : Int).toNat ((andI (n) (31)) : Int).toNat).length : Nat) : Int) = ((n37 : Nat) : Int))))) hF666 rfl rfl rfl rfl (rn_move (hF666.get rfl)) ?_)
            intro a668 hF669; clear hF666
            refine wpl_op (i := 1) rfl (o_val (v := (.int .i64 ((climbF ((digsOf s).getD ((at_ : Int).toNat) []) at_ (andI (n) (31)) ((pathF (digsOf s) at_).1)).2))) hF669 rfl rfl rfl rfl (rn_move (hF669.get rfl)) ?_)
            intro a670 hF671; clear hF669
            refine wpl_op (i := 2) rfl (o_val (v := (.bool (decide (((climbF ((digsOf s).getD ((at_ : Int).toNat) []) at_ (andI (n) (31)) ((pathF (digsOf s) at_).1)).2 : Int) = (0 : Int))))) hF671 rfl rfl rfl rfl (rn_eql (hF671.get rfl) rfl) ?_)
            intro a672 hF673; clear hF671
            by_cases hc674 : (((dirs (at_ : Int).toNat ((andI (n) (31)) : Int).toNat).length : Nat) : Int) = ((n37 : Nat) : Int)
            · skip
              refine wpl_op (i := 3) rfl (o_val (v := (.bool false)) hF673 rfl rfl rfl rfl (rn_neB Tryd.underlying4 (hF673.get rfl) (hF673.get rfl) (show _ = true from (decide_eq_true hc674)) (show _ = true from ((decide_eq_true (by rw [climbF, if_neg (by omega)])) : decide (((climbF ((digsOf s).getD ((at_ : Int).toNat) []) at_ (andI (n) (31)) ((pathF (digsOf s) at_).1)).2 : Int) = (0 : Int)) = true)) rfl) ?_)
              intro a676 hF677; clear hF673
              refine wpl_op (i := 4) rfl (o_val (v := (.bool false)) hF677 rfl rfl rfl rfl (rn_move (hF677.get rfl)) ?_)
              intro a678 hF679; clear hF677
              refine wpl_op (i := 5) rfl (o_val (v := (.bool (decide ((((dirs (at_ : Int).toNat ((andI (n) (31)) : Int).toNat).length : Nat) : Int) = ((n37 : Nat) : Int))))) hF679 rfl (wanted_guard rfl rfl rfl hF679 rfl rfl rfl) rfl rfl (rn_move (hF679.get rfl)) ?_)
              intro a680 hF681; clear hF679
              refine wpl_op (i := 6) rfl (o_val (v := (.bool (!(decide ((((dirs (at_ : Int).toNat ((andI (n) (31)) : Int).toNat).length : Nat) : Int) = ((n37 : Nat) : Int)))))) hF681 rfl (wanted_guard rfl rfl rfl hF681 rfl rfl rfl) rfl rfl (rn_not' (hF681.get rfl) rfl) ?_)
              intro a682 hF683; clear hF681
              refine wpl_op (i := 7) rfl (o_val (v := (.bool (!(decide ((((dirs (at_ : Int).toNat ((andI (n) (31)) : Int).toNat).length : Nat) : Int) = ((n37 : Nat) : Int)))))) hF683 rfl (wanted_guard rfl rfl rfl hF683 rfl rfl rfl) rfl rfl (rn_move (hF683.get rfl)) ?_)
              intro a684 hF685; clear hF683
              refine wpl_op (i := 8) rfl (o_skip hF685 rfl (unwanted_guard rfl rfl rfl hF685 rfl (not_t (decide_eq_true hc674)) rfl) rfl rfl ?_)
              intro a686 hF687; clear hF685
              refine wpl_op (i := 9) rfl (o_skip hF687 rfl (unwanted_guard rfl rfl rfl hF687 rfl (not_t (decide_eq_true hc674)) rfl) rfl rfl ?_)
              intro a688 hF689; clear hF687
              refine wpl_op (i := 10) rfl (o_val (v := (.bool false)) hF689 rfl (wanted_guard rfl rfl rfl hF689 rfl rfl rfl) rfl rfl (rn_pickF (c_false hF689 rfl (not_t (decide_eq_true hc674))) rfl) ?_)
              intro a690 hF691; clear hF689
              refine wpl_op (i := 11) rfl (o_val (v := (.bool false)) hF691 rfl rfl rfl rfl (rn_pickF (c_false hF691 rfl rfl) (hF691.get rfl)) ?_)
              intro a692 hF693; clear hF691
              refine wpList_nil ?_
              refine hK667 _ _ ?_
              clear hK667
              have hF694 := ((((((((((((((((((hF693.nil.cons (hF693.get (t := 103) (v := (.bool false)) rfl)).cons (hF693.get (t := 14) (v := (.int .i64 ((climbF ((digsOf s).getD ((at_ : Int).toNat) []) at_ (andI (n) (31)) ((pathF (digsOf s) at_).1)).2))) rfl)).cons (hF693.get (t := 12) (v := (.bool (decide ((((dirs (at_ : Int).toNat ((andI (n) (31)) : Int).toNat).length : Nat) : Int) = ((n37 : Nat) : Int))))) rfl)).cons (hF693.get (t := 11) (v := (.int .i64 (andI (n) (31)))) rfl)).cons (hF693.get (t := 63) (v := (.bool true)) rfl)).cons (hF693.get (t := 62) (v := (.int .i64 1)) rfl)).cons (hF693.get (t := 61) (v := (.int .i64 4)) rfl)).cons (hF693.get (t := 60) (v := (.slice (some ⟨g181, 0, none⟩) 4 4)) rfl)).cons (hF693.get (t := 50) (v := (.bool (decide (((n37 : Nat) : Int) ≠ (((dirs (at_ : Int).toNat (((digsOf s).length : Nat) : Int).toNat).length : Nat) : Int))))) rfl)).cons (hF693.get (t := 32) (v := (.bool (decide ((((digsOf s).length : Nat) : Int) ≤ (at_ : Int))))) rfl)).cons (hF693.get (t := 9) (v := (.int .i64 ((pathF (digsOf s) at_).2))) rfl)).cons (hF693.get (t := 8) (v := (.slice A36 n37 c38)) rfl)).cons (hF693.get (t := 7) (v := (.slice A17 ((digsOf s).length) c18)) rfl)).cons (hF693.get (t := 16) (v := (.bool false)) rfl)).cons (hF693.get (t := 6) (v := (.bool false)) rfl)).cons (hF693.get (t := 2) (v := (.int .i64 n)) rfl)).cons (hF693.get (t := 1) (v := (.int .i64 at_)) rfl)).cons (hF693.get (t := 0) (v := (.slice A s.length c)) rfl))
              clear hF693
              refine wp_cond_false (c_false hF694 rfl rfl) ?_
              refine wp_skip ?_
              refine hK574 _ _ ?_
              clear hK574
              refine wp_region_lit ?_
              refine wpl_op (i := 0) rfl (o_val (v := (.int .i64 2)) hF694 rfl rfl rfl rfl (rn_add (hF694.get rfl) rfl (by omega) (by omega)) ?_)
              intro a695 hF696; clear hF694
              refine wpl_op (i := 1) rfl (o_val (v := (.int .i64 2)) hF696 rfl rfl rfl rfl (rn_move (hF696.get rfl)) ?_)
              intro a697 hF698; clear hF696
              refine wpList_nil ?_
              have d699 := (hf203.pres (((((Pres.refl w198).ext hx606).ext hx642).ext hx655).grownN hg662 (fun h => by simp only [Clip] at h; omega)))
              have d700 := (hf204.pres (((((Pres.refl w198).ext hx606).ext hx642).ext hx655).grownN hg662 (fun h => by simp only [Clip] at h; omega)))
              have b701 : Blk w660 g181 3 [(.int .i64 n), (.int .i64 (andI (n) (31))), (.int .i64 (((digsOf s).length) + 1 : Nat)), (.int .i64 (2 * ((digsOf s).length) : Nat))] := ((((b202.ext hx606).ext hx642).ext hx655).grownN hg662 (by omega))
              refine ⟨⟨2, (((((((((((((hF698.nil.cons (q_get hF698 (t := 62) rfl (by first | rfl | (congr 1; omega) | (congr 1; done)))).cons (q_get hF698 (t := 61) rfl rfl)).cons (q_get hF698 (t := 60) rfl rfl)).cons (q_get hF698 (t := 50) rfl rfl)).cons (q_get hF698 (t := 32) rfl rfl)).cons (q_get hF698 (t := 9) rfl rfl)).cons (q_get hF698 (t := 8) rfl rfl)).cons (q_get hF698 (t := 7) rfl rfl)).cons (q_get hF698 (t := 16) rfl rfl)).cons (q_get hF698 (t := 6) rfl rfl)).cons (q_get hF698 (t := 2) rfl rfl)).cons (q_get hF698 (t := 1) rfl rfl)).cons (q_get hF698 (t := 0) rfl rfl)), (by omega), ((((((Ext.refl w).trans hx200).trans hx606).trans hx642).trans hx655).grownN hg662 (by omega)), b701, d699, d700, (by omega)⟩, ?_⟩
              rw [hF698.get (t := 62) rfl, hL206.get (t := 62) rfl]; simp [intOf] <;> omega
            · skip
              refine wpl_op (i := 3) rfl (o_val (v := (.bool false)) hF673 rfl rfl rfl rfl (rn_neB Tryd.underlying4 (hF673.get rfl) (hF673.get rfl) (show _ = false from (decide_eq_false hc674)) (show _ = false from ((decide_eq_false (by rw [climbF, if_pos (by omega)]; simp)) : decide (((climbF ((digsOf s).getD ((at_ : Int).toNat) []) at_ (andI (n) (31)) ((pathF (digsOf s) at_).1)).2 : Int) = (0 : Int)) = false)) rfl) ?_)
              intro a703 hF704; clear hF673
              refine wpl_op (i := 4) rfl (o_val (v := (.bool false)) hF704 rfl rfl rfl rfl (rn_move (hF704.get rfl)) ?_)
              intro a705 hF706; clear hF704
              refine wpl_op (i := 5) rfl (o_val (v := (.bool (decide ((((dirs (at_ : Int).toNat ((andI (n) (31)) : Int).toNat).length : Nat) : Int) = ((n37 : Nat) : Int))))) hF706 rfl (wanted_guard rfl rfl rfl hF706 rfl rfl rfl) rfl rfl (rn_move (hF706.get rfl)) ?_)
              intro a707 hF708; clear hF706
              refine wpl_op (i := 6) rfl (o_val (v := (.bool (!(decide ((((dirs (at_ : Int).toNat ((andI (n) (31)) : Int).toNat).length : Nat) : Int) = ((n37 : Nat) : Int)))))) hF708 rfl (wanted_guard rfl rfl rfl hF708 rfl rfl rfl) rfl rfl (rn_not' (hF708.get rfl) rfl) ?_)
              intro a709 hF710; clear hF708
              refine wpl_op (i := 7) rfl (o_val (v := (.bool (!(decide ((((dirs (at_ : Int).toNat ((andI (n) (31)) : Int).toNat).length : Nat) : Int) = ((n37 : Nat) : Int)))))) hF710 rfl (wanted_guard rfl rfl rfl hF710 rfl rfl rfl) rfl rfl (rn_move (hF710.get rfl)) ?_)
              intro a711 hF712; clear hF710
              refine wpl_op (i := 8) rfl (o_val (v := (.int .i64 ((climbF ((digsOf s).getD ((at_ : Int).toNat) []) at_ (andI (n) (31)) ((pathF (digsOf s) at_).1)).2))) hF712 rfl (wanted_guard rfl rfl rfl hF712 rfl (not_f (decide_eq_false hc674)) rfl) rfl rfl (rn_move (hF712.get rfl)) ?_)
              intro a713 hF714; clear hF712
              refine wpl_op (i := 9) rfl (o_val (v := (.bool (decide (((climbF ((digsOf s).getD ((at_ : Int).toNat) []) at_ (andI (n) (31)) ((pathF (digsOf s) at_).1)).2 : Int) ≠ (1 : Int))))) hF714 rfl (wanted_guard rfl rfl rfl hF714 rfl (not_f (decide_eq_false hc674)) rfl) rfl rfl (rn_neq (hF714.get rfl) rfl) ?_)
              intro a715 hF716; clear hF714
              refine wpl_op (i := 10) rfl (o_val (v := (.bool (decide (((climbF ((digsOf s).getD ((at_ : Int).toNat) []) at_ (andI (n) (31)) ((pathF (digsOf s) at_).1)).2 : Int) ≠ (1 : Int))))) hF716 rfl (wanted_guard rfl rfl rfl hF716 rfl rfl rfl) rfl rfl (rn_pickT (c_true hF716 rfl (not_f (decide_eq_false hc674))) (hF716.get rfl)) ?_)
              intro a717 hF718; clear hF716
              refine wpl_op (i := 11) rfl (o_val (v := (.bool (decide (((climbF ((digsOf s).getD ((at_ : Int).toNat) []) at_ (andI (n) (31)) ((pathF (digsOf s) at_).1)).2 : Int) ≠ (1 : Int))))) hF718 rfl rfl rfl rfl (rn_pickF (c_false hF718 rfl rfl) (hF718.get rfl)) ?_)
              intro a719 hF720; clear hF718
              refine wpList_nil ?_
              refine hK667 _ _ ?_
              clear hK667
              have hF721 := ((((((((((((((((((hF720.nil.cons (hF720.get (t := 103) (v := (.bool (decide (((climbF ((digsOf s).getD ((at_ : Int).toNat) []) at_ (andI (n) (31)) ((pathF (digsOf s) at_).1)).2 : Int) ≠ (1 : Int))))) rfl)).cons (hF720.get (t := 14) (v := (.int .i64 ((climbF ((digsOf s).getD ((at_ : Int).toNat) []) at_ (andI (n) (31)) ((pathF (digsOf s) at_).1)).2))) rfl)).cons (hF720.get (t := 12) (v := (.bool (decide ((((dirs (at_ : Int).toNat ((andI (n) (31)) : Int).toNat).length : Nat) : Int) = ((n37 : Nat) : Int))))) rfl)).cons (hF720.get (t := 11) (v := (.int .i64 (andI (n) (31)))) rfl)).cons (hF720.get (t := 63) (v := (.bool true)) rfl)).cons (hF720.get (t := 62) (v := (.int .i64 1)) rfl)).cons (hF720.get (t := 61) (v := (.int .i64 4)) rfl)).cons (hF720.get (t := 60) (v := (.slice (some ⟨g181, 0, none⟩) 4 4)) rfl)).cons (hF720.get (t := 50) (v := (.bool (decide (((n37 : Nat) : Int) ≠ (((dirs (at_ : Int).toNat (((digsOf s).length : Nat) : Int).toNat).length : Nat) : Int))))) rfl)).cons (hF720.get (t := 32) (v := (.bool (decide ((((digsOf s).length : Nat) : Int) ≤ (at_ : Int))))) rfl)).cons (hF720.get (t := 9) (v := (.int .i64 ((pathF (digsOf s) at_).2))) rfl)).cons (hF720.get (t := 8) (v := (.slice A36 n37 c38)) rfl)).cons (hF720.get (t := 7) (v := (.slice A17 ((digsOf s).length) c18)) rfl)).cons (hF720.get (t := 16) (v := (.bool false)) rfl)).cons (hF720.get (t := 6) (v := (.bool false)) rfl)).cons (hF720.get (t := 2) (v := (.int .i64 n)) rfl)).cons (hF720.get (t := 1) (v := (.int .i64 at_)) rfl)).cons (hF720.get (t := 0) (v := (.slice A s.length c)) rfl))
              clear hF720
              refine wp_cond_false (c_false hF721 rfl ((decide_eq_false (by rw [climbF, if_pos (by omega)]; simp)) : decide (((climbF ((digsOf s).getD ((at_ : Int).toNat) []) at_ (andI (n) (31)) ((pathF (digsOf s) at_).1)).2 : Int) ≠ (1 : Int)) = false)) ?_
              refine wp_skip ?_
              refine hK574 _ _ ?_
              clear hK574
              refine wp_region_lit ?_
              refine wpl_op (i := 0) rfl (o_val (v := (.int .i64 2)) hF721 rfl rfl rfl rfl (rn_add (hF721.get rfl) rfl (by omega) (by omega)) ?_)
              intro a723 hF724; clear hF721
              refine wpl_op (i := 1) rfl (o_val (v := (.int .i64 2)) hF724 rfl rfl rfl rfl (rn_move (hF724.get rfl)) ?_)
              intro a725 hF726; clear hF724
              refine wpList_nil ?_
              have d727 := (hf203.pres (((((Pres.refl w198).ext hx606).ext hx642).ext hx655).grownN hg662 (fun h => by simp only [Clip] at h; omega)))
              have d728 := (hf204.pres (((((Pres.refl w198).ext hx606).ext hx642).ext hx655).grownN hg662 (fun h => by simp only [Clip] at h; omega)))
              have b729 : Blk w660 g181 3 [(.int .i64 n), (.int .i64 (andI (n) (31))), (.int .i64 (((digsOf s).length) + 1 : Nat)), (.int .i64 (2 * ((digsOf s).length) : Nat))] := ((((b202.ext hx606).ext hx642).ext hx655).grownN hg662 (by omega))
              refine ⟨⟨2, (((((((((((((hF726.nil.cons (q_get hF726 (t := 62) rfl (by first | rfl | (congr 1; omega) | (congr 1; done)))).cons (q_get hF726 (t := 61) rfl rfl)).cons (q_get hF726 (t := 60) rfl rfl)).cons (q_get hF726 (t := 50) rfl rfl)).cons (q_get hF726 (t := 32) rfl rfl)).cons (q_get hF726 (t := 9) rfl rfl)).cons (q_get hF726 (t := 8) rfl rfl)).cons (q_get hF726 (t := 7) rfl rfl)).cons (q_get hF726 (t := 16) rfl rfl)).cons (q_get hF726 (t := 6) rfl rfl)).cons (q_get hF726 (t := 2) rfl rfl)).cons (q_get hF726 (t := 1) rfl rfl)).cons (q_get hF726 (t := 0) rfl rfl)), (by omega), ((((((Ext.refl w).trans hx200).trans hx606).trans hx642).trans hx655).grownN hg662 (by omega)), b729, d727, d728, (by omega)⟩, ?_⟩
              rw [hF726.get (t := 62) rfl, hL206.get (t := 62) rfl]; simp [intOf] <;> omega
          · skip
            refine wpl_op (i := 8) rfl (o_skip hF599 rfl (unwanted_guard rfl rfl rfl hF599 rfl (decide_eq_false hc600) rfl) rfl rfl ?_)
            intro a730 hF731; clear hF599
            refine wpl_op (i := 9) rfl (o_skip hF731 rfl (unwanted_guard rfl rfl rfl hF731 rfl (decide_eq_false hc600) rfl) rfl rfl ?_)
            intro a732 hF733; clear hF731
            refine wpl_op (i := 10) rfl (o_skip hF733 rfl (unwanted_guard rfl rfl rfl hF733 rfl (decide_eq_false hc600) rfl) rfl rfl ?_)
            intro a734 hF735; clear hF733
            refine wpl_op (i := 11) rfl (o_skip hF735 rfl (unwanted_guard rfl rfl rfl hF735 rfl (decide_eq_false hc600) rfl) rfl rfl ?_)
            intro a736 hF737; clear hF735
            refine wpl_op (i := 12) rfl (o_skip hF737 rfl (unwanted_guard rfl rfl rfl hF737 rfl (decide_eq_false hc600) rfl) rfl rfl ?_)
            intro a738 hF739; clear hF737
            refine wpl_op (i := 13) rfl (o_skip hF739 rfl (unwanted_guard rfl rfl rfl hF739 rfl (decide_eq_false hc600) rfl) rfl rfl ?_)
            intro a740 hF741; clear hF739
            refine wpl_op (i := 14) rfl (o_val (v := (.bool false)) hF741 rfl rfl rfl rfl (rn_pickF (c_false hF741 rfl (decide_eq_false hc600)) rfl) ?_)
            intro a742 hF743; clear hF741
            refine wpl_op (i := 15) rfl (o_val (v := (.bool false)) hF743 rfl rfl rfl rfl (rn_assign (hF743.get rfl)) ?_)
            intro a744 hF745; clear hF743
            refine wpList_nil ?_
            refine hK582 _ _ ?_
            clear hK582
            have hF746 := ((((((((((((((((hF745.nil.cons (hF745.get (t := 12) (v := (.bool false)) rfl)).cons (hF745.get (t := 11) (v := (.int .i64 (andI (n) (31)))) rfl)).cons (hF745.get (t := 63) (v := (.bool true)) rfl)).cons (hF745.get (t := 62) (v := (.int .i64 1)) rfl)).cons (hF745.get (t := 61) (v := (.int .i64 4)) rfl)).cons (hF745.get (t := 60) (v := (.slice (some ⟨g181, 0, none⟩) 4 4)) rfl)).cons (hF745.get (t := 50) (v := (.bool (decide (((n37 : Nat) : Int) ≠ (((dirs (at_ : Int).toNat (((digsOf s).length : Nat) : Int).toNat).length : Nat) : Int))))) rfl)).cons (hF745.get (t := 32) (v := (.bool (decide ((((digsOf s).length : Nat) : Int) ≤ (at_ : Int))))) rfl)).cons (hF745.get (t := 9) (v := (.int .i64 ((pathF (digsOf s) at_).2))) rfl)).cons (hF745.get (t := 8) (v := (.slice A36 n37 c38)) rfl)).cons (hF745.get (t := 7) (v := (.slice A17 ((digsOf s).length) c18)) rfl)).cons (hF745.get (t := 16) (v := (.bool false)) rfl)).cons (hF745.get (t := 6) (v := (.bool false)) rfl)).cons (hF745.get (t := 2) (v := (.int .i64 n)) rfl)).cons (hF745.get (t := 1) (v := (.int .i64 at_)) rfl)).cons (hF745.get (t := 0) (v := (.slice A s.length c)) rfl))
            clear hF745
            refine wp_seq_k (fun K747 hK747 => ?_)
            refine wp_region_lit ?_
            refine wpl_op (i := 0) rfl (o_val (v := (.slice A17 ((digsOf s).length) c18)) hF746 rfl rfl rfl rfl (rn_move (hF746.get rfl)) ?_)
            intro a748 hF749; clear hF746
            refine wpl_op (i := 1) rfl (o_val (v := (.int .i64 at_)) hF749 rfl rfl rfl rfl (rn_move (hF749.get rfl)) ?_)
            intro a750 hF751; clear hF749
            obtain ⟨b752, o753, hA754, -⟩ := Fl.at hf203 (by omega)
            refine wpl_op (i := 2) rfl (o_val (v := (.pointer (some ⟨b752, o753 + (at_ : Int).toNat * 32, none⟩))) hF751 rfl rfl rfl rfl (rn_indexE Tryd.underlying30 (by kernel_rfl : (Tryd.prog.info? 26).map (·.size) = some 32) ((hF751.get rfl).trans (by rw [hA754])) (hF751.get rfl) (by omega : (0 : Int) ≤ at_) (by omega : (at_ : Int) < (((digsOf s).length : Nat) : Int)) (by omega)) ?_)
            intro a755 hF756; clear hF751
            refine wpl_op (i := 3) rfl (o_val (v := (.agg (byteVals ((digsOf s).getD ((at_ : Int).toNat) [])).toArray)) hF756 rfl rfl rfl rfl (rn_loadN (cs := byteVals ((digsOf s).getD ((at_ : Int).toNat) [])) (hF756.get rfl) Tryd.underlying26 rfl ((by kernel_rfl : (Tryd.prog.info? 26).map (·.size) = some 32).trans (congrArg some (byteVals_len (dig_len (digsOf_32 _) ((at_ : Int).toNat) (by omega))).symm)) (Fl.digAt hf203 hA754 (digsOf_32 _) (by omega))) ?_)
            intro a757 hF758; clear hF756
            refine wpl_op (i := 4) rfl (o_val (v := (.int .i64 at_)) hF758 rfl rfl rfl rfl (rn_move (hF758.get rfl)) ?_)
            intro a759 hF760; clear hF758
            refine wpl_op (i := 5) rfl (o_val (v := (.int .i64 (andI (n) (31)))) hF760 rfl rfl rfl rfl (rn_move (hF760.get rfl)) ?_)
            intro a761 hF762; clear hF760
            refine wpl_op (i := 6) rfl (o_val (v := (.slice A36 n37 c38)) hF762 rfl rfl rfl rfl (rn_move (hF762.get rfl)) ?_)
            intro a763 hF764; clear hF762
            refine wpl_op (i := 7) rfl (o_call hF764 rfl rfl rfl rfl (rn_call (args4 (hF764.get rfl) (hF764.get rfl) (hF764.get rfl) (hF764.get rfl)) rfl (by kernel_rfl)) (climb_at ((digsOf s).getD ((at_ : Int).toNat) []) at_ (andI (n) (31)) ((pathF (digsOf s) at_).1) _ (v := (.slice A36 n37 c38)) (m := n37) (dig_len (digsOf_32 _) ((at_ : Int).toNat) (by omega)) (pathF_32 (digsOf s) at_) hf204 (hG.ext ((Ext.refl w).trans hx200))) ?_)
            rintro _ w765 ⟨rfl, hx766⟩
            refine ⟨_, rfl, ?_⟩; intro a767 hF768; clear hF764; have z769 := hx766.size
            refine wpl_op (i := 8) rfl (o_val (v := (.tuple #[(.agg (byteVals ((climbF ((digsOf s).getD ((at_ : Int).toNat) []) at_ (andI (n) (31)) ((pathF (digsOf s) at_).1)).1)).toArray), (.int .i64 ((climbF ((digsOf s).getD ((at_ : Int).toNat) []) at_ (andI (n) (31)) ((pathF (digsOf s) at_).1)).2))])) hF768 rfl rfl rfl rfl (rn_move (hF768.get rfl)) ?_)
            intro a770 hF771; clear hF768
            refine wpl_op (i := 9) rfl (o_val (v := (.agg (byteVals ((climbF ((digsOf s).getD ((at_ : Int).toNat) []) at_ (andI (n) (31)) ((pathF (digsOf s) at_).1)).1)).toArray)) hF771 rfl rfl rfl rfl (rn_extract (hF771.get rfl) rfl) ?_)
            intro a772 hF773; clear hF771
            refine wpl_op (i := 10) rfl (o_val (v := (.int .i64 ((climbF ((digsOf s).getD ((at_ : Int).toNat) []) at_ (andI (n) (31)) ((pathF (digsOf s) at_).1)).2))) hF773 rfl rfl rfl rfl (rn_extract (hF773.get rfl) rfl) ?_)
            intro a774 hF775; clear hF773
            refine wpl_op (i := 11) rfl (o_new (fun g => (.pointer (some ⟨g, 0, none⟩))) (byteVals (List.replicate 32 0)) 26 hF775 rfl rfl rfl rfl (by kernel_rfl) ?_)
            intro g776 w777 a782 hF783 z780 z781 b778 hx779; clear hF775
            refine wpl_op (i := 12) rfl (o_store (cells := (byteVals ((climbF ((digsOf s).getD ((at_ : Int).toNat) []) at_ (andI (n) (31)) ((pathF (digsOf s) at_).1)).1))) hF783 rfl rfl rfl rfl (hF783.get rfl) (hF783.get rfl) b778 ((by kernel_rfl : (Tryd.prog.info? 26).map (·.size) = some 32).trans (congrArg some (byteVals_len (climbF_len _ _ _ _)).symm)) ((byteVals_len (show List.length (List.replicate 32 0) = _ from List.length_replicate)).trans (byteVals_len (climbF_len _ _ _ _)).symm) (byteVals_one _) ?_)
            intro w784 b785 hg786; have z787 := hg786.size
            refine wpl_op (i := 13) rfl (o_val (v := (.int .i64 ((climbF ((digsOf s).getD ((at_ : Int).toNat) []) at_ (andI (n) (31)) ((pathF (digsOf s) at_).1)).2))) hF783 rfl rfl rfl rfl (rn_assign (hF783.get rfl)) ?_)
            intro a788 hF789; clear hF783
            refine wpList_nil ?_
            refine hK747 _ _ ?_
            clear hK747
            have hF790 := (((((((((((((((((hF789.nil.cons (hF789.get (t := 14) (v := (.int .i64 ((climbF ((digsOf s).getD ((at_ : Int).toNat) []) at_ (andI (n) (31)) ((pathF (digsOf s) at_).1)).2))) rfl)).cons (hF789.get (t := 12) (v := (.bool false)) rfl)).cons (hF789.get (t := 11) (v := (.int .i64 (andI (n) (31)))) rfl)).cons (hF789.get (t := 63) (v := (.bool true)) rfl)).cons (hF789.get (t := 62) (v := (.int .i64 1)) rfl)).cons (hF789.get (t := 61) (v := (.int .i64 4)) rfl)).cons (hF789.get (t := 60) (v := (.slice (some ⟨g181, 0, none⟩) 4 4)) rfl)).cons (hF789.get (t := 50) (v := (.bool (decide (((n37 : Nat) : Int) ≠ (((dirs (at_ : Int).toNat (((digsOf s).length : Nat) : Int).toNat).length : Nat) : Int))))) rfl)).cons (hF789.get (t := 32) (v := (.bool (decide ((((digsOf s).length : Nat) : Int) ≤ (at_ : Int))))) rfl)).cons (hF789.get (t := 9) (v := (.int .i64 ((pathF (digsOf s) at_).2))) rfl)).cons (hF789.get (t := 8) (v := (.slice A36 n37 c38)) rfl)).cons (hF789.get (t := 7) (v := (.slice A17 ((digsOf s).length) c18)) rfl)).cons (hF789.get (t := 16) (v := (.bool false)) rfl)).cons (hF789.get (t := 6) (v := (.bool false)) rfl)).cons (hF789.get (t := 2) (v := (.int .i64 n)) rfl)).cons (hF789.get (t := 1) (v := (.int .i64 at_)) rfl)).cons (hF789.get (t := 0) (v := (.slice A s.length c)) rfl))
            clear hF789
            refine wp_seq_k (fun K791 hK791 => ?_)
            refine wp_region_lit ?_
            refine wpl_op (i := 0) rfl (o_val (v := (.bool false)) hF790 rfl rfl rfl rfl (rn_move (hF790.get rfl)) ?_)
            intro a792 hF793; clear hF790
            refine wpl_op (i := 1) rfl (o_val (v := (.int .i64 ((climbF ((digsOf s).getD ((at_ : Int).toNat) []) at_ (andI (n) (31)) ((pathF (digsOf s) at_).1)).2))) hF793 rfl rfl rfl rfl (rn_move (hF793.get rfl)) ?_)
            intro a794 hF795; clear hF793
            refine wpl_op (i := 2) rfl (o_val (v := (.bool (decide (((climbF ((digsOf s).getD ((at_ : Int).toNat) []) at_ (andI (n) (31)) ((pathF (digsOf s) at_).1)).2 : Int) = (0 : Int))))) hF795 rfl rfl rfl rfl (rn_eql (hF795.get rfl) rfl) ?_)
            intro a796 hF797; clear hF795
            refine wpl_op (i := 3) rfl (o_val (v := (.bool false)) hF797 rfl rfl rfl rfl (rn_neB Tryd.underlying4 (hF797.get rfl) (hF797.get rfl) (show _ = false from rfl) (show _ = false from ((decide_eq_false (by rw [climbF, if_pos (by omega)]; simp)) : decide (((climbF ((digsOf s).getD ((at_ : Int).toNat) []) at_ (andI (n) (31)) ((pathF (digsOf s) at_).1)).2 : Int) = (0 : Int)) = false)) rfl) ?_)
            intro a799 hF800; clear hF797
            refine wpl_op (i := 4) rfl (o_val (v := (.bool false)) hF800 rfl rfl rfl rfl (rn_move (hF800.get rfl)) ?_)
            intro a801 hF802; clear hF800
            refine wpl_op (i := 5) rfl (o_val (v := (.bool false)) hF802 rfl (wanted_guard rfl rfl rfl hF802 rfl rfl rfl) rfl rfl (rn_move (hF802.get rfl)) ?_)
            intro a803 hF804; clear hF802
            refine wpl_op (i := 6) rfl (o_val (v := (.bool true)) hF804 rfl (wanted_guard rfl rfl rfl hF804 rfl rfl rfl) rfl rfl (rn_not' (hF804.get rfl) rfl) ?_)
            intro a805 hF806; clear hF804
            refine wpl_op (i := 7) rfl (o_val (v := (.bool true)) hF806 rfl (wanted_guard rfl rfl rfl hF806 rfl rfl rfl) rfl rfl (rn_move (hF806.get rfl)) ?_)
            intro a807 hF808; clear hF806
            refine wpl_op (i := 8) rfl (o_val (v := (.int .i64 ((climbF ((digsOf s).getD ((at_ : Int).toNat) []) at_ (andI (n) (31)) ((pathF (digsOf s) at_).1)).2))) hF808 rfl (wanted_guard rfl rfl rfl hF808 rfl rfl rfl) rfl rfl (rn_move (hF808.get rfl)) ?_)
            intro a809 hF810; clear hF808
            refine wpl_op (i := 9) rfl (o_val (v := (.bool (decide (((climbF ((digsOf s).getD ((at_ : Int).toNat) []) at_ (andI (n) (31)) ((pathF (digsOf s) at_).1)).2 : Int) ≠ (1 : Int))))) hF810 rfl (wanted_guard rfl rfl rfl hF810 rfl rfl rfl) rfl rfl (rn_neq (hF810.get rfl) rfl) ?_)
            intro a811 hF812; clear hF810
            refine wpl_op (i := 10) rfl (o_val (v := (.bool (decide (((climbF ((digsOf s).getD ((at_ : Int).toNat) []) at_ (andI (n) (31)) ((pathF (digsOf s) at_).1)).2 : Int) ≠ (1 : Int))))) hF812 rfl (wanted_guard rfl rfl rfl hF812 rfl rfl rfl) rfl rfl (rn_pickT (c_true hF812 rfl rfl) (hF812.get rfl)) ?_)
            intro a813 hF814; clear hF812
            refine wpl_op (i := 11) rfl (o_val (v := (.bool (decide (((climbF ((digsOf s).getD ((at_ : Int).toNat) []) at_ (andI (n) (31)) ((pathF (digsOf s) at_).1)).2 : Int) ≠ (1 : Int))))) hF814 rfl rfl rfl rfl (rn_pickF (c_false hF814 rfl rfl) (hF814.get rfl)) ?_)
            intro a815 hF816; clear hF814
            refine wpList_nil ?_
            refine hK791 _ _ ?_
            clear hK791
            have hF817 := ((((((((((((((((((hF816.nil.cons (hF816.get (t := 103) (v := (.bool (decide (((climbF ((digsOf s).getD ((at_ : Int).toNat) []) at_ (andI (n) (31)) ((pathF (digsOf s) at_).1)).2 : Int) ≠ (1 : Int))))) rfl)).cons (hF816.get (t := 14) (v := (.int .i64 ((climbF ((digsOf s).getD ((at_ : Int).toNat) []) at_ (andI (n) (31)) ((pathF (digsOf s) at_).1)).2))) rfl)).cons (hF816.get (t := 12) (v := (.bool false)) rfl)).cons (hF816.get (t := 11) (v := (.int .i64 (andI (n) (31)))) rfl)).cons (hF816.get (t := 63) (v := (.bool true)) rfl)).cons (hF816.get (t := 62) (v := (.int .i64 1)) rfl)).cons (hF816.get (t := 61) (v := (.int .i64 4)) rfl)).cons (hF816.get (t := 60) (v := (.slice (some ⟨g181, 0, none⟩) 4 4)) rfl)).cons (hF816.get (t := 50) (v := (.bool (decide (((n37 : Nat) : Int) ≠ (((dirs (at_ : Int).toNat (((digsOf s).length : Nat) : Int).toNat).length : Nat) : Int))))) rfl)).cons (hF816.get (t := 32) (v := (.bool (decide ((((digsOf s).length : Nat) : Int) ≤ (at_ : Int))))) rfl)).cons (hF816.get (t := 9) (v := (.int .i64 ((pathF (digsOf s) at_).2))) rfl)).cons (hF816.get (t := 8) (v := (.slice A36 n37 c38)) rfl)).cons (hF816.get (t := 7) (v := (.slice A17 ((digsOf s).length) c18)) rfl)).cons (hF816.get (t := 16) (v := (.bool false)) rfl)).cons (hF816.get (t := 6) (v := (.bool false)) rfl)).cons (hF816.get (t := 2) (v := (.int .i64 n)) rfl)).cons (hF816.get (t := 1) (v := (.int .i64 at_)) rfl)).cons (hF816.get (t := 0) (v := (.slice A s.length c)) rfl))
            clear hF816
            refine wp_cond_false (c_false hF817 rfl ((decide_eq_false (by rw [climbF, if_pos (by omega)]; simp)) : decide (((climbF ((digsOf s).getD ((at_ : Int).toNat) []) at_ (andI (n) (31)) ((pathF (digsOf s) at_).1)).2 : Int) ≠ (1 : Int)) = false)) ?_
            refine wp_skip ?_
            refine hK574 _ _ ?_
            clear hK574
            refine wp_region_lit ?_
            refine wpl_op (i := 0) rfl (o_val (v := (.int .i64 2)) hF817 rfl rfl rfl rfl (rn_add (hF817.get rfl) rfl (by omega) (by omega)) ?_)
            intro a819 hF820; clear hF817
            refine wpl_op (i := 1) rfl (o_val (v := (.int .i64 2)) hF820 rfl rfl rfl rfl (rn_move (hF820.get rfl)) ?_)
            intro a821 hF822; clear hF820
            refine wpList_nil ?_
            have d823 := (hf203.pres ((((Pres.refl w198).ext hx766).ext hx779).grownN hg786 (fun h => by simp only [Clip] at h; omega)))
            have d824 := (hf204.pres ((((Pres.refl w198).ext hx766).ext hx779).grownN hg786 (fun h => by simp only [Clip] at h; omega)))
            have b825 : Blk w784 g181 3 [(.int .i64 n), (.int .i64 (andI (n) (31))), (.int .i64 (((digsOf s).length) + 1 : Nat)), (.int .i64 (2 * ((digsOf s).length) : Nat))] := (((b202.ext hx766).ext hx779).grownN hg786 (by omega))
            refine ⟨⟨2, (((((((((((((hF822.nil.cons (q_get hF822 (t := 62) rfl (by first | rfl | (congr 1; omega) | (congr 1; done)))).cons (q_get hF822 (t := 61) rfl rfl)).cons (q_get hF822 (t := 60) rfl rfl)).cons (q_get hF822 (t := 50) rfl rfl)).cons (q_get hF822 (t := 32) rfl rfl)).cons (q_get hF822 (t := 9) rfl rfl)).cons (q_get hF822 (t := 8) rfl rfl)).cons (q_get hF822 (t := 7) rfl rfl)).cons (q_get hF822 (t := 16) rfl rfl)).cons (q_get hF822 (t := 6) rfl rfl)).cons (q_get hF822 (t := 2) rfl rfl)).cons (q_get hF822 (t := 1) rfl rfl)).cons (q_get hF822 (t := 0) rfl rfl)), (by omega), (((((Ext.refl w).trans hx200).trans hx766).trans hx779).grownN hg786 (by omega)), b825, d823, d824, (by omega)⟩, ?_⟩
            rw [hF822.get (t := 62) rfl, hL206.get (t := 62) rfl]; simp [intOf] <;> omega
        · skip
          refine wpl_op (i := 4) rfl (o_skip hF590 rfl (unwanted_guard rfl rfl rfl hF590 rfl (decide_eq_false hc591) rfl) rfl rfl ?_)
          intro a826 hF827; clear hF590
          refine wpl_op (i := 5) rfl (o_skip hF827 rfl (unwanted_guard rfl rfl rfl hF827 rfl (decide_eq_false hc591) rfl) rfl rfl ?_)
          intro a828 hF829; clear hF827
          refine wpl_op (i := 6) rfl (o_val (v := (.bool false)) hF829 rfl rfl rfl rfl (rn_pickF (c_false hF829 rfl (decide_eq_false hc591)) rfl) ?_)
          intro a830 hF831; clear hF829
          refine wpl_op (i := 7) rfl (o_val (v := (.bool false)) hF831 rfl rfl rfl rfl (rn_move (hF831.get rfl)) ?_)
          intro a832 hF833; clear hF831
          refine wpl_op (i := 8) rfl (o_skip hF833 rfl (unwanted_guard rfl rfl rfl hF833 rfl rfl rfl) rfl rfl ?_)
          intro a834 hF835; clear hF833
          refine wpl_op (i := 9) rfl (o_skip hF835 rfl (unwanted_guard rfl rfl rfl hF835 rfl rfl rfl) rfl rfl ?_)
          intro a836 hF837; clear hF835
          refine wpl_op (i := 10) rfl (o_skip hF837 rfl (unwanted_guard rfl rfl rfl hF837 rfl rfl rfl) rfl rfl ?_)
          intro a838 hF839; clear hF837
          refine wpl_op (i := 11) rfl (o_skip hF839 rfl (unwanted_guard rfl rfl rfl hF839 rfl rfl rfl) rfl rfl ?_)
          intro a840 hF841; clear hF839
          refine wpl_op (i := 12) rfl (o_skip hF841 rfl (unwanted_guard rfl rfl rfl hF841 rfl rfl rfl) rfl rfl ?_)
          intro a842 hF843; clear hF841
          refine wpl_op (i := 13) rfl (o_skip hF843 rfl (unwanted_guard rfl rfl rfl hF843 rfl rfl rfl) rfl rfl ?_)
          intro a844 hF845; clear hF843
          refine wpl_op (i := 14) rfl (o_val (v := (.bool false)) hF845 rfl rfl rfl rfl (rn_pickF (c_false hF845 rfl rfl) rfl) ?_)
          intro a846 hF847; clear hF845
          refine wpl_op (i := 15) rfl (o_val (v := (.bool false)) hF847 rfl rfl rfl rfl (rn_assign (hF847.get rfl)) ?_)
          intro a848 hF849; clear hF847
          refine wpList_nil ?_
          refine hK582 _ _ ?_
          clear hK582
          have hF850 := ((((((((((((((((hF849.nil.cons (hF849.get (t := 12) (v := (.bool false)) rfl)).cons (hF849.get (t := 11) (v := (.int .i64 (andI (n) (31)))) rfl)).cons (hF849.get (t := 63) (v := (.bool true)) rfl)).cons (hF849.get (t := 62) (v := (.int .i64 1)) rfl)).cons (hF849.get (t := 61) (v := (.int .i64 4)) rfl)).cons (hF849.get (t := 60) (v := (.slice (some ⟨g181, 0, none⟩) 4 4)) rfl)).cons (hF849.get (t := 50) (v := (.bool (decide (((n37 : Nat) : Int) ≠ (((dirs (at_ : Int).toNat (((digsOf s).length : Nat) : Int).toNat).length : Nat) : Int))))) rfl)).cons (hF849.get (t := 32) (v := (.bool (decide ((((digsOf s).length : Nat) : Int) ≤ (at_ : Int))))) rfl)).cons (hF849.get (t := 9) (v := (.int .i64 ((pathF (digsOf s) at_).2))) rfl)).cons (hF849.get (t := 8) (v := (.slice A36 n37 c38)) rfl)).cons (hF849.get (t := 7) (v := (.slice A17 ((digsOf s).length) c18)) rfl)).cons (hF849.get (t := 16) (v := (.bool false)) rfl)).cons (hF849.get (t := 6) (v := (.bool false)) rfl)).cons (hF849.get (t := 2) (v := (.int .i64 n)) rfl)).cons (hF849.get (t := 1) (v := (.int .i64 at_)) rfl)).cons (hF849.get (t := 0) (v := (.slice A s.length c)) rfl))
          clear hF849
          refine wp_seq_k (fun K851 hK851 => ?_)
          refine wp_region_lit ?_
          refine wpl_op (i := 0) rfl (o_val (v := (.slice A17 ((digsOf s).length) c18)) hF850 rfl rfl rfl rfl (rn_move (hF850.get rfl)) ?_)
          intro a852 hF853; clear hF850
          refine wpl_op (i := 1) rfl (o_val (v := (.int .i64 at_)) hF853 rfl rfl rfl rfl (rn_move (hF853.get rfl)) ?_)
          intro a854 hF855; clear hF853
          obtain ⟨b856, o857, hA858, -⟩ := Fl.at hf203 (by omega)
          refine wpl_op (i := 2) rfl (o_val (v := (.pointer (some ⟨b856, o857 + (at_ : Int).toNat * 32, none⟩))) hF855 rfl rfl rfl rfl (rn_indexE Tryd.underlying30 (by kernel_rfl : (Tryd.prog.info? 26).map (·.size) = some 32) ((hF855.get rfl).trans (by rw [hA858])) (hF855.get rfl) (by omega : (0 : Int) ≤ at_) (by omega : (at_ : Int) < (((digsOf s).length : Nat) : Int)) (by omega)) ?_)
          intro a859 hF860; clear hF855
          refine wpl_op (i := 3) rfl (o_val (v := (.agg (byteVals ((digsOf s).getD ((at_ : Int).toNat) [])).toArray)) hF860 rfl rfl rfl rfl (rn_loadN (cs := byteVals ((digsOf s).getD ((at_ : Int).toNat) [])) (hF860.get rfl) Tryd.underlying26 rfl ((by kernel_rfl : (Tryd.prog.info? 26).map (·.size) = some 32).trans (congrArg some (byteVals_len (dig_len (digsOf_32 _) ((at_ : Int).toNat) (by omega))).symm)) (Fl.digAt hf203 hA858 (digsOf_32 _) (by omega))) ?_)
          intro a861 hF862; clear hF860
          refine wpl_op (i := 4) rfl (o_val (v := (.int .i64 at_)) hF862 rfl rfl rfl rfl (rn_move (hF862.get rfl)) ?_)
          intro a863 hF864; clear hF862
          refine wpl_op (i := 5) rfl (o_val (v := (.int .i64 (andI (n) (31)))) hF864 rfl rfl rfl rfl (rn_move (hF864.get rfl)) ?_)
          intro a865 hF866; clear hF864
          refine wpl_op (i := 6) rfl (o_val (v := (.slice A36 n37 c38)) hF866 rfl rfl rfl rfl (rn_move (hF866.get rfl)) ?_)
          intro a867 hF868; clear hF866
          refine wpl_op (i := 7) rfl (o_call hF868 rfl rfl rfl rfl (rn_call (args4 (hF868.get rfl) (hF868.get rfl) (hF868.get rfl) (hF868.get rfl)) rfl (by kernel_rfl)) (climb_at ((digsOf s).getD ((at_ : Int).toNat) []) at_ (andI (n) (31)) ((pathF (digsOf s) at_).1) _ (v := (.slice A36 n37 c38)) (m := n37) (dig_len (digsOf_32 _) ((at_ : Int).toNat) (by omega)) (pathF_32 (digsOf s) at_) hf204 (hG.ext ((Ext.refl w).trans hx200))) ?_)
          rintro _ w869 ⟨rfl, hx870⟩
          refine ⟨_, rfl, ?_⟩; intro a871 hF872; clear hF868; have z873 := hx870.size
          refine wpl_op (i := 8) rfl (o_val (v := (.tuple #[(.agg (byteVals ((climbF ((digsOf s).getD ((at_ : Int).toNat) []) at_ (andI (n) (31)) ((pathF (digsOf s) at_).1)).1)).toArray), (.int .i64 ((climbF ((digsOf s).getD ((at_ : Int).toNat) []) at_ (andI (n) (31)) ((pathF (digsOf s) at_).1)).2))])) hF872 rfl rfl rfl rfl (rn_move (hF872.get rfl)) ?_)
          intro a874 hF875; clear hF872
          refine wpl_op (i := 9) rfl (o_val (v := (.agg (byteVals ((climbF ((digsOf s).getD ((at_ : Int).toNat) []) at_ (andI (n) (31)) ((pathF (digsOf s) at_).1)).1)).toArray)) hF875 rfl rfl rfl rfl (rn_extract (hF875.get rfl) rfl) ?_)
          intro a876 hF877; clear hF875
          refine wpl_op (i := 10) rfl (o_val (v := (.int .i64 ((climbF ((digsOf s).getD ((at_ : Int).toNat) []) at_ (andI (n) (31)) ((pathF (digsOf s) at_).1)).2))) hF877 rfl rfl rfl rfl (rn_extract (hF877.get rfl) rfl) ?_)
          intro a878 hF879; clear hF877
          refine wpl_op (i := 11) rfl (o_new (fun g => (.pointer (some ⟨g, 0, none⟩))) (byteVals (List.replicate 32 0)) 26 hF879 rfl rfl rfl rfl (by kernel_rfl) ?_)
          intro g880 w881 a886 hF887 z884 z885 b882 hx883; clear hF879
          refine wpl_op (i := 12) rfl (o_store (cells := (byteVals ((climbF ((digsOf s).getD ((at_ : Int).toNat) []) at_ (andI (n) (31)) ((pathF (digsOf s) at_).1)).1))) hF887 rfl rfl rfl rfl (hF887.get rfl) (hF887.get rfl) b882 ((by kernel_rfl : (Tryd.prog.info? 26).map (·.size) = some 32).trans (congrArg some (byteVals_len (climbF_len _ _ _ _)).symm)) ((byteVals_len (show List.length (List.replicate 32 0) = _ from List.length_replicate)).trans (byteVals_len (climbF_len _ _ _ _)).symm) (byteVals_one _) ?_)
          intro w888 b889 hg890; have z891 := hg890.size
          refine wpl_op (i := 13) rfl (o_val (v := (.int .i64 ((climbF ((digsOf s).getD ((at_ : Int).toNat) []) at_ (andI (n) (31)) ((pathF (digsOf s) at_).1)).2))) hF887 rfl rfl rfl rfl (rn_assign (hF887.get rfl)) ?_)
          intro a892 hF893; clear hF887
          refine wpList_nil ?_
          refine hK851 _ _ ?_
          clear hK851
          have hF894 := (((((((((((((((((hF893.nil.cons (hF893.get (t := 14) (v := (.int .i64 ((climbF ((digsOf s).getD ((at_ : Int).toNat) []) at_ (andI (n) (31)) ((pathF (digsOf s) at_).1)).2))) rfl)).cons (hF893.get (t := 12) (v := (.bool false)) rfl)).cons (hF893.get (t := 11) (v := (.int .i64 (andI (n) (31)))) rfl)).cons (hF893.get (t := 63) (v := (.bool true)) rfl)).cons (hF893.get (t := 62) (v := (.int .i64 1)) rfl)).cons (hF893.get (t := 61) (v := (.int .i64 4)) rfl)).cons (hF893.get (t := 60) (v := (.slice (some ⟨g181, 0, none⟩) 4 4)) rfl)).cons (hF893.get (t := 50) (v := (.bool (decide (((n37 : Nat) : Int) ≠ (((dirs (at_ : Int).toNat (((digsOf s).length : Nat) : Int).toNat).length : Nat) : Int))))) rfl)).cons (hF893.get (t := 32) (v := (.bool (decide ((((digsOf s).length : Nat) : Int) ≤ (at_ : Int))))) rfl)).cons (hF893.get (t := 9) (v := (.int .i64 ((pathF (digsOf s) at_).2))) rfl)).cons (hF893.get (t := 8) (v := (.slice A36 n37 c38)) rfl)).cons (hF893.get (t := 7) (v := (.slice A17 ((digsOf s).length) c18)) rfl)).cons (hF893.get (t := 16) (v := (.bool false)) rfl)).cons (hF893.get (t := 6) (v := (.bool false)) rfl)).cons (hF893.get (t := 2) (v := (.int .i64 n)) rfl)).cons (hF893.get (t := 1) (v := (.int .i64 at_)) rfl)).cons (hF893.get (t := 0) (v := (.slice A s.length c)) rfl))
          clear hF893
          refine wp_seq_k (fun K895 hK895 => ?_)
          refine wp_region_lit ?_
          refine wpl_op (i := 0) rfl (o_val (v := (.bool false)) hF894 rfl rfl rfl rfl (rn_move (hF894.get rfl)) ?_)
          intro a896 hF897; clear hF894
          refine wpl_op (i := 1) rfl (o_val (v := (.int .i64 ((climbF ((digsOf s).getD ((at_ : Int).toNat) []) at_ (andI (n) (31)) ((pathF (digsOf s) at_).1)).2))) hF897 rfl rfl rfl rfl (rn_move (hF897.get rfl)) ?_)
          intro a898 hF899; clear hF897
          refine wpl_op (i := 2) rfl (o_val (v := (.bool (decide (((climbF ((digsOf s).getD ((at_ : Int).toNat) []) at_ (andI (n) (31)) ((pathF (digsOf s) at_).1)).2 : Int) = (0 : Int))))) hF899 rfl rfl rfl rfl (rn_eql (hF899.get rfl) rfl) ?_)
          intro a900 hF901; clear hF899
          refine wpl_op (i := 3) rfl (o_val (v := (.bool false)) hF901 rfl rfl rfl rfl (rn_neB Tryd.underlying4 (hF901.get rfl) (hF901.get rfl) (show _ = false from rfl) (show _ = false from ((decide_eq_false (by rw [climbF, if_pos (by omega)]; simp)) : decide (((climbF ((digsOf s).getD ((at_ : Int).toNat) []) at_ (andI (n) (31)) ((pathF (digsOf s) at_).1)).2 : Int) = (0 : Int)) = false)) rfl) ?_)
          intro a903 hF904; clear hF901
          refine wpl_op (i := 4) rfl (o_val (v := (.bool false)) hF904 rfl rfl rfl rfl (rn_move (hF904.get rfl)) ?_)
          intro a905 hF906; clear hF904
          refine wpl_op (i := 5) rfl (o_val (v := (.bool false)) hF906 rfl (wanted_guard rfl rfl rfl hF906 rfl rfl rfl) rfl rfl (rn_move (hF906.get rfl)) ?_)
          intro a907 hF908; clear hF906
          refine wpl_op (i := 6) rfl (o_val (v := (.bool true)) hF908 rfl (wanted_guard rfl rfl rfl hF908 rfl rfl rfl) rfl rfl (rn_not' (hF908.get rfl) rfl) ?_)
          intro a909 hF910; clear hF908
          refine wpl_op (i := 7) rfl (o_val (v := (.bool true)) hF910 rfl (wanted_guard rfl rfl rfl hF910 rfl rfl rfl) rfl rfl (rn_move (hF910.get rfl)) ?_)
          intro a911 hF912; clear hF910
          refine wpl_op (i := 8) rfl (o_val (v := (.int .i64 ((climbF ((digsOf s).getD ((at_ : Int).toNat) []) at_ (andI (n) (31)) ((pathF (digsOf s) at_).1)).2))) hF912 rfl (wanted_guard rfl rfl rfl hF912 rfl rfl rfl) rfl rfl (rn_move (hF912.get rfl)) ?_)
          intro a913 hF914; clear hF912
          refine wpl_op (i := 9) rfl (o_val (v := (.bool (decide (((climbF ((digsOf s).getD ((at_ : Int).toNat) []) at_ (andI (n) (31)) ((pathF (digsOf s) at_).1)).2 : Int) ≠ (1 : Int))))) hF914 rfl (wanted_guard rfl rfl rfl hF914 rfl rfl rfl) rfl rfl (rn_neq (hF914.get rfl) rfl) ?_)
          intro a915 hF916; clear hF914
          refine wpl_op (i := 10) rfl (o_val (v := (.bool (decide (((climbF ((digsOf s).getD ((at_ : Int).toNat) []) at_ (andI (n) (31)) ((pathF (digsOf s) at_).1)).2 : Int) ≠ (1 : Int))))) hF916 rfl (wanted_guard rfl rfl rfl hF916 rfl rfl rfl) rfl rfl (rn_pickT (c_true hF916 rfl rfl) (hF916.get rfl)) ?_)
          intro a917 hF918; clear hF916
          refine wpl_op (i := 11) rfl (o_val (v := (.bool (decide (((climbF ((digsOf s).getD ((at_ : Int).toNat) []) at_ (andI (n) (31)) ((pathF (digsOf s) at_).1)).2 : Int) ≠ (1 : Int))))) hF918 rfl rfl rfl rfl (rn_pickF (c_false hF918 rfl rfl) (hF918.get rfl)) ?_)
          intro a919 hF920; clear hF918
          refine wpList_nil ?_
          refine hK895 _ _ ?_
          clear hK895
          have hF921 := ((((((((((((((((((hF920.nil.cons (hF920.get (t := 103) (v := (.bool (decide (((climbF ((digsOf s).getD ((at_ : Int).toNat) []) at_ (andI (n) (31)) ((pathF (digsOf s) at_).1)).2 : Int) ≠ (1 : Int))))) rfl)).cons (hF920.get (t := 14) (v := (.int .i64 ((climbF ((digsOf s).getD ((at_ : Int).toNat) []) at_ (andI (n) (31)) ((pathF (digsOf s) at_).1)).2))) rfl)).cons (hF920.get (t := 12) (v := (.bool false)) rfl)).cons (hF920.get (t := 11) (v := (.int .i64 (andI (n) (31)))) rfl)).cons (hF920.get (t := 63) (v := (.bool true)) rfl)).cons (hF920.get (t := 62) (v := (.int .i64 1)) rfl)).cons (hF920.get (t := 61) (v := (.int .i64 4)) rfl)).cons (hF920.get (t := 60) (v := (.slice (some ⟨g181, 0, none⟩) 4 4)) rfl)).cons (hF920.get (t := 50) (v := (.bool (decide (((n37 : Nat) : Int) ≠ (((dirs (at_ : Int).toNat (((digsOf s).length : Nat) : Int).toNat).length : Nat) : Int))))) rfl)).cons (hF920.get (t := 32) (v := (.bool (decide ((((digsOf s).length : Nat) : Int) ≤ (at_ : Int))))) rfl)).cons (hF920.get (t := 9) (v := (.int .i64 ((pathF (digsOf s) at_).2))) rfl)).cons (hF920.get (t := 8) (v := (.slice A36 n37 c38)) rfl)).cons (hF920.get (t := 7) (v := (.slice A17 ((digsOf s).length) c18)) rfl)).cons (hF920.get (t := 16) (v := (.bool false)) rfl)).cons (hF920.get (t := 6) (v := (.bool false)) rfl)).cons (hF920.get (t := 2) (v := (.int .i64 n)) rfl)).cons (hF920.get (t := 1) (v := (.int .i64 at_)) rfl)).cons (hF920.get (t := 0) (v := (.slice A s.length c)) rfl))
          clear hF920
          refine wp_cond_false (c_false hF921 rfl ((decide_eq_false (by rw [climbF, if_pos (by omega)]; simp)) : decide (((climbF ((digsOf s).getD ((at_ : Int).toNat) []) at_ (andI (n) (31)) ((pathF (digsOf s) at_).1)).2 : Int) ≠ (1 : Int)) = false)) ?_
          refine wp_skip ?_
          refine hK574 _ _ ?_
          clear hK574
          refine wp_region_lit ?_
          refine wpl_op (i := 0) rfl (o_val (v := (.int .i64 2)) hF921 rfl rfl rfl rfl (rn_add (hF921.get rfl) rfl (by omega) (by omega)) ?_)
          intro a923 hF924; clear hF921
          refine wpl_op (i := 1) rfl (o_val (v := (.int .i64 2)) hF924 rfl rfl rfl rfl (rn_move (hF924.get rfl)) ?_)
          intro a925 hF926; clear hF924
          refine wpList_nil ?_
          have d927 := (hf203.pres ((((Pres.refl w198).ext hx870).ext hx883).grownN hg890 (fun h => by simp only [Clip] at h; omega)))
          have d928 := (hf204.pres ((((Pres.refl w198).ext hx870).ext hx883).grownN hg890 (fun h => by simp only [Clip] at h; omega)))
          have b929 : Blk w888 g181 3 [(.int .i64 n), (.int .i64 (andI (n) (31))), (.int .i64 (((digsOf s).length) + 1 : Nat)), (.int .i64 (2 * ((digsOf s).length) : Nat))] := (((b202.ext hx870).ext hx883).grownN hg890 (by omega))
          refine ⟨⟨2, (((((((((((((hF926.nil.cons (q_get hF926 (t := 62) rfl (by first | rfl | (congr 1; omega) | (congr 1; done)))).cons (q_get hF926 (t := 61) rfl rfl)).cons (q_get hF926 (t := 60) rfl rfl)).cons (q_get hF926 (t := 50) rfl rfl)).cons (q_get hF926 (t := 32) rfl rfl)).cons (q_get hF926 (t := 9) rfl rfl)).cons (q_get hF926 (t := 8) rfl rfl)).cons (q_get hF926 (t := 7) rfl rfl)).cons (q_get hF926 (t := 16) rfl rfl)).cons (q_get hF926 (t := 6) rfl rfl)).cons (q_get hF926 (t := 2) rfl rfl)).cons (q_get hF926 (t := 1) rfl rfl)).cons (q_get hF926 (t := 0) rfl rfl)), (by omega), (((((Ext.refl w).trans hx200).trans hx870).trans hx883).grownN hg890 (by omega)), b929, d927, d928, (by omega)⟩, ?_⟩
          rw [hF926.get (t := 62) rfl, hL206.get (t := 62) rfl]; simp [intOf] <;> omega
      · subst hk209
        refine wp_seq_k (fun K930 hK930 => ?_)
        refine wp_region_lit ?_
        refine wpl_op (i := 0) rfl (o_val (v := (.bool true)) hF199 rfl rfl rfl rfl (rn_lss' (hF199.get rfl) (hF199.get rfl) (by decide)) ?_)
        intro a931 hF932; clear hF199
        refine wpList_nil ?_
        refine hK930 _ _ ?_
        clear hK930
        refine wp_seq_k (fun K933 hK933 => ?_)
        refine wp_cond_true (c_true hF932 rfl rfl) ?_
        refine wp_skip ?_
        refine hK933 _ _ ?_
        clear hK933
        refine wp_seq_k (fun K934 hK934 => ?_)
        refine wp_block ?_
        refine wp_seq_k (fun K935 hK935 => ?_)
        refine wp_region_lit ?_
        refine wpl_op (i := 0) rfl (o_val (v := (.pointer (some ⟨g181, 0 + 2, none⟩))) hF932 rfl rfl rfl rfl (rn_index1 Tryd.underlying33 (by kernel_rfl : (Tryd.prog.info? 3).map (·.size) = some 1) (hF932.get rfl) (hF932.get rfl) (by omega : (0 : Int) ≤ 2) (by omega : (2 : Int) < ((4 : Nat) : Int))) ?_)
        intro a936 hF937; clear hF932
        refine wpl_op (i := 1) rfl (o_val (v := (.int .i64 (((digsOf s).length) + 1 : Nat))) hF937 rfl rfl rfl rfl (rn_load (isAgg_no Tryd.underlying3 rfl) (hF937.get rfl) (b202.rule.1 (0 + 2))) ?_)
        intro a938 hF939; clear hF937
        refine wpl_op (i := 2) rfl (o_val (v := (.int .i64 (((digsOf s).length) + 1 : Nat))) hF939 rfl rfl rfl rfl (rn_assign (hF939.get rfl)) ?_)
        intro a940 hF941; clear hF939
        refine wpList_nil ?_
        refine hK935 _ _ ?_
        clear hK935
        refine wp_seq_k (fun K942 hK942 => ?_)
        refine wp_region_lit ?_
        refine wpl_op (i := 0) rfl (o_val (v := (.int .i64 (((digsOf s).length) + 1 : Nat))) hF941 rfl rfl rfl rfl (rn_move (hF941.get rfl)) ?_)
        intro a943 hF944; clear hF941
        refine wpl_op (i := 1) rfl (o_val (v := (.int .i64 at_)) hF944 rfl rfl rfl rfl (rn_move (hF944.get rfl)) ?_)
        intro a945 hF946; clear hF944
        refine wpl_op (i := 2) rfl (o_val (v := (.bool (decide ((at_ : Int) < ((((digsOf s).length) + 1 : Nat) : Int))))) hF946 rfl rfl rfl rfl (rn_gtr (hF946.get rfl) (hF946.get rfl)) ?_)
        intro a947 hF948; clear hF946
        refine wpl_op (i := 3) rfl (o_val (v := (.bool (decide ((at_ : Int) < ((((digsOf s).length) + 1 : Nat) : Int))))) hF948 rfl rfl rfl rfl (rn_move (hF948.get rfl)) ?_)
        intro a949 hF950; clear hF948
        by_cases hc951 : (at_ : Int) < ((((digsOf s).length) + 1 : Nat) : Int)
        · skip
          refine wpl_op (i := 4) rfl (o_val (v := (.int .i64 (((digsOf s).length) + 1 : Nat))) hF950 rfl (wanted_guard rfl rfl rfl hF950 rfl (decide_eq_true hc951) rfl) rfl rfl (rn_move (hF950.get rfl)) ?_)
          intro a952 hF953; clear hF950
          refine wpl_op (i := 5) rfl (o_val (v := (.bool (decide (((((digsOf s).length) + 1 : Nat) : Int) ≤ (1099511627776 : Int))))) hF953 rfl (wanted_guard rfl rfl rfl hF953 rfl (decide_eq_true hc951) rfl) rfl rfl (rn_leq (hF953.get rfl) rfl) ?_)
          intro a954 hF955; clear hF953
          refine wpl_op (i := 6) rfl (o_val (v := (.bool (decide (((((digsOf s).length) + 1 : Nat) : Int) ≤ (1099511627776 : Int))))) hF955 rfl rfl rfl rfl (rn_pickT (c_true hF955 rfl (decide_eq_true hc951)) (hF955.get rfl)) ?_)
          intro a956 hF957; clear hF955
          refine wpl_op (i := 7) rfl (o_val (v := (.bool (decide (((((digsOf s).length) + 1 : Nat) : Int) ≤ (1099511627776 : Int))))) hF957 rfl rfl rfl rfl (rn_move (hF957.get rfl)) ?_)
          intro a958 hF959; clear hF957
          by_cases hc960 : ((((digsOf s).length) + 1 : Nat) : Int) ≤ (1099511627776 : Int)
          · skip
            refine wpl_op (i := 8) rfl (o_val (v := (.int .i64 at_)) hF959 rfl (wanted_guard rfl rfl rfl hF959 rfl (decide_eq_true hc960) rfl) rfl rfl (rn_move (hF959.get rfl)) ?_)
            intro a961 hF962; clear hF959
            refine wpl_op (i := 9) rfl (o_val (v := (.int .i64 (((digsOf s).length) + 1 : Nat))) hF962 rfl (wanted_guard rfl rfl rfl hF962 rfl (decide_eq_true hc960) rfl) rfl rfl (rn_move (hF962.get rfl)) ?_)
            intro a963 hF964; clear hF962
            refine wpl_op (i := 10) rfl (o_call hF964 rfl (wanted_guard rfl rfl rfl hF964 rfl (decide_eq_true hc960) rfl) rfl rfl (rn_call (args2 (hF964.get rfl) (hF964.get rfl)) rfl (by kernel_rfl)) (steps_at (at_) ((((digsOf s).length) + 1 : Nat)) _ (by omega) (by omega) (by omega)) ?_)
            rintro _ w965 ⟨rfl, hx966⟩
            refine ⟨_, rfl, ?_⟩; intro a967 hF968; clear hF964; have z969 := hx966.size
            refine wpl_op (i := 11) rfl (o_val (v := (.slice A36 n37 c38)) hF968 rfl (wanted_guard rfl rfl rfl hF968 rfl (decide_eq_true hc960) rfl) rfl rfl (rn_move (hF968.get rfl)) ?_)
            intro a970 hF971; clear hF968
            refine wpl_op (i := 12) rfl (o_val (v := (.int .i64 (n37 : Nat))) hF971 rfl (wanted_guard rfl rfl rfl hF971 rfl (decide_eq_true hc960) rfl) rfl rfl (rn_len_slice Tryd.underlying30 (hF971.get rfl)) ?_)
            intro a972 hF973; clear hF971
            refine wpl_op (i := 13) rfl (o_val (v := (.bool (decide ((((dirs (at_ : Int).toNat ((((digsOf s).length) + 1 : Nat) : Int).toNat).length : Nat) : Int) = ((n37 : Nat) : Int))))) hF973 rfl (wanted_guard rfl rfl rfl hF973 rfl (decide_eq_true hc960) rfl) rfl rfl (rn_eql (hF973.get rfl) (hF973.get rfl)) ?_)
            intro a974 hF975; clear hF973
            refine wpl_op (i := 14) rfl (o_val (v := (.bool (decide ((((dirs (at_ : Int).toNat ((((digsOf s).length) + 1 : Nat) : Int).toNat).length : Nat) : Int) = ((n37 : Nat) : Int))))) hF975 rfl rfl rfl rfl (rn_pickT (c_true hF975 rfl (decide_eq_true hc960)) (hF975.get rfl)) ?_)
            intro a976 hF977; clear hF975
            refine wpl_op (i := 15) rfl (o_val (v := (.bool (decide ((((dirs (at_ : Int).toNat ((((digsOf s).length) + 1 : Nat) : Int).toNat).length : Nat) : Int) = ((n37 : Nat) : Int))))) hF977 rfl rfl rfl rfl (rn_assign (hF977.get rfl)) ?_)
            intro a978 hF979; clear hF977
            refine wpList_nil ?_
            refine hK942 _ _ ?_
            clear hK942
            have hF980 := ((((((((((((((((hF979.nil.cons (hF979.get (t := 12) (v := (.bool (decide ((((dirs (at_ : Int).toNat ((((digsOf s).length) + 1 : Nat) : Int).toNat).length : Nat) : Int) = ((n37 : Nat) : Int))))) rfl)).cons (hF979.get (t := 11) (v := (.int .i64 (((digsOf s).length) + 1 : Nat))) rfl)).cons (hF979.get (t := 63) (v := (.bool true)) rfl)).cons (hF979.get (t := 62) (v := (.int .i64 2)) rfl)).cons (hF979.get (t := 61) (v := (.int .i64 4)) rfl)).cons (hF979.get (t := 60) (v := (.slice (some ⟨g181, 0, none⟩) 4 4)) rfl)).cons (hF979.get (t := 50) (v := (.bool (decide (((n37 : Nat) : Int) ≠ (((dirs (at_ : Int).toNat (((digsOf s).length : Nat) : Int).toNat).length : Nat) : Int))))) rfl)).cons (hF979.get (t := 32) (v := (.bool (decide ((((digsOf s).length : Nat) : Int) ≤ (at_ : Int))))) rfl)).cons (hF979.get (t := 9) (v := (.int .i64 ((pathF (digsOf s) at_).2))) rfl)).cons (hF979.get (t := 8) (v := (.slice A36 n37 c38)) rfl)).cons (hF979.get (t := 7) (v := (.slice A17 ((digsOf s).length) c18)) rfl)).cons (hF979.get (t := 16) (v := (.bool false)) rfl)).cons (hF979.get (t := 6) (v := (.bool false)) rfl)).cons (hF979.get (t := 2) (v := (.int .i64 n)) rfl)).cons (hF979.get (t := 1) (v := (.int .i64 at_)) rfl)).cons (hF979.get (t := 0) (v := (.slice A s.length c)) rfl))
            clear hF979
            refine wp_seq_k (fun K981 hK981 => ?_)
            refine wp_region_lit ?_
            refine wpl_op (i := 0) rfl (o_val (v := (.slice A17 ((digsOf s).length) c18)) hF980 rfl rfl rfl rfl (rn_move (hF980.get rfl)) ?_)
            intro a982 hF983; clear hF980
            refine wpl_op (i := 1) rfl (o_val (v := (.int .i64 at_)) hF983 rfl rfl rfl rfl (rn_move (hF983.get rfl)) ?_)
            intro a984 hF985; clear hF983
            have d989 := (hf203.ext hx966)
            obtain ⟨b986, o987, hA988, -⟩ := Fl.at d989 (by omega)
            refine wpl_op (i := 2) rfl (o_val (v := (.pointer (some ⟨b986, o987 + (at_ : Int).toNat * 32, none⟩))) hF985 rfl rfl rfl rfl (rn_indexE Tryd.underlying30 (by kernel_rfl : (Tryd.prog.info? 26).map (·.size) = some 32) ((hF985.get rfl).trans (by rw [hA988])) (hF985.get rfl) (by omega : (0 : Int) ≤ at_) (by omega : (at_ : Int) < (((digsOf s).length : Nat) : Int)) (by omega)) ?_)
            intro a990 hF991; clear hF985
            refine wpl_op (i := 3) rfl (o_val (v := (.agg (byteVals ((digsOf s).getD ((at_ : Int).toNat) [])).toArray)) hF991 rfl rfl rfl rfl (rn_loadN (cs := byteVals ((digsOf s).getD ((at_ : Int).toNat) [])) (hF991.get rfl) Tryd.underlying26 rfl ((by kernel_rfl : (Tryd.prog.info? 26).map (·.size) = some 32).trans (congrArg some (byteVals_len (dig_len (digsOf_32 _) ((at_ : Int).toNat) (by omega))).symm)) (Fl.digAt d989 hA988 (digsOf_32 _) (by omega))) ?_)
            intro a992 hF993; clear hF991
            refine wpl_op (i := 4) rfl (o_val (v := (.int .i64 at_)) hF993 rfl rfl rfl rfl (rn_move (hF993.get rfl)) ?_)
            intro a994 hF995; clear hF993
            refine wpl_op (i := 5) rfl (o_val (v := (.int .i64 (((digsOf s).length) + 1 : Nat))) hF995 rfl rfl rfl rfl (rn_move (hF995.get rfl)) ?_)
            intro a996 hF997; clear hF995
            refine wpl_op (i := 6) rfl (o_val (v := (.slice A36 n37 c38)) hF997 rfl rfl rfl rfl (rn_move (hF997.get rfl)) ?_)
            intro a998 hF999; clear hF997
            have d1000 := (hf204.ext hx966)
            refine wpl_op (i := 7) rfl (o_call hF999 rfl rfl rfl rfl (rn_call (args4 (hF999.get rfl) (hF999.get rfl) (hF999.get rfl) (hF999.get rfl)) rfl (by kernel_rfl)) (climb_at ((digsOf s).getD ((at_ : Int).toNat) []) at_ (((digsOf s).length) + 1 : Nat) ((pathF (digsOf s) at_).1) _ (v := (.slice A36 n37 c38)) (m := n37) (dig_len (digsOf_32 _) ((at_ : Int).toNat) (by omega)) (pathF_32 (digsOf s) at_) d1000 (hG.ext (((Ext.refl w).trans hx200).trans hx966))) ?_)
            rintro _ w1001 ⟨rfl, hx1002⟩
            refine ⟨_, rfl, ?_⟩; intro a1003 hF1004; clear hF999; have z1005 := hx1002.size
            refine wpl_op (i := 8) rfl (o_val (v := (.tuple #[(.agg (byteVals ((climbF ((digsOf s).getD ((at_ : Int).toNat) []) at_ (((digsOf s).length) + 1 : Nat) ((pathF (digsOf s) at_).1)).1)).toArray), (.int .i64 ((climbF ((digsOf s).getD ((at_ : Int).toNat) []) at_ (((digsOf s).length) + 1 : Nat) ((pathF (digsOf s) at_).1)).2))])) hF1004 rfl rfl rfl rfl (rn_move (hF1004.get rfl)) ?_)
            intro a1006 hF1007; clear hF1004
            refine wpl_op (i := 9) rfl (o_val (v := (.agg (byteVals ((climbF ((digsOf s).getD ((at_ : Int).toNat) []) at_ (((digsOf s).length) + 1 : Nat) ((pathF (digsOf s) at_).1)).1)).toArray)) hF1007 rfl rfl rfl rfl (rn_extract (hF1007.get rfl) rfl) ?_)
            intro a1008 hF1009; clear hF1007
            refine wpl_op (i := 10) rfl (o_val (v := (.int .i64 ((climbF ((digsOf s).getD ((at_ : Int).toNat) []) at_ (((digsOf s).length) + 1 : Nat) ((pathF (digsOf s) at_).1)).2))) hF1009 rfl rfl rfl rfl (rn_extract (hF1009.get rfl) rfl) ?_)
            intro a1010 hF1011; clear hF1009
            refine wpl_op (i := 11) rfl (o_new (fun g => (.pointer (some ⟨g, 0, none⟩))) (byteVals (List.replicate 32 0)) 26 hF1011 rfl rfl rfl rfl (by kernel_rfl) ?_)
            intro g1012 w1013 a1018 hF1019 z1016 z1017 b1014 hx1015; clear hF1011
            refine wpl_op (i := 12) rfl (o_store (cells := (byteVals ((climbF ((digsOf s).getD ((at_ : Int).toNat) []) at_ (((digsOf s).length) + 1 : Nat) ((pathF (digsOf s) at_).1)).1))) hF1019 rfl rfl rfl rfl (hF1019.get rfl) (hF1019.get rfl) b1014 ((by kernel_rfl : (Tryd.prog.info? 26).map (·.size) = some 32).trans (congrArg some (byteVals_len (climbF_len _ _ _ _)).symm)) ((byteVals_len (show List.length (List.replicate 32 0) = _ from List.length_replicate)).trans (byteVals_len (climbF_len _ _ _ _)).symm) (byteVals_one _) ?_)
            intro w1020 b1021 hg1022; have z1023 := hg1022.size
            refine wpl_op (i := 13) rfl (o_val (v := (.int .i64 ((climbF ((digsOf s).getD ((at_ : Int).toNat) []) at_ (((digsOf s).length) + 1 : Nat) ((pathF (digsOf s) at_).1)).2))) hF1019 rfl rfl rfl rfl (rn_assign (hF1019.get rfl)) ?_)
            intro a1024 hF1025; clear hF1019
            refine wpList_nil ?_
            refine hK981 _ _ ?_
            clear hK981
            have hF1026 := (((((((((((((((((hF1025.nil.cons (hF1025.get (t := 14) (v := (.int .i64 ((climbF ((digsOf s).getD ((at_ : Int).toNat) []) at_ (((digsOf s).length) + 1 : Nat) ((pathF (digsOf s) at_).1)).2))) rfl)).cons (hF1025.get (t := 12) (v := (.bool (decide ((((dirs (at_ : Int).toNat ((((digsOf s).length) + 1 : Nat) : Int).toNat).length : Nat) : Int) = ((n37 : Nat) : Int))))) rfl)).cons (hF1025.get (t := 11) (v := (.int .i64 (((digsOf s).length) + 1 : Nat))) rfl)).cons (hF1025.get (t := 63) (v := (.bool true)) rfl)).cons (hF1025.get (t := 62) (v := (.int .i64 2)) rfl)).cons (hF1025.get (t := 61) (v := (.int .i64 4)) rfl)).cons (hF1025.get (t := 60) (v := (.slice (some ⟨g181, 0, none⟩) 4 4)) rfl)).cons (hF1025.get (t := 50) (v := (.bool (decide (((n37 : Nat) : Int) ≠ (((dirs (at_ : Int).toNat (((digsOf s).length : Nat) : Int).toNat).length : Nat) : Int))))) rfl)).cons (hF1025.get (t := 32) (v := (.bool (decide ((((digsOf s).length : Nat) : Int) ≤ (at_ : Int))))) rfl)).cons (hF1025.get (t := 9) (v := (.int .i64 ((pathF (digsOf s) at_).2))) rfl)).cons (hF1025.get (t := 8) (v := (.slice A36 n37 c38)) rfl)).cons (hF1025.get (t := 7) (v := (.slice A17 ((digsOf s).length) c18)) rfl)).cons (hF1025.get (t := 16) (v := (.bool false)) rfl)).cons (hF1025.get (t := 6) (v := (.bool false)) rfl)).cons (hF1025.get (t := 2) (v := (.int .i64 n)) rfl)).cons (hF1025.get (t := 1) (v := (.int .i64 at_)) rfl)).cons (hF1025.get (t := 0) (v := (.slice A s.length c)) rfl))
            clear hF1025
            refine wp_seq_k (fun K1027 hK1027 => ?_)
            refine wp_region_lit ?_
            refine wpl_op (i := 0) rfl (o_val (v := (.bool (decide ((((dirs (at_ : Int).toNat ((((digsOf s).length) + 1 : Nat) : Int).toNat).length : Nat) : Int) = ((n37 : Nat) : Int))))) hF1026 rfl rfl rfl rfl (rn_move (hF1026.get rfl)) ?_)
            intro a1028 hF1029; clear hF1026
            refine wpl_op (i := 1) rfl (o_val (v := (.int .i64 ((climbF ((digsOf s).getD ((at_ : Int).toNat) []) at_ (((digsOf s).length) + 1 : Nat) ((pathF (digsOf s) at_).1)).2))) hF1029 rfl rfl rfl rfl (rn_move (hF1029.get rfl)) ?_)
            intro a1030 hF1031; clear hF1029
            refine wpl_op (i := 2) rfl (o_val (v := (.bool (decide (((climbF ((digsOf s).getD ((at_ : Int).toNat) []) at_ (((digsOf s).length) + 1 : Nat) ((pathF (digsOf s) at_).1)).2 : Int) = (0 : Int))))) hF1031 rfl rfl rfl rfl (rn_eql (hF1031.get rfl) rfl) ?_)
            intro a1032 hF1033; clear hF1031
            by_cases hc1034 : (((dirs (at_ : Int).toNat ((((digsOf s).length) + 1 : Nat) : Int).toNat).length : Nat) : Int) = ((n37 : Nat) : Int)
            · skip
              refine wpl_op (i := 3) rfl (o_val (v := (.bool false)) hF1033 rfl rfl rfl rfl (rn_neB Tryd.underlying4 (hF1033.get rfl) (hF1033.get rfl) (show _ = true from (decide_eq_true hc1034)) (show _ = true from ((decide_eq_true (by rw [climbF, if_neg (by omega)])) : decide (((climbF ((digsOf s).getD ((at_ : Int).toNat) []) at_ (((digsOf s).length) + 1 : Nat) ((pathF (digsOf s) at_).1)).2 : Int) = (0 : Int)) = true)) rfl) ?_)
              intro a1036 hF1037; clear hF1033
              refine wpl_op (i := 4) rfl (o_val (v := (.bool false)) hF1037 rfl rfl rfl rfl (rn_move (hF1037.get rfl)) ?_)
              intro a1038 hF1039; clear hF1037
              refine wpl_op (i := 5) rfl (o_val (v := (.bool (decide ((((dirs (at_ : Int).toNat ((((digsOf s).length) + 1 : Nat) : Int).toNat).length : Nat) : Int) = ((n37 : Nat) : Int))))) hF1039 rfl (wanted_guard rfl rfl rfl hF1039 rfl rfl rfl) rfl rfl (rn_move (hF1039.get rfl)) ?_)
              intro a1040 hF1041; clear hF1039
              refine wpl_op (i := 6) rfl (o_val (v := (.bool (!(decide ((((dirs (at_ : Int).toNat ((((digsOf s).length) + 1 : Nat) : Int).toNat).length : Nat) : Int) = ((n37 : Nat) : Int)))))) hF1041 rfl (wanted_guard rfl rfl rfl hF1041 rfl rfl rfl) rfl rfl (rn_not' (hF1041.get rfl) rfl) ?_)
              intro a1042 hF1043; clear hF1041
              refine wpl_op (i := 7) rfl (o_val (v := (.bool (!(decide ((((dirs (at_ : Int).toNat ((((digsOf s).length) + 1 : Nat) : Int).toNat).length : Nat) : Int) = ((n37 : Nat) : Int)))))) hF1043 rfl (wanted_guard rfl rfl rfl hF1043 rfl rfl rfl) rfl rfl (rn_move (hF1043.get rfl)) ?_)
              intro a1044 hF1045; clear hF1043
              refine wpl_op (i := 8) rfl (o_skip hF1045 rfl (unwanted_guard rfl rfl rfl hF1045 rfl (not_t (decide_eq_true hc1034)) rfl) rfl rfl ?_)
              intro a1046 hF1047; clear hF1045
              refine wpl_op (i := 9) rfl (o_skip hF1047 rfl (unwanted_guard rfl rfl rfl hF1047 rfl (not_t (decide_eq_true hc1034)) rfl) rfl rfl ?_)
              intro a1048 hF1049; clear hF1047
              refine wpl_op (i := 10) rfl (o_val (v := (.bool false)) hF1049 rfl (wanted_guard rfl rfl rfl hF1049 rfl rfl rfl) rfl rfl (rn_pickF (c_false hF1049 rfl (not_t (decide_eq_true hc1034))) rfl) ?_)
              intro a1050 hF1051; clear hF1049
              refine wpl_op (i := 11) rfl (o_val (v := (.bool false)) hF1051 rfl rfl rfl rfl (rn_pickF (c_false hF1051 rfl rfl) (hF1051.get rfl)) ?_)
              intro a1052 hF1053; clear hF1051
              refine wpList_nil ?_
              refine hK1027 _ _ ?_
              clear hK1027
              have hF1054 := ((((((((((((((((((hF1053.nil.cons (hF1053.get (t := 103) (v := (.bool false)) rfl)).cons (hF1053.get (t := 14) (v := (.int .i64 ((climbF ((digsOf s).getD ((at_ : Int).toNat) []) at_ (((digsOf s).length) + 1 : Nat) ((pathF (digsOf s) at_).1)).2))) rfl)).cons (hF1053.get (t := 12) (v := (.bool (decide ((((dirs (at_ : Int).toNat ((((digsOf s).length) + 1 : Nat) : Int).toNat).length : Nat) : Int) = ((n37 : Nat) : Int))))) rfl)).cons (hF1053.get (t := 11) (v := (.int .i64 (((digsOf s).length) + 1 : Nat))) rfl)).cons (hF1053.get (t := 63) (v := (.bool true)) rfl)).cons (hF1053.get (t := 62) (v := (.int .i64 2)) rfl)).cons (hF1053.get (t := 61) (v := (.int .i64 4)) rfl)).cons (hF1053.get (t := 60) (v := (.slice (some ⟨g181, 0, none⟩) 4 4)) rfl)).cons (hF1053.get (t := 50) (v := (.bool (decide (((n37 : Nat) : Int) ≠ (((dirs (at_ : Int).toNat (((digsOf s).length : Nat) : Int).toNat).length : Nat) : Int))))) rfl)).cons (hF1053.get (t := 32) (v := (.bool (decide ((((digsOf s).length : Nat) : Int) ≤ (at_ : Int))))) rfl)).cons (hF1053.get (t := 9) (v := (.int .i64 ((pathF (digsOf s) at_).2))) rfl)).cons (hF1053.get (t := 8) (v := (.slice A36 n37 c38)) rfl)).cons (hF1053.get (t := 7) (v := (.slice A17 ((digsOf s).length) c18)) rfl)).cons (hF1053.get (t := 16) (v := (.bool false)) rfl)).cons (hF1053.get (t := 6) (v := (.bool false)) rfl)).cons (hF1053.get (t := 2) (v := (.int .i64 n)) rfl)).cons (hF1053.get (t := 1) (v := (.int .i64 at_)) rfl)).cons (hF1053.get (t := 0) (v := (.slice A s.length c)) rfl))
              clear hF1053
              refine wp_cond_false (c_false hF1054 rfl rfl) ?_
              refine wp_skip ?_
              refine hK934 _ _ ?_
              clear hK934
              refine wp_region_lit ?_
              refine wpl_op (i := 0) rfl (o_val (v := (.int .i64 3)) hF1054 rfl rfl rfl rfl (rn_add (hF1054.get rfl) rfl (by omega) (by omega)) ?_)
              intro a1055 hF1056; clear hF1054
              refine wpl_op (i := 1) rfl (o_val (v := (.int .i64 3)) hF1056 rfl rfl rfl rfl (rn_move (hF1056.get rfl)) ?_)
              intro a1057 hF1058; clear hF1056
              refine wpList_nil ?_
              have d1059 := (hf203.pres (((((Pres.refl w198).ext hx966).ext hx1002).ext hx1015).grownN hg1022 (fun h => by simp only [Clip] at h; omega)))
              have d1060 := (hf204.pres (((((Pres.refl w198).ext hx966).ext hx1002).ext hx1015).grownN hg1022 (fun h => by simp only [Clip] at h; omega)))
              have b1061 : Blk w1020 g181 3 [(.int .i64 n), (.int .i64 (andI (n) (31))), (.int .i64 (((digsOf s).length) + 1 : Nat)), (.int .i64 (2 * ((digsOf s).length) : Nat))] := ((((b202.ext hx966).ext hx1002).ext hx1015).grownN hg1022 (by omega))
              refine ⟨⟨3, (((((((((((((hF1058.nil.cons (q_get hF1058 (t := 62) rfl (by first | rfl | (congr 1; omega) | (congr 1; done)))).cons (q_get hF1058 (t := 61) rfl rfl)).cons (q_get hF1058 (t := 60) rfl rfl)).cons (q_get hF1058 (t := 50) rfl rfl)).cons (q_get hF1058 (t := 32) rfl rfl)).cons (q_get hF1058 (t := 9) rfl rfl)).cons (q_get hF1058 (t := 8) rfl rfl)).cons (q_get hF1058 (t := 7) rfl rfl)).cons (q_get hF1058 (t := 16) rfl rfl)).cons (q_get hF1058 (t := 6) rfl rfl)).cons (q_get hF1058 (t := 2) rfl rfl)).cons (q_get hF1058 (t := 1) rfl rfl)).cons (q_get hF1058 (t := 0) rfl rfl)), (by omega), ((((((Ext.refl w).trans hx200).trans hx966).trans hx1002).trans hx1015).grownN hg1022 (by omega)), b1061, d1059, d1060, (by omega)⟩, ?_⟩
              rw [hF1058.get (t := 62) rfl, hL206.get (t := 62) rfl]; simp [intOf] <;> omega
            · skip
              refine wpl_op (i := 3) rfl (o_val (v := (.bool false)) hF1033 rfl rfl rfl rfl (rn_neB Tryd.underlying4 (hF1033.get rfl) (hF1033.get rfl) (show _ = false from (decide_eq_false hc1034)) (show _ = false from ((decide_eq_false (by rw [climbF, if_pos (by omega)]; simp)) : decide (((climbF ((digsOf s).getD ((at_ : Int).toNat) []) at_ (((digsOf s).length) + 1 : Nat) ((pathF (digsOf s) at_).1)).2 : Int) = (0 : Int)) = false)) rfl) ?_)
              intro a1063 hF1064; clear hF1033
              refine wpl_op (i := 4) rfl (o_val (v := (.bool false)) hF1064 rfl rfl rfl rfl (rn_move (hF1064.get rfl)) ?_)
              intro a1065 hF1066; clear hF1064
              refine wpl_op (i := 5) rfl (o_val (v := (.bool (decide ((((dirs (at_ : Int).toNat ((((digsOf s).length) + 1 : Nat) : Int).toNat).length : Nat) : Int) = ((n37 : Nat) : Int))))) hF1066 rfl (wanted_guard rfl rfl rfl hF1066 rfl rfl rfl) rfl rfl (rn_move (hF1066.get rfl)) ?_)
              intro a1067 hF1068; clear hF1066
              refine wpl_op (i := 6) rfl (o_val (v := (.bool (!(decide ((((dirs (at_ : Int).toNat ((((digsOf s).length) + 1 : Nat) : Int).toNat).length : Nat) : Int) = ((n37 : Nat) : Int)))))) hF1068 rfl (wanted_guard rfl rfl rfl hF1068 rfl rfl rfl) rfl rfl (rn_not' (hF1068.get rfl) rfl) ?_)
              intro a1069 hF1070; clear hF1068
              refine wpl_op (i := 7) rfl (o_val (v := (.bool (!(decide ((((dirs (at_ : Int).toNat ((((digsOf s).length) + 1 : Nat) : Int).toNat).length : Nat) : Int) = ((n37 : Nat) : Int)))))) hF1070 rfl (wanted_guard rfl rfl rfl hF1070 rfl rfl rfl) rfl rfl (rn_move (hF1070.get rfl)) ?_)
              intro a1071 hF1072; clear hF1070
              refine wpl_op (i := 8) rfl (o_val (v := (.int .i64 ((climbF ((digsOf s).getD ((at_ : Int).toNat) []) at_ (((digsOf s).length) + 1 : Nat) ((pathF (digsOf s) at_).1)).2))) hF1072 rfl (wanted_guard rfl rfl rfl hF1072 rfl (not_f (decide_eq_false hc1034)) rfl) rfl rfl (rn_move (hF1072.get rfl)) ?_)
              intro a1073 hF1074; clear hF1072
              refine wpl_op (i := 9) rfl (o_val (v := (.bool (decide (((climbF ((digsOf s).getD ((at_ : Int).toNat) []) at_ (((digsOf s).length) + 1 : Nat) ((pathF (digsOf s) at_).1)).2 : Int) ≠ (1 : Int))))) hF1074 rfl (wanted_guard rfl rfl rfl hF1074 rfl (not_f (decide_eq_false hc1034)) rfl) rfl rfl (rn_neq (hF1074.get rfl) rfl) ?_)
              intro a1075 hF1076; clear hF1074
              refine wpl_op (i := 10) rfl (o_val (v := (.bool (decide (((climbF ((digsOf s).getD ((at_ : Int).toNat) []) at_ (((digsOf s).length) + 1 : Nat) ((pathF (digsOf s) at_).1)).2 : Int) ≠ (1 : Int))))) hF1076 rfl (wanted_guard rfl rfl rfl hF1076 rfl rfl rfl) rfl rfl (rn_pickT (c_true hF1076 rfl (not_f (decide_eq_false hc1034))) (hF1076.get rfl)) ?_)
              intro a1077 hF1078; clear hF1076
              refine wpl_op (i := 11) rfl (o_val (v := (.bool (decide (((climbF ((digsOf s).getD ((at_ : Int).toNat) []) at_ (((digsOf s).length) + 1 : Nat) ((pathF (digsOf s) at_).1)).2 : Int) ≠ (1 : Int))))) hF1078 rfl rfl rfl rfl (rn_pickF (c_false hF1078 rfl rfl) (hF1078.get rfl)) ?_)
              intro a1079 hF1080; clear hF1078
              refine wpList_nil ?_
              refine hK1027 _ _ ?_
              clear hK1027
              have hF1081 := ((((((((((((((((((hF1080.nil.cons (hF1080.get (t := 103) (v := (.bool (decide (((climbF ((digsOf s).getD ((at_ : Int).toNat) []) at_ (((digsOf s).length) + 1 : Nat) ((pathF (digsOf s) at_).1)).2 : Int) ≠ (1 : Int))))) rfl)).cons (hF1080.get (t := 14) (v := (.int .i64 ((climbF ((digsOf s).getD ((at_ : Int).toNat) []) at_ (((digsOf s).length) + 1 : Nat) ((pathF (digsOf s) at_).1)).2))) rfl)).cons (hF1080.get (t := 12) (v := (.bool (decide ((((dirs (at_ : Int).toNat ((((digsOf s).length) + 1 : Nat) : Int).toNat).length : Nat) : Int) = ((n37 : Nat) : Int))))) rfl)).cons (hF1080.get (t := 11) (v := (.int .i64 (((digsOf s).length) + 1 : Nat))) rfl)).cons (hF1080.get (t := 63) (v := (.bool true)) rfl)).cons (hF1080.get (t := 62) (v := (.int .i64 2)) rfl)).cons (hF1080.get (t := 61) (v := (.int .i64 4)) rfl)).cons (hF1080.get (t := 60) (v := (.slice (some ⟨g181, 0, none⟩) 4 4)) rfl)).cons (hF1080.get (t := 50) (v := (.bool (decide (((n37 : Nat) : Int) ≠ (((dirs (at_ : Int).toNat (((digsOf s).length : Nat) : Int).toNat).length : Nat) : Int))))) rfl)).cons (hF1080.get (t := 32) (v := (.bool (decide ((((digsOf s).length : Nat) : Int) ≤ (at_ : Int))))) rfl)).cons (hF1080.get (t := 9) (v := (.int .i64 ((pathF (digsOf s) at_).2))) rfl)).cons (hF1080.get (t := 8) (v := (.slice A36 n37 c38)) rfl)).cons (hF1080.get (t := 7) (v := (.slice A17 ((digsOf s).length) c18)) rfl)).cons (hF1080.get (t := 16) (v := (.bool false)) rfl)).cons (hF1080.get (t := 6) (v := (.bool false)) rfl)).cons (hF1080.get (t := 2) (v := (.int .i64 n)) rfl)).cons (hF1080.get (t := 1) (v := (.int .i64 at_)) rfl)).cons (hF1080.get (t := 0) (v := (.slice A s.length c)) rfl))
              clear hF1080
              refine wp_cond_false (c_false hF1081 rfl ((decide_eq_false (by rw [climbF, if_pos (by omega)]; simp)) : decide (((climbF ((digsOf s).getD ((at_ : Int).toNat) []) at_ (((digsOf s).length) + 1 : Nat) ((pathF (digsOf s) at_).1)).2 : Int) ≠ (1 : Int)) = false)) ?_
              refine wp_skip ?_
              refine hK934 _ _ ?_
              clear hK934
              refine wp_region_lit ?_
              refine wpl_op (i := 0) rfl (o_val (v := (.int .i64 3)) hF1081 rfl rfl rfl rfl (rn_add (hF1081.get rfl) rfl (by omega) (by omega)) ?_)
              intro a1083 hF1084; clear hF1081
              refine wpl_op (i := 1) rfl (o_val (v := (.int .i64 3)) hF1084 rfl rfl rfl rfl (rn_move (hF1084.get rfl)) ?_)
              intro a1085 hF1086; clear hF1084
              refine wpList_nil ?_
              have d1087 := (hf203.pres (((((Pres.refl w198).ext hx966).ext hx1002).ext hx1015).grownN hg1022 (fun h => by simp only [Clip] at h; omega)))
              have d1088 := (hf204.pres (((((Pres.refl w198).ext hx966).ext hx1002).ext hx1015).grownN hg1022 (fun h => by simp only [Clip] at h; omega)))
              have b1089 : Blk w1020 g181 3 [(.int .i64 n), (.int .i64 (andI (n) (31))), (.int .i64 (((digsOf s).length) + 1 : Nat)), (.int .i64 (2 * ((digsOf s).length) : Nat))] := ((((b202.ext hx966).ext hx1002).ext hx1015).grownN hg1022 (by omega))
              refine ⟨⟨3, (((((((((((((hF1086.nil.cons (q_get hF1086 (t := 62) rfl (by first | rfl | (congr 1; omega) | (congr 1; done)))).cons (q_get hF1086 (t := 61) rfl rfl)).cons (q_get hF1086 (t := 60) rfl rfl)).cons (q_get hF1086 (t := 50) rfl rfl)).cons (q_get hF1086 (t := 32) rfl rfl)).cons (q_get hF1086 (t := 9) rfl rfl)).cons (q_get hF1086 (t := 8) rfl rfl)).cons (q_get hF1086 (t := 7) rfl rfl)).cons (q_get hF1086 (t := 16) rfl rfl)).cons (q_get hF1086 (t := 6) rfl rfl)).cons (q_get hF1086 (t := 2) rfl rfl)).cons (q_get hF1086 (t := 1) rfl rfl)).cons (q_get hF1086 (t := 0) rfl rfl)), (by omega), ((((((Ext.refl w).trans hx200).trans hx966).trans hx1002).trans hx1015).grownN hg1022 (by omega)), b1089, d1087, d1088, (by omega)⟩, ?_⟩
              rw [hF1086.get (t := 62) rfl, hL206.get (t := 62) rfl]; simp [intOf] <;> omega
          · skip
            refine wpl_op (i := 8) rfl (o_skip hF959 rfl (unwanted_guard rfl rfl rfl hF959 rfl (decide_eq_false hc960) rfl) rfl rfl ?_)
            intro a1090 hF1091; clear hF959
            refine wpl_op (i := 9) rfl (o_skip hF1091 rfl (unwanted_guard rfl rfl rfl hF1091 rfl (decide_eq_false hc960) rfl) rfl rfl ?_)
            intro a1092 hF1093; clear hF1091
            refine wpl_op (i := 10) rfl (o_skip hF1093 rfl (unwanted_guard rfl rfl rfl hF1093 rfl (decide_eq_false hc960) rfl) rfl rfl ?_)
            intro a1094 hF1095; clear hF1093
            refine wpl_op (i := 11) rfl (o_skip hF1095 rfl (unwanted_guard rfl rfl rfl hF1095 rfl (decide_eq_false hc960) rfl) rfl rfl ?_)
            intro a1096 hF1097; clear hF1095
            refine wpl_op (i := 12) rfl (o_skip hF1097 rfl (unwanted_guard rfl rfl rfl hF1097 rfl (decide_eq_false hc960) rfl) rfl rfl ?_)
            intro a1098 hF1099; clear hF1097
            refine wpl_op (i := 13) rfl (o_skip hF1099 rfl (unwanted_guard rfl rfl rfl hF1099 rfl (decide_eq_false hc960) rfl) rfl rfl ?_)
            intro a1100 hF1101; clear hF1099
            refine wpl_op (i := 14) rfl (o_val (v := (.bool false)) hF1101 rfl rfl rfl rfl (rn_pickF (c_false hF1101 rfl (decide_eq_false hc960)) rfl) ?_)
            intro a1102 hF1103; clear hF1101
            refine wpl_op (i := 15) rfl (o_val (v := (.bool false)) hF1103 rfl rfl rfl rfl (rn_assign (hF1103.get rfl)) ?_)
            intro a1104 hF1105; clear hF1103
            refine wpList_nil ?_
            refine hK942 _ _ ?_
            clear hK942
            have hF1106 := ((((((((((((((((hF1105.nil.cons (hF1105.get (t := 12) (v := (.bool false)) rfl)).cons (hF1105.get (t := 11) (v := (.int .i64 (((digsOf s).length) + 1 : Nat))) rfl)).cons (hF1105.get (t := 63) (v := (.bool true)) rfl)).cons (hF1105.get (t := 62) (v := (.int .i64 2)) rfl)).cons (hF1105.get (t := 61) (v := (.int .i64 4)) rfl)).cons (hF1105.get (t := 60) (v := (.slice (some ⟨g181, 0, none⟩) 4 4)) rfl)).cons (hF1105.get (t := 50) (v := (.bool (decide (((n37 : Nat) : Int) ≠ (((dirs (at_ : Int).toNat (((digsOf s).length : Nat) : Int).toNat).length : Nat) : Int))))) rfl)).cons (hF1105.get (t := 32) (v := (.bool (decide ((((digsOf s).length : Nat) : Int) ≤ (at_ : Int))))) rfl)).cons (hF1105.get (t := 9) (v := (.int .i64 ((pathF (digsOf s) at_).2))) rfl)).cons (hF1105.get (t := 8) (v := (.slice A36 n37 c38)) rfl)).cons (hF1105.get (t := 7) (v := (.slice A17 ((digsOf s).length) c18)) rfl)).cons (hF1105.get (t := 16) (v := (.bool false)) rfl)).cons (hF1105.get (t := 6) (v := (.bool false)) rfl)).cons (hF1105.get (t := 2) (v := (.int .i64 n)) rfl)).cons (hF1105.get (t := 1) (v := (.int .i64 at_)) rfl)).cons (hF1105.get (t := 0) (v := (.slice A s.length c)) rfl))
            clear hF1105
            refine wp_seq_k (fun K1107 hK1107 => ?_)
            refine wp_region_lit ?_
            refine wpl_op (i := 0) rfl (o_val (v := (.slice A17 ((digsOf s).length) c18)) hF1106 rfl rfl rfl rfl (rn_move (hF1106.get rfl)) ?_)
            intro a1108 hF1109; clear hF1106
            refine wpl_op (i := 1) rfl (o_val (v := (.int .i64 at_)) hF1109 rfl rfl rfl rfl (rn_move (hF1109.get rfl)) ?_)
            intro a1110 hF1111; clear hF1109
            obtain ⟨b1112, o1113, hA1114, -⟩ := Fl.at hf203 (by omega)
            refine wpl_op (i := 2) rfl (o_val (v := (.pointer (some ⟨b1112, o1113 + (at_ : Int).toNat * 32, none⟩))) hF1111 rfl rfl rfl rfl (rn_indexE Tryd.underlying30 (by kernel_rfl : (Tryd.prog.info? 26).map (·.size) = some 32) ((hF1111.get rfl).trans (by rw [hA1114])) (hF1111.get rfl) (by omega : (0 : Int) ≤ at_) (by omega : (at_ : Int) < (((digsOf s).length : Nat) : Int)) (by omega)) ?_)
            intro a1115 hF1116; clear hF1111
            refine wpl_op (i := 3) rfl (o_val (v := (.agg (byteVals ((digsOf s).getD ((at_ : Int).toNat) [])).toArray)) hF1116 rfl rfl rfl rfl (rn_loadN (cs := byteVals ((digsOf s).getD ((at_ : Int).toNat) [])) (hF1116.get rfl) Tryd.underlying26 rfl ((by kernel_rfl : (Tryd.prog.info? 26).map (·.size) = some 32).trans (congrArg some (byteVals_len (dig_len (digsOf_32 _) ((at_ : Int).toNat) (by omega))).symm)) (Fl.digAt hf203 hA1114 (digsOf_32 _) (by omega))) ?_)
            intro a1117 hF1118; clear hF1116
            refine wpl_op (i := 4) rfl (o_val (v := (.int .i64 at_)) hF1118 rfl rfl rfl rfl (rn_move (hF1118.get rfl)) ?_)
            intro a1119 hF1120; clear hF1118
            refine wpl_op (i := 5) rfl (o_val (v := (.int .i64 (((digsOf s).length) + 1 : Nat))) hF1120 rfl rfl rfl rfl (rn_move (hF1120.get rfl)) ?_)
            intro a1121 hF1122; clear hF1120
            refine wpl_op (i := 6) rfl (o_val (v := (.slice A36 n37 c38)) hF1122 rfl rfl rfl rfl (rn_move (hF1122.get rfl)) ?_)
            intro a1123 hF1124; clear hF1122
            refine wpl_op (i := 7) rfl (o_call hF1124 rfl rfl rfl rfl (rn_call (args4 (hF1124.get rfl) (hF1124.get rfl) (hF1124.get rfl) (hF1124.get rfl)) rfl (by kernel_rfl)) (climb_at ((digsOf s).getD ((at_ : Int).toNat) []) at_ (((digsOf s).length) + 1 : Nat) ((pathF (digsOf s) at_).1) _ (v := (.slice A36 n37 c38)) (m := n37) (dig_len (digsOf_32 _) ((at_ : Int).toNat) (by omega)) (pathF_32 (digsOf s) at_) hf204 (hG.ext ((Ext.refl w).trans hx200))) ?_)
            rintro _ w1125 ⟨rfl, hx1126⟩
            refine ⟨_, rfl, ?_⟩; intro a1127 hF1128; clear hF1124; have z1129 := hx1126.size
            refine wpl_op (i := 8) rfl (o_val (v := (.tuple #[(.agg (byteVals ((climbF ((digsOf s).getD ((at_ : Int).toNat) []) at_ (((digsOf s).length) + 1 : Nat) ((pathF (digsOf s) at_).1)).1)).toArray), (.int .i64 ((climbF ((digsOf s).getD ((at_ : Int).toNat) []) at_ (((digsOf s).length) + 1 : Nat) ((pathF (digsOf s) at_).1)).2))])) hF1128 rfl rfl rfl rfl (rn_move (hF1128.get rfl)) ?_)
            intro a1130 hF1131; clear hF1128
            refine wpl_op (i := 9) rfl (o_val (v := (.agg (byteVals ((climbF ((digsOf s).getD ((at_ : Int).toNat) []) at_ (((digsOf s).length) + 1 : Nat) ((pathF (digsOf s) at_).1)).1)).toArray)) hF1131 rfl rfl rfl rfl (rn_extract (hF1131.get rfl) rfl) ?_)
            intro a1132 hF1133; clear hF1131
            refine wpl_op (i := 10) rfl (o_val (v := (.int .i64 ((climbF ((digsOf s).getD ((at_ : Int).toNat) []) at_ (((digsOf s).length) + 1 : Nat) ((pathF (digsOf s) at_).1)).2))) hF1133 rfl rfl rfl rfl (rn_extract (hF1133.get rfl) rfl) ?_)
            intro a1134 hF1135; clear hF1133
            refine wpl_op (i := 11) rfl (o_new (fun g => (.pointer (some ⟨g, 0, none⟩))) (byteVals (List.replicate 32 0)) 26 hF1135 rfl rfl rfl rfl (by kernel_rfl) ?_)
            intro g1136 w1137 a1142 hF1143 z1140 z1141 b1138 hx1139; clear hF1135
            refine wpl_op (i := 12) rfl (o_store (cells := (byteVals ((climbF ((digsOf s).getD ((at_ : Int).toNat) []) at_ (((digsOf s).length) + 1 : Nat) ((pathF (digsOf s) at_).1)).1))) hF1143 rfl rfl rfl rfl (hF1143.get rfl) (hF1143.get rfl) b1138 ((by kernel_rfl : (Tryd.prog.info? 26).map (·.size) = some 32).trans (congrArg some (byteVals_len (climbF_len _ _ _ _)).symm)) ((byteVals_len (show List.length (List.replicate 32 0) = _ from List.length_replicate)).trans (byteVals_len (climbF_len _ _ _ _)).symm) (byteVals_one _) ?_)
            intro w1144 b1145 hg1146; have z1147 := hg1146.size
            refine wpl_op (i := 13) rfl (o_val (v := (.int .i64 ((climbF ((digsOf s).getD ((at_ : Int).toNat) []) at_ (((digsOf s).length) + 1 : Nat) ((pathF (digsOf s) at_).1)).2))) hF1143 rfl rfl rfl rfl (rn_assign (hF1143.get rfl)) ?_)
            intro a1148 hF1149; clear hF1143
            refine wpList_nil ?_
            refine hK1107 _ _ ?_
            clear hK1107
            have hF1150 := (((((((((((((((((hF1149.nil.cons (hF1149.get (t := 14) (v := (.int .i64 ((climbF ((digsOf s).getD ((at_ : Int).toNat) []) at_ (((digsOf s).length) + 1 : Nat) ((pathF (digsOf s) at_).1)).2))) rfl)).cons (hF1149.get (t := 12) (v := (.bool false)) rfl)).cons (hF1149.get (t := 11) (v := (.int .i64 (((digsOf s).length) + 1 : Nat))) rfl)).cons (hF1149.get (t := 63) (v := (.bool true)) rfl)).cons (hF1149.get (t := 62) (v := (.int .i64 2)) rfl)).cons (hF1149.get (t := 61) (v := (.int .i64 4)) rfl)).cons (hF1149.get (t := 60) (v := (.slice (some ⟨g181, 0, none⟩) 4 4)) rfl)).cons (hF1149.get (t := 50) (v := (.bool (decide (((n37 : Nat) : Int) ≠ (((dirs (at_ : Int).toNat (((digsOf s).length : Nat) : Int).toNat).length : Nat) : Int))))) rfl)).cons (hF1149.get (t := 32) (v := (.bool (decide ((((digsOf s).length : Nat) : Int) ≤ (at_ : Int))))) rfl)).cons (hF1149.get (t := 9) (v := (.int .i64 ((pathF (digsOf s) at_).2))) rfl)).cons (hF1149.get (t := 8) (v := (.slice A36 n37 c38)) rfl)).cons (hF1149.get (t := 7) (v := (.slice A17 ((digsOf s).length) c18)) rfl)).cons (hF1149.get (t := 16) (v := (.bool false)) rfl)).cons (hF1149.get (t := 6) (v := (.bool false)) rfl)).cons (hF1149.get (t := 2) (v := (.int .i64 n)) rfl)).cons (hF1149.get (t := 1) (v := (.int .i64 at_)) rfl)).cons (hF1149.get (t := 0) (v := (.slice A s.length c)) rfl))
            clear hF1149
            refine wp_seq_k (fun K1151 hK1151 => ?_)
            refine wp_region_lit ?_
            refine wpl_op (i := 0) rfl (o_val (v := (.bool false)) hF1150 rfl rfl rfl rfl (rn_move (hF1150.get rfl)) ?_)
            intro a1152 hF1153; clear hF1150
            refine wpl_op (i := 1) rfl (o_val (v := (.int .i64 ((climbF ((digsOf s).getD ((at_ : Int).toNat) []) at_ (((digsOf s).length) + 1 : Nat) ((pathF (digsOf s) at_).1)).2))) hF1153 rfl rfl rfl rfl (rn_move (hF1153.get rfl)) ?_)
            intro a1154 hF1155; clear hF1153
            refine wpl_op (i := 2) rfl (o_val (v := (.bool (decide (((climbF ((digsOf s).getD ((at_ : Int).toNat) []) at_ (((digsOf s).length) + 1 : Nat) ((pathF (digsOf s) at_).1)).2 : Int) = (0 : Int))))) hF1155 rfl rfl rfl rfl (rn_eql (hF1155.get rfl) rfl) ?_)
            intro a1156 hF1157; clear hF1155
            refine wpl_op (i := 3) rfl (o_val (v := (.bool false)) hF1157 rfl rfl rfl rfl (rn_neB Tryd.underlying4 (hF1157.get rfl) (hF1157.get rfl) (show _ = false from rfl) (show _ = false from ((decide_eq_false (by rw [climbF, if_pos (by omega)]; simp)) : decide (((climbF ((digsOf s).getD ((at_ : Int).toNat) []) at_ (((digsOf s).length) + 1 : Nat) ((pathF (digsOf s) at_).1)).2 : Int) = (0 : Int)) = false)) rfl) ?_)
            intro a1159 hF1160; clear hF1157
            refine wpl_op (i := 4) rfl (o_val (v := (.bool false)) hF1160 rfl rfl rfl rfl (rn_move (hF1160.get rfl)) ?_)
            intro a1161 hF1162; clear hF1160
            refine wpl_op (i := 5) rfl (o_val (v := (.bool false)) hF1162 rfl (wanted_guard rfl rfl rfl hF1162 rfl rfl rfl) rfl rfl (rn_move (hF1162.get rfl)) ?_)
            intro a1163 hF1164; clear hF1162
            refine wpl_op (i := 6) rfl (o_val (v := (.bool true)) hF1164 rfl (wanted_guard rfl rfl rfl hF1164 rfl rfl rfl) rfl rfl (rn_not' (hF1164.get rfl) rfl) ?_)
            intro a1165 hF1166; clear hF1164
            refine wpl_op (i := 7) rfl (o_val (v := (.bool true)) hF1166 rfl (wanted_guard rfl rfl rfl hF1166 rfl rfl rfl) rfl rfl (rn_move (hF1166.get rfl)) ?_)
            intro a1167 hF1168; clear hF1166
            refine wpl_op (i := 8) rfl (o_val (v := (.int .i64 ((climbF ((digsOf s).getD ((at_ : Int).toNat) []) at_ (((digsOf s).length) + 1 : Nat) ((pathF (digsOf s) at_).1)).2))) hF1168 rfl (wanted_guard rfl rfl rfl hF1168 rfl rfl rfl) rfl rfl (rn_move (hF1168.get rfl)) ?_)
            intro a1169 hF1170; clear hF1168
            refine wpl_op (i := 9) rfl (o_val (v := (.bool (decide (((climbF ((digsOf s).getD ((at_ : Int).toNat) []) at_ (((digsOf s).length) + 1 : Nat) ((pathF (digsOf s) at_).1)).2 : Int) ≠ (1 : Int))))) hF1170 rfl (wanted_guard rfl rfl rfl hF1170 rfl rfl rfl) rfl rfl (rn_neq (hF1170.get rfl) rfl) ?_)
            intro a1171 hF1172; clear hF1170
            refine wpl_op (i := 10) rfl (o_val (v := (.bool (decide (((climbF ((digsOf s).getD ((at_ : Int).toNat) []) at_ (((digsOf s).length) + 1 : Nat) ((pathF (digsOf s) at_).1)).2 : Int) ≠ (1 : Int))))) hF1172 rfl (wanted_guard rfl rfl rfl hF1172 rfl rfl rfl) rfl rfl (rn_pickT (c_true hF1172 rfl rfl) (hF1172.get rfl)) ?_)
            intro a1173 hF1174; clear hF1172
            refine wpl_op (i := 11) rfl (o_val (v := (.bool (decide (((climbF ((digsOf s).getD ((at_ : Int).toNat) []) at_ (((digsOf s).length) + 1 : Nat) ((pathF (digsOf s) at_).1)).2 : Int) ≠ (1 : Int))))) hF1174 rfl rfl rfl rfl (rn_pickF (c_false hF1174 rfl rfl) (hF1174.get rfl)) ?_)
            intro a1175 hF1176; clear hF1174
            refine wpList_nil ?_
            refine hK1151 _ _ ?_
            clear hK1151
            have hF1177 := ((((((((((((((((((hF1176.nil.cons (hF1176.get (t := 103) (v := (.bool (decide (((climbF ((digsOf s).getD ((at_ : Int).toNat) []) at_ (((digsOf s).length) + 1 : Nat) ((pathF (digsOf s) at_).1)).2 : Int) ≠ (1 : Int))))) rfl)).cons (hF1176.get (t := 14) (v := (.int .i64 ((climbF ((digsOf s).getD ((at_ : Int).toNat) []) at_ (((digsOf s).length) + 1 : Nat) ((pathF (digsOf s) at_).1)).2))) rfl)).cons (hF1176.get (t := 12) (v := (.bool false)) rfl)).cons (hF1176.get (t := 11) (v := (.int .i64 (((digsOf s).length) + 1 : Nat))) rfl)).cons (hF1176.get (t := 63) (v := (.bool true)) rfl)).cons (hF1176.get (t := 62) (v := (.int .i64 2)) rfl)).cons (hF1176.get (t := 61) (v := (.int .i64 4)) rfl)).cons (hF1176.get (t := 60) (v := (.slice (some ⟨g181, 0, none⟩) 4 4)) rfl)).cons (hF1176.get (t := 50) (v := (.bool (decide (((n37 : Nat) : Int) ≠ (((dirs (at_ : Int).toNat (((digsOf s).length : Nat) : Int).toNat).length : Nat) : Int))))) rfl)).cons (hF1176.get (t := 32) (v := (.bool (decide ((((digsOf s).length : Nat) : Int) ≤ (at_ : Int))))) rfl)).cons (hF1176.get (t := 9) (v := (.int .i64 ((pathF (digsOf s) at_).2))) rfl)).cons (hF1176.get (t := 8) (v := (.slice A36 n37 c38)) rfl)).cons (hF1176.get (t := 7) (v := (.slice A17 ((digsOf s).length) c18)) rfl)).cons (hF1176.get (t := 16) (v := (.bool false)) rfl)).cons (hF1176.get (t := 6) (v := (.bool false)) rfl)).cons (hF1176.get (t := 2) (v := (.int .i64 n)) rfl)).cons (hF1176.get (t := 1) (v := (.int .i64 at_)) rfl)).cons (hF1176.get (t := 0) (v := (.slice A s.length c)) rfl))
            clear hF1176
            refine wp_cond_false (c_false hF1177 rfl ((decide_eq_false (by rw [climbF, if_pos (by omega)]; simp)) : decide (((climbF ((digsOf s).getD ((at_ : Int).toNat) []) at_ (((digsOf s).length) + 1 : Nat) ((pathF (digsOf s) at_).1)).2 : Int) ≠ (1 : Int)) = false)) ?_
            refine wp_skip ?_
            refine hK934 _ _ ?_
            clear hK934
            refine wp_region_lit ?_
            refine wpl_op (i := 0) rfl (o_val (v := (.int .i64 3)) hF1177 rfl rfl rfl rfl (rn_add (hF1177.get rfl) rfl (by omega) (by omega)) ?_)
            intro a1179 hF1180; clear hF1177
            refine wpl_op (i := 1) rfl (o_val (v := (.int .i64 3)) hF1180 rfl rfl rfl rfl (rn_move (hF1180.get rfl)) ?_)
            intro a1181 hF1182; clear hF1180
            refine wpList_nil ?_
            have d1183 := (hf203.pres ((((Pres.refl w198).ext hx1126).ext hx1139).grownN hg1146 (fun h => by simp only [Clip] at h; omega)))
            have d1184 := (hf204.pres ((((Pres.refl w198).ext hx1126).ext hx1139).grownN hg1146 (fun h => by simp only [Clip] at h; omega)))
            have b1185 : Blk w1144 g181 3 [(.int .i64 n), (.int .i64 (andI (n) (31))), (.int .i64 (((digsOf s).length) + 1 : Nat)), (.int .i64 (2 * ((digsOf s).length) : Nat))] := (((b202.ext hx1126).ext hx1139).grownN hg1146 (by omega))
            refine ⟨⟨3, (((((((((((((hF1182.nil.cons (q_get hF1182 (t := 62) rfl (by first | rfl | (congr 1; omega) | (congr 1; done)))).cons (q_get hF1182 (t := 61) rfl rfl)).cons (q_get hF1182 (t := 60) rfl rfl)).cons (q_get hF1182 (t := 50) rfl rfl)).cons (q_get hF1182 (t := 32) rfl rfl)).cons (q_get hF1182 (t := 9) rfl rfl)).cons (q_get hF1182 (t := 8) rfl rfl)).cons (q_get hF1182 (t := 7) rfl rfl)).cons (q_get hF1182 (t := 16) rfl rfl)).cons (q_get hF1182 (t := 6) rfl rfl)).cons (q_get hF1182 (t := 2) rfl rfl)).cons (q_get hF1182 (t := 1) rfl rfl)).cons (q_get hF1182 (t := 0) rfl rfl)), (by omega), (((((Ext.refl w).trans hx200).trans hx1126).trans hx1139).grownN hg1146 (by omega)), b1185, d1183, d1184, (by omega)⟩, ?_⟩
            rw [hF1182.get (t := 62) rfl, hL206.get (t := 62) rfl]; simp [intOf] <;> omega
        · skip
          refine wpl_op (i := 4) rfl (o_skip hF950 rfl (unwanted_guard rfl rfl rfl hF950 rfl (decide_eq_false hc951) rfl) rfl rfl ?_)
          intro a1186 hF1187; clear hF950
          refine wpl_op (i := 5) rfl (o_skip hF1187 rfl (unwanted_guard rfl rfl rfl hF1187 rfl (decide_eq_false hc951) rfl) rfl rfl ?_)
          intro a1188 hF1189; clear hF1187
          refine wpl_op (i := 6) rfl (o_val (v := (.bool false)) hF1189 rfl rfl rfl rfl (rn_pickF (c_false hF1189 rfl (decide_eq_false hc951)) rfl) ?_)
          intro a1190 hF1191; clear hF1189
          refine wpl_op (i := 7) rfl (o_val (v := (.bool false)) hF1191 rfl rfl rfl rfl (rn_move (hF1191.get rfl)) ?_)
          intro a1192 hF1193; clear hF1191
          refine wpl_op (i := 8) rfl (o_skip hF1193 rfl (unwanted_guard rfl rfl rfl hF1193 rfl rfl rfl) rfl rfl ?_)
          intro a1194 hF1195; clear hF1193
          refine wpl_op (i := 9) rfl (o_skip hF1195 rfl (unwanted_guard rfl rfl rfl hF1195 rfl rfl rfl) rfl rfl ?_)
          intro a1196 hF1197; clear hF1195
          refine wpl_op (i := 10) rfl (o_skip hF1197 rfl (unwanted_guard rfl rfl rfl hF1197 rfl rfl rfl) rfl rfl ?_)
          intro a1198 hF1199; clear hF1197
          refine wpl_op (i := 11) rfl (o_skip hF1199 rfl (unwanted_guard rfl rfl rfl hF1199 rfl rfl rfl) rfl rfl ?_)
          intro a1200 hF1201; clear hF1199
          refine wpl_op (i := 12) rfl (o_skip hF1201 rfl (unwanted_guard rfl rfl rfl hF1201 rfl rfl rfl) rfl rfl ?_)
          intro a1202 hF1203; clear hF1201
          refine wpl_op (i := 13) rfl (o_skip hF1203 rfl (unwanted_guard rfl rfl rfl hF1203 rfl rfl rfl) rfl rfl ?_)
          intro a1204 hF1205; clear hF1203
          refine wpl_op (i := 14) rfl (o_val (v := (.bool false)) hF1205 rfl rfl rfl rfl (rn_pickF (c_false hF1205 rfl rfl) rfl) ?_)
          intro a1206 hF1207; clear hF1205
          refine wpl_op (i := 15) rfl (o_val (v := (.bool false)) hF1207 rfl rfl rfl rfl (rn_assign (hF1207.get rfl)) ?_)
          intro a1208 hF1209; clear hF1207
          refine wpList_nil ?_
          refine hK942 _ _ ?_
          clear hK942
          have hF1210 := ((((((((((((((((hF1209.nil.cons (hF1209.get (t := 12) (v := (.bool false)) rfl)).cons (hF1209.get (t := 11) (v := (.int .i64 (((digsOf s).length) + 1 : Nat))) rfl)).cons (hF1209.get (t := 63) (v := (.bool true)) rfl)).cons (hF1209.get (t := 62) (v := (.int .i64 2)) rfl)).cons (hF1209.get (t := 61) (v := (.int .i64 4)) rfl)).cons (hF1209.get (t := 60) (v := (.slice (some ⟨g181, 0, none⟩) 4 4)) rfl)).cons (hF1209.get (t := 50) (v := (.bool (decide (((n37 : Nat) : Int) ≠ (((dirs (at_ : Int).toNat (((digsOf s).length : Nat) : Int).toNat).length : Nat) : Int))))) rfl)).cons (hF1209.get (t := 32) (v := (.bool (decide ((((digsOf s).length : Nat) : Int) ≤ (at_ : Int))))) rfl)).cons (hF1209.get (t := 9) (v := (.int .i64 ((pathF (digsOf s) at_).2))) rfl)).cons (hF1209.get (t := 8) (v := (.slice A36 n37 c38)) rfl)).cons (hF1209.get (t := 7) (v := (.slice A17 ((digsOf s).length) c18)) rfl)).cons (hF1209.get (t := 16) (v := (.bool false)) rfl)).cons (hF1209.get (t := 6) (v := (.bool false)) rfl)).cons (hF1209.get (t := 2) (v := (.int .i64 n)) rfl)).cons (hF1209.get (t := 1) (v := (.int .i64 at_)) rfl)).cons (hF1209.get (t := 0) (v := (.slice A s.length c)) rfl))
          clear hF1209
          refine wp_seq_k (fun K1211 hK1211 => ?_)
          refine wp_region_lit ?_
          refine wpl_op (i := 0) rfl (o_val (v := (.slice A17 ((digsOf s).length) c18)) hF1210 rfl rfl rfl rfl (rn_move (hF1210.get rfl)) ?_)
          intro a1212 hF1213; clear hF1210
          refine wpl_op (i := 1) rfl (o_val (v := (.int .i64 at_)) hF1213 rfl rfl rfl rfl (rn_move (hF1213.get rfl)) ?_)
          intro a1214 hF1215; clear hF1213
          obtain ⟨b1216, o1217, hA1218, -⟩ := Fl.at hf203 (by omega)
          refine wpl_op (i := 2) rfl (o_val (v := (.pointer (some ⟨b1216, o1217 + (at_ : Int).toNat * 32, none⟩))) hF1215 rfl rfl rfl rfl (rn_indexE Tryd.underlying30 (by kernel_rfl : (Tryd.prog.info? 26).map (·.size) = some 32) ((hF1215.get rfl).trans (by rw [hA1218])) (hF1215.get rfl) (by omega : (0 : Int) ≤ at_) (by omega : (at_ : Int) < (((digsOf s).length : Nat) : Int)) (by omega)) ?_)
          intro a1219 hF1220; clear hF1215
          refine wpl_op (i := 3) rfl (o_val (v := (.agg (byteVals ((digsOf s).getD ((at_ : Int).toNat) [])).toArray)) hF1220 rfl rfl rfl rfl (rn_loadN (cs := byteVals ((digsOf s).getD ((at_ : Int).toNat) [])) (hF1220.get rfl) Tryd.underlying26 rfl ((by kernel_rfl : (Tryd.prog.info? 26).map (·.size) = some 32).trans (congrArg some (byteVals_len (dig_len (digsOf_32 _) ((at_ : Int).toNat) (by omega))).symm)) (Fl.digAt hf203 hA1218 (digsOf_32 _) (by omega))) ?_)
          intro a1221 hF1222; clear hF1220
          refine wpl_op (i := 4) rfl (o_val (v := (.int .i64 at_)) hF1222 rfl rfl rfl rfl (rn_move (hF1222.get rfl)) ?_)
          intro a1223 hF1224; clear hF1222
          refine wpl_op (i := 5) rfl (o_val (v := (.int .i64 (((digsOf s).length) + 1 : Nat))) hF1224 rfl rfl rfl rfl (rn_move (hF1224.get rfl)) ?_)
          intro a1225 hF1226; clear hF1224
          refine wpl_op (i := 6) rfl (o_val (v := (.slice A36 n37 c38)) hF1226 rfl rfl rfl rfl (rn_move (hF1226.get rfl)) ?_)
          intro a1227 hF1228; clear hF1226
          refine wpl_op (i := 7) rfl (o_call hF1228 rfl rfl rfl rfl (rn_call (args4 (hF1228.get rfl) (hF1228.get rfl) (hF1228.get rfl) (hF1228.get rfl)) rfl (by kernel_rfl)) (climb_at ((digsOf s).getD ((at_ : Int).toNat) []) at_ (((digsOf s).length) + 1 : Nat) ((pathF (digsOf s) at_).1) _ (v := (.slice A36 n37 c38)) (m := n37) (dig_len (digsOf_32 _) ((at_ : Int).toNat) (by omega)) (pathF_32 (digsOf s) at_) hf204 (hG.ext ((Ext.refl w).trans hx200))) ?_)
          rintro _ w1229 ⟨rfl, hx1230⟩
          refine ⟨_, rfl, ?_⟩; intro a1231 hF1232; clear hF1228; have z1233 := hx1230.size
          refine wpl_op (i := 8) rfl (o_val (v := (.tuple #[(.agg (byteVals ((climbF ((digsOf s).getD ((at_ : Int).toNat) []) at_ (((digsOf s).length) + 1 : Nat) ((pathF (digsOf s) at_).1)).1)).toArray), (.int .i64 ((climbF ((digsOf s).getD ((at_ : Int).toNat) []) at_ (((digsOf s).length) + 1 : Nat) ((pathF (digsOf s) at_).1)).2))])) hF1232 rfl rfl rfl rfl (rn_move (hF1232.get rfl)) ?_)
          intro a1234 hF1235; clear hF1232
          refine wpl_op (i := 9) rfl (o_val (v := (.agg (byteVals ((climbF ((digsOf s).getD ((at_ : Int).toNat) []) at_ (((digsOf s).length) + 1 : Nat) ((pathF (digsOf s) at_).1)).1)).toArray)) hF1235 rfl rfl rfl rfl (rn_extract (hF1235.get rfl) rfl) ?_)
          intro a1236 hF1237; clear hF1235
          refine wpl_op (i := 10) rfl (o_val (v := (.int .i64 ((climbF ((digsOf s).getD ((at_ : Int).toNat) []) at_ (((digsOf s).length) + 1 : Nat) ((pathF (digsOf s) at_).1)).2))) hF1237 rfl rfl rfl rfl (rn_extract (hF1237.get rfl) rfl) ?_)
          intro a1238 hF1239; clear hF1237
          refine wpl_op (i := 11) rfl (o_new (fun g => (.pointer (some ⟨g, 0, none⟩))) (byteVals (List.replicate 32 0)) 26 hF1239 rfl rfl rfl rfl (by kernel_rfl) ?_)
          intro g1240 w1241 a1246 hF1247 z1244 z1245 b1242 hx1243; clear hF1239
          refine wpl_op (i := 12) rfl (o_store (cells := (byteVals ((climbF ((digsOf s).getD ((at_ : Int).toNat) []) at_ (((digsOf s).length) + 1 : Nat) ((pathF (digsOf s) at_).1)).1))) hF1247 rfl rfl rfl rfl (hF1247.get rfl) (hF1247.get rfl) b1242 ((by kernel_rfl : (Tryd.prog.info? 26).map (·.size) = some 32).trans (congrArg some (byteVals_len (climbF_len _ _ _ _)).symm)) ((byteVals_len (show List.length (List.replicate 32 0) = _ from List.length_replicate)).trans (byteVals_len (climbF_len _ _ _ _)).symm) (byteVals_one _) ?_)
          intro w1248 b1249 hg1250; have z1251 := hg1250.size
          refine wpl_op (i := 13) rfl (o_val (v := (.int .i64 ((climbF ((digsOf s).getD ((at_ : Int).toNat) []) at_ (((digsOf s).length) + 1 : Nat) ((pathF (digsOf s) at_).1)).2))) hF1247 rfl rfl rfl rfl (rn_assign (hF1247.get rfl)) ?_)
          intro a1252 hF1253; clear hF1247
          refine wpList_nil ?_
          refine hK1211 _ _ ?_
          clear hK1211
          have hF1254 := (((((((((((((((((hF1253.nil.cons (hF1253.get (t := 14) (v := (.int .i64 ((climbF ((digsOf s).getD ((at_ : Int).toNat) []) at_ (((digsOf s).length) + 1 : Nat) ((pathF (digsOf s) at_).1)).2))) rfl)).cons (hF1253.get (t := 12) (v := (.bool false)) rfl)).cons (hF1253.get (t := 11) (v := (.int .i64 (((digsOf s).length) + 1 : Nat))) rfl)).cons (hF1253.get (t := 63) (v := (.bool true)) rfl)).cons (hF1253.get (t := 62) (v := (.int .i64 2)) rfl)).cons (hF1253.get (t := 61) (v := (.int .i64 4)) rfl)).cons (hF1253.get (t := 60) (v := (.slice (some ⟨g181, 0, none⟩) 4 4)) rfl)).cons (hF1253.get (t := 50) (v := (.bool (decide (((n37 : Nat) : Int) ≠ (((dirs (at_ : Int).toNat (((digsOf s).length : Nat) : Int).toNat).length : Nat) : Int))))) rfl)).cons (hF1253.get (t := 32) (v := (.bool (decide ((((digsOf s).length : Nat) : Int) ≤ (at_ : Int))))) rfl)).cons (hF1253.get (t := 9) (v := (.int .i64 ((pathF (digsOf s) at_).2))) rfl)).cons (hF1253.get (t := 8) (v := (.slice A36 n37 c38)) rfl)).cons (hF1253.get (t := 7) (v := (.slice A17 ((digsOf s).length) c18)) rfl)).cons (hF1253.get (t := 16) (v := (.bool false)) rfl)).cons (hF1253.get (t := 6) (v := (.bool false)) rfl)).cons (hF1253.get (t := 2) (v := (.int .i64 n)) rfl)).cons (hF1253.get (t := 1) (v := (.int .i64 at_)) rfl)).cons (hF1253.get (t := 0) (v := (.slice A s.length c)) rfl))
          clear hF1253
          refine wp_seq_k (fun K1255 hK1255 => ?_)
          refine wp_region_lit ?_
          refine wpl_op (i := 0) rfl (o_val (v := (.bool false)) hF1254 rfl rfl rfl rfl (rn_move (hF1254.get rfl)) ?_)
          intro a1256 hF1257; clear hF1254
          refine wpl_op (i := 1) rfl (o_val (v := (.int .i64 ((climbF ((digsOf s).getD ((at_ : Int).toNat) []) at_ (((digsOf s).length) + 1 : Nat) ((pathF (digsOf s) at_).1)).2))) hF1257 rfl rfl rfl rfl (rn_move (hF1257.get rfl)) ?_)
          intro a1258 hF1259; clear hF1257
          refine wpl_op (i := 2) rfl (o_val (v := (.bool (decide (((climbF ((digsOf s).getD ((at_ : Int).toNat) []) at_ (((digsOf s).length) + 1 : Nat) ((pathF (digsOf s) at_).1)).2 : Int) = (0 : Int))))) hF1259 rfl rfl rfl rfl (rn_eql (hF1259.get rfl) rfl) ?_)
          intro a1260 hF1261; clear hF1259
          refine wpl_op (i := 3) rfl (o_val (v := (.bool false)) hF1261 rfl rfl rfl rfl (rn_neB Tryd.underlying4 (hF1261.get rfl) (hF1261.get rfl) (show _ = false from rfl) (show _ = false from ((decide_eq_false (by rw [climbF, if_pos (by omega)]; simp)) : decide (((climbF ((digsOf s).getD ((at_ : Int).toNat) []) at_ (((digsOf s).length) + 1 : Nat) ((pathF (digsOf s) at_).1)).2 : Int) = (0 : Int)) = false)) rfl) ?_)
          intro a1263 hF1264; clear hF1261
          refine wpl_op (i := 4) rfl (o_val (v := (.bool false)) hF1264 rfl rfl rfl rfl (rn_move (hF1264.get rfl)) ?_)
          intro a1265 hF1266; clear hF1264
          refine wpl_op (i := 5) rfl (o_val (v := (.bool false)) hF1266 rfl (wanted_guard rfl rfl rfl hF1266 rfl rfl rfl) rfl rfl (rn_move (hF1266.get rfl)) ?_)
          intro a1267 hF1268; clear hF1266
          refine wpl_op (i := 6) rfl (o_val (v := (.bool true)) hF1268 rfl (wanted_guard rfl rfl rfl hF1268 rfl rfl rfl) rfl rfl (rn_not' (hF1268.get rfl) rfl) ?_)
          intro a1269 hF1270; clear hF1268
          refine wpl_op (i := 7) rfl (o_val (v := (.bool true)) hF1270 rfl (wanted_guard rfl rfl rfl hF1270 rfl rfl rfl) rfl rfl (rn_move (hF1270.get rfl)) ?_)
          intro a1271 hF1272; clear hF1270
          refine wpl_op (i := 8) rfl (o_val (v := (.int .i64 ((climbF ((digsOf s).getD ((at_ : Int).toNat) []) at_ (((digsOf s).length) + 1 : Nat) ((pathF (digsOf s) at_).1)).2))) hF1272 rfl (wanted_guard rfl rfl rfl hF1272 rfl rfl rfl) rfl rfl (rn_move (hF1272.get rfl)) ?_)
          intro a1273 hF1274; clear hF1272
          refine wpl_op (i := 9) rfl (o_val (v := (.bool (decide (((climbF ((digsOf s).getD ((at_ : Int).toNat) []) at_ (((digsOf s).length) + 1 : Nat) ((pathF (digsOf s) at_).1)).2 : Int) ≠ (1 : Int))))) hF1274 rfl (wanted_guard rfl rfl rfl hF1274 rfl rfl rfl) rfl rfl (rn_neq (hF1274.get rfl) rfl) ?_)
          intro a1275 hF1276; clear hF1274
          refine wpl_op (i := 10) rfl (o_val (v := (.bool (decide (((climbF ((digsOf s).getD ((at_ : Int).toNat) []) at_ (((digsOf s).length) + 1 : Nat) ((pathF (digsOf s) at_).1)).2 : Int) ≠ (1 : Int))))) hF1276 rfl (wanted_guard rfl rfl rfl hF1276 rfl rfl rfl) rfl rfl (rn_pickT (c_true hF1276 rfl rfl) (hF1276.get rfl)) ?_)
          intro a1277 hF1278; clear hF1276
          refine wpl_op (i := 11) rfl (o_val (v := (.bool (decide (((climbF ((digsOf s).getD ((at_ : Int).toNat) []) at_ (((digsOf s).length) + 1 : Nat) ((pathF (digsOf s) at_).1)).2 : Int) ≠ (1 : Int))))) hF1278 rfl rfl rfl rfl (rn_pickF (c_false hF1278 rfl rfl) (hF1278.get rfl)) ?_)
          intro a1279 hF1280; clear hF1278
          refine wpList_nil ?_
          refine hK1255 _ _ ?_
          clear hK1255
          have hF1281 := ((((((((((((((((((hF1280.nil.cons (hF1280.get (t := 103) (v := (.bool (decide (((climbF ((digsOf s).getD ((at_ : Int).toNat) []) at_ (((digsOf s).length) + 1 : Nat) ((pathF (digsOf s) at_).1)).2 : Int) ≠ (1 : Int))))) rfl)).cons (hF1280.get (t := 14) (v := (.int .i64 ((climbF ((digsOf s).getD ((at_ : Int).toNat) []) at_ (((digsOf s).length) + 1 : Nat) ((pathF (digsOf s) at_).1)).2))) rfl)).cons (hF1280.get (t := 12) (v := (.bool false)) rfl)).cons (hF1280.get (t := 11) (v := (.int .i64 (((digsOf s).length) + 1 : Nat))) rfl)).cons (hF1280.get (t := 63) (v := (.bool true)) rfl)).cons (hF1280.get (t := 62) (v := (.int .i64 2)) rfl)).cons (hF1280.get (t := 61) (v := (.int .i64 4)) rfl)).cons (hF1280.get (t := 60) (v := (.slice (some ⟨g181, 0, none⟩) 4 4)) rfl)).cons (hF1280.get (t := 50) (v := (.bool (decide (((n37 : Nat) : Int) ≠ (((dirs (at_ : Int).toNat (((digsOf s).length : Nat) : Int).toNat).length : Nat) : Int))))) rfl)).cons (hF1280.get (t := 32) (v := (.bool (decide ((((digsOf s).length : Nat) : Int) ≤ (at_ : Int))))) rfl)).cons (hF1280.get (t := 9) (v := (.int .i64 ((pathF (digsOf s) at_).2))) rfl)).cons (hF1280.get (t := 8) (v := (.slice A36 n37 c38)) rfl)).cons (hF1280.get (t := 7) (v := (.slice A17 ((digsOf s).length) c18)) rfl)).cons (hF1280.get (t := 16) (v := (.bool false)) rfl)).cons (hF1280.get (t := 6) (v := (.bool false)) rfl)).cons (hF1280.get (t := 2) (v := (.int .i64 n)) rfl)).cons (hF1280.get (t := 1) (v := (.int .i64 at_)) rfl)).cons (hF1280.get (t := 0) (v := (.slice A s.length c)) rfl))
          clear hF1280
          refine wp_cond_false (c_false hF1281 rfl ((decide_eq_false (by rw [climbF, if_pos (by omega)]; simp)) : decide (((climbF ((digsOf s).getD ((at_ : Int).toNat) []) at_ (((digsOf s).length) + 1 : Nat) ((pathF (digsOf s) at_).1)).2 : Int) ≠ (1 : Int)) = false)) ?_
          refine wp_skip ?_
          refine hK934 _ _ ?_
          clear hK934
          refine wp_region_lit ?_
          refine wpl_op (i := 0) rfl (o_val (v := (.int .i64 3)) hF1281 rfl rfl rfl rfl (rn_add (hF1281.get rfl) rfl (by omega) (by omega)) ?_)
          intro a1283 hF1284; clear hF1281
          refine wpl_op (i := 1) rfl (o_val (v := (.int .i64 3)) hF1284 rfl rfl rfl rfl (rn_move (hF1284.get rfl)) ?_)
          intro a1285 hF1286; clear hF1284
          refine wpList_nil ?_
          have d1287 := (hf203.pres ((((Pres.refl w198).ext hx1230).ext hx1243).grownN hg1250 (fun h => by simp only [Clip] at h; omega)))
          have d1288 := (hf204.pres ((((Pres.refl w198).ext hx1230).ext hx1243).grownN hg1250 (fun h => by simp only [Clip] at h; omega)))
          have b1289 : Blk w1248 g181 3 [(.int .i64 n), (.int .i64 (andI (n) (31))), (.int .i64 (((digsOf s).length) + 1 : Nat)), (.int .i64 (2 * ((digsOf s).length) : Nat))] := (((b202.ext hx1230).ext hx1243).grownN hg1250 (by omega))
          refine ⟨⟨3, (((((((((((((hF1286.nil.cons (q_get hF1286 (t := 62) rfl (by first | rfl | (congr 1; omega) | (congr 1; done)))).cons (q_get hF1286 (t := 61) rfl rfl)).cons (q_get hF1286 (t := 60) rfl rfl)).cons (q_get hF1286 (t := 50) rfl rfl)).cons (q_get hF1286 (t := 32) rfl rfl)).cons (q_get hF1286 (t := 9) rfl rfl)).cons (q_get hF1286 (t := 8) rfl rfl)).cons (q_get hF1286 (t := 7) rfl rfl)).cons (q_get hF1286 (t := 16) rfl rfl)).cons (q_get hF1286 (t := 6) rfl rfl)).cons (q_get hF1286 (t := 2) rfl rfl)).cons (q_get hF1286 (t := 1) rfl rfl)).cons (q_get hF1286 (t := 0) rfl rfl)), (by omega), (((((Ext.refl w).trans hx200).trans hx1230).trans hx1243).grownN hg1250 (by omega)), b1289, d1287, d1288, (by omega)⟩, ?_⟩
          rw [hF1286.get (t := 62) rfl, hL206.get (t := 62) rfl]; simp [intOf] <;> omega
      · subst hk209
        refine wp_seq_k (fun K1290 hK1290 => ?_)
        refine wp_region_lit ?_
        refine wpl_op (i := 0) rfl (o_val (v := (.bool true)) hF199 rfl rfl rfl rfl (rn_lss' (hF199.get rfl) (hF199.get rfl) (by decide)) ?_)
        intro a1291 hF1292; clear hF199
        refine wpList_nil ?_
        refine hK1290 _ _ ?_
        clear hK1290
        refine wp_seq_k (fun K1293 hK1293 => ?_)
        refine wp_cond_true (c_true hF1292 rfl rfl) ?_
        refine wp_skip ?_
        refine hK1293 _ _ ?_
        clear hK1293
        refine wp_seq_k (fun K1294 hK1294 => ?_)
        refine wp_block ?_
        refine wp_seq_k (fun K1295 hK1295 => ?_)
        refine wp_region_lit ?_
        refine wpl_op (i := 0) rfl (o_val (v := (.pointer (some ⟨g181, 0 + 3, none⟩))) hF1292 rfl rfl rfl rfl (rn_index1 Tryd.underlying33 (by kernel_rfl : (Tryd.prog.info? 3).map (·.size) = some 1) (hF1292.get rfl) (hF1292.get rfl) (by omega : (0 : Int) ≤ 3) (by omega : (3 : Int) < ((4 : Nat) : Int))) ?_)
        intro a1296 hF1297; clear hF1292
        refine wpl_op (i := 1) rfl (o_val (v := (.int .i64 (2 * ((digsOf s).length) : Nat))) hF1297 rfl rfl rfl rfl (rn_load (isAgg_no Tryd.underlying3 rfl) (hF1297.get rfl) (b202.rule.1 (0 + 3))) ?_)
        intro a1298 hF1299; clear hF1297
        refine wpl_op (i := 2) rfl (o_val (v := (.int .i64 (2 * ((digsOf s).length) : Nat))) hF1299 rfl rfl rfl rfl (rn_assign (hF1299.get rfl)) ?_)
        intro a1300 hF1301; clear hF1299
        refine wpList_nil ?_
        refine hK1295 _ _ ?_
        clear hK1295
        refine wp_seq_k (fun K1302 hK1302 => ?_)
        refine wp_region_lit ?_
        refine wpl_op (i := 0) rfl (o_val (v := (.int .i64 (2 * ((digsOf s).length) : Nat))) hF1301 rfl rfl rfl rfl (rn_move (hF1301.get rfl)) ?_)
        intro a1303 hF1304; clear hF1301
        refine wpl_op (i := 1) rfl (o_val (v := (.int .i64 at_)) hF1304 rfl rfl rfl rfl (rn_move (hF1304.get rfl)) ?_)
        intro a1305 hF1306; clear hF1304
        refine wpl_op (i := 2) rfl (o_val (v := (.bool (decide ((at_ : Int) < ((2 * ((digsOf s).length) : Nat) : Int))))) hF1306 rfl rfl rfl rfl (rn_gtr (hF1306.get rfl) (hF1306.get rfl)) ?_)
        intro a1307 hF1308; clear hF1306
        refine wpl_op (i := 3) rfl (o_val (v := (.bool (decide ((at_ : Int) < ((2 * ((digsOf s).length) : Nat) : Int))))) hF1308 rfl rfl rfl rfl (rn_move (hF1308.get rfl)) ?_)
        intro a1309 hF1310; clear hF1308
        by_cases hc1311 : (at_ : Int) < ((2 * ((digsOf s).length) : Nat) : Int)
        · skip
          refine wpl_op (i := 4) rfl (o_val (v := (.int .i64 (2 * ((digsOf s).length) : Nat))) hF1310 rfl (wanted_guard rfl rfl rfl hF1310 rfl (decide_eq_true hc1311) rfl) rfl rfl (rn_move (hF1310.get rfl)) ?_)
          intro a1312 hF1313; clear hF1310
          refine wpl_op (i := 5) rfl (o_val (v := (.bool (decide (((2 * ((digsOf s).length) : Nat) : Int) ≤ (1099511627776 : Int))))) hF1313 rfl (wanted_guard rfl rfl rfl hF1313 rfl (decide_eq_true hc1311) rfl) rfl rfl (rn_leq (hF1313.get rfl) rfl) ?_)
          intro a1314 hF1315; clear hF1313
          refine wpl_op (i := 6) rfl (o_val (v := (.bool (decide (((2 * ((digsOf s).length) : Nat) : Int) ≤ (1099511627776 : Int))))) hF1315 rfl rfl rfl rfl (rn_pickT (c_true hF1315 rfl (decide_eq_true hc1311)) (hF1315.get rfl)) ?_)
          intro a1316 hF1317; clear hF1315
          refine wpl_op (i := 7) rfl (o_val (v := (.bool (decide (((2 * ((digsOf s).length) : Nat) : Int) ≤ (1099511627776 : Int))))) hF1317 rfl rfl rfl rfl (rn_move (hF1317.get rfl)) ?_)
          intro a1318 hF1319; clear hF1317
          by_cases hc1320 : ((2 * ((digsOf s).length) : Nat) : Int) ≤ (1099511627776 : Int)
          · skip
            refine wpl_op (i := 8) rfl (o_val (v := (.int .i64 at_)) hF1319 rfl (wanted_guard rfl rfl rfl hF1319 rfl (decide_eq_true hc1320) rfl) rfl rfl (rn_move (hF1319.get rfl)) ?_)
            intro a1321 hF1322; clear hF1319
            refine wpl_op (i := 9) rfl (o_val (v := (.int .i64 (2 * ((digsOf s).length) : Nat))) hF1322 rfl (wanted_guard rfl rfl rfl hF1322 rfl (decide_eq_true hc1320) rfl) rfl rfl (rn_move (hF1322.get rfl)) ?_)
            intro a1323 hF1324; clear hF1322
            refine wpl_op (i := 10) rfl (o_call hF1324 rfl (wanted_guard rfl rfl rfl hF1324 rfl (decide_eq_true hc1320) rfl) rfl rfl (rn_call (args2 (hF1324.get rfl) (hF1324.get rfl)) rfl (by kernel_rfl)) (steps_at (at_) ((2 * ((digsOf s).length) : Nat)) _ (by omega) (by omega) (by omega)) ?_)
            rintro _ w1325 ⟨rfl, hx1326⟩
            refine ⟨_, rfl, ?_⟩; intro a1327 hF1328; clear hF1324; have z1329 := hx1326.size
            refine wpl_op (i := 11) rfl (o_val (v := (.slice A36 n37 c38)) hF1328 rfl (wanted_guard rfl rfl rfl hF1328 rfl (decide_eq_true hc1320) rfl) rfl rfl (rn_move (hF1328.get rfl)) ?_)
            intro a1330 hF1331; clear hF1328
            refine wpl_op (i := 12) rfl (o_val (v := (.int .i64 (n37 : Nat))) hF1331 rfl (wanted_guard rfl rfl rfl hF1331 rfl (decide_eq_true hc1320) rfl) rfl rfl (rn_len_slice Tryd.underlying30 (hF1331.get rfl)) ?_)
            intro a1332 hF1333; clear hF1331
            refine wpl_op (i := 13) rfl (o_val (v := (.bool (decide ((((dirs (at_ : Int).toNat ((2 * ((digsOf s).length) : Nat) : Int).toNat).length : Nat) : Int) = ((n37 : Nat) : Int))))) hF1333 rfl (wanted_guard rfl rfl rfl hF1333 rfl (decide_eq_true hc1320) rfl) rfl rfl (rn_eql (hF1333.get rfl) (hF1333.get rfl)) ?_)
            intro a1334 hF1335; clear hF1333
            refine wpl_op (i := 14) rfl (o_val (v := (.bool (decide ((((dirs (at_ : Int).toNat ((2 * ((digsOf s).length) : Nat) : Int).toNat).length : Nat) : Int) = ((n37 : Nat) : Int))))) hF1335 rfl rfl rfl rfl (rn_pickT (c_true hF1335 rfl (decide_eq_true hc1320)) (hF1335.get rfl)) ?_)
            intro a1336 hF1337; clear hF1335
            refine wpl_op (i := 15) rfl (o_val (v := (.bool (decide ((((dirs (at_ : Int).toNat ((2 * ((digsOf s).length) : Nat) : Int).toNat).length : Nat) : Int) = ((n37 : Nat) : Int))))) hF1337 rfl rfl rfl rfl (rn_assign (hF1337.get rfl)) ?_)
            intro a1338 hF1339; clear hF1337
            refine wpList_nil ?_
            refine hK1302 _ _ ?_
            clear hK1302
            have hF1340 := ((((((((((((((((hF1339.nil.cons (hF1339.get (t := 12) (v := (.bool (decide ((((dirs (at_ : Int).toNat ((2 * ((digsOf s).length) : Nat) : Int).toNat).length : Nat) : Int) = ((n37 : Nat) : Int))))) rfl)).cons (hF1339.get (t := 11) (v := (.int .i64 (2 * ((digsOf s).length) : Nat))) rfl)).cons (hF1339.get (t := 63) (v := (.bool true)) rfl)).cons (hF1339.get (t := 62) (v := (.int .i64 3)) rfl)).cons (hF1339.get (t := 61) (v := (.int .i64 4)) rfl)).cons (hF1339.get (t := 60) (v := (.slice (some ⟨g181, 0, none⟩) 4 4)) rfl)).cons (hF1339.get (t := 50) (v := (.bool (decide (((n37 : Nat) : Int) ≠ (((dirs (at_ : Int).toNat (((digsOf s).length : Nat) : Int).toNat).length : Nat) : Int))))) rfl)).cons (hF1339.get (t := 32) (v := (.bool (decide ((((digsOf s).length : Nat) : Int) ≤ (at_ : Int))))) rfl)).cons (hF1339.get (t := 9) (v := (.int .i64 ((pathF (digsOf s) at_).2))) rfl)).cons (hF1339.get (t := 8) (v := (.slice A36 n37 c38)) rfl)).cons (hF1339.get (t := 7) (v := (.slice A17 ((digsOf s).length) c18)) rfl)).cons (hF1339.get (t := 16) (v := (.bool false)) rfl)).cons (hF1339.get (t := 6) (v := (.bool false)) rfl)).cons (hF1339.get (t := 2) (v := (.int .i64 n)) rfl)).cons (hF1339.get (t := 1) (v := (.int .i64 at_)) rfl)).cons (hF1339.get (t := 0) (v := (.slice A s.length c)) rfl))
            clear hF1339
            refine wp_seq_k (fun K1341 hK1341 => ?_)
            refine wp_region_lit ?_
            refine wpl_op (i := 0) rfl (o_val (v := (.slice A17 ((digsOf s).length) c18)) hF1340 rfl rfl rfl rfl (rn_move (hF1340.get rfl)) ?_)
            intro a1342 hF1343; clear hF1340
            refine wpl_op (i := 1) rfl (o_val (v := (.int .i64 at_)) hF1343 rfl rfl rfl rfl (rn_move (hF1343.get rfl)) ?_)
            intro a1344 hF1345; clear hF1343
            have d1349 := (hf203.ext hx1326)
            obtain ⟨b1346, o1347, hA1348, -⟩ := Fl.at d1349 (by omega)
            refine wpl_op (i := 2) rfl (o_val (v := (.pointer (some ⟨b1346, o1347 + (at_ : Int).toNat * 32, none⟩))) hF1345 rfl rfl rfl rfl (rn_indexE Tryd.underlying30 (by kernel_rfl : (Tryd.prog.info? 26).map (·.size) = some 32) ((hF1345.get rfl).trans (by rw [hA1348])) (hF1345.get rfl) (by omega : (0 : Int) ≤ at_) (by omega : (at_ : Int) < (((digsOf s).length : Nat) : Int)) (by omega)) ?_)
            intro a1350 hF1351; clear hF1345
            refine wpl_op (i := 3) rfl (o_val (v := (.agg (byteVals ((digsOf s).getD ((at_ : Int).toNat) [])).toArray)) hF1351 rfl rfl rfl rfl (rn_loadN (cs := byteVals ((digsOf s).getD ((at_ : Int).toNat) [])) (hF1351.get rfl) Tryd.underlying26 rfl ((by kernel_rfl : (Tryd.prog.info? 26).map (·.size) = some 32).trans (congrArg some (byteVals_len (dig_len (digsOf_32 _) ((at_ : Int).toNat) (by omega))).symm)) (Fl.digAt d1349 hA1348 (digsOf_32 _) (by omega))) ?_)
            intro a1352 hF1353; clear hF1351
            refine wpl_op (i := 4) rfl (o_val (v := (.int .i64 at_)) hF1353 rfl rfl rfl rfl (rn_move (hF1353.get rfl)) ?_)
            intro a1354 hF1355; clear hF1353
            refine wpl_op (i := 5) rfl (o_val (v := (.int .i64 (2 * ((digsOf s).length) : Nat))) hF1355 rfl rfl rfl rfl (rn_move (hF1355.get rfl)) ?_)
            intro a1356 hF1357; clear hF1355
            refine wpl_op (i := 6) rfl (o_val (v := (.slice A36 n37 c38)) hF1357 rfl rfl rfl rfl (rn_move (hF1357.get rfl)) ?_)
            intro a1358 hF1359; clear hF1357
            have d1360 := (hf204.ext hx1326)
            refine wpl_op (i := 7) rfl (o_call hF1359 rfl rfl rfl rfl (rn_call (args4 (hF1359.get rfl) (hF1359.get rfl) (hF1359.get rfl) (hF1359.get rfl)) rfl (by kernel_rfl)) (climb_at ((digsOf s).getD ((at_ : Int).toNat) []) at_ (2 * ((digsOf s).length) : Nat) ((pathF (digsOf s) at_).1) _ (v := (.slice A36 n37 c38)) (m := n37) (dig_len (digsOf_32 _) ((at_ : Int).toNat) (by omega)) (pathF_32 (digsOf s) at_) d1360 (hG.ext (((Ext.refl w).trans hx200).trans hx1326))) ?_)
            rintro _ w1361 ⟨rfl, hx1362⟩
            refine ⟨_, rfl, ?_⟩; intro a1363 hF1364; clear hF1359; have z1365 := hx1362.size
            refine wpl_op (i := 8) rfl (o_val (v := (.tuple #[(.agg (byteVals ((climbF ((digsOf s).getD ((at_ : Int).toNat) []) at_ (2 * ((digsOf s).length) : Nat) ((pathF (digsOf s) at_).1)).1)).toArray), (.int .i64 ((climbF ((digsOf s).getD ((at_ : Int).toNat) []) at_ (2 * ((digsOf s).length) : Nat) ((pathF (digsOf s) at_).1)).2))])) hF1364 rfl rfl rfl rfl (rn_move (hF1364.get rfl)) ?_)
            intro a1366 hF1367; clear hF1364
            refine wpl_op (i := 9) rfl (o_val (v := (.agg (byteVals ((climbF ((digsOf s).getD ((at_ : Int).toNat) []) at_ (2 * ((digsOf s).length) : Nat) ((pathF (digsOf s) at_).1)).1)).toArray)) hF1367 rfl rfl rfl rfl (rn_extract (hF1367.get rfl) rfl) ?_)
            intro a1368 hF1369; clear hF1367
            refine wpl_op (i := 10) rfl (o_val (v := (.int .i64 ((climbF ((digsOf s).getD ((at_ : Int).toNat) []) at_ (2 * ((digsOf s).length) : Nat) ((pathF (digsOf s) at_).1)).2))) hF1369 rfl rfl rfl rfl (rn_extract (hF1369.get rfl) rfl) ?_)
            intro a1370 hF1371; clear hF1369
            refine wpl_op (i := 11) rfl (o_new (fun g => (.pointer (some ⟨g, 0, none⟩))) (byteVals (List.replicate 32 0)) 26 hF1371 rfl rfl rfl rfl (by kernel_rfl) ?_)
            intro g1372 w1373 a1378 hF1379 z1376 z1377 b1374 hx1375; clear hF1371
            refine wpl_op (i := 12) rfl (o_store (cells := (byteVals ((climbF ((digsOf s).getD ((at_ : Int).toNat) []) at_ (2 * ((digsOf s).length) : Nat) ((pathF (digsOf s) at_).1)).1))) hF1379 rfl rfl rfl rfl (hF1379.get rfl) (hF1379.get rfl) b1374 ((by kernel_rfl : (Tryd.prog.info? 26).map (·.size) = some 32).trans (congrArg some (byteVals_len (climbF_len _ _ _ _)).symm)) ((byteVals_len (show List.length (List.replicate 32 0) = _ from List.length_replicate)).trans (byteVals_len (climbF_len _ _ _ _)).symm) (byteVals_one _) ?_)
            intro w1380 b1381 hg1382; have z1383 := hg1382.size
            refine wpl_op (i := 13) rfl (o_val (v := (.int .i64 ((climbF ((digsOf s).getD ((at_ : Int).toNat) []) at_ (2 * ((digsOf s).length) : Nat) ((pathF (digsOf s) at_).1)).2))) hF1379 rfl rfl rfl rfl (rn_assign (hF1379.get rfl)) ?_)
            intro a1384 hF1385; clear hF1379
            refine wpList_nil ?_
            refine hK1341 _ _ ?_
            clear hK1341
            have hF1386 := (((((((((((((((((hF1385.nil.cons (hF1385.get (t := 14) (v := (.int .i64 ((climbF ((digsOf s).getD ((at_ : Int).toNat) []) at_ (2 * ((digsOf s).length) : Nat) ((pathF (digsOf s) at_).1)).2))) rfl)).cons (hF1385.get (t := 12) (v := (.bool (decide ((((dirs (at_ : Int).toNat ((2 * ((digsOf s).length) : Nat) : Int).toNat).length : Nat) : Int) = ((n37 : Nat) : Int))))) rfl)).cons (hF1385.get (t := 11) (v := (.int .i64 (2 * ((digsOf s).length) : Nat))) rfl)).cons (hF1385.get (t := 63) (v := (.bool true)) rfl)).cons (hF1385.get (t := 62) (v := (.int .i64 3)) rfl)).cons (hF1385.get (t := 61) (v := (.int .i64 4)) rfl)).cons (hF1385.get (t := 60) (v := (.slice (some ⟨g181, 0, none⟩) 4 4)) rfl)).cons (hF1385.get (t := 50) (v := (.bool (decide (((n37 : Nat) : Int) ≠ (((dirs (at_ : Int).toNat (((digsOf s).length : Nat) : Int).toNat).length : Nat) : Int))))) rfl)).cons (hF1385.get (t := 32) (v := (.bool (decide ((((digsOf s).length : Nat) : Int) ≤ (at_ : Int))))) rfl)).cons (hF1385.get (t := 9) (v := (.int .i64 ((pathF (digsOf s) at_).2))) rfl)).cons (hF1385.get (t := 8) (v := (.slice A36 n37 c38)) rfl)).cons (hF1385.get (t := 7) (v := (.slice A17 ((digsOf s).length) c18)) rfl)).cons (hF1385.get (t := 16) (v := (.bool false)) rfl)).cons (hF1385.get (t := 6) (v := (.bool false)) rfl)).cons (hF1385.get (t := 2) (v := (.int .i64 n)) rfl)).cons (hF1385.get (t := 1) (v := (.int .i64 at_)) rfl)).cons (hF1385.get (t := 0) (v := (.slice A s.length c)) rfl))
            clear hF1385
            refine wp_seq_k (fun K1387 hK1387 => ?_)
            refine wp_region_lit ?_
            refine wpl_op (i := 0) rfl (o_val (v := (.bool (decide ((((dirs (at_ : Int).toNat ((2 * ((digsOf s).length) : Nat) : Int).toNat).length : Nat) : Int) = ((n37 : Nat) : Int))))) hF1386 rfl rfl rfl rfl (rn_move (hF1386.get rfl)) ?_)
            intro a1388 hF1389; clear hF1386
            refine wpl_op (i := 1) rfl (o_val (v := (.int .i64 ((climbF ((digsOf s).getD ((at_ : Int).toNat) []) at_ (2 * ((digsOf s).length) : Nat) ((pathF (digsOf s) at_).1)).2))) hF1389 rfl rfl rfl rfl (rn_move (hF1389.get rfl)) ?_)
            intro a1390 hF1391; clear hF1389
            refine wpl_op (i := 2) rfl (o_val (v := (.bool (decide (((climbF ((digsOf s).getD ((at_ : Int).toNat) []) at_ (2 * ((digsOf s).length) : Nat) ((pathF (digsOf s) at_).1)).2 : Int) = (0 : Int))))) hF1391 rfl rfl rfl rfl (rn_eql (hF1391.get rfl) rfl) ?_)
            intro a1392 hF1393; clear hF1391
            by_cases hc1394 : (((dirs (at_ : Int).toNat ((2 * ((digsOf s).length) : Nat) : Int).toNat).length : Nat) : Int) = ((n37 : Nat) : Int)
            · skip
              refine wpl_op (i := 3) rfl (o_val (v := (.bool false)) hF1393 rfl rfl rfl rfl (rn_neB Tryd.underlying4 (hF1393.get rfl) (hF1393.get rfl) (show _ = true from (decide_eq_true hc1394)) (show _ = true from ((decide_eq_true (by rw [climbF, if_neg (by omega)])) : decide (((climbF ((digsOf s).getD ((at_ : Int).toNat) []) at_ (2 * ((digsOf s).length) : Nat) ((pathF (digsOf s) at_).1)).2 : Int) = (0 : Int)) = true)) rfl) ?_)
              intro a1396 hF1397; clear hF1393
              refine wpl_op (i := 4) rfl (o_val (v := (.bool false)) hF1397 rfl rfl rfl rfl (rn_move (hF1397.get rfl)) ?_)
              intro a1398 hF1399; clear hF1397
              refine wpl_op (i := 5) rfl (o_val (v := (.bool (decide ((((dirs (at_ : Int).toNat ((2 * ((digsOf s).length) : Nat) : Int).toNat).length : Nat) : Int) = ((n37 : Nat) : Int))))) hF1399 rfl (wanted_guard rfl rfl rfl hF1399 rfl rfl rfl) rfl rfl (rn_move (hF1399.get rfl)) ?_)
              intro a1400 hF1401; clear hF1399
              refine wpl_op (i := 6) rfl (o_val (v := (.bool (!(decide ((((dirs (at_ : Int).toNat ((2 * ((digsOf s).length) : Nat) : Int).toNat).length : Nat) : Int) = ((n37 : Nat) : Int)))))) hF1401 rfl (wanted_guard rfl rfl rfl hF1401 rfl rfl rfl) rfl rfl (rn_not' (hF1401.get rfl) rfl) ?_)
              intro a1402 hF1403; clear hF1401
              refine wpl_op (i := 7) rfl (o_val (v := (.bool (!(decide ((((dirs (at_ : Int).toNat ((2 * ((digsOf s).length) : Nat) : Int).toNat).length : Nat) : Int) = ((n37 : Nat) : Int)))))) hF1403 rfl (wanted_guard rfl rfl rfl hF1403 rfl rfl rfl) rfl rfl (rn_move (hF1403.get rfl)) ?_)
              intro a1404 hF1405; clear hF1403
              refine wpl_op (i := 8) rfl (o_skip hF1405 rfl (unwanted_guard rfl rfl rfl hF1405 rfl (not_t (decide_eq_true hc1394)) rfl) rfl rfl ?_)
              intro a1406 hF1407; clear hF1405
              refine wpl_op (i := 9) rfl (o_skip hF1407 rfl (unwanted_guard rfl rfl rfl hF1407 rfl (not_t (decide_eq_true hc1394)) rfl) rfl rfl ?_)
              intro a1408 hF1409; clear hF1407
              refine wpl_op (i := 10) rfl (o_val (v := (.bool false)) hF1409 rfl (wanted_guard rfl rfl rfl hF1409 rfl rfl rfl) rfl rfl (rn_pickF (c_false hF1409 rfl (not_t (decide_eq_true hc1394))) rfl) ?_)
              intro a1410 hF1411; clear hF1409
              refine wpl_op (i := 11) rfl (o_val (v := (.bool false)) hF1411 rfl rfl rfl rfl (rn_pickF (c_false hF1411 rfl rfl) (hF1411.get rfl)) ?_)
              intro a1412 hF1413; clear hF1411
              refine wpList_nil ?_
              refine hK1387 _ _ ?_
              clear hK1387
              have hF1414 := ((((((((((((((((((hF1413.nil.cons (hF1413.get (t := 103) (v := (.bool false)) rfl)).cons (hF1413.get (t := 14) (v := (.int .i64 ((climbF ((digsOf s).getD ((at_ : Int).toNat) []) at_ (2 * ((digsOf s).length) : Nat) ((pathF (digsOf s) at_).1)).2))) rfl)).cons (hF1413.get (t := 12) (v := (.bool (decide ((((dirs (at_ : Int).toNat ((2 * ((digsOf s).length) : Nat) : Int).toNat).length : Nat) : Int) = ((n37 : Nat) : Int))))) rfl)).cons (hF1413.get (t := 11) (v := (.int .i64 (2 * ((digsOf s).length) : Nat))) rfl)).cons (hF1413.get (t := 63) (v := (.bool true)) rfl)).cons (hF1413.get (t := 62) (v := (.int .i64 3)) rfl)).cons (hF1413.get (t := 61) (v := (.int .i64 4)) rfl)).cons (hF1413.get (t := 60) (v := (.slice (some ⟨g181, 0, none⟩) 4 4)) rfl)).cons (hF1413.get (t := 50) (v := (.bool (decide (((n37 : Nat) : Int) ≠ (((dirs (at_ : Int).toNat (((digsOf s).length : Nat) : Int).toNat).length : Nat) : Int))))) rfl)).cons (hF1413.get (t := 32) (v := (.bool (decide ((((digsOf s).length : Nat) : Int) ≤ (at_ : Int))))) rfl)).cons (hF1413.get (t := 9) (v := (.int .i64 ((pathF (digsOf s) at_).2))) rfl)).cons (hF1413.get (t := 8) (v := (.slice A36 n37 c38)) rfl)).cons (hF1413.get (t := 7) (v := (.slice A17 ((digsOf s).length) c18)) rfl)).cons (hF1413.get (t := 16) (v := (.bool false)) rfl)).cons (hF1413.get (t := 6) (v := (.bool false)) rfl)).cons (hF1413.get (t := 2) (v := (.int .i64 n)) rfl)).cons (hF1413.get (t := 1) (v := (.int .i64 at_)) rfl)).cons (hF1413.get (t := 0) (v := (.slice A s.length c)) rfl))
              clear hF1413
              refine wp_cond_false (c_false hF1414 rfl rfl) ?_
              refine wp_skip ?_
              refine hK1294 _ _ ?_
              clear hK1294
              refine wp_region_lit ?_
              refine wpl_op (i := 0) rfl (o_val (v := (.int .i64 4)) hF1414 rfl rfl rfl rfl (rn_add (hF1414.get rfl) rfl (by omega) (by omega)) ?_)
              intro a1415 hF1416; clear hF1414
              refine wpl_op (i := 1) rfl (o_val (v := (.int .i64 4)) hF1416 rfl rfl rfl rfl (rn_move (hF1416.get rfl)) ?_)
              intro a1417 hF1418; clear hF1416
              refine wpList_nil ?_
              have d1419 := (hf203.pres (((((Pres.refl w198).ext hx1326).ext hx1362).ext hx1375).grownN hg1382 (fun h => by simp only [Clip] at h; omega)))
              have d1420 := (hf204.pres (((((Pres.refl w198).ext hx1326).ext hx1362).ext hx1375).grownN hg1382 (fun h => by simp only [Clip] at h; omega)))
              have b1421 : Blk w1380 g181 3 [(.int .i64 n), (.int .i64 (andI (n) (31))), (.int .i64 (((digsOf s).length) + 1 : Nat)), (.int .i64 (2 * ((digsOf s).length) : Nat))] := ((((b202.ext hx1326).ext hx1362).ext hx1375).grownN hg1382 (by omega))
              refine ⟨⟨4, (((((((((((((hF1418.nil.cons (q_get hF1418 (t := 62) rfl (by first | rfl | (congr 1; omega) | (congr 1; done)))).cons (q_get hF1418 (t := 61) rfl rfl)).cons (q_get hF1418 (t := 60) rfl rfl)).cons (q_get hF1418 (t := 50) rfl rfl)).cons (q_get hF1418 (t := 32) rfl rfl)).cons (q_get hF1418 (t := 9) rfl rfl)).cons (q_get hF1418 (t := 8) rfl rfl)).cons (q_get hF1418 (t := 7) rfl rfl)).cons (q_get hF1418 (t := 16) rfl rfl)).cons (q_get hF1418 (t := 6) rfl rfl)).cons (q_get hF1418 (t := 2) rfl rfl)).cons (q_get hF1418 (t := 1) rfl rfl)).cons (q_get hF1418 (t := 0) rfl rfl)), (by omega), ((((((Ext.refl w).trans hx200).trans hx1326).trans hx1362).trans hx1375).grownN hg1382 (by omega)), b1421, d1419, d1420, (by omega)⟩, ?_⟩
              rw [hF1418.get (t := 62) rfl, hL206.get (t := 62) rfl]; simp [intOf] <;> omega
            · skip
              refine wpl_op (i := 3) rfl (o_val (v := (.bool false)) hF1393 rfl rfl rfl rfl (rn_neB Tryd.underlying4 (hF1393.get rfl) (hF1393.get rfl) (show _ = false from (decide_eq_false hc1394)) (show _ = false from ((decide_eq_false (by rw [climbF, if_pos (by omega)]; simp)) : decide (((climbF ((digsOf s).getD ((at_ : Int).toNat) []) at_ (2 * ((digsOf s).length) : Nat) ((pathF (digsOf s) at_).1)).2 : Int) = (0 : Int)) = false)) rfl) ?_)
              intro a1423 hF1424; clear hF1393
              refine wpl_op (i := 4) rfl (o_val (v := (.bool false)) hF1424 rfl rfl rfl rfl (rn_move (hF1424.get rfl)) ?_)
              intro a1425 hF1426; clear hF1424
              refine wpl_op (i := 5) rfl (o_val (v := (.bool (decide ((((dirs (at_ : Int).toNat ((2 * ((digsOf s).length) : Nat) : Int).toNat).length : Nat) : Int) = ((n37 : Nat) : Int))))) hF1426 rfl (wanted_guard rfl rfl rfl hF1426 rfl rfl rfl) rfl rfl (rn_move (hF1426.get rfl)) ?_)
              intro a1427 hF1428; clear hF1426
              refine wpl_op (i := 6) rfl (o_val (v := (.bool (!(decide ((((dirs (at_ : Int).toNat ((2 * ((digsOf s).length) : Nat) : Int).toNat).length : Nat) : Int) = ((n37 : Nat) : Int)))))) hF1428 rfl (wanted_guard rfl rfl rfl hF1428 rfl rfl rfl) rfl rfl (rn_not' (hF1428.get rfl) rfl) ?_)
              intro a1429 hF1430; clear hF1428
              refine wpl_op (i := 7) rfl (o_val (v := (.bool (!(decide ((((dirs (at_ : Int).toNat ((2 * ((digsOf s).length) : Nat) : Int).toNat).length : Nat) : Int) = ((n37 : Nat) : Int)))))) hF1430 rfl (wanted_guard rfl rfl rfl hF1430 rfl rfl rfl) rfl rfl (rn_move (hF1430.get rfl)) ?_)
              intro a1431 hF1432; clear hF1430
              refine wpl_op (i := 8) rfl (o_val (v := (.int .i64 ((climbF ((digsOf s).getD ((at_ : Int).toNat) []) at_ (2 * ((digsOf s).length) : Nat) ((pathF (digsOf s) at_).1)).2))) hF1432 rfl (wanted_guard rfl rfl rfl hF1432 rfl (not_f (decide_eq_false hc1394)) rfl) rfl rfl (rn_move (hF1432.get rfl)) ?_)
              intro a1433 hF1434; clear hF1432
              refine wpl_op (i := 9) rfl (o_val (v := (.bool (decide (((climbF ((digsOf s).getD ((at_ : Int).toNat) []) at_ (2 * ((digsOf s).length) : Nat) ((pathF (digsOf s) at_).1)).2 : Int) ≠ (1 : Int))))) hF1434 rfl (wanted_guard rfl rfl rfl hF1434 rfl (not_f (decide_eq_false hc1394)) rfl) rfl rfl (rn_neq (hF1434.get rfl) rfl) ?_)
              intro a1435 hF1436; clear hF1434
              refine wpl_op (i := 10) rfl (o_val (v := (.bool (decide (((climbF ((digsOf s).getD ((at_ : Int).toNat) []) at_ (2 * ((digsOf s).length) : Nat) ((pathF (digsOf s) at_).1)).2 : Int) ≠ (1 : Int))))) hF1436 rfl (wanted_guard rfl rfl rfl hF1436 rfl rfl rfl) rfl rfl (rn_pickT (c_true hF1436 rfl (not_f (decide_eq_false hc1394))) (hF1436.get rfl)) ?_)
              intro a1437 hF1438; clear hF1436
              refine wpl_op (i := 11) rfl (o_val (v := (.bool (decide (((climbF ((digsOf s).getD ((at_ : Int).toNat) []) at_ (2 * ((digsOf s).length) : Nat) ((pathF (digsOf s) at_).1)).2 : Int) ≠ (1 : Int))))) hF1438 rfl rfl rfl rfl (rn_pickF (c_false hF1438 rfl rfl) (hF1438.get rfl)) ?_)
              intro a1439 hF1440; clear hF1438
              refine wpList_nil ?_
              refine hK1387 _ _ ?_
              clear hK1387
              have hF1441 := ((((((((((((((((((hF1440.nil.cons (hF1440.get (t := 103) (v := (.bool (decide (((climbF ((digsOf s).getD ((at_ : Int).toNat) []) at_ (2 * ((digsOf s).length) : Nat) ((pathF (digsOf s) at_).1)).2 : Int) ≠ (1 : Int))))) rfl)).cons (hF1440.get (t := 14) (v := (.int .i64 ((climbF ((digsOf s).getD ((at_ : Int).toNat) []) at_ (2 * ((digsOf s).length) : Nat) ((pathF (digsOf s) at_).1)).2))) rfl)).cons (hF1440.get (t := 12) (v := (.bool (decide ((((dirs (at_ : Int).toNat ((2 * ((digsOf s).length) : Nat) : Int).toNat).length : Nat) : Int) = ((n37 : Nat) : Int))))) rfl)).cons (hF1440.get (t := 11) (v := (.int .i64 (2 * ((digsOf s).length) : Nat))) rfl)).cons (hF1440.get (t := 63) (v := (.bool true)) rfl)).cons (hF1440.get (t := 62) (v := (.int .i64 3)) rfl)).cons (hF1440.get (t := 61) (v := (.int .i64 4)) rfl)).cons (hF1440.get (t := 60) (v := (.slice (some ⟨g181, 0, none⟩) 4 4)) rfl)).cons (hF1440.get (t := 50) (v := (.bool (decide (((n37 : Nat) : Int) ≠ (((dirs (at_ : Int).toNat (((digsOf s).length : Nat) : Int).toNat).length : Nat) : Int))))) rfl)).cons (hF1440.get (t := 32) (v := (.bool (decide ((((digsOf s).length : Nat) : Int) ≤ (at_ : Int))))) rfl)).cons (hF1440.get (t := 9) (v := (.int .i64 ((pathF (digsOf s) at_).2))) rfl)).cons (hF1440.get (t := 8) (v := (.slice A36 n37 c38)) rfl)).cons (hF1440.get (t := 7) (v := (.slice A17 ((digsOf s).length) c18)) rfl)).cons (hF1440.get (t := 16) (v := (.bool false)) rfl)).cons (hF1440.get (t := 6) (v := (.bool false)) rfl)).cons (hF1440.get (t := 2) (v := (.int .i64 n)) rfl)).cons (hF1440.get (t := 1) (v := (.int .i64 at_)) rfl)).cons (hF1440.get (t := 0) (v := (.slice A s.length c)) rfl))
              clear hF1440
              refine wp_cond_false (c_false hF1441 rfl ((decide_eq_false (by rw [climbF, if_pos (by omega)]; simp)) : decide (((climbF ((digsOf s).getD ((at_ : Int).toNat) []) at_ (2 * ((digsOf s).length) : Nat) ((pathF (digsOf s) at_).1)).2 : Int) ≠ (1 : Int)) = false)) ?_
              refine wp_skip ?_
              refine hK1294 _ _ ?_
              clear hK1294
              refine wp_region_lit ?_
              refine wpl_op (i := 0) rfl (o_val (v := (.int .i64 4)) hF1441 rfl rfl rfl rfl (rn_add (hF1441.get rfl) rfl (by omega) (by omega)) ?_)
              intro a1443 hF1444; clear hF1441
              refine wpl_op (i := 1) rfl (o_val (v := (.int .i64 4)) hF1444 rfl rfl rfl rfl (rn_move (hF1444.get rfl)) ?_)
              intro a1445 hF1446; clear hF1444
              refine wpList_nil ?_
              have d1447 := (hf203.pres (((((Pres.refl w198).ext hx1326).ext hx1362).ext hx1375).grownN hg1382 (fun h => by simp only [Clip] at h; omega)))
              have d1448 := (hf204.pres (((((Pres.refl w198).ext hx1326).ext hx1362).ext hx1375).grownN hg1382 (fun h => by simp only [Clip] at h; omega)))
              have b1449 : Blk w1380 g181 3 [(.int .i64 n), (.int .i64 (andI (n) (31))), (.int .i64 (((digsOf s).length) + 1 : Nat)), (.int .i64 (2 * ((digsOf s).length) : Nat))] := ((((b202.ext hx1326).ext hx1362).ext hx1375).grownN hg1382 (by omega))
              refine ⟨⟨4, (((((((((((((hF1446.nil.cons (q_get hF1446 (t := 62) rfl (by first | rfl | (congr 1; omega) | (congr 1; done)))).cons (q_get hF1446 (t := 61) rfl rfl)).cons (q_get hF1446 (t := 60) rfl rfl)).cons (q_get hF1446 (t := 50) rfl rfl)).cons (q_get hF1446 (t := 32) rfl rfl)).cons (q_get hF1446 (t := 9) rfl rfl)).cons (q_get hF1446 (t := 8) rfl rfl)).cons (q_get hF1446 (t := 7) rfl rfl)).cons (q_get hF1446 (t := 16) rfl rfl)).cons (q_get hF1446 (t := 6) rfl rfl)).cons (q_get hF1446 (t := 2) rfl rfl)).cons (q_get hF1446 (t := 1) rfl rfl)).cons (q_get hF1446 (t := 0) rfl rfl)), (by omega), ((((((Ext.refl w).trans hx200).trans hx1326).trans hx1362).trans hx1375).grownN hg1382 (by omega)), b1449, d1447, d1448, (by omega)⟩, ?_⟩
              rw [hF1446.get (t := 62) rfl, hL206.get (t := 62) rfl]; simp [intOf] <;> omega
          · skip
            refine wpl_op (i := 8) rfl (o_skip hF1319 rfl (unwanted_guard rfl rfl rfl hF1319 rfl (decide_eq_false hc1320) rfl) rfl rfl ?_)
            intro a1450 hF1451; clear hF1319
            refine wpl_op (i := 9) rfl (o_skip hF1451 rfl (unwanted_guard rfl rfl rfl hF1451 rfl (decide_eq_false hc1320) rfl) rfl rfl ?_)
            intro a1452 hF1453; clear hF1451
            refine wpl_op (i := 10) rfl (o_skip hF1453 rfl (unwanted_guard rfl rfl rfl hF1453 rfl (decide_eq_false hc1320) rfl) rfl rfl ?_)
            intro a1454 hF1455; clear hF1453
            refine wpl_op (i := 11) rfl (o_skip hF1455 rfl (unwanted_guard rfl rfl rfl hF1455 rfl (decide_eq_false hc1320) rfl) rfl rfl ?_)
            intro a1456 hF1457; clear hF1455
            refine wpl_op (i := 12) rfl (o_skip hF1457 rfl (unwanted_guard rfl rfl rfl hF1457 rfl (decide_eq_false hc1320) rfl) rfl rfl ?_)
            intro a1458 hF1459; clear hF1457
            refine wpl_op (i := 13) rfl (o_skip hF1459 rfl (unwanted_guard rfl rfl rfl hF1459 rfl (decide_eq_false hc1320) rfl) rfl rfl ?_)
            intro a1460 hF1461; clear hF1459
            refine wpl_op (i := 14) rfl (o_val (v := (.bool false)) hF1461 rfl rfl rfl rfl (rn_pickF (c_false hF1461 rfl (decide_eq_false hc1320)) rfl) ?_)
            intro a1462 hF1463; clear hF1461
            refine wpl_op (i := 15) rfl (o_val (v := (.bool false)) hF1463 rfl rfl rfl rfl (rn_assign (hF1463.get rfl)) ?_)
            intro a1464 hF1465; clear hF1463
            refine wpList_nil ?_
            refine hK1302 _ _ ?_
            clear hK1302
            have hF1466 := ((((((((((((((((hF1465.nil.cons (hF1465.get (t := 12) (v := (.bool false)) rfl)).cons (hF1465.get (t := 11) (v := (.int .i64 (2 * ((digsOf s).length) : Nat))) rfl)).cons (hF1465.get (t := 63) (v := (.bool true)) rfl)).cons (hF1465.get (t := 62) (v := (.int .i64 3)) rfl)).cons (hF1465.get (t := 61) (v := (.int .i64 4)) rfl)).cons (hF1465.get (t := 60) (v := (.slice (some ⟨g181, 0, none⟩) 4 4)) rfl)).cons (hF1465.get (t := 50) (v := (.bool (decide (((n37 : Nat) : Int) ≠ (((dirs (at_ : Int).toNat (((digsOf s).length : Nat) : Int).toNat).length : Nat) : Int))))) rfl)).cons (hF1465.get (t := 32) (v := (.bool (decide ((((digsOf s).length : Nat) : Int) ≤ (at_ : Int))))) rfl)).cons (hF1465.get (t := 9) (v := (.int .i64 ((pathF (digsOf s) at_).2))) rfl)).cons (hF1465.get (t := 8) (v := (.slice A36 n37 c38)) rfl)).cons (hF1465.get (t := 7) (v := (.slice A17 ((digsOf s).length) c18)) rfl)).cons (hF1465.get (t := 16) (v := (.bool false)) rfl)).cons (hF1465.get (t := 6) (v := (.bool false)) rfl)).cons (hF1465.get (t := 2) (v := (.int .i64 n)) rfl)).cons (hF1465.get (t := 1) (v := (.int .i64 at_)) rfl)).cons (hF1465.get (t := 0) (v := (.slice A s.length c)) rfl))
            clear hF1465
            refine wp_seq_k (fun K1467 hK1467 => ?_)
            refine wp_region_lit ?_
            refine wpl_op (i := 0) rfl (o_val (v := (.slice A17 ((digsOf s).length) c18)) hF1466 rfl rfl rfl rfl (rn_move (hF1466.get rfl)) ?_)
            intro a1468 hF1469; clear hF1466
            refine wpl_op (i := 1) rfl (o_val (v := (.int .i64 at_)) hF1469 rfl rfl rfl rfl (rn_move (hF1469.get rfl)) ?_)
            intro a1470 hF1471; clear hF1469
            obtain ⟨b1472, o1473, hA1474, -⟩ := Fl.at hf203 (by omega)
            refine wpl_op (i := 2) rfl (o_val (v := (.pointer (some ⟨b1472, o1473 + (at_ : Int).toNat * 32, none⟩))) hF1471 rfl rfl rfl rfl (rn_indexE Tryd.underlying30 (by kernel_rfl : (Tryd.prog.info? 26).map (·.size) = some 32) ((hF1471.get rfl).trans (by rw [hA1474])) (hF1471.get rfl) (by omega : (0 : Int) ≤ at_) (by omega : (at_ : Int) < (((digsOf s).length : Nat) : Int)) (by omega)) ?_)
            intro a1475 hF1476; clear hF1471
            refine wpl_op (i := 3) rfl (o_val (v := (.agg (byteVals ((digsOf s).getD ((at_ : Int).toNat) [])).toArray)) hF1476 rfl rfl rfl rfl (rn_loadN (cs := byteVals ((digsOf s).getD ((at_ : Int).toNat) [])) (hF1476.get rfl) Tryd.underlying26 rfl ((by kernel_rfl : (Tryd.prog.info? 26).map (·.size) = some 32).trans (congrArg some (byteVals_len (dig_len (digsOf_32 _) ((at_ : Int).toNat) (by omega))).symm)) (Fl.digAt hf203 hA1474 (digsOf_32 _) (by omega))) ?_)
            intro a1477 hF1478; clear hF1476
            refine wpl_op (i := 4) rfl (o_val (v := (.int .i64 at_)) hF1478 rfl rfl rfl rfl (rn_move (hF1478.get rfl)) ?_)
            intro a1479 hF1480; clear hF1478
            refine wpl_op (i := 5) rfl (o_val (v := (.int .i64 (2 * ((digsOf s).length) : Nat))) hF1480 rfl rfl rfl rfl (rn_move (hF1480.get rfl)) ?_)
            intro a1481 hF1482; clear hF1480
            refine wpl_op (i := 6) rfl (o_val (v := (.slice A36 n37 c38)) hF1482 rfl rfl rfl rfl (rn_move (hF1482.get rfl)) ?_)
            intro a1483 hF1484; clear hF1482
            refine wpl_op (i := 7) rfl (o_call hF1484 rfl rfl rfl rfl (rn_call (args4 (hF1484.get rfl) (hF1484.get rfl) (hF1484.get rfl) (hF1484.get rfl)) rfl (by kernel_rfl)) (climb_at ((digsOf s).getD ((at_ : Int).toNat) []) at_ (2 * ((digsOf s).length) : Nat) ((pathF (digsOf s) at_).1) _ (v := (.slice A36 n37 c38)) (m := n37) (dig_len (digsOf_32 _) ((at_ : Int).toNat) (by omega)) (pathF_32 (digsOf s) at_) hf204 (hG.ext ((Ext.refl w).trans hx200))) ?_)
            rintro _ w1485 ⟨rfl, hx1486⟩
            refine ⟨_, rfl, ?_⟩; intro a1487 hF1488; clear hF1484; have z1489 := hx1486.size
            refine wpl_op (i := 8) rfl (o_val (v := (.tuple #[(.agg (byteVals ((climbF ((digsOf s).getD ((at_ : Int).toNat) []) at_ (2 * ((digsOf s).length) : Nat) ((pathF (digsOf s) at_).1)).1)).toArray), (.int .i64 ((climbF ((digsOf s).getD ((at_ : Int).toNat) []) at_ (2 * ((digsOf s).length) : Nat) ((pathF (digsOf s) at_).1)).2))])) hF1488 rfl rfl rfl rfl (rn_move (hF1488.get rfl)) ?_)
            intro a1490 hF1491; clear hF1488
            refine wpl_op (i := 9) rfl (o_val (v := (.agg (byteVals ((climbF ((digsOf s).getD ((at_ : Int).toNat) []) at_ (2 * ((digsOf s).length) : Nat) ((pathF (digsOf s) at_).1)).1)).toArray)) hF1491 rfl rfl rfl rfl (rn_extract (hF1491.get rfl) rfl) ?_)
            intro a1492 hF1493; clear hF1491
            refine wpl_op (i := 10) rfl (o_val (v := (.int .i64 ((climbF ((digsOf s).getD ((at_ : Int).toNat) []) at_ (2 * ((digsOf s).length) : Nat) ((pathF (digsOf s) at_).1)).2))) hF1493 rfl rfl rfl rfl (rn_extract (hF1493.get rfl) rfl) ?_)
            intro a1494 hF1495; clear hF1493
            refine wpl_op (i := 11) rfl (o_new (fun g => (.pointer (some ⟨g, 0, none⟩))) (byteVals (List.replicate 32 0)) 26 hF1495 rfl rfl rfl rfl (by kernel_rfl) ?_)
            intro g1496 w1497 a1502 hF1503 z1500 z1501 b1498 hx1499; clear hF1495
            refine wpl_op (i := 12) rfl (o_store (cells := (byteVals ((climbF ((digsOf s).getD ((at_ : Int).toNat) []) at_ (2 * ((digsOf s).length) : Nat) ((pathF (digsOf s) at_).1)).1))) hF1503 rfl rfl rfl rfl (hF1503.get rfl) (hF1503.get rfl) b1498 ((by kernel_rfl : (Tryd.prog.info? 26).map (·.size) = some 32).trans (congrArg some (byteVals_len (climbF_len _ _ _ _)).symm)) ((byteVals_len (show List.length (List.replicate 32 0) = _ from List.length_replicate)).trans (byteVals_len (climbF_len _ _ _ _)).symm) (byteVals_one _) ?_)
            intro w1504 b1505 hg1506; have z1507 := hg1506.size
            refine wpl_op (i := 13) rfl (o_val (v := (.int .i64 ((climbF ((digsOf s).getD ((at_ : Int).toNat) []) at_ (2 * ((digsOf s).length) : Nat) ((pathF (digsOf s) at_).1)).2))) hF1503 rfl rfl rfl rfl (rn_assign (hF1503.get rfl)) ?_)
            intro a1508 hF1509; clear hF1503
            refine wpList_nil ?_
            refine hK1467 _ _ ?_
            clear hK1467
            have hF1510 := (((((((((((((((((hF1509.nil.cons (hF1509.get (t := 14) (v := (.int .i64 ((climbF ((digsOf s).getD ((at_ : Int).toNat) []) at_ (2 * ((digsOf s).length) : Nat) ((pathF (digsOf s) at_).1)).2))) rfl)).cons (hF1509.get (t := 12) (v := (.bool false)) rfl)).cons (hF1509.get (t := 11) (v := (.int .i64 (2 * ((digsOf s).length) : Nat))) rfl)).cons (hF1509.get (t := 63) (v := (.bool true)) rfl)).cons (hF1509.get (t := 62) (v := (.int .i64 3)) rfl)).cons (hF1509.get (t := 61) (v := (.int .i64 4)) rfl)).cons (hF1509.get (t := 60) (v := (.slice (some ⟨g181, 0, none⟩) 4 4)) rfl)).cons (hF1509.get (t := 50) (v := (.bool (decide (((n37 : Nat) : Int) ≠ (((dirs (at_ : Int).toNat (((digsOf s).length : Nat) : Int).toNat).length : Nat) : Int))))) rfl)).cons (hF1509.get (t := 32) (v := (.bool (decide ((((digsOf s).length : Nat) : Int) ≤ (at_ : Int))))) rfl)).cons (hF1509.get (t := 9) (v := (.int .i64 ((pathF (digsOf s) at_).2))) rfl)).cons (hF1509.get (t := 8) (v := (.slice A36 n37 c38)) rfl)).cons (hF1509.get (t := 7) (v := (.slice A17 ((digsOf s).length) c18)) rfl)).cons (hF1509.get (t := 16) (v := (.bool false)) rfl)).cons (hF1509.get (t := 6) (v := (.bool false)) rfl)).cons (hF1509.get (t := 2) (v := (.int .i64 n)) rfl)).cons (hF1509.get (t := 1) (v := (.int .i64 at_)) rfl)).cons (hF1509.get (t := 0) (v := (.slice A s.length c)) rfl))
            clear hF1509
            refine wp_seq_k (fun K1511 hK1511 => ?_)
            refine wp_region_lit ?_
            refine wpl_op (i := 0) rfl (o_val (v := (.bool false)) hF1510 rfl rfl rfl rfl (rn_move (hF1510.get rfl)) ?_)
            intro a1512 hF1513; clear hF1510
            refine wpl_op (i := 1) rfl (o_val (v := (.int .i64 ((climbF ((digsOf s).getD ((at_ : Int).toNat) []) at_ (2 * ((digsOf s).length) : Nat) ((pathF (digsOf s) at_).1)).2))) hF1513 rfl rfl rfl rfl (rn_move (hF1513.get rfl)) ?_)
            intro a1514 hF1515; clear hF1513
            refine wpl_op (i := 2) rfl (o_val (v := (.bool (decide (((climbF ((digsOf s).getD ((at_ : Int).toNat) []) at_ (2 * ((digsOf s).length) : Nat) ((pathF (digsOf s) at_).1)).2 : Int) = (0 : Int))))) hF1515 rfl rfl rfl rfl (rn_eql (hF1515.get rfl) rfl) ?_)
            intro a1516 hF1517; clear hF1515
            refine wpl_op (i := 3) rfl (o_val (v := (.bool false)) hF1517 rfl rfl rfl rfl (rn_neB Tryd.underlying4 (hF1517.get rfl) (hF1517.get rfl) (show _ = false from rfl) (show _ = false from ((decide_eq_false (by rw [climbF, if_pos (by omega)]; simp)) : decide (((climbF ((digsOf s).getD ((at_ : Int).toNat) []) at_ (2 * ((digsOf s).length) : Nat) ((pathF (digsOf s) at_).1)).2 : Int) = (0 : Int)) = false)) rfl) ?_)
            intro a1519 hF1520; clear hF1517
            refine wpl_op (i := 4) rfl (o_val (v := (.bool false)) hF1520 rfl rfl rfl rfl (rn_move (hF1520.get rfl)) ?_)
            intro a1521 hF1522; clear hF1520
            refine wpl_op (i := 5) rfl (o_val (v := (.bool false)) hF1522 rfl (wanted_guard rfl rfl rfl hF1522 rfl rfl rfl) rfl rfl (rn_move (hF1522.get rfl)) ?_)
            intro a1523 hF1524; clear hF1522
            refine wpl_op (i := 6) rfl (o_val (v := (.bool true)) hF1524 rfl (wanted_guard rfl rfl rfl hF1524 rfl rfl rfl) rfl rfl (rn_not' (hF1524.get rfl) rfl) ?_)
            intro a1525 hF1526; clear hF1524
            refine wpl_op (i := 7) rfl (o_val (v := (.bool true)) hF1526 rfl (wanted_guard rfl rfl rfl hF1526 rfl rfl rfl) rfl rfl (rn_move (hF1526.get rfl)) ?_)
            intro a1527 hF1528; clear hF1526
            refine wpl_op (i := 8) rfl (o_val (v := (.int .i64 ((climbF ((digsOf s).getD ((at_ : Int).toNat) []) at_ (2 * ((digsOf s).length) : Nat) ((pathF (digsOf s) at_).1)).2))) hF1528 rfl (wanted_guard rfl rfl rfl hF1528 rfl rfl rfl) rfl rfl (rn_move (hF1528.get rfl)) ?_)
            intro a1529 hF1530; clear hF1528
            refine wpl_op (i := 9) rfl (o_val (v := (.bool (decide (((climbF ((digsOf s).getD ((at_ : Int).toNat) []) at_ (2 * ((digsOf s).length) : Nat) ((pathF (digsOf s) at_).1)).2 : Int) ≠ (1 : Int))))) hF1530 rfl (wanted_guard rfl rfl rfl hF1530 rfl rfl rfl) rfl rfl (rn_neq (hF1530.get rfl) rfl) ?_)
            intro a1531 hF1532; clear hF1530
            refine wpl_op (i := 10) rfl (o_val (v := (.bool (decide (((climbF ((digsOf s).getD ((at_ : Int).toNat) []) at_ (2 * ((digsOf s).length) : Nat) ((pathF (digsOf s) at_).1)).2 : Int) ≠ (1 : Int))))) hF1532 rfl (wanted_guard rfl rfl rfl hF1532 rfl rfl rfl) rfl rfl (rn_pickT (c_true hF1532 rfl rfl) (hF1532.get rfl)) ?_)
            intro a1533 hF1534; clear hF1532
            refine wpl_op (i := 11) rfl (o_val (v := (.bool (decide (((climbF ((digsOf s).getD ((at_ : Int).toNat) []) at_ (2 * ((digsOf s).length) : Nat) ((pathF (digsOf s) at_).1)).2 : Int) ≠ (1 : Int))))) hF1534 rfl rfl rfl rfl (rn_pickF (c_false hF1534 rfl rfl) (hF1534.get rfl)) ?_)
            intro a1535 hF1536; clear hF1534
            refine wpList_nil ?_
            refine hK1511 _ _ ?_
            clear hK1511
            have hF1537 := ((((((((((((((((((hF1536.nil.cons (hF1536.get (t := 103) (v := (.bool (decide (((climbF ((digsOf s).getD ((at_ : Int).toNat) []) at_ (2 * ((digsOf s).length) : Nat) ((pathF (digsOf s) at_).1)).2 : Int) ≠ (1 : Int))))) rfl)).cons (hF1536.get (t := 14) (v := (.int .i64 ((climbF ((digsOf s).getD ((at_ : Int).toNat) []) at_ (2 * ((digsOf s).length) : Nat) ((pathF (digsOf s) at_).1)).2))) rfl)).cons (hF1536.get (t := 12) (v := (.bool false)) rfl)).cons (hF1536.get (t := 11) (v := (.int .i64 (2 * ((digsOf s).length) : Nat))) rfl)).cons (hF1536.get (t := 63) (v := (.bool true)) rfl)).cons (hF1536.get (t := 62) (v := (.int .i64 3)) rfl)).cons (hF1536.get (t := 61) (v := (.int .i64 4)) rfl)).cons (hF1536.get (t := 60) (v := (.slice (some ⟨g181, 0, none⟩) 4 4)) rfl)).cons (hF1536.get (t := 50) (v := (.bool (decide (((n37 : Nat) : Int) ≠ (((dirs (at_ : Int).toNat (((digsOf s).length : Nat) : Int).toNat).length : Nat) : Int))))) rfl)).cons (hF1536.get (t := 32) (v := (.bool (decide ((((digsOf s).length : Nat) : Int) ≤ (at_ : Int))))) rfl)).cons (hF1536.get (t := 9) (v := (.int .i64 ((pathF (digsOf s) at_).2))) rfl)).cons (hF1536.get (t := 8) (v := (.slice A36 n37 c38)) rfl)).cons (hF1536.get (t := 7) (v := (.slice A17 ((digsOf s).length) c18)) rfl)).cons (hF1536.get (t := 16) (v := (.bool false)) rfl)).cons (hF1536.get (t := 6) (v := (.bool false)) rfl)).cons (hF1536.get (t := 2) (v := (.int .i64 n)) rfl)).cons (hF1536.get (t := 1) (v := (.int .i64 at_)) rfl)).cons (hF1536.get (t := 0) (v := (.slice A s.length c)) rfl))
            clear hF1536
            refine wp_cond_false (c_false hF1537 rfl ((decide_eq_false (by rw [climbF, if_pos (by omega)]; simp)) : decide (((climbF ((digsOf s).getD ((at_ : Int).toNat) []) at_ (2 * ((digsOf s).length) : Nat) ((pathF (digsOf s) at_).1)).2 : Int) ≠ (1 : Int)) = false)) ?_
            refine wp_skip ?_
            refine hK1294 _ _ ?_
            clear hK1294
            refine wp_region_lit ?_
            refine wpl_op (i := 0) rfl (o_val (v := (.int .i64 4)) hF1537 rfl rfl rfl rfl (rn_add (hF1537.get rfl) rfl (by omega) (by omega)) ?_)
            intro a1539 hF1540; clear hF1537
            refine wpl_op (i := 1) rfl (o_val (v := (.int .i64 4)) hF1540 rfl rfl rfl rfl (rn_move (hF1540.get rfl)) ?_)
            intro a1541 hF1542; clear hF1540
            refine wpList_nil ?_
            have d1543 := (hf203.pres ((((Pres.refl w198).ext hx1486).ext hx1499).grownN hg1506 (fun h => by simp only [Clip] at h; omega)))
            have d1544 := (hf204.pres ((((Pres.refl w198).ext hx1486).ext hx1499).grownN hg1506 (fun h => by simp only [Clip] at h; omega)))
            have b1545 : Blk w1504 g181 3 [(.int .i64 n), (.int .i64 (andI (n) (31))), (.int .i64 (((digsOf s).length) + 1 : Nat)), (.int .i64 (2 * ((digsOf s).length) : Nat))] := (((b202.ext hx1486).ext hx1499).grownN hg1506 (by omega))
            refine ⟨⟨4, (((((((((((((hF1542.nil.cons (q_get hF1542 (t := 62) rfl (by first | rfl | (congr 1; omega) | (congr 1; done)))).cons (q_get hF1542 (t := 61) rfl rfl)).cons (q_get hF1542 (t := 60) rfl rfl)).cons (q_get hF1542 (t := 50) rfl rfl)).cons (q_get hF1542 (t := 32) rfl rfl)).cons (q_get hF1542 (t := 9) rfl rfl)).cons (q_get hF1542 (t := 8) rfl rfl)).cons (q_get hF1542 (t := 7) rfl rfl)).cons (q_get hF1542 (t := 16) rfl rfl)).cons (q_get hF1542 (t := 6) rfl rfl)).cons (q_get hF1542 (t := 2) rfl rfl)).cons (q_get hF1542 (t := 1) rfl rfl)).cons (q_get hF1542 (t := 0) rfl rfl)), (by omega), (((((Ext.refl w).trans hx200).trans hx1486).trans hx1499).grownN hg1506 (by omega)), b1545, d1543, d1544, (by omega)⟩, ?_⟩
            rw [hF1542.get (t := 62) rfl, hL206.get (t := 62) rfl]; simp [intOf] <;> omega
        · skip
          refine wpl_op (i := 4) rfl (o_skip hF1310 rfl (unwanted_guard rfl rfl rfl hF1310 rfl (decide_eq_false hc1311) rfl) rfl rfl ?_)
          intro a1546 hF1547; clear hF1310
          refine wpl_op (i := 5) rfl (o_skip hF1547 rfl (unwanted_guard rfl rfl rfl hF1547 rfl (decide_eq_false hc1311) rfl) rfl rfl ?_)
          intro a1548 hF1549; clear hF1547
          refine wpl_op (i := 6) rfl (o_val (v := (.bool false)) hF1549 rfl rfl rfl rfl (rn_pickF (c_false hF1549 rfl (decide_eq_false hc1311)) rfl) ?_)
          intro a1550 hF1551; clear hF1549
          refine wpl_op (i := 7) rfl (o_val (v := (.bool false)) hF1551 rfl rfl rfl rfl (rn_move (hF1551.get rfl)) ?_)
          intro a1552 hF1553; clear hF1551
          refine wpl_op (i := 8) rfl (o_skip hF1553 rfl (unwanted_guard rfl rfl rfl hF1553 rfl rfl rfl) rfl rfl ?_)
          intro a1554 hF1555; clear hF1553
          refine wpl_op (i := 9) rfl (o_skip hF1555 rfl (unwanted_guard rfl rfl rfl hF1555 rfl rfl rfl) rfl rfl ?_)
          intro a1556 hF1557; clear hF1555
          refine wpl_op (i := 10) rfl (o_skip hF1557 rfl (unwanted_guard rfl rfl rfl hF1557 rfl rfl rfl) rfl rfl ?_)
          intro a1558 hF1559; clear hF1557
          refine wpl_op (i := 11) rfl (o_skip hF1559 rfl (unwanted_guard rfl rfl rfl hF1559 rfl rfl rfl) rfl rfl ?_)
          intro a1560 hF1561; clear hF1559
          refine wpl_op (i := 12) rfl (o_skip hF1561 rfl (unwanted_guard rfl rfl rfl hF1561 rfl rfl rfl) rfl rfl ?_)
          intro a1562 hF1563; clear hF1561
          refine wpl_op (i := 13) rfl (o_skip hF1563 rfl (unwanted_guard rfl rfl rfl hF1563 rfl rfl rfl) rfl rfl ?_)
          intro a1564 hF1565; clear hF1563
          refine wpl_op (i := 14) rfl (o_val (v := (.bool false)) hF1565 rfl rfl rfl rfl (rn_pickF (c_false hF1565 rfl rfl) rfl) ?_)
          intro a1566 hF1567; clear hF1565
          refine wpl_op (i := 15) rfl (o_val (v := (.bool false)) hF1567 rfl rfl rfl rfl (rn_assign (hF1567.get rfl)) ?_)
          intro a1568 hF1569; clear hF1567
          refine wpList_nil ?_
          refine hK1302 _ _ ?_
          clear hK1302
          have hF1570 := ((((((((((((((((hF1569.nil.cons (hF1569.get (t := 12) (v := (.bool false)) rfl)).cons (hF1569.get (t := 11) (v := (.int .i64 (2 * ((digsOf s).length) : Nat))) rfl)).cons (hF1569.get (t := 63) (v := (.bool true)) rfl)).cons (hF1569.get (t := 62) (v := (.int .i64 3)) rfl)).cons (hF1569.get (t := 61) (v := (.int .i64 4)) rfl)).cons (hF1569.get (t := 60) (v := (.slice (some ⟨g181, 0, none⟩) 4 4)) rfl)).cons (hF1569.get (t := 50) (v := (.bool (decide (((n37 : Nat) : Int) ≠ (((dirs (at_ : Int).toNat (((digsOf s).length : Nat) : Int).toNat).length : Nat) : Int))))) rfl)).cons (hF1569.get (t := 32) (v := (.bool (decide ((((digsOf s).length : Nat) : Int) ≤ (at_ : Int))))) rfl)).cons (hF1569.get (t := 9) (v := (.int .i64 ((pathF (digsOf s) at_).2))) rfl)).cons (hF1569.get (t := 8) (v := (.slice A36 n37 c38)) rfl)).cons (hF1569.get (t := 7) (v := (.slice A17 ((digsOf s).length) c18)) rfl)).cons (hF1569.get (t := 16) (v := (.bool false)) rfl)).cons (hF1569.get (t := 6) (v := (.bool false)) rfl)).cons (hF1569.get (t := 2) (v := (.int .i64 n)) rfl)).cons (hF1569.get (t := 1) (v := (.int .i64 at_)) rfl)).cons (hF1569.get (t := 0) (v := (.slice A s.length c)) rfl))
          clear hF1569
          refine wp_seq_k (fun K1571 hK1571 => ?_)
          refine wp_region_lit ?_
          refine wpl_op (i := 0) rfl (o_val (v := (.slice A17 ((digsOf s).length) c18)) hF1570 rfl rfl rfl rfl (rn_move (hF1570.get rfl)) ?_)
          intro a1572 hF1573; clear hF1570
          refine wpl_op (i := 1) rfl (o_val (v := (.int .i64 at_)) hF1573 rfl rfl rfl rfl (rn_move (hF1573.get rfl)) ?_)
          intro a1574 hF1575; clear hF1573
          obtain ⟨b1576, o1577, hA1578, -⟩ := Fl.at hf203 (by omega)
          refine wpl_op (i := 2) rfl (o_val (v := (.pointer (some ⟨b1576, o1577 + (at_ : Int).toNat * 32, none⟩))) hF1575 rfl rfl rfl rfl (rn_indexE Tryd.underlying30 (by kernel_rfl : (Tryd.prog.info? 26).map (·.size) = some 32) ((hF1575.get rfl).trans (by rw [hA1578])) (hF1575.get rfl) (by omega : (0 : Int) ≤ at_) (by omega : (at_ : Int) < (((digsOf s).length : Nat) : Int)) (by omega)) ?_)
          intro a1579 hF1580; clear hF1575
          refine wpl_op (i := 3) rfl (o_val (v := (.agg (byteVals ((digsOf s).getD ((at_ : Int).toNat) [])).toArray)) hF1580 rfl rfl rfl rfl (rn_loadN (cs := byteVals ((digsOf s).getD ((at_ : Int).toNat) [])) (hF1580.get rfl) Tryd.underlying26 rfl ((by kernel_rfl : (Tryd.prog.info? 26).map (·.size) = some 32).trans (congrArg some (byteVals_len (dig_len (digsOf_32 _) ((at_ : Int).toNat) (by omega))).symm)) (Fl.digAt hf203 hA1578 (digsOf_32 _) (by omega))) ?_)
          intro a1581 hF1582; clear hF1580
          refine wpl_op (i := 4) rfl (o_val (v := (.int .i64 at_)) hF1582 rfl rfl rfl rfl (rn_move (hF1582.get rfl)) ?_)
          intro a1583 hF1584; clear hF1582
          refine wpl_op (i := 5) rfl (o_val (v := (.int .i64 (2 * ((digsOf s).length) : Nat))) hF1584 rfl rfl rfl rfl (rn_move (hF1584.get rfl)) ?_)
          intro a1585 hF1586; clear hF1584
          refine wpl_op (i := 6) rfl (o_val (v := (.slice A36 n37 c38)) hF1586 rfl rfl rfl rfl (rn_move (hF1586.get rfl)) ?_)
          intro a1587 hF1588; clear hF1586
          refine wpl_op (i := 7) rfl (o_call hF1588 rfl rfl rfl rfl (rn_call (args4 (hF1588.get rfl) (hF1588.get rfl) (hF1588.get rfl) (hF1588.get rfl)) rfl (by kernel_rfl)) (climb_at ((digsOf s).getD ((at_ : Int).toNat) []) at_ (2 * ((digsOf s).length) : Nat) ((pathF (digsOf s) at_).1) _ (v := (.slice A36 n37 c38)) (m := n37) (dig_len (digsOf_32 _) ((at_ : Int).toNat) (by omega)) (pathF_32 (digsOf s) at_) hf204 (hG.ext ((Ext.refl w).trans hx200))) ?_)
          rintro _ w1589 ⟨rfl, hx1590⟩
          refine ⟨_, rfl, ?_⟩; intro a1591 hF1592; clear hF1588; have z1593 := hx1590.size
          refine wpl_op (i := 8) rfl (o_val (v := (.tuple #[(.agg (byteVals ((climbF ((digsOf s).getD ((at_ : Int).toNat) []) at_ (2 * ((digsOf s).length) : Nat) ((pathF (digsOf s) at_).1)).1)).toArray), (.int .i64 ((climbF ((digsOf s).getD ((at_ : Int).toNat) []) at_ (2 * ((digsOf s).length) : Nat) ((pathF (digsOf s) at_).1)).2))])) hF1592 rfl rfl rfl rfl (rn_move (hF1592.get rfl)) ?_)
          intro a1594 hF1595; clear hF1592
          refine wpl_op (i := 9) rfl (o_val (v := (.agg (byteVals ((climbF ((digsOf s).getD ((at_ : Int).toNat) []) at_ (2 * ((digsOf s).length) : Nat) ((pathF (digsOf s) at_).1)).1)).toArray)) hF1595 rfl rfl rfl rfl (rn_extract (hF1595.get rfl) rfl) ?_)
          intro a1596 hF1597; clear hF1595
          refine wpl_op (i := 10) rfl (o_val (v := (.int .i64 ((climbF ((digsOf s).getD ((at_ : Int).toNat) []) at_ (2 * ((digsOf s).length) : Nat) ((pathF (digsOf s) at_).1)).2))) hF1597 rfl rfl rfl rfl (rn_extract (hF1597.get rfl) rfl) ?_)
          intro a1598 hF1599; clear hF1597
          refine wpl_op (i := 11) rfl (o_new (fun g => (.pointer (some ⟨g, 0, none⟩))) (byteVals (List.replicate 32 0)) 26 hF1599 rfl rfl rfl rfl (by kernel_rfl) ?_)
          intro g1600 w1601 a1606 hF1607 z1604 z1605 b1602 hx1603; clear hF1599
          refine wpl_op (i := 12) rfl (o_store (cells := (byteVals ((climbF ((digsOf s).getD ((at_ : Int).toNat) []) at_ (2 * ((digsOf s).length) : Nat) ((pathF (digsOf s) at_).1)).1))) hF1607 rfl rfl rfl rfl (hF1607.get rfl) (hF1607.get rfl) b1602 ((by kernel_rfl : (Tryd.prog.info? 26).map (·.size) = some 32).trans (congrArg some (byteVals_len (climbF_len _ _ _ _)).symm)) ((byteVals_len (show List.length (List.replicate 32 0) = _ from List.length_replicate)).trans (byteVals_len (climbF_len _ _ _ _)).symm) (byteVals_one _) ?_)
          intro w1608 b1609 hg1610; have z1611 := hg1610.size
          refine wpl_op (i := 13) rfl (o_val (v := (.int .i64 ((climbF ((digsOf s).getD ((at_ : Int).toNat) []) at_ (2 * ((digsOf s).length) : Nat) ((pathF (digsOf s) at_).1)).2))) hF1607 rfl rfl rfl rfl (rn_assign (hF1607.get rfl)) ?_)
          intro a1612 hF1613; clear hF1607
          refine wpList_nil ?_
          refine hK1571 _ _ ?_
          clear hK1571
          have hF1614 := (((((((((((((((((hF1613.nil.cons (hF1613.get (t := 14) (v := (.int .i64 ((climbF ((digsOf s).getD ((at_ : Int).toNat) []) at_ (2 * ((digsOf s).length) : Nat) ((pathF (digsOf s) at_).1)).2))) rfl)).cons (hF1613.get (t := 12) (v := (.bool false)) rfl)).cons (hF1613.get (t := 11) (v := (.int .i64 (2 * ((digsOf s).length) : Nat))) rfl)).cons (hF1613.get (t := 63) (v := (.bool true)) rfl)).cons (hF1613.get (t := 62) (v := (.int .i64 3)) rfl)).cons (hF1613.get (t := 61) (v := (.int .i64 4)) rfl)).cons (hF1613.get (t := 60) (v := (.slice (some ⟨g181, 0, none⟩) 4 4)) rfl)).cons (hF1613.get (t := 50) (v := (.bool (decide (((n37 : Nat) : Int) ≠ (((dirs (at_ : Int).toNat (((digsOf s).length : Nat) : Int).toNat).length : Nat) : Int))))) rfl)).cons (hF1613.get (t := 32) (v := (.bool (decide ((((digsOf s).length : Nat) : Int) ≤ (at_ : Int))))) rfl)).cons (hF1613.get (t := 9) (v := (.int .i64 ((pathF (digsOf s) at_).2))) rfl)).cons (hF1613.get (t := 8) (v := (.slice A36 n37 c38)) rfl)).cons (hF1613.get (t := 7) (v := (.slice A17 ((digsOf s).length) c18)) rfl)).cons (hF1613.get (t := 16) (v := (.bool false)) rfl)).cons (hF1613.get (t := 6) (v := (.bool false)) rfl)).cons (hF1613.get (t := 2) (v := (.int .i64 n)) rfl)).cons (hF1613.get (t := 1) (v := (.int .i64 at_)) rfl)).cons (hF1613.get (t := 0) (v := (.slice A s.length c)) rfl))
          clear hF1613
          refine wp_seq_k (fun K1615 hK1615 => ?_)
          refine wp_region_lit ?_
          refine wpl_op (i := 0) rfl (o_val (v := (.bool false)) hF1614 rfl rfl rfl rfl (rn_move (hF1614.get rfl)) ?_)
          intro a1616 hF1617; clear hF1614
          refine wpl_op (i := 1) rfl (o_val (v := (.int .i64 ((climbF ((digsOf s).getD ((at_ : Int).toNat) []) at_ (2 * ((digsOf s).length) : Nat) ((pathF (digsOf s) at_).1)).2))) hF1617 rfl rfl rfl rfl (rn_move (hF1617.get rfl)) ?_)
          intro a1618 hF1619; clear hF1617
          refine wpl_op (i := 2) rfl (o_val (v := (.bool (decide (((climbF ((digsOf s).getD ((at_ : Int).toNat) []) at_ (2 * ((digsOf s).length) : Nat) ((pathF (digsOf s) at_).1)).2 : Int) = (0 : Int))))) hF1619 rfl rfl rfl rfl (rn_eql (hF1619.get rfl) rfl) ?_)
          intro a1620 hF1621; clear hF1619
          refine wpl_op (i := 3) rfl (o_val (v := (.bool false)) hF1621 rfl rfl rfl rfl (rn_neB Tryd.underlying4 (hF1621.get rfl) (hF1621.get rfl) (show _ = false from rfl) (show _ = false from ((decide_eq_false (by rw [climbF, if_pos (by omega)]; simp)) : decide (((climbF ((digsOf s).getD ((at_ : Int).toNat) []) at_ (2 * ((digsOf s).length) : Nat) ((pathF (digsOf s) at_).1)).2 : Int) = (0 : Int)) = false)) rfl) ?_)
          intro a1623 hF1624; clear hF1621
          refine wpl_op (i := 4) rfl (o_val (v := (.bool false)) hF1624 rfl rfl rfl rfl (rn_move (hF1624.get rfl)) ?_)
          intro a1625 hF1626; clear hF1624
          refine wpl_op (i := 5) rfl (o_val (v := (.bool false)) hF1626 rfl (wanted_guard rfl rfl rfl hF1626 rfl rfl rfl) rfl rfl (rn_move (hF1626.get rfl)) ?_)
          intro a1627 hF1628; clear hF1626
          refine wpl_op (i := 6) rfl (o_val (v := (.bool true)) hF1628 rfl (wanted_guard rfl rfl rfl hF1628 rfl rfl rfl) rfl rfl (rn_not' (hF1628.get rfl) rfl) ?_)
          intro a1629 hF1630; clear hF1628
          refine wpl_op (i := 7) rfl (o_val (v := (.bool true)) hF1630 rfl (wanted_guard rfl rfl rfl hF1630 rfl rfl rfl) rfl rfl (rn_move (hF1630.get rfl)) ?_)
          intro a1631 hF1632; clear hF1630
          refine wpl_op (i := 8) rfl (o_val (v := (.int .i64 ((climbF ((digsOf s).getD ((at_ : Int).toNat) []) at_ (2 * ((digsOf s).length) : Nat) ((pathF (digsOf s) at_).1)).2))) hF1632 rfl (wanted_guard rfl rfl rfl hF1632 rfl rfl rfl) rfl rfl (rn_move (hF1632.get rfl)) ?_)
          intro a1633 hF1634; clear hF1632
          refine wpl_op (i := 9) rfl (o_val (v := (.bool (decide (((climbF ((digsOf s).getD ((at_ : Int).toNat) []) at_ (2 * ((digsOf s).length) : Nat) ((pathF (digsOf s) at_).1)).2 : Int) ≠ (1 : Int))))) hF1634 rfl (wanted_guard rfl rfl rfl hF1634 rfl rfl rfl) rfl rfl (rn_neq (hF1634.get rfl) rfl) ?_)
          intro a1635 hF1636; clear hF1634
          refine wpl_op (i := 10) rfl (o_val (v := (.bool (decide (((climbF ((digsOf s).getD ((at_ : Int).toNat) []) at_ (2 * ((digsOf s).length) : Nat) ((pathF (digsOf s) at_).1)).2 : Int) ≠ (1 : Int))))) hF1636 rfl (wanted_guard rfl rfl rfl hF1636 rfl rfl rfl) rfl rfl (rn_pickT (c_true hF1636 rfl rfl) (hF1636.get rfl)) ?_)
          intro a1637 hF1638; clear hF1636
          refine wpl_op (i := 11) rfl (o_val (v := (.bool (decide (((climbF ((digsOf s).getD ((at_ : Int).toNat) []) at_ (2 * ((digsOf s).length) : Nat) ((pathF (digsOf s) at_).1)).2 : Int) ≠ (1 : Int))))) hF1638 rfl rfl rfl rfl (rn_pickF (c_false hF1638 rfl rfl) (hF1638.get rfl)) ?_)
          intro a1639 hF1640; clear hF1638
          refine wpList_nil ?_
          refine hK1615 _ _ ?_
          clear hK1615
          have hF1641 := ((((((((((((((((((hF1640.nil.cons (hF1640.get (t := 103) (v := (.bool (decide (((climbF ((digsOf s).getD ((at_ : Int).toNat) []) at_ (2 * ((digsOf s).length) : Nat) ((pathF (digsOf s) at_).1)).2 : Int) ≠ (1 : Int))))) rfl)).cons (hF1640.get (t := 14) (v := (.int .i64 ((climbF ((digsOf s).getD ((at_ : Int).toNat) []) at_ (2 * ((digsOf s).length) : Nat) ((pathF (digsOf s) at_).1)).2))) rfl)).cons (hF1640.get (t := 12) (v := (.bool false)) rfl)).cons (hF1640.get (t := 11) (v := (.int .i64 (2 * ((digsOf s).length) : Nat))) rfl)).cons (hF1640.get (t := 63) (v := (.bool true)) rfl)).cons (hF1640.get (t := 62) (v := (.int .i64 3)) rfl)).cons (hF1640.get (t := 61) (v := (.int .i64 4)) rfl)).cons (hF1640.get (t := 60) (v := (.slice (some ⟨g181, 0, none⟩) 4 4)) rfl)).cons (hF1640.get (t := 50) (v := (.bool (decide (((n37 : Nat) : Int) ≠ (((dirs (at_ : Int).toNat (((digsOf s).length : Nat) : Int).toNat).length : Nat) : Int))))) rfl)).cons (hF1640.get (t := 32) (v := (.bool (decide ((((digsOf s).length : Nat) : Int) ≤ (at_ : Int))))) rfl)).cons (hF1640.get (t := 9) (v := (.int .i64 ((pathF (digsOf s) at_).2))) rfl)).cons (hF1640.get (t := 8) (v := (.slice A36 n37 c38)) rfl)).cons (hF1640.get (t := 7) (v := (.slice A17 ((digsOf s).length) c18)) rfl)).cons (hF1640.get (t := 16) (v := (.bool false)) rfl)).cons (hF1640.get (t := 6) (v := (.bool false)) rfl)).cons (hF1640.get (t := 2) (v := (.int .i64 n)) rfl)).cons (hF1640.get (t := 1) (v := (.int .i64 at_)) rfl)).cons (hF1640.get (t := 0) (v := (.slice A s.length c)) rfl))
          clear hF1640
          refine wp_cond_false (c_false hF1641 rfl ((decide_eq_false (by rw [climbF, if_pos (by omega)]; simp)) : decide (((climbF ((digsOf s).getD ((at_ : Int).toNat) []) at_ (2 * ((digsOf s).length) : Nat) ((pathF (digsOf s) at_).1)).2 : Int) ≠ (1 : Int)) = false)) ?_
          refine wp_skip ?_
          refine hK1294 _ _ ?_
          clear hK1294
          refine wp_region_lit ?_
          refine wpl_op (i := 0) rfl (o_val (v := (.int .i64 4)) hF1641 rfl rfl rfl rfl (rn_add (hF1641.get rfl) rfl (by omega) (by omega)) ?_)
          intro a1643 hF1644; clear hF1641
          refine wpl_op (i := 1) rfl (o_val (v := (.int .i64 4)) hF1644 rfl rfl rfl rfl (rn_move (hF1644.get rfl)) ?_)
          intro a1645 hF1646; clear hF1644
          refine wpList_nil ?_
          have d1647 := (hf203.pres ((((Pres.refl w198).ext hx1590).ext hx1603).grownN hg1610 (fun h => by simp only [Clip] at h; omega)))
          have d1648 := (hf204.pres ((((Pres.refl w198).ext hx1590).ext hx1603).grownN hg1610 (fun h => by simp only [Clip] at h; omega)))
          have b1649 : Blk w1608 g181 3 [(.int .i64 n), (.int .i64 (andI (n) (31))), (.int .i64 (((digsOf s).length) + 1 : Nat)), (.int .i64 (2 * ((digsOf s).length) : Nat))] := (((b202.ext hx1590).ext hx1603).grownN hg1610 (by omega))
          refine ⟨⟨4, (((((((((((((hF1646.nil.cons (q_get hF1646 (t := 62) rfl (by first | rfl | (congr 1; omega) | (congr 1; done)))).cons (q_get hF1646 (t := 61) rfl rfl)).cons (q_get hF1646 (t := 60) rfl rfl)).cons (q_get hF1646 (t := 50) rfl rfl)).cons (q_get hF1646 (t := 32) rfl rfl)).cons (q_get hF1646 (t := 9) rfl rfl)).cons (q_get hF1646 (t := 8) rfl rfl)).cons (q_get hF1646 (t := 7) rfl rfl)).cons (q_get hF1646 (t := 16) rfl rfl)).cons (q_get hF1646 (t := 6) rfl rfl)).cons (q_get hF1646 (t := 2) rfl rfl)).cons (q_get hF1646 (t := 1) rfl rfl)).cons (q_get hF1646 (t := 0) rfl rfl)), (by omega), (((((Ext.refl w).trans hx200).trans hx1590).trans hx1603).grownN hg1610 (by omega)), b1649, d1647, d1648, (by omega)⟩, ?_⟩
          rw [hF1646.get (t := 62) rfl, hL206.get (t := 62) rfl]; simp [intOf] <;> omega
      · subst hk209
        refine wp_seq_k (fun K1650 hK1650 => ?_)
        refine wp_region_lit ?_
        refine wpl_op (i := 0) rfl (o_val (v := (.bool false)) hF199 rfl rfl rfl rfl (rn_lss' (hF199.get rfl) (hF199.get rfl) (by decide)) ?_)
        intro a1651 hF1652; clear hF199
        refine wpList_nil ?_
        refine hK1650 _ _ ?_
        clear hK1650
        refine wp_seq_k (fun K1653 hK1653 => ?_)
        refine wp_cond_false (c_false hF1652 rfl rfl) ?_
        refine wp_exit ?_
        refine exit_then ?_
        refine exit_then ?_
        refine exit_here ?_
        refine hK161 _ _ ?_
        clear hK161
        refine wp_seq_k (fun K1654 hK1654 => ?_)
        refine wp_region_lit ?_
        refine wpl_op (i := 0) rfl (o_val (v := (.bool true)) hF1652 rfl rfl rfl rfl (rn_assign rfl) ?_)
        intro a1655 hF1656; clear hF1652
        refine wpList_nil ?_
        refine hK1654 _ _ ?_
        clear hK1654
        refine wp_ret ?_
        refine ret1 hF1656 rfl rfl ?_
        exact ⟨congrArg (fun b => Ending.returned (.bool b)) (rfl : true = true), ((Ext.refl w).trans hx200)⟩

end Go.Proofs.YtgodliookpgliaaDoor
