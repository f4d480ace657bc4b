/- Contracts of Far and solve. -/
import Derived.Test.YtjmdodgmoehfkaaProg
import Derived.Test.YtjmdodgmoehfkaaBndH
import Derived.Test.YtjmdodgmoehfkaaBndI
import Derived.Test.YtjmdodgmoehfkaaBndJ
import Derived.KernelRfl
namespace Go.Proofs.Ytjmdodgmoehfkaa
open Go.RowKit

variable {S S' : Nat → Prop}

theorem contradiction_at {v : Value} {m : Nat} (n : Int) (l : List E3) (w : World) (hf : Fl S w 3 v m (edVals l)) (hv : vOk n l = true) (h8 : n ≤ 8) (hm : l.length ≤ 31) :
    Calls Try.prog 30 #[.agg #[.int .i64 n, v]] w (fun e w' => ∃ A' m c' cyc, e = .returned (.slice A' m c') ∧ Fl (fun b => w.heap.size ≤ b) w' 1 (.slice A' m c') m (intVals cyc) ∧ ((cyc = [] ∧ ¬ P15.Neg (eds l)) ∨ (CycP l cyc ∧ P15.Neg (eds l))) ∧ Ext w w') := by
  have hm' := Fl.edlen hf
  subst hm'
  obtain ⟨A, c, rfl, _⟩ := hf.form
  have h1 := vOk_n hv
  obtain ⟨nn, rfl⟩ : ∃ nn : Nat, n = (nn : Int) := ⟨n.toNat, by omega⟩
  exact contradiction_any A c nn l w hf hv (by omega) (by omega) hm
theorem distances_at {v : Value} {m : Nat} (n : Int) (l : List E3) (w : World) (hf : Fl S w 3 v m (edVals l)) (hv : vOk n l = true) (h8 : n ≤ 8) (hm : l.length ≤ 31) (hng : ¬ P15.Neg (eds l)) :
    Calls Try.prog 31 #[.agg #[.int .i64 n, v]] w (fun e w' => ∃ A' m c' t, e = .returned (.slice A' m c') ∧ RIss (fun b => w.heap.size ≤ b) w' (.slice A' m c') t ∧ DistT l n.toNat t ∧ Ext w w') := by
  have hm' := Fl.edlen hf
  subst hm'
  obtain ⟨A, c, rfl, _⟩ := hf.form
  have h1 := vOk_n hv
  obtain ⟨nn, rfl⟩ : ∃ nn : Nat, n = (nn : Int) := ⟨n.toNat, by omega⟩
  exact distances_any A c nn l w hf hv (by omega) (by omega) hm hng
theorem RIss.len {w : World} {A : Option Addr} {m c : Nat} {t : List (List Int)} (h : RIss S w (.slice A m c) t) : t.length = m := by
  obtain ⟨_, _, h1, _⟩ := RIss.form h
  cases h1; rfl

set_option maxRecDepth 100000 in
set_option maxHeartbeats 1000000 in
theorem far_any (A : Option Addr) (c : Nat) (n : Int) (l : List E3) (w : World) (hf : Fl S w 3 (.slice A l.length c) l.length (edVals l)) (hfew : vOk n l = true → n ≤ 8 ∧ l.length ≤ 31) :
    Calls Try.prog 16 #[.agg #[.int .i64 n, .slice A l.length c]] w (fun e w' => ∃ A m c t B k c2 cyc er, e = .returned (.tuple #[.slice A m c, .slice B k c2, .int .i64 er]) ∧ RIss (fun b => w.heap.size ≤ b) w' (.slice A m c) t ∧ Fl (fun b => w.heap.size ≤ b) w' 1 (.slice B k c2) k (intVals cyc) ∧ FarP n l t cyc er ∧ Ext w w') := by
  have hc : Fl (Clip S w) w 3 (.slice A l.length c) l.length (edVals l) := hf.clip
  have hcc := (Fl.cel hc).2.1
  refine calls_enter (l := [(.agg #[(.int .i64 n), (.slice A l.length c)])]) Try.func16 rfl rfl rfl (fun aA hF => ?_)
  refine wp_seq_k (fun K1 hK1 => ?_)
  refine wp_region_lit ?_
  refine wpl_op (i := 0) rfl (o_new (fun g => (.pointer (some ⟨g, 0, none⟩))) [(.int .i64 n), (.slice A l.length c)] 24 hF rfl rfl rfl rfl (rn_box (hF.get rfl) (by kernel_rfl)) ?_)
  intro g2 w3 a8 hF9 z6 z7 b4 hx5; clear hF
  refine wpl_op (i := 1) rfl (o_val (v := (.slice none 0 0)) hF9 rfl rfl rfl rfl (rn_assign rfl) ?_)
  intro a10 hF11; clear hF9
  refine wpl_op (i := 2) rfl (o_val (v := (.slice none 0 0)) hF11 rfl rfl rfl rfl (rn_assign rfl) ?_)
  intro a12 hF13; clear hF11
  refine wpl_op (i := 3) rfl (o_val (v := (.int .i64 0)) hF13 rfl rfl rfl rfl (rn_assign rfl) ?_)
  intro a14 hF15; clear hF13
  refine wpList_nil ?_
  refine hK1 _ _ ?_
  clear hK1
  refine wp_seq_k (fun K16 hK16 => ?_)
  refine wp_seq_k (fun K17 hK17 => ?_)
  refine wp_region_lit ?_
  refine wpl_op (i := 0) rfl (o_val (v := (.agg #[(.int .i64 n), (.slice A l.length c)])) hF15 rfl rfl rfl rfl (rn_loadBlk (hF15.get rfl) b4 Try.underlying24 rfl (by kernel_rfl : (Try.prog.info? 24).map (·.size) = some 2)) ?_)
  intro a18 hF19; clear hF15
  have d20 := (hc.ext hx5)
  refine wpl_op (i := 1) rfl (o_call hF19 rfl rfl rfl rfl (rn_call (args1 (hF19.get rfl)) rfl (by kernel_rfl)) (bcheck_at (v := (.slice A l.length c)) n l _ d20) ?_)
  rintro _ w21 ⟨rfl, hx22⟩
  refine ⟨_, rfl, ?_⟩; intro a23 hF24; clear hF19; have z25 := hx22.size
  refine wpl_op (i := 2) rfl (o_val (v := (.int .i64 (chk n l))) hF24 rfl rfl rfl rfl (rn_assign (hF24.get rfl)) ?_)
  intro a26 hF27; clear hF24
  refine wpList_nil ?_
  refine hK17 _ _ ?_
  clear hK17
  refine wp_seq_k (fun K28 hK28 => ?_)
  refine wp_region_lit ?_
  refine wpl_op (i := 0) rfl (o_val (v := (.int .i64 (chk n l))) hF27 rfl rfl rfl rfl (rn_move (hF27.get rfl)) ?_)
  intro a29 hF30; clear hF27
  refine wpl_op (i := 1) rfl (o_val (v := (.bool (decide (((chk n l) : Int) ≠ (0 : Int))))) hF30 rfl rfl rfl rfl (rn_neq (hF30.get rfl) rfl) ?_)
  intro a31 hF32; clear hF30
  refine wpList_nil ?_
  refine hK28 _ _ ?_
  clear hK28
  by_cases hc33 : ((chk n l) : Int) ≠ (0 : Int)
  · skip
    refine wp_cond_true (c_true hF32 rfl (decide_eq_true hc33)) ?_
    refine wp_seq_k (fun K34 hK34 => ?_)
    refine wp_region_lit ?_
    refine wpl_op (i := 0) rfl (o_val (v := (.int .i64 (chk n l))) hF32 rfl rfl rfl rfl (rn_move (hF32.get rfl)) ?_)
    intro a35 hF36; clear hF32
    refine wpl_op (i := 1) rfl (o_val (v := (.slice none 0 0)) hF36 rfl rfl rfl rfl (rn_assign rfl) ?_)
    intro a37 hF38; clear hF36
    refine wpl_op (i := 2) rfl (o_val (v := (.slice none 0 0)) hF38 rfl rfl rfl rfl (rn_assign rfl) ?_)
    intro a39 hF40; clear hF38
    refine wpl_op (i := 3) rfl (o_val (v := (.int .i64 (chk n l))) hF40 rfl rfl rfl rfl (rn_assign (hF40.get rfl)) ?_)
    intro a41 hF42; clear hF40
    refine wpList_nil ?_
    refine hK34 _ _ ?_
    clear hK34
    have hF43 := (((((((hF42.nil.cons (hF42.get (t := 10) (v := (.bool (decide (((chk n l) : Int) ≠ (0 : Int))))) rfl)).cons (hF42.get (t := 5) (v := (.int .i64 (chk n l))) rfl)).cons (hF42.get (t := 4) (v := (.int .i64 (chk n l))) rfl)).cons (hF42.get (t := 3) (v := (.slice none 0 0)) rfl)).cons (hF42.get (t := 2) (v := (.slice none 0 0)) rfl)).cons (hF42.get (t := 1) (v := (.pointer (some ⟨g2, 0, none⟩))) rfl)).cons (hF42.get (t := 0) (v := (.agg #[(.int .i64 n), (.slice A l.length c)])) rfl))
    clear hF42
    refine wp_ret ?_
    refine ret_then ?_
    refine ret3 hF43 rfl rfl rfl rfl ?_
    have hb := chk_b (by omega : chk n l ≠ 0)
    exact ⟨_, _, _, [], _, _, _, [], _, rfl, RIss.nil _, Fl.nil _, ⟨.inl ⟨hb.2, hb.1, rfl⟩, .inr ⟨by omega, rfl⟩⟩, (((Ext.refl w).trans hx5).trans hx22)⟩
  · skip
    refine wp_cond_false (c_false hF32 rfl (decide_eq_false hc33)) ?_
    refine wp_skip ?_
    refine hK16 _ _ ?_
    clear hK16
    refine wp_seq_k (fun K44 hK44 => ?_)
    refine wp_seq_k (fun K45 hK45 => ?_)
    refine wp_region_lit ?_
    have b46 : Blk w21 g2 24 [(.int .i64 n), (.slice A l.length c)] := (b4.ext hx22)
    refine wpl_op (i := 0) rfl (o_val (v := (.agg #[(.int .i64 n), (.slice A l.length c)])) hF32 rfl rfl rfl rfl (rn_loadBlk (hF32.get rfl) b46 Try.underlying24 rfl (by kernel_rfl : (Try.prog.info? 24).map (·.size) = some 2)) ?_)
    intro a47 hF48; clear hF32
    have d49 := ((hc.ext hx5).ext hx22)
    have hvo := chk_v (by omega : chk n l = 0)
    obtain ⟨h8, hm⟩ := hfew hvo
    refine wpl_op (i := 1) rfl (o_call hF48 rfl rfl rfl rfl (rn_call (args1 (hF48.get rfl)) rfl (by kernel_rfl)) (contradiction_at (v := (.slice A l.length c)) n l _ d49 hvo h8 hm) ?_)
    rintro _ w56 ⟨A50, m51, c52, cyc53, rfl, hf54, hcy55, hx57⟩
    refine ⟨_, rfl, ?_⟩; intro a58 hF59; clear hF48; have z60 := hx57.size
    refine wpl_op (i := 2) rfl (o_val (v := (.slice A50 m51 c52)) hF59 rfl rfl rfl rfl (rn_assign (hF59.get rfl)) ?_)
    intro a61 hF62; clear hF59
    refine wpList_nil ?_
    refine hK45 _ _ ?_
    clear hK45
    have hF63 := ((((((((hF62.nil.cons (hF62.get (t := 6) (v := (.slice A50 m51 c52)) rfl)).cons (hF62.get (t := 10) (v := (.bool (decide (((chk n l) : Int) ≠ (0 : Int))))) rfl)).cons (hF62.get (t := 5) (v := (.int .i64 (chk n l))) rfl)).cons (hF62.get (t := 4) (v := (.int .i64 0)) rfl)).cons (hF62.get (t := 3) (v := (.slice none 0 0)) rfl)).cons (hF62.get (t := 2) (v := (.slice none 0 0)) rfl)).cons (hF62.get (t := 1) (v := (.pointer (some ⟨g2, 0, none⟩))) rfl)).cons (hF62.get (t := 0) (v := (.agg #[(.int .i64 n), (.slice A l.length c)])) rfl))
    clear hF62
    refine wp_seq_k (fun K64 hK64 => ?_)
    refine wp_region_lit ?_
    refine wpl_op (i := 0) rfl (o_val (v := (.slice A50 m51 c52)) hF63 rfl rfl rfl rfl (rn_move (hF63.get rfl)) ?_)
    intro a65 hF66; clear hF63
    refine wpl_op (i := 1) rfl (o_val (v := (.int .i64 (m51 : Nat))) hF66 rfl rfl rfl rfl (rn_len_slice Try.underlying25 (hF66.get rfl)) ?_)
    intro a67 hF68; clear hF66
    refine wpl_op (i := 2) rfl (o_val (v := (.bool (decide ((0 : Int) < ((m51 : Nat) : Int))))) hF68 rfl rfl rfl rfl (rn_gtr (hF68.get rfl) rfl) ?_)
    intro a69 hF70; clear hF68
    refine wpList_nil ?_
    refine hK64 _ _ ?_
    clear hK64
    by_cases hc71 : (0 : Int) < ((m51 : Nat) : Int)
    · skip
      refine wp_cond_true (c_true hF70 rfl (decide_eq_true hc71)) ?_
      refine wp_seq_k (fun K72 hK72 => ?_)
      refine wp_region_lit ?_
      refine wpl_op (i := 0) rfl (o_val (v := (.slice A50 m51 c52)) hF70 rfl rfl rfl rfl (rn_move (hF70.get rfl)) ?_)
      intro a73 hF74; clear hF70
      refine wpl_op (i := 1) rfl (o_val (v := (.slice none 0 0)) hF74 rfl rfl rfl rfl (rn_assign rfl) ?_)
      intro a75 hF76; clear hF74
      refine wpl_op (i := 2) rfl (o_val (v := (.slice A50 m51 c52)) hF76 rfl rfl rfl rfl (rn_assign (hF76.get rfl)) ?_)
      intro a77 hF78; clear hF76
      refine wpl_op (i := 3) rfl (o_val (v := (.int .i64 151)) hF78 rfl rfl rfl rfl (rn_assign rfl) ?_)
      intro a79 hF80; clear hF78
      refine wpList_nil ?_
      refine hK72 _ _ ?_
      clear hK72
      refine wp_ret ?_
      refine ret_then ?_
      refine ret3 hF80 rfl rfl rfl rfl ?_
      have hcl := Fl.ilen hf54
      have hcc2 : CycP l cyc53 ∧ P15.Neg (eds l) := by
        rcases hcy55 with ⟨h, _⟩ | h
        · rw [h] at hcl; simp at hcl; omega
        · exact h
      exact ⟨_, _, _, [], _, _, _, cyc53, 151, rfl, RIss.nil _, Fl.sub hf54 (fun b hb => by omega), ⟨.inr (.inl ⟨rfl, hvo, hcc2.2, rfl⟩), .inl ⟨rfl, hcc2.1⟩⟩, ((((Ext.refl w).trans hx5).trans hx22).trans hx57)⟩
    · skip
      refine wp_cond_false (c_false hF70 rfl (decide_eq_false hc71)) ?_
      refine wp_skip ?_
      refine hK44 _ _ ?_
      clear hK44
      refine wp_seq_k (fun K81 hK81 => ?_)
      refine wp_region_lit ?_
      have b82 : Blk w56 g2 24 [(.int .i64 n), (.slice A l.length c)] := (b46.ext hx57)
      refine wpl_op (i := 0) rfl (o_val (v := (.agg #[(.int .i64 n), (.slice A l.length c)])) hF70 rfl rfl rfl rfl (rn_loadBlk (hF70.get rfl) b82 Try.underlying24 rfl (by kernel_rfl : (Try.prog.info? 24).map (·.size) = some 2)) ?_)
      intro a83 hF84; clear hF70
      have d85 := (((hc.ext hx5).ext hx22).ext hx57)
      have hcl := Fl.ilen hf54
      have hng : ¬ P15.Neg (eds l) := by
        rcases hcy55 with ⟨_, h⟩ | ⟨h, _⟩
        · exact h
        · have := h.pos; omega
      refine wpl_op (i := 1) rfl (o_call hF84 rfl rfl rfl rfl (rn_call (args1 (hF84.get rfl)) rfl (by kernel_rfl)) (distances_at (v := (.slice A l.length c)) n l _ d85 hvo h8 hm hng) ?_)
      rintro _ w92 ⟨A86, m87, c88, t89, rfl, hf90, hdt91, hx93⟩
      refine ⟨_, rfl, ?_⟩; intro a94 hF95; clear hF84; have z96 := hx93.size
      refine wpl_op (i := 2) rfl (o_val (v := (.slice A86 m87 c88)) hF95 rfl rfl rfl rfl (rn_assign (hF95.get rfl)) ?_)
      intro a97 hF98; clear hF95
      refine wpl_op (i := 3) rfl (o_val (v := (.slice none 0 0)) hF98 rfl rfl rfl rfl (rn_assign rfl) ?_)
      intro a99 hF100; clear hF98
      refine wpl_op (i := 4) rfl (o_val (v := (.int .i64 0)) hF100 rfl rfl rfl rfl (rn_assign rfl) ?_)
      intro a101 hF102; clear hF100
      refine wpList_nil ?_
      refine hK81 _ _ ?_
      clear hK81
      have hF103 := (((((((((hF102.nil.cons (hF102.get (t := 16) (v := (.bool (decide ((0 : Int) < ((m51 : Nat) : Int))))) rfl)).cons (hF102.get (t := 6) (v := (.slice A50 m51 c52)) rfl)).cons (hF102.get (t := 10) (v := (.bool (decide (((chk n l) : Int) ≠ (0 : Int))))) rfl)).cons (hF102.get (t := 5) (v := (.int .i64 (chk n l))) rfl)).cons (hF102.get (t := 4) (v := (.int .i64 0)) rfl)).cons (hF102.get (t := 3) (v := (.slice none 0 0)) rfl)).cons (hF102.get (t := 2) (v := (.slice A86 m87 c88)) rfl)).cons (hF102.get (t := 1) (v := (.pointer (some ⟨g2, 0, none⟩))) rfl)).cons (hF102.get (t := 0) (v := (.agg #[(.int .i64 n), (.slice A l.length c)])) rfl))
      clear hF102
      refine wp_ret ?_
      refine ret3 hF103 rfl rfl rfl rfl ?_
      exact ⟨_, _, _, t89, _, _, _, [], 0, rfl, hf90.subB (fun b _ hb => by omega), Fl.nil _, ⟨.inr (.inr ⟨rfl, hvo, hng, hdt91⟩), .inr ⟨by omega, rfl⟩⟩, (((((Ext.refl w).trans hx5).trans hx22).trans hx57).trans hx93)⟩

theorem far_at {v : Value} {m : Nat} (n : Int) (l : List E3) (w : World) (hf : Fl S w 3 v m (edVals l)) (hfew : vOk n l = true → n ≤ 8 ∧ l.length ≤ 31) :
    Calls Try.prog 16 #[.agg #[.int .i64 n, v]] w (fun e w' => ∃ A m c t B k c2 cyc er, e = .returned (.tuple #[.slice A m c, .slice B k c2, .int .i64 er]) ∧ RIss (fun b => w.heap.size ≤ b) w' (.slice A m c) t ∧ Fl (fun b => w.heap.size ≤ b) w' 1 (.slice B k c2) k (intVals cyc) ∧ FarP n l t cyc er ∧ Ext w w') := by
  have hm := Fl.edlen hf
  subst hm
  obtain ⟨A, c, rfl, _⟩ := hf.form
  exact far_any A c n l w hf hfew

set_option maxRecDepth 100000 in
set_option maxHeartbeats 1000000 in
theorem solve_any (A : Option Addr) (c : Nat) (n : Int) (l : List E3) (a v : Int) (w : World) (hf : Fl S w 3 (.slice A l.length c) l.length (edVals l)) (hfew : vOk n l = true → n ≤ 8 ∧ l.length ≤ 31) :
    Calls Try.prog 33 #[.agg #[.int .i64 n, .slice A l.length c], .int .i64 a, .int .i64 v] w (fun e w' => ∃ A m c t er e2, e = .returned (.tuple #[.slice A m c, .int .i64 e2]) ∧ SysP n l t er ∧ e2 = solR n t er a v ∧ (e2 = 0 → RIss (fun b => w.heap.size ≤ b) w' (.slice A m c) t) ∧ Ext w w') := by
  have hc : Fl (Clip S w) w 3 (.slice A l.length c) l.length (edVals l) := hf.clip
  have hcc := (Fl.cel hc).2.1
  refine calls_enter (l := [(.agg #[(.int .i64 n), (.slice A l.length c)]), (.int .i64 a), (.int .i64 v)]) Try.func33 rfl rfl rfl (fun aA hF => ?_)
  refine wp_seq_k (fun K1 hK1 => ?_)
  refine wp_region_lit ?_
  refine wpl_op (i := 0) rfl (o_new (fun g => (.pointer (some ⟨g, 0, none⟩))) [(.int .i64 n), (.slice A l.length c)] 24 hF rfl rfl rfl rfl (rn_box (hF.get rfl) (by kernel_rfl)) ?_)
  intro g2 w3 a8 hF9 z6 z7 b4 hx5; clear hF
  refine wpl_op (i := 1) rfl (o_val (v := (.slice none 0 0)) hF9 rfl rfl rfl rfl (rn_assign rfl) ?_)
  intro a10 hF11; clear hF9
  refine wpl_op (i := 2) rfl (o_val (v := (.int .i64 0)) hF11 rfl rfl rfl rfl (rn_assign rfl) ?_)
  intro a12 hF13; clear hF11
  refine wpList_nil ?_
  refine hK1 _ _ ?_
  clear hK1
  refine wp_seq_k (fun K14 hK14 => ?_)
  refine wp_region_lit ?_
  refine wpl_op (i := 0) rfl (o_val (v := (.agg #[(.int .i64 n), (.slice A l.length c)])) hF13 rfl rfl rfl rfl (rn_loadBlk (hF13.get rfl) b4 Try.underlying24 rfl (by kernel_rfl : (Try.prog.info? 24).map (·.size) = some 2)) ?_)
  intro a15 hF16; clear hF13
  have d17 := (hc.ext hx5)
  refine wpl_op (i := 1) rfl (o_call hF16 rfl rfl rfl rfl (rn_call (args1 (hF16.get rfl)) rfl (by kernel_rfl)) (far_at (v := (.slice A l.length c)) n l _ d17 hfew) ?_)
  rintro _ w32 ⟨A18, m19, c20, t21, B22, k23, c24, cyc25, er26, rfl, ht27, hf28, hfar29, hx33⟩
  have z30 := RIss.len ht27
  have z31 := Fl.ilen hf28
  refine ⟨_, rfl, ?_⟩; intro a34 hF35; clear hF16; have z36 := hx33.size
  have hf37 : RIss (Clip (fun b => w3.heap.size ≤ b) w32) w32 (.slice A18 m19 c20) t21 := ht27.clip
  have hf38 : Fl (Clip (fun b => w3.heap.size ≤ b) w32) w32 1 (.slice B22 k23 c24) k23 (intVals cyc25) := hf28.clip
  refine wpl_op (i := 2) rfl (o_val (v := (.tuple #[(.slice A18 m19 c20), (.slice B22 k23 c24), (.int .i64 er26)])) hF35 rfl rfl rfl rfl (rn_move (hF35.get rfl)) ?_)
  intro a39 hF40; clear hF35
  refine wpl_op (i := 3) rfl (o_val (v := (.slice A18 m19 c20)) hF40 rfl rfl rfl rfl (rn_extract (hF40.get rfl) rfl) ?_)
  intro a41 hF42; clear hF40
  refine wpl_op (i := 4) rfl (o_val (v := (.slice B22 k23 c24)) hF42 rfl rfl rfl rfl (rn_extract (hF42.get rfl) rfl) ?_)
  intro a43 hF44; clear hF42
  refine wpl_op (i := 5) rfl (o_val (v := (.int .i64 er26)) hF44 rfl rfl rfl rfl (rn_extract (hF44.get rfl) rfl) ?_)
  intro a45 hF46; clear hF44
  refine wpl_op (i := 6) rfl (o_val (v := (.slice A18 m19 c20)) hF46 rfl rfl rfl rfl (rn_assign (hF46.get rfl)) ?_)
  intro a47 hF48; clear hF46
  refine wpl_op (i := 7) rfl (o_val (v := (.int .i64 er26)) hF48 rfl rfl rfl rfl (rn_assign (hF48.get rfl)) ?_)
  intro a49 hF50; clear hF48
  refine wpList_nil ?_
  refine hK14 _ _ ?_
  clear hK14
  have hF51 := ((((((hF50.nil.cons (hF50.get (t := 7) (v := (.int .i64 er26)) rfl)).cons (hF50.get (t := 6) (v := (.slice A18 m19 c20)) rfl)).cons (hF50.get (t := 3) (v := (.pointer (some ⟨g2, 0, none⟩))) rfl)).cons (hF50.get (t := 2) (v := (.int .i64 v)) rfl)).cons (hF50.get (t := 1) (v := (.int .i64 a)) rfl)).cons (hF50.get (t := 0) (v := (.agg #[(.int .i64 n), (.slice A l.length c)])) rfl))
  clear hF50
  refine wp_seq_k (fun K52 hK52 => ?_)
  refine wp_seq_k (fun K53 hK53 => ?_)
  refine wp_region_lit ?_
  refine wpl_op (i := 0) rfl (o_val (v := (.int .i64 er26)) hF51 rfl rfl rfl rfl (rn_move (hF51.get rfl)) ?_)
  intro a54 hF55; clear hF51
  refine wpl_op (i := 1) rfl (o_val (v := (.bool (decide ((er26 : Int) ≠ (0 : Int))))) hF55 rfl rfl rfl rfl (rn_neq (hF55.get rfl) rfl) ?_)
  intro a56 hF57; clear hF55
  refine wpList_nil ?_
  refine hK53 _ _ ?_
  clear hK53
  by_cases hc58 : (er26 : Int) ≠ (0 : Int)
  · skip
    refine wp_cond_true (c_true hF57 rfl (decide_eq_true hc58)) ?_
    refine wp_seq_k (fun K59 hK59 => ?_)
    refine wp_region_lit ?_
    refine wpl_op (i := 0) rfl (o_val (v := (.int .i64 er26)) hF57 rfl rfl rfl rfl (rn_move (hF57.get rfl)) ?_)
    intro a60 hF61; clear hF57
    refine wpl_op (i := 1) rfl (o_val (v := (.slice none 0 0)) hF61 rfl rfl rfl rfl (rn_assign rfl) ?_)
    intro a62 hF63; clear hF61
    refine wpl_op (i := 2) rfl (o_val (v := (.int .i64 er26)) hF63 rfl rfl rfl rfl (rn_assign (hF63.get rfl)) ?_)
    intro a64 hF65; clear hF63
    refine wpList_nil ?_
    refine hK59 _ _ ?_
    clear hK59
    refine wp_ret ?_
    refine ret_then ?_
    refine ret2 hF65 rfl rfl rfl ?_
    exact ⟨_, _, _, t21, er26, _, rfl, hfar29.1, by rw [solR, if_pos (by omega)], fun h => absurd h (by omega), (((Ext.refl w).trans hx5).trans hx33)⟩
  · skip
    refine wp_cond_false (c_false hF57 rfl (decide_eq_false hc58)) ?_
    refine wp_skip ?_
    refine hK52 _ _ ?_
    clear hK52
    refine wp_seq_k (fun K66 hK66 => ?_)
    refine wp_seq_k (fun K67 hK67 => ?_)
    obtain ⟨hvo, hng, hdt⟩ := hfar29.1.zero (by omega)
    have hn1 := vOk_n hvo
    have htl := hdt.len
    refine wp_region_lit ?_
    refine wpl_op (i := 0) rfl (o_val (v := (.int .i64 a)) hF57 rfl rfl rfl rfl (rn_move (hF57.get rfl)) ?_)
    intro a68 hF69; clear hF57
    refine wpl_op (i := 1) rfl (o_val (v := (.bool (decide ((a : Int) < (0 : Int))))) hF69 rfl rfl rfl rfl (rn_lss (hF69.get rfl) rfl) ?_)
    intro a70 hF71; clear hF69
    refine wpl_op (i := 2) rfl (o_val (v := (.bool (decide ((a : Int) < (0 : Int))))) hF71 rfl rfl rfl rfl (rn_move (hF71.get rfl)) ?_)
    intro a72 hF73; clear hF71
    by_cases hc74 : (a : Int) < (0 : Int)
    · skip
      refine wpl_op (i := 3) rfl (o_skip hF73 rfl (unwanted_guard rfl rfl rfl hF73 rfl (decide_eq_true hc74) rfl) rfl rfl ?_)
      intro a75 hF76; clear hF73
      refine wpl_op (i := 4) rfl (o_skip hF76 rfl (unwanted_guard rfl rfl rfl hF76 rfl (decide_eq_true hc74) rfl) rfl rfl ?_)
      intro a77 hF78; clear hF76
      refine wpl_op (i := 5) rfl (o_skip hF78 rfl (unwanted_guard rfl rfl rfl hF78 rfl (decide_eq_true hc74) rfl) rfl rfl ?_)
      intro a79 hF80; clear hF78
      refine wpl_op (i := 6) rfl (o_skip hF80 rfl (unwanted_guard rfl rfl rfl hF80 rfl (decide_eq_true hc74) rfl) rfl rfl ?_)
      intro a81 hF82; clear hF80
      refine wpl_op (i := 7) rfl (o_val (v := (.bool true)) hF82 rfl rfl rfl rfl (rn_pickT (c_true hF82 rfl (decide_eq_true hc74)) rfl) ?_)
      intro a83 hF84; clear hF82
      refine wpList_nil ?_
      refine hK67 _ _ ?_
      clear hK67
      have hF85 := ((((((((hF84.nil.cons (hF84.get (t := 26) (v := (.bool true)) rfl)).cons (hF84.get (t := 17) (v := (.bool (decide ((er26 : Int) ≠ (0 : Int))))) rfl)).cons (hF84.get (t := 7) (v := (.int .i64 er26)) rfl)).cons (hF84.get (t := 6) (v := (.slice A18 m19 c20)) rfl)).cons (hF84.get (t := 3) (v := (.pointer (some ⟨g2, 0, none⟩))) rfl)).cons (hF84.get (t := 2) (v := (.int .i64 v)) rfl)).cons (hF84.get (t := 1) (v := (.int .i64 a)) rfl)).cons (hF84.get (t := 0) (v := (.agg #[(.int .i64 n), (.slice A l.length c)])) rfl))
      clear hF84
      refine wp_cond_true (c_true hF85 rfl rfl) ?_
      refine wp_seq_k (fun K86 hK86 => ?_)
      refine wp_region_lit ?_
      refine wpl_op (i := 0) rfl (o_val (v := (.slice none 0 0)) hF85 rfl rfl rfl rfl (rn_assign rfl) ?_)
      intro a87 hF88; clear hF85
      refine wpl_op (i := 1) rfl (o_val (v := (.int .i64 1)) hF88 rfl rfl rfl rfl (rn_assign rfl) ?_)
      intro a89 hF90; clear hF88
      refine wpList_nil ?_
      refine hK86 _ _ ?_
      clear hK86
      refine wp_ret ?_
      refine ret_then ?_
      refine ret2 hF90 rfl rfl rfl ?_
      have hq : solveE n.toNat t21 a v = 1 := solve_1 (by omega)
      exact ⟨_, _, _, t21, er26, _, rfl, hfar29.1, by rw [solR, if_neg (by omega), hq], fun h => absurd h (by omega), (((Ext.refl w).trans hx5).trans hx33)⟩
    · skip
      refine wpl_op (i := 3) rfl (o_val (v := (.int .i64 a)) hF73 rfl (wanted_guard rfl rfl rfl hF73 rfl (decide_eq_false hc74) rfl) rfl rfl (rn_move (hF73.get rfl)) ?_)
      intro a91 hF92; clear hF73
      refine wpl_op (i := 4) rfl (o_val (v := (.pointer (some ⟨g2, 0, none⟩))) hF92 rfl (wanted_guard rfl rfl rfl hF92 rfl (decide_eq_false hc74) rfl) rfl rfl (rn_field Try.underlying24 rfl (by kernel_rfl) (hF92.get rfl) rfl) ?_)
      intro a93 hF94; clear hF92
      have b95 : Blk w32 g2 24 [(.int .i64 n), (.slice A l.length c)] := (b4.ext hx33)
      refine wpl_op (i := 5) rfl (o_val (v := (.int .i64 n)) hF94 rfl (wanted_guard rfl rfl rfl hF94 rfl (decide_eq_false hc74) rfl) rfl rfl (rn_load (isAgg_no Try.underlying3 rfl) (hF94.get rfl) (b95.rule.1 0)) ?_)
      intro a96 hF97; clear hF94
      refine wpl_op (i := 6) rfl (o_val (v := (.bool (decide ((n : Int) ≤ (a : Int))))) hF97 rfl (wanted_guard rfl rfl rfl hF97 rfl (decide_eq_false hc74) rfl) rfl rfl (rn_geq (hF97.get rfl) (hF97.get rfl)) ?_)
      intro a98 hF99; clear hF97
      refine wpl_op (i := 7) rfl (o_val (v := (.bool (decide ((n : Int) ≤ (a : Int))))) hF99 rfl rfl rfl rfl (rn_pickF (c_false hF99 rfl (decide_eq_false hc74)) (hF99.get rfl)) ?_)
      intro a100 hF101; clear hF99
      refine wpList_nil ?_
      refine hK67 _ _ ?_
      clear hK67
      have hF102 := ((((((((hF101.nil.cons (hF101.get (t := 26) (v := (.bool (decide ((n : Int) ≤ (a : Int))))) rfl)).cons (hF101.get (t := 17) (v := (.bool (decide ((er26 : Int) ≠ (0 : Int))))) rfl)).cons (hF101.get (t := 7) (v := (.int .i64 er26)) rfl)).cons (hF101.get (t := 6) (v := (.slice A18 m19 c20)) rfl)).cons (hF101.get (t := 3) (v := (.pointer (some ⟨g2, 0, none⟩))) rfl)).cons (hF101.get (t := 2) (v := (.int .i64 v)) rfl)).cons (hF101.get (t := 1) (v := (.int .i64 a)) rfl)).cons (hF101.get (t := 0) (v := (.agg #[(.int .i64 n), (.slice A l.length c)])) rfl))
      clear hF101
      by_cases hc103 : (n : Int) ≤ (a : Int)
      · skip
        refine wp_cond_true (c_true hF102 rfl (decide_eq_true hc103)) ?_
        refine wp_seq_k (fun K104 hK104 => ?_)
        refine wp_region_lit ?_
        refine wpl_op (i := 0) rfl (o_val (v := (.slice none 0 0)) hF102 rfl rfl rfl rfl (rn_assign rfl) ?_)
        intro a105 hF106; clear hF102
        refine wpl_op (i := 1) rfl (o_val (v := (.int .i64 1)) hF106 rfl rfl rfl rfl (rn_assign rfl) ?_)
        intro a107 hF108; clear hF106
        refine wpList_nil ?_
        refine hK104 _ _ ?_
        clear hK104
        refine wp_ret ?_
        refine ret_then ?_
        refine ret2 hF108 rfl rfl rfl ?_
        have hq : solveE n.toNat t21 a v = 1 := solve_1 (by omega)
        exact ⟨_, _, _, t21, er26, _, rfl, hfar29.1, by rw [solR, if_neg (by omega), hq], fun h => absurd h (by omega), (((Ext.refl w).trans hx5).trans hx33)⟩
      · skip
        refine wp_cond_false (c_false hF102 rfl (decide_eq_false hc103)) ?_
        refine wp_skip ?_
        refine hK66 _ _ ?_
        clear hK66
        refine wp_seq_k (fun K109 hK109 => ?_)
        refine wp_seq_k (fun K110 hK110 => ?_)
        refine wp_region_lit ?_
        refine wpl_op (i := 0) rfl (o_val (v := (.slice A18 m19 c20)) hF102 rfl rfl rfl rfl (rn_move (hF102.get rfl)) ?_)
        intro a111 hF112; clear hF102
        refine wpl_op (i := 1) rfl (o_val (v := (.int .i64 (m19 : Nat))) hF112 rfl rfl rfl rfl (rn_len_slice Try.underlying33 (hF112.get rfl)) ?_)
        intro a113 hF114; clear hF112
        refine wpl_op (i := 2) rfl (o_val (v := (.int .i64 0)) hF114 rfl rfl rfl rfl (rn_move rfl) ?_)
        intro a115 hF116; clear hF114
        refine wpList_nil ?_
        refine hK110 _ _ ?_
        clear hK110
        refine wp_block ?_
        refine wp_loop (fun a' W => ∃ (k : Nat), Sl 68 [(0, (.agg #[(.int .i64 n), (.slice A l.length c)])), (1, (.int .i64 a)), (2, (.int .i64 v)), (3, (.pointer (some ⟨g2, 0, none⟩))), (6, (.slice A18 m19 c20)), (7, (.int .i64 er26)), (17, (.bool (decide ((er26 : Int) ≠ (0 : Int))))), (26, (.bool (decide ((n : Int) ≤ (a : Int))))), (27, (.slice A18 m19 c20)), (28, (.int .i64 (m19 : Nat))), (29, (.int .i64 (k : Nat)))] a' ∧ k ≤ n.toNat ∧ (∀ i, i < k → ¬ (T t21 0 i = 1152921504606846976 ∨ T t21 i 0 = 1152921504606846976)) ∧ Ext w W ∧ Blk W g2 24 [(.int .i64 n), (.slice A l.length c)] ∧ RIss (Clip (fun b => w3.heap.size ≤ b) w32) W (.slice A18 m19 c20) t21 ∧ w32.heap.size ≤ W.heap.size) (fun a' _ => n.toNat - (intOf (a'.eval (.tmp 29))).toNat) ⟨0, (((((((((((hF116.nil.cons (q_get hF116 (t := 29) rfl (by first | rfl | (congr 1; omega) | (congr 1; done)))).cons (q_get hF116 (t := 28) rfl rfl)).cons (q_get hF116 (t := 27) rfl rfl)).cons (q_get hF116 (t := 26) rfl rfl)).cons (q_get hF116 (t := 17) rfl rfl)).cons (q_get hF116 (t := 7) rfl rfl)).cons (q_get hF116 (t := 6) rfl rfl)).cons (q_get hF116 (t := 3) rfl rfl)).cons (q_get hF116 (t := 2) rfl rfl)).cons (q_get hF116 (t := 1) rfl rfl)).cons (q_get hF116 (t := 0) rfl rfl)), (by omega), (fun i hi => absurd hi (by omega)), (((Ext.refl w).trans hx5).trans hx33), b95, hf37, (Nat.le_refl _)⟩ ?_
        clear hF116
        rintro a117 w118 ⟨k, hF119, hp121, hp122, hx120, b123, hf124, hf125⟩
        have hL126 := hF119
        have z127 := hx120.size
        have z128 := b123.lt
        refine wp_seq_k (fun K129 hK129 => ?_)
        refine wp_region_lit ?_
        refine wpl_op (i := 0) rfl (o_val (v := (.bool (decide (((k : Nat) : Int) < ((m19 : Nat) : Int))))) hF119 rfl rfl rfl rfl (rn_lss (hF119.get rfl) (hF119.get rfl)) ?_)
        intro a130 hF131; clear hF119
        refine wpList_nil ?_
        refine hK129 _ _ ?_
        clear hK129
        refine wp_seq_k (fun K132 hK132 => ?_)
        by_cases hc133 : ((k : Nat) : Int) < ((m19 : Nat) : Int)
        · skip
          refine wp_cond_true (c_true hF131 rfl (decide_eq_true hc133)) ?_
          refine wp_skip ?_
          refine hK132 _ _ ?_
          clear hK132
          refine wp_seq_k (fun K134 hK134 => ?_)
          refine wp_block ?_
          refine wp_seq_k (fun K135 hK135 => ?_)
          refine wp_region_lit ?_
          refine wpl_op (i := 0) rfl (o_val (v := (.int .i64 (k : Nat))) hF131 rfl rfl rfl rfl (rn_move (hF131.get rfl)) ?_)
          intro a136 hF137; clear hF131
          obtain ⟨b138, o139, A140, c141, hA142, hl143, hc144, hr145, z146, z147⟩ := RIss.get (i := k) hf124 (by omega)
          have z148 := hdt.row k (by omega)
          refine wpl_op (i := 1) rfl (o_val (v := (.pointer (some ⟨b138, o139 + k, none⟩))) hF137 rfl rfl rfl rfl (rn_index1 Try.underlying33 (by kernel_rfl : (Try.prog.info? 25).map (·.size) = some 1) ((hF137.get rfl).trans (by rw [hA142])) (hF137.get rfl) (by omega : (0 : Int) ≤ (k : Nat)) (by omega : ((k : Nat) : Int) < ((m19 : Nat) : Int))) ?_)
          intro a149 hF150; clear hF137
          refine wpl_op (i := 2) rfl (o_val (v := (.slice A140 ((t21.getD k []).length) c141)) hF150 rfl rfl rfl rfl (rn_load (isAgg_no Try.underlying25 rfl) (hF150.get rfl) (Ext.keep (Ext.refl w118) hc144)) ?_)
          intro a151 hF152; clear hF150
          refine wpl_op (i := 3) rfl (o_val (v := (.int .i64 (k : Nat))) hF152 rfl rfl rfl rfl (rn_assign (hF152.get rfl)) ?_)
          intro a153 hF154; clear hF152
          refine wpl_op (i := 4) rfl (o_val (v := (.slice A140 ((t21.getD k []).length) c141)) hF154 rfl rfl rfl rfl (rn_assign (hF154.get rfl)) ?_)
          intro a155 hF156; clear hF154
          refine wpList_nil ?_
          refine hK135 _ _ ?_
          clear hK135
          refine wp_seq_k (fun K157 hK157 => ?_)
          refine wp_region_lit ?_
          refine wpl_op (i := 0) rfl (o_val (v := (.slice A140 ((t21.getD k []).length) c141)) hF156 rfl rfl rfl rfl (rn_move (hF156.get rfl)) ?_)
          intro a158 hF159; clear hF156
          obtain ⟨b160, o161, hA162, -⟩ := Fl.at hr145 (by omega)
          refine wpl_op (i := 1) rfl (o_val (v := (.pointer (some ⟨b160, o161 + 0, none⟩))) hF159 rfl rfl rfl rfl (rn_index1 Try.underlying25 (by kernel_rfl : (Try.prog.info? 3).map (·.size) = some 1) ((hF159.get rfl).trans (by rw [hA162])) rfl (by omega : (0 : Int) ≤ 0) (by omega : (0 : Int) < (((t21.getD k []).length : Nat) : Int))) ?_)
          intro a163 hF164; clear hF159
          refine wpl_op (i := 2) rfl (o_val (v := (.int .i64 ((t21.getD k []).getD 0 0))) hF164 rfl rfl rfl rfl (rn_load (isAgg_no Try.underlying3 rfl) (hF164.get rfl) (Fl.cellAt hr145 hA162 (intVals_at (i := 0) (by omega)))) ?_)
          intro a165 hF166; clear hF164
          refine wpl_op (i := 3) rfl (o_val (v := (.bool (decide ((((t21.getD k []).getD 0 0) : Int) = (1152921504606846976 : Int))))) hF166 rfl rfl rfl rfl (rn_eql (hF166.get rfl) rfl) ?_)
          intro a167 hF168; clear hF166
          refine wpl_op (i := 4) rfl (o_val (v := (.bool (decide ((((t21.getD k []).getD 0 0) : Int) = (1152921504606846976 : Int))))) hF168 rfl rfl rfl rfl (rn_move (hF168.get rfl)) ?_)
          intro a169 hF170; clear hF168
          by_cases hc171 : (((t21.getD k []).getD 0 0) : Int) = (1152921504606846976 : Int)
          · skip
            refine wpl_op (i := 5) rfl (o_skip hF170 rfl (unwanted_guard rfl rfl rfl hF170 rfl (decide_eq_true hc171) rfl) rfl rfl ?_)
            intro a172 hF173; clear hF170
            refine wpl_op (i := 6) rfl (o_skip hF173 rfl (unwanted_guard rfl rfl rfl hF173 rfl (decide_eq_true hc171) rfl) rfl rfl ?_)
            intro a174 hF175; clear hF173
            refine wpl_op (i := 7) rfl (o_skip hF175 rfl (unwanted_guard rfl rfl rfl hF175 rfl (decide_eq_true hc171) rfl) rfl rfl ?_)
            intro a176 hF177; clear hF175
            refine wpl_op (i := 8) rfl (o_skip hF177 rfl (unwanted_guard rfl rfl rfl hF177 rfl (decide_eq_true hc171) rfl) rfl rfl ?_)
            intro a178 hF179; clear hF177
            refine wpl_op (i := 9) rfl (o_skip hF179 rfl (unwanted_guard rfl rfl rfl hF179 rfl (decide_eq_true hc171) rfl) rfl rfl ?_)
            intro a180 hF181; clear hF179
            refine wpl_op (i := 10) rfl (o_skip hF181 rfl (unwanted_guard rfl rfl rfl hF181 rfl (decide_eq_true hc171) rfl) rfl rfl ?_)
            intro a182 hF183; clear hF181
            refine wpl_op (i := 11) rfl (o_skip hF183 rfl (unwanted_guard rfl rfl rfl hF183 rfl (decide_eq_true hc171) rfl) rfl rfl ?_)
            intro a184 hF185; clear hF183
            refine wpl_op (i := 12) rfl (o_val (v := (.bool true)) hF185 rfl rfl rfl rfl (rn_pickT (c_true hF185 rfl (decide_eq_true hc171)) rfl) ?_)
            intro a186 hF187; clear hF185
            refine wpList_nil ?_
            refine hK157 _ _ ?_
            clear hK157
            have hF188 := (((((((((((((((hF187.nil.cons (hF187.get (t := 46) (v := (.bool true)) rfl)).cons (hF187.get (t := 9) (v := (.slice A140 ((t21.getD k []).length) c141)) rfl)).cons (hF187.get (t := 8) (v := (.int .i64 (k : Nat))) rfl)).cons (hF187.get (t := 30) (v := (.bool (decide (((k : Nat) : Int) < ((m19 : Nat) : Int))))) rfl)).cons (hF187.get (t := 29) (v := (.int .i64 (k : Nat))) rfl)).cons (hF187.get (t := 28) (v := (.int .i64 (m19 : Nat))) rfl)).cons (hF187.get (t := 27) (v := (.slice A18 m19 c20)) rfl)).cons (hF187.get (t := 26) (v := (.bool (decide ((n : Int) ≤ (a : Int))))) rfl)).cons (hF187.get (t := 17) (v := (.bool (decide ((er26 : Int) ≠ (0 : Int))))) rfl)).cons (hF187.get (t := 7) (v := (.int .i64 er26)) rfl)).cons (hF187.get (t := 6) (v := (.slice A18 m19 c20)) rfl)).cons (hF187.get (t := 3) (v := (.pointer (some ⟨g2, 0, none⟩))) rfl)).cons (hF187.get (t := 2) (v := (.int .i64 v)) rfl)).cons (hF187.get (t := 1) (v := (.int .i64 a)) rfl)).cons (hF187.get (t := 0) (v := (.agg #[(.int .i64 n), (.slice A l.length c)])) rfl))
            clear hF187
            refine wp_cond_true (c_true hF188 rfl rfl) ?_
            refine wp_seq_k (fun K189 hK189 => ?_)
            refine wp_region_lit ?_
            refine wpl_op (i := 0) rfl (o_val (v := (.slice none 0 0)) hF188 rfl rfl rfl rfl (rn_assign rfl) ?_)
            intro a190 hF191; clear hF188
            refine wpl_op (i := 1) rfl (o_val (v := (.int .i64 2)) hF191 rfl rfl rfl rfl (rn_assign rfl) ?_)
            intro a192 hF193; clear hF191
            refine wpList_nil ?_
            refine hK189 _ _ ?_
            clear hK189
            refine wp_ret ?_
            refine ret_block ?_
            refine ret_then ?_
            refine ret_then ?_
            refine ret_block ?_
            refine ret_then ?_
            refine ret2 hF193 rfl rfl rfl ?_
            have hq : solveE n.toNat t21 a v = 2 := solve_2 (by omega) (i := k) (by omega) (by unfold T; omega)
            exact ⟨_, _, _, t21, er26, _, rfl, hfar29.1, by rw [solR, if_neg (by omega), hq], fun h => absurd h (by omega), ((Ext.refl w).trans hx120)⟩
          · skip
            refine wpl_op (i := 5) rfl (o_val (v := (.slice A18 m19 c20)) hF170 rfl (wanted_guard rfl rfl rfl hF170 rfl (decide_eq_false hc171) rfl) rfl rfl (rn_move (hF170.get rfl)) ?_)
            intro a194 hF195; clear hF170
            obtain ⟨b196, o197, A198, c199, hA200, hl201, hc202, hr203, z204, z205⟩ := RIss.get (i := 0) hf124 (by omega)
            have z206 := hdt.row 0 (by omega)
            refine wpl_op (i := 6) rfl (o_val (v := (.pointer (some ⟨b196, o197 + 0, none⟩))) hF195 rfl (wanted_guard rfl rfl rfl hF195 rfl (decide_eq_false hc171) rfl) rfl rfl (rn_index1 Try.underlying33 (by kernel_rfl : (Try.prog.info? 25).map (·.size) = some 1) ((hF195.get rfl).trans (by rw [hA200])) rfl (by omega : (0 : Int) ≤ 0) (by omega : (0 : Int) < ((m19 : Nat) : Int))) ?_)
            intro a207 hF208; clear hF195
            refine wpl_op (i := 7) rfl (o_val (v := (.slice A198 ((t21.getD 0 []).length) c199)) hF208 rfl (wanted_guard rfl rfl rfl hF208 rfl (decide_eq_false hc171) rfl) rfl rfl (rn_load (isAgg_no Try.underlying25 rfl) (hF208.get rfl) (Ext.keep (Ext.refl w118) hc202)) ?_)
            intro a209 hF210; clear hF208
            refine wpl_op (i := 8) rfl (o_val (v := (.int .i64 (k : Nat))) hF210 rfl (wanted_guard rfl rfl rfl hF210 rfl (decide_eq_false hc171) rfl) rfl rfl (rn_move (hF210.get rfl)) ?_)
            intro a211 hF212; clear hF210
            obtain ⟨b213, o214, hA215, -⟩ := Fl.at hr203 (by omega)
            refine wpl_op (i := 9) rfl (o_val (v := (.pointer (some ⟨b213, o214 + k, none⟩))) hF212 rfl (wanted_guard rfl rfl rfl hF212 rfl (decide_eq_false hc171) rfl) rfl rfl (rn_index1 Try.underlying25 (by kernel_rfl : (Try.prog.info? 3).map (·.size) = some 1) ((hF212.get rfl).trans (by rw [hA215])) (hF212.get rfl) (by omega : (0 : Int) ≤ (k : Nat)) (by omega : ((k : Nat) : Int) < (((t21.getD 0 []).length : Nat) : Int))) ?_)
            intro a216 hF217; clear hF212
            refine wpl_op (i := 10) rfl (o_val (v := (.int .i64 ((t21.getD 0 []).getD k 0))) hF217 rfl (wanted_guard rfl rfl rfl hF217 rfl (decide_eq_false hc171) rfl) rfl rfl (rn_load (isAgg_no Try.underlying3 rfl) (hF217.get rfl) (Fl.cellAt hr203 hA215 (intVals_at (i := k) (by omega)))) ?_)
            intro a218 hF219; clear hF217
            refine wpl_op (i := 11) rfl (o_val (v := (.bool (decide ((((t21.getD 0 []).getD k 0) : Int) = (1152921504606846976 : Int))))) hF219 rfl (wanted_guard rfl rfl rfl hF219 rfl (decide_eq_false hc171) rfl) rfl rfl (rn_eql (hF219.get rfl) rfl) ?_)
            intro a220 hF221; clear hF219
            refine wpl_op (i := 12) rfl (o_val (v := (.bool (decide ((((t21.getD 0 []).getD k 0) : Int) = (1152921504606846976 : Int))))) hF221 rfl rfl rfl rfl (rn_pickF (c_false hF221 rfl (decide_eq_false hc171)) (hF221.get rfl)) ?_)
            intro a222 hF223; clear hF221
            refine wpList_nil ?_
            refine hK157 _ _ ?_
            clear hK157
            have hF224 := (((((((((((((((hF223.nil.cons (hF223.get (t := 46) (v := (.bool (decide ((((t21.getD 0 []).getD k 0) : Int) = (1152921504606846976 : Int))))) rfl)).cons (hF223.get (t := 9) (v := (.slice A140 ((t21.getD k []).length) c141)) rfl)).cons (hF223.get (t := 8) (v := (.int .i64 (k : Nat))) rfl)).cons (hF223.get (t := 30) (v := (.bool (decide (((k : Nat) : Int) < ((m19 : Nat) : Int))))) rfl)).cons (hF223.get (t := 29) (v := (.int .i64 (k : Nat))) rfl)).cons (hF223.get (t := 28) (v := (.int .i64 (m19 : Nat))) rfl)).cons (hF223.get (t := 27) (v := (.slice A18 m19 c20)) rfl)).cons (hF223.get (t := 26) (v := (.bool (decide ((n : Int) ≤ (a : Int))))) rfl)).cons (hF223.get (t := 17) (v := (.bool (decide ((er26 : Int) ≠ (0 : Int))))) rfl)).cons (hF223.get (t := 7) (v := (.int .i64 er26)) rfl)).cons (hF223.get (t := 6) (v := (.slice A18 m19 c20)) rfl)).cons (hF223.get (t := 3) (v := (.pointer (some ⟨g2, 0, none⟩))) rfl)).cons (hF223.get (t := 2) (v := (.int .i64 v)) rfl)).cons (hF223.get (t := 1) (v := (.int .i64 a)) rfl)).cons (hF223.get (t := 0) (v := (.agg #[(.int .i64 n), (.slice A l.length c)])) rfl))
            clear hF223
            by_cases hc225 : (((t21.getD 0 []).getD k 0) : Int) = (1152921504606846976 : Int)
            · skip
              refine wp_cond_true (c_true hF224 rfl (decide_eq_true hc225)) ?_
              refine wp_seq_k (fun K226 hK226 => ?_)
              refine wp_region_lit ?_
              refine wpl_op (i := 0) rfl (o_val (v := (.slice none 0 0)) hF224 rfl rfl rfl rfl (rn_assign rfl) ?_)
              intro a227 hF228; clear hF224
              refine wpl_op (i := 1) rfl (o_val (v := (.int .i64 2)) hF228 rfl rfl rfl rfl (rn_assign rfl) ?_)
              intro a229 hF230; clear hF228
              refine wpList_nil ?_
              refine hK226 _ _ ?_
              clear hK226
              refine wp_ret ?_
              refine ret_block ?_
              refine ret_then ?_
              refine ret_then ?_
              refine ret_block ?_
              refine ret_then ?_
              refine ret2 hF230 rfl rfl rfl ?_
              have hq : solveE n.toNat t21 a v = 2 := solve_2 (by omega) (i := k) (by omega) (by unfold T; omega)
              exact ⟨_, _, _, t21, er26, _, rfl, hfar29.1, by rw [solR, if_neg (by omega), hq], fun h => absurd h (by omega), ((Ext.refl w).trans hx120)⟩
            · skip
              refine wp_cond_false (c_false hF224 rfl (decide_eq_false hc225)) ?_
              refine wp_skip ?_
              refine hK134 _ _ ?_
              clear hK134
              refine wp_region_lit ?_
              refine wpl_op (i := 0) rfl (o_val (v := (.int .i64 (k + 1 : Nat))) hF224 rfl rfl rfl rfl (rn_addN (a := k) (b := 1) (hF224.get rfl) rfl (by omega)) ?_)
              intro a231 hF232; clear hF224
              refine wpl_op (i := 1) rfl (o_val (v := (.int .i64 (k + 1 : Nat))) hF232 rfl rfl rfl rfl (rn_move (hF232.get rfl)) ?_)
              intro a233 hF234; clear hF232
              refine wpList_nil ?_
              refine ⟨⟨(k + 1), (((((((((((hF234.nil.cons (q_get hF234 (t := 29) rfl (by first | rfl | (congr 1; omega) | (congr 1; done)))).cons (q_get hF234 (t := 28) rfl rfl)).cons (q_get hF234 (t := 27) rfl rfl)).cons (q_get hF234 (t := 26) rfl rfl)).cons (q_get hF234 (t := 17) rfl rfl)).cons (q_get hF234 (t := 7) rfl rfl)).cons (q_get hF234 (t := 6) rfl rfl)).cons (q_get hF234 (t := 3) rfl rfl)).cons (q_get hF234 (t := 2) rfl rfl)).cons (q_get hF234 (t := 1) rfl rfl)).cons (q_get hF234 (t := 0) rfl rfl)), (by omega), (upto_step hp122 (by unfold T; omega)), ((Ext.refl w).trans hx120), b123, hf124, (by omega)⟩, ?_⟩
              rw [hF234.get (t := 29) rfl, hL126.get (t := 29) rfl]; simp [intOf] <;> omega
        · skip
          refine wp_cond_false (c_false hF131 rfl (decide_eq_false hc133)) ?_
          refine wp_exit ?_
          refine exit_then ?_
          refine exit_then ?_
          refine exit_here ?_
          refine hK109 _ _ ?_
          clear hK109
          refine wp_seq_k (fun K235 hK235 => ?_)
          refine wp_seq_k (fun K236 hK236 => ?_)
          have hk : k = n.toNat := by omega
          have z237 := hdt.sm (a.toNat) (0) (by omega) (by omega)
          have z238 := hdt.sm (0) (a.toNat) (by omega) (by omega)
          have e1 : T t21 a.toNat 0 = (t21.getD a.toNat []).getD 0 0 := rfl
          have e2 : T t21 0 a.toNat = (t21.getD 0 []).getD a.toNat 0 := rfl
          refine wp_region_lit ?_
          refine wpl_op (i := 0) rfl (o_val (v := (.int .i64 v)) hF131 rfl rfl rfl rfl (rn_move (hF131.get rfl)) ?_)
          intro a239 hF240; clear hF131
          refine wpl_op (i := 1) rfl (o_val (v := (.slice A18 m19 c20)) hF240 rfl rfl rfl rfl (rn_move (hF240.get rfl)) ?_)
          intro a241 hF242; clear hF240
          refine wpl_op (i := 2) rfl (o_val (v := (.int .i64 a)) hF242 rfl rfl rfl rfl (rn_move (hF242.get rfl)) ?_)
          intro a243 hF244; clear hF242
          obtain ⟨b245, o246, A247, c248, hA249, hl250, hc251, hr252, z253, z254⟩ := RIss.get (i := (a : Int).toNat) hf124 (by omega)
          have z255 := hdt.row ((a : Int).toNat) (by omega)
          refine wpl_op (i := 3) rfl (o_val (v := (.pointer (some ⟨b245, o246 + (a : Int).toNat, none⟩))) hF244 rfl rfl rfl rfl (rn_index1 Try.underlying33 (by kernel_rfl : (Try.prog.info? 25).map (·.size) = some 1) ((hF244.get rfl).trans (by rw [hA249])) (hF244.get rfl) (by omega : (0 : Int) ≤ a) (by omega : (a : Int) < ((m19 : Nat) : Int))) ?_)
          intro a256 hF257; clear hF244
          refine wpl_op (i := 4) rfl (o_val (v := (.slice A247 ((t21.getD ((a : Int).toNat) []).length) c248)) hF257 rfl rfl rfl rfl (rn_load (isAgg_no Try.underlying25 rfl) (hF257.get rfl) (Ext.keep (Ext.refl w118) hc251)) ?_)
          intro a258 hF259; clear hF257
          obtain ⟨b260, o261, hA262, -⟩ := Fl.at hr252 (by omega)
          refine wpl_op (i := 5) rfl (o_val (v := (.pointer (some ⟨b260, o261 + 0, none⟩))) hF259 rfl rfl rfl rfl (rn_index1 Try.underlying25 (by kernel_rfl : (Try.prog.info? 3).map (·.size) = some 1) ((hF259.get rfl).trans (by rw [hA262])) rfl (by omega : (0 : Int) ≤ 0) (by omega : (0 : Int) < (((t21.getD ((a : Int).toNat) []).length : Nat) : Int))) ?_)
          intro a263 hF264; clear hF259
          refine wpl_op (i := 6) rfl (o_val (v := (.int .i64 ((t21.getD ((a : Int).toNat) []).getD 0 0))) hF264 rfl rfl rfl rfl (rn_load (isAgg_no Try.underlying3 rfl) (hF264.get rfl) (Fl.cellAt hr252 hA262 (intVals_at (i := 0) (by omega)))) ?_)
          intro a265 hF266; clear hF264
          refine wpl_op (i := 7) rfl (o_val (v := (.int .i64 (-(((t21.getD ((a : Int).toNat) []).getD 0 0) : Int)))) hF266 rfl rfl rfl rfl (rn_neg (hF266.get rfl) (by omega) rfl) ?_)
          intro a267 hF268; clear hF266
          refine wpl_op (i := 8) rfl (o_val (v := (.bool (decide ((v : Int) < ((-(((t21.getD ((a : Int).toNat) []).getD 0 0) : Int)) : Int))))) hF268 rfl rfl rfl rfl (rn_lss (hF268.get rfl) (hF268.get rfl)) ?_)
          intro a269 hF270; clear hF268
          refine wpl_op (i := 9) rfl (o_val (v := (.bool (decide ((v : Int) < ((-(((t21.getD ((a : Int).toNat) []).getD 0 0) : Int)) : Int))))) hF270 rfl rfl rfl rfl (rn_move (hF270.get rfl)) ?_)
          intro a271 hF272; clear hF270
          by_cases hc273 : (v : Int) < ((-(((t21.getD ((a : Int).toNat) []).getD 0 0) : Int)) : Int)
          · skip
            refine wpl_op (i := 10) rfl (o_skip hF272 rfl (unwanted_guard rfl rfl rfl hF272 rfl (decide_eq_true hc273) rfl) rfl rfl ?_)
            intro a274 hF275; clear hF272
            refine wpl_op (i := 11) rfl (o_skip hF275 rfl (unwanted_guard rfl rfl rfl hF275 rfl (decide_eq_true hc273) rfl) rfl rfl ?_)
            intro a276 hF277; clear hF275
            refine wpl_op (i := 12) rfl (o_skip hF277 rfl (unwanted_guard rfl rfl rfl hF277 rfl (decide_eq_true hc273) rfl) rfl rfl ?_)
            intro a278 hF279; clear hF277
            refine wpl_op (i := 13) rfl (o_skip hF279 rfl (unwanted_guard rfl rfl rfl hF279 rfl (decide_eq_true hc273) rfl) rfl rfl ?_)
            intro a280 hF281; clear hF279
            refine wpl_op (i := 14) rfl (o_skip hF281 rfl (unwanted_guard rfl rfl rfl hF281 rfl (decide_eq_true hc273) rfl) rfl rfl ?_)
            intro a282 hF283; clear hF281
            refine wpl_op (i := 15) rfl (o_skip hF283 rfl (unwanted_guard rfl rfl rfl hF283 rfl (decide_eq_true hc273) rfl) rfl rfl ?_)
            intro a284 hF285; clear hF283
            refine wpl_op (i := 16) rfl (o_skip hF285 rfl (unwanted_guard rfl rfl rfl hF285 rfl (decide_eq_true hc273) rfl) rfl rfl ?_)
            intro a286 hF287; clear hF285
            refine wpl_op (i := 17) rfl (o_skip hF287 rfl (unwanted_guard rfl rfl rfl hF287 rfl (decide_eq_true hc273) rfl) rfl rfl ?_)
            intro a288 hF289; clear hF287
            refine wpl_op (i := 18) rfl (o_val (v := (.bool true)) hF289 rfl rfl rfl rfl (rn_pickT (c_true hF289 rfl (decide_eq_true hc273)) rfl) ?_)
            intro a290 hF291; clear hF289
            refine wpList_nil ?_
            refine hK236 _ _ ?_
            clear hK236
            have hF292 := (((((((((((((hF291.nil.cons (hF291.get (t := 66) (v := (.bool true)) rfl)).cons (hF291.get (t := 30) (v := (.bool (decide (((k : Nat) : Int) < ((m19 : Nat) : Int))))) rfl)).cons (hF291.get (t := 29) (v := (.int .i64 (k : Nat))) rfl)).cons (hF291.get (t := 28) (v := (.int .i64 (m19 : Nat))) rfl)).cons (hF291.get (t := 27) (v := (.slice A18 m19 c20)) rfl)).cons (hF291.get (t := 26) (v := (.bool (decide ((n : Int) ≤ (a : Int))))) rfl)).cons (hF291.get (t := 17) (v := (.bool (decide ((er26 : Int) ≠ (0 : Int))))) rfl)).cons (hF291.get (t := 7) (v := (.int .i64 er26)) rfl)).cons (hF291.get (t := 6) (v := (.slice A18 m19 c20)) rfl)).cons (hF291.get (t := 3) (v := (.pointer (some ⟨g2, 0, none⟩))) rfl)).cons (hF291.get (t := 2) (v := (.int .i64 v)) rfl)).cons (hF291.get (t := 1) (v := (.int .i64 a)) rfl)).cons (hF291.get (t := 0) (v := (.agg #[(.int .i64 n), (.slice A l.length c)])) rfl))
            clear hF291
            refine wp_cond_true (c_true hF292 rfl rfl) ?_
            refine wp_seq_k (fun K293 hK293 => ?_)
            refine wp_region_lit ?_
            refine wpl_op (i := 0) rfl (o_val (v := (.slice none 0 0)) hF292 rfl rfl rfl rfl (rn_assign rfl) ?_)
            intro a294 hF295; clear hF292
            refine wpl_op (i := 1) rfl (o_val (v := (.int .i64 1)) hF295 rfl rfl rfl rfl (rn_assign rfl) ?_)
            intro a296 hF297; clear hF295
            refine wpList_nil ?_
            refine hK293 _ _ ?_
            clear hK293
            refine wp_ret ?_
            refine ret_then ?_
            refine ret2 hF297 rfl rfl rfl ?_
            have hq : solveE n.toNat t21 a v = 1 := solve_3 (by omega) (fun i hi => hp122 i (by omega)) (by omega)
            exact ⟨_, _, _, t21, er26, _, rfl, hfar29.1, by rw [solR, if_neg (by omega), hq], fun h => absurd h (by omega), ((Ext.refl w).trans hx120)⟩
          · skip
            refine wpl_op (i := 10) rfl (o_val (v := (.int .i64 v)) hF272 rfl (wanted_guard rfl rfl rfl hF272 rfl (decide_eq_false hc273) rfl) rfl rfl (rn_move (hF272.get rfl)) ?_)
            intro a298 hF299; clear hF272
            refine wpl_op (i := 11) rfl (o_val (v := (.slice A18 m19 c20)) hF299 rfl (wanted_guard rfl rfl rfl hF299 rfl (decide_eq_false hc273) rfl) rfl rfl (rn_move (hF299.get rfl)) ?_)
            intro a300 hF301; clear hF299
            obtain ⟨b302, o303, A304, c305, hA306, hl307, hc308, hr309, z310, z311⟩ := RIss.get (i := 0) hf124 (by omega)
            have z312 := hdt.row 0 (by omega)
            refine wpl_op (i := 12) rfl (o_val (v := (.pointer (some ⟨b302, o303 + 0, none⟩))) hF301 rfl (wanted_guard rfl rfl rfl hF301 rfl (decide_eq_false hc273) rfl) rfl rfl (rn_index1 Try.underlying33 (by kernel_rfl : (Try.prog.info? 25).map (·.size) = some 1) ((hF301.get rfl).trans (by rw [hA306])) rfl (by omega : (0 : Int) ≤ 0) (by omega : (0 : Int) < ((m19 : Nat) : Int))) ?_)
            intro a313 hF314; clear hF301
            refine wpl_op (i := 13) rfl (o_val (v := (.slice A304 ((t21.getD 0 []).length) c305)) hF314 rfl (wanted_guard rfl rfl rfl hF314 rfl (decide_eq_false hc273) rfl) rfl rfl (rn_load (isAgg_no Try.underlying25 rfl) (hF314.get rfl) (Ext.keep (Ext.refl w118) hc308)) ?_)
            intro a315 hF316; clear hF314
            refine wpl_op (i := 14) rfl (o_val (v := (.int .i64 a)) hF316 rfl (wanted_guard rfl rfl rfl hF316 rfl (decide_eq_false hc273) rfl) rfl rfl (rn_move (hF316.get rfl)) ?_)
            intro a317 hF318; clear hF316
            obtain ⟨b319, o320, hA321, -⟩ := Fl.at hr309 (by omega)
            refine wpl_op (i := 15) rfl (o_val (v := (.pointer (some ⟨b319, o320 + (a : Int).toNat, none⟩))) hF318 rfl (wanted_guard rfl rfl rfl hF318 rfl (decide_eq_false hc273) rfl) rfl rfl (rn_index1 Try.underlying25 (by kernel_rfl : (Try.prog.info? 3).map (·.size) = some 1) ((hF318.get rfl).trans (by rw [hA321])) (hF318.get rfl) (by omega : (0 : Int) ≤ a) (by omega : (a : Int) < (((t21.getD 0 []).length : Nat) : Int))) ?_)
            intro a322 hF323; clear hF318
            refine wpl_op (i := 16) rfl (o_val (v := (.int .i64 ((t21.getD 0 []).getD ((a : Int).toNat) 0))) hF323 rfl (wanted_guard rfl rfl rfl hF323 rfl (decide_eq_false hc273) rfl) rfl rfl (rn_load (isAgg_no Try.underlying3 rfl) (hF323.get rfl) (Fl.cellAt hr309 hA321 (intVals_at (i := (a : Int).toNat) (by omega)))) ?_)
            intro a324 hF325; clear hF323
            refine wpl_op (i := 17) rfl (o_val (v := (.bool (decide ((((t21.getD 0 []).getD ((a : Int).toNat) 0) : Int) < (v : Int))))) hF325 rfl (wanted_guard rfl rfl rfl hF325 rfl (decide_eq_false hc273) rfl) rfl rfl (rn_gtr (hF325.get rfl) (hF325.get rfl)) ?_)
            intro a326 hF327; clear hF325
            refine wpl_op (i := 18) rfl (o_val (v := (.bool (decide ((((t21.getD 0 []).getD ((a : Int).toNat) 0) : Int) < (v : Int))))) hF327 rfl rfl rfl rfl (rn_pickF (c_false hF327 rfl (decide_eq_false hc273)) (hF327.get rfl)) ?_)
            intro a328 hF329; clear hF327
            refine wpList_nil ?_
            refine hK236 _ _ ?_
            clear hK236
            have hF330 := (((((((((((((hF329.nil.cons (hF329.get (t := 66) (v := (.bool (decide ((((t21.getD 0 []).getD ((a : Int).toNat) 0) : Int) < (v : Int))))) rfl)).cons (hF329.get (t := 30) (v := (.bool (decide (((k : Nat) : Int) < ((m19 : Nat) : Int))))) rfl)).cons (hF329.get (t := 29) (v := (.int .i64 (k : Nat))) rfl)).cons (hF329.get (t := 28) (v := (.int .i64 (m19 : Nat))) rfl)).cons (hF329.get (t := 27) (v := (.slice A18 m19 c20)) rfl)).cons (hF329.get (t := 26) (v := (.bool (decide ((n : Int) ≤ (a : Int))))) rfl)).cons (hF329.get (t := 17) (v := (.bool (decide ((er26 : Int) ≠ (0 : Int))))) rfl)).cons (hF329.get (t := 7) (v := (.int .i64 er26)) rfl)).cons (hF329.get (t := 6) (v := (.slice A18 m19 c20)) rfl)).cons (hF329.get (t := 3) (v := (.pointer (some ⟨g2, 0, none⟩))) rfl)).cons (hF329.get (t := 2) (v := (.int .i64 v)) rfl)).cons (hF329.get (t := 1) (v := (.int .i64 a)) rfl)).cons (hF329.get (t := 0) (v := (.agg #[(.int .i64 n), (.slice A l.length c)])) rfl))
            clear hF329
            by_cases hc331 : (((t21.getD 0 []).getD ((a : Int).toNat) 0) : Int) < (v : Int)
            · skip
              refine wp_cond_true (c_true hF330 rfl (decide_eq_true hc331)) ?_
              refine wp_seq_k (fun K332 hK332 => ?_)
              refine wp_region_lit ?_
              refine wpl_op (i := 0) rfl (o_val (v := (.slice none 0 0)) hF330 rfl rfl rfl rfl (rn_assign rfl) ?_)
              intro a333 hF334; clear hF330
              refine wpl_op (i := 1) rfl (o_val (v := (.int .i64 1)) hF334 rfl rfl rfl rfl (rn_assign rfl) ?_)
              intro a335 hF336; clear hF334
              refine wpList_nil ?_
              refine hK332 _ _ ?_
              clear hK332
              refine wp_ret ?_
              refine ret_then ?_
              refine ret2 hF336 rfl rfl rfl ?_
              have hq : solveE n.toNat t21 a v = 1 := solve_3 (by omega) (fun i hi => hp122 i (by omega)) (by omega)
              exact ⟨_, _, _, t21, er26, _, rfl, hfar29.1, by rw [solR, if_neg (by omega), hq], fun h => absurd h (by omega), ((Ext.refl w).trans hx120)⟩
            · skip
              refine wp_cond_false (c_false hF330 rfl (decide_eq_false hc331)) ?_
              refine wp_skip ?_
              refine hK235 _ _ ?_
              clear hK235
              refine wp_seq_k (fun K337 hK337 => ?_)
              refine wp_region_lit ?_
              refine wpl_op (i := 0) rfl (o_val (v := (.slice A18 m19 c20)) hF330 rfl rfl rfl rfl (rn_move (hF330.get rfl)) ?_)
              intro a338 hF339; clear hF330
              refine wpl_op (i := 1) rfl (o_val (v := (.slice A18 m19 c20)) hF339 rfl rfl rfl rfl (rn_assign (hF339.get rfl)) ?_)
              intro a340 hF341; clear hF339
              refine wpl_op (i := 2) rfl (o_val (v := (.int .i64 0)) hF341 rfl rfl rfl rfl (rn_assign rfl) ?_)
              intro a342 hF343; clear hF341
              refine wpList_nil ?_
              refine hK337 _ _ ?_
              clear hK337
              refine wp_ret ?_
              refine ret2 hF343 rfl rfl rfl ?_
              have hq : solveE n.toNat t21 a v = 0 := solve_0 (by omega) (fun i hi => hp122 i (by omega)) (by omega)
              exact ⟨_, _, _, t21, er26, _, rfl, hfar29.1, by rw [solR, if_neg (by omega), hq], fun _ => hf124.subB (fun b _ hb => by simp only [Clip] at hb; omega), ((Ext.refl w).trans hx120)⟩

theorem solve_at {v : Value} {m : Nat} (n : Int) (l : List E3) (a val : Int) (w : World) (hf : Fl S w 3 v m (edVals l)) (hfew : vOk n l = true → n ≤ 8 ∧ l.length ≤ 31) :
    Calls Try.prog 33 #[.agg #[.int .i64 n, v], .int .i64 a, .int .i64 val] w (fun e w' => ∃ A m c t er e2, e = .returned (.tuple #[.slice A m c, .int .i64 e2]) ∧ SysP n l t er ∧ e2 = solR n t er a val ∧ (e2 = 0 → RIss (fun b => w.heap.size ≤ b) w' (.slice A m c) t) ∧ Ext w w') := by
  have hm := Fl.edlen hf
  subst hm
  obtain ⟨A, c, rfl, _⟩ := hf.form
  exact solve_any A c n l a val w hf hfew

end Go.Proofs.Ytjmdodgmoehfkaa
