/- Contracts of the reference's Far, arguments, Few, Same, SameFar, Cycle, and of boundsTable. -/
import Derived.Test.YtjmdodgmoehfkaaProg
import Derived.Test.YtjmdodgmoehfkaaBndK
import Derived.Test.YtjmdodgmoehfkaaBndQ
import Derived.KernelRfl
namespace Go.Proofs.Ytjmdodgmoehfkaa
open Go.RowKit

variable {S S' : Nat → Prop}

theorem rdist_at {v : Value} {m : Nat} (n : Int) (l : List E3) (w : World) (hf : Fl S w 3 v m (edVals l)) (hv : vOk n l = true) (h8 : n ≤ 8) (hm : l.length ≤ 31) :
    Calls Try.prog 32 #[.agg #[.int .i64 n, v]] w (fun e w' => ∃ A' m c' t ok, e = .returned (.tuple #[.slice A' m c', .bool ok]) ∧ RIss (fun b => w.heap.size ≤ b) w' (.slice A' m c') t ∧ ((ok = false ∧ P15.Neg (eds l) ∧ t = []) ∨ (ok = true ∧ ¬ P15.Neg (eds l) ∧ DistT l n.toNat t)) ∧ Ext w w') := by
  have hm' := Fl.edlen hf
  subst hm'
  obtain ⟨A, c, rfl, _⟩ := hf.form
  have h1 := vOk_n hv
  obtain ⟨nn, rfl⟩ : ∃ nn : Nat, n = (nn : Int) := ⟨n.toNat, by omega⟩
  exact rdist_any A c nn l w hf hv (by omega) (by omega) hm

set_option maxRecDepth 100000 in
set_option maxHeartbeats 1000000 in
theorem rfar_any (A : Option Addr) (c : Nat) (n : Int) (l : List E3) (w : World) (hf : Fl S w 3 (.slice A l.length c) l.length (edVals l)) (hfew : vOk n l = true → n ≤ 8 ∧ l.length ≤ 31) :
    Calls Try.prog 17 #[.agg #[.int .i64 n, .slice A l.length c]] w (fun e w' => ∃ A m c t er, e = .returned (.tuple #[.slice A m c, .int .i64 er]) ∧ RIss (fun b => w.heap.size ≤ b) w' (.slice A m c) t ∧ SysP n l t er ∧ Ext w w') := by
  have hc : Fl (Clip S w) w 3 (.slice A l.length c) l.length (edVals l) := hf.clip
  have hcc := (Fl.cel hc).2.1
  refine calls_enter (l := [(.agg #[(.int .i64 n), (.slice A l.length c)])]) Try.func17 rfl rfl rfl (fun aA hF => ?_)
  refine wp_seq_k (fun K1 hK1 => ?_)
  refine wp_region_lit ?_
  refine wpl_op (i := 0) rfl (o_new (fun g => (.pointer (some ⟨g, 0, none⟩))) [(.int .i64 n), (.slice A l.length c)] 24 hF rfl rfl rfl rfl (rn_box (hF.get rfl) (by kernel_rfl)) ?_)
  intro g2 w3 a8 hF9 z6 z7 b4 hx5; clear hF
  refine wpl_op (i := 1) rfl (o_val (v := (.slice none 0 0)) hF9 rfl rfl rfl rfl (rn_assign rfl) ?_)
  intro a10 hF11; clear hF9
  refine wpl_op (i := 2) rfl (o_val (v := (.int .i64 0)) hF11 rfl rfl rfl rfl (rn_assign rfl) ?_)
  intro a12 hF13; clear hF11
  refine wpList_nil ?_
  refine hK1 _ _ ?_
  clear hK1
  refine wp_seq_k (fun K14 hK14 => ?_)
  refine wp_region_lit ?_
  refine wpl_op (i := 0) rfl (o_val (v := (.agg #[(.int .i64 n), (.slice A l.length c)])) hF13 rfl rfl rfl rfl (rn_loadBlk (hF13.get rfl) b4 Try.underlying24 rfl (by kernel_rfl : (Try.prog.info? 24).map (·.size) = some 2)) ?_)
  intro a15 hF16; clear hF13
  have d17 := (hc.ext hx5)
  refine wpl_op (i := 1) rfl (o_call hF16 rfl rfl rfl rfl (rn_call (args1 (hF16.get rfl)) rfl (by kernel_rfl)) (rcheck_at (v := (.slice A l.length c)) n l _ d17) ?_)
  rintro _ w18 ⟨rfl, hx19⟩
  refine ⟨_, rfl, ?_⟩; intro a20 hF21; clear hF16; have z22 := hx19.size
  refine wpl_op (i := 2) rfl (o_val (v := (.int .i64 (chk n l))) hF21 rfl rfl rfl rfl (rn_assign (hF21.get rfl)) ?_)
  intro a23 hF24; clear hF21
  refine wpList_nil ?_
  refine hK14 _ _ ?_
  clear hK14
  refine wp_seq_k (fun K25 hK25 => ?_)
  refine wp_seq_k (fun K26 hK26 => ?_)
  refine wp_region_lit ?_
  refine wpl_op (i := 0) rfl (o_val (v := (.int .i64 (chk n l))) hF24 rfl rfl rfl rfl (rn_move (hF24.get rfl)) ?_)
  intro a27 hF28; clear hF24
  refine wpl_op (i := 1) rfl (o_val (v := (.bool (decide (((chk n l) : Int) ≠ (0 : Int))))) hF28 rfl rfl rfl rfl (rn_neq (hF28.get rfl) rfl) ?_)
  intro a29 hF30; clear hF28
  refine wpList_nil ?_
  refine hK26 _ _ ?_
  clear hK26
  by_cases hc31 : ((chk n l) : Int) ≠ (0 : Int)
  · skip
    refine wp_cond_true (c_true hF30 rfl (decide_eq_true hc31)) ?_
    refine wp_seq_k (fun K32 hK32 => ?_)
    refine wp_region_lit ?_
    refine wpl_op (i := 0) rfl (o_val (v := (.int .i64 (chk n l))) hF30 rfl rfl rfl rfl (rn_move (hF30.get rfl)) ?_)
    intro a33 hF34; clear hF30
    refine wpl_op (i := 1) rfl (o_val (v := (.slice none 0 0)) hF34 rfl rfl rfl rfl (rn_assign rfl) ?_)
    intro a35 hF36; clear hF34
    refine wpl_op (i := 2) rfl (o_val (v := (.int .i64 (chk n l))) hF36 rfl rfl rfl rfl (rn_assign (hF36.get rfl)) ?_)
    intro a37 hF38; clear hF36
    refine wpList_nil ?_
    refine hK32 _ _ ?_
    clear hK32
    have hF39 := ((((((hF38.nil.cons (hF38.get (t := 10) (v := (.bool (decide (((chk n l) : Int) ≠ (0 : Int))))) rfl)).cons (hF38.get (t := 4) (v := (.int .i64 (chk n l))) rfl)).cons (hF38.get (t := 3) (v := (.int .i64 (chk n l))) rfl)).cons (hF38.get (t := 2) (v := (.slice none 0 0)) rfl)).cons (hF38.get (t := 1) (v := (.pointer (some ⟨g2, 0, none⟩))) rfl)).cons (hF38.get (t := 0) (v := (.agg #[(.int .i64 n), (.slice A l.length c)])) rfl))
    clear hF38
    refine wp_ret ?_
    refine ret_then ?_
    refine ret2 hF39 rfl rfl rfl ?_
    have hb := chk_b (by omega : chk n l ≠ 0)
    exact ⟨_, _, _, [], _, rfl, RIss.nil _, .inl ⟨hb.2, hb.1, rfl⟩, (((Ext.refl w).trans hx5).trans hx19)⟩
  · skip
    refine wp_cond_false (c_false hF30 rfl (decide_eq_false hc31)) ?_
    refine wp_skip ?_
    refine hK25 _ _ ?_
    clear hK25
    refine wp_seq_k (fun K40 hK40 => ?_)
    refine wp_region_lit ?_
    have b41 : Blk w18 g2 24 [(.int .i64 n), (.slice A l.length c)] := (b4.ext hx19)
    refine wpl_op (i := 0) rfl (o_val (v := (.agg #[(.int .i64 n), (.slice A l.length c)])) hF30 rfl rfl rfl rfl (rn_loadBlk (hF30.get rfl) b41 Try.underlying24 rfl (by kernel_rfl : (Try.prog.info? 24).map (·.size) = some 2)) ?_)
    intro a42 hF43; clear hF30
    have d44 := ((hc.ext hx5).ext hx19)
    have hvo := chk_v (by omega : chk n l = 0)
    obtain ⟨h8, hm⟩ := hfew hvo
    refine wpl_op (i := 1) rfl (o_call hF43 rfl rfl rfl rfl (rn_call (args1 (hF43.get rfl)) rfl (by kernel_rfl)) (rdist_at (v := (.slice A l.length c)) n l _ d44 hvo h8 hm) ?_)
    rintro _ w52 ⟨A45, m46, c47, t48, ok49, rfl, ht50, hd51, hx53⟩
    refine ⟨_, rfl, ?_⟩; intro a54 hF55; clear hF43; have z56 := hx53.size
    have hf57 : RIss (Clip (fun b => w18.heap.size ≤ b) w52) w52 (.slice A45 m46 c47) t48 := ht50.clip
    refine wpl_op (i := 2) rfl (o_val (v := (.tuple #[(.slice A45 m46 c47), (.bool ok49)])) hF55 rfl rfl rfl rfl (rn_move (hF55.get rfl)) ?_)
    intro a58 hF59; clear hF55
    refine wpl_op (i := 3) rfl (o_val (v := (.slice A45 m46 c47)) hF59 rfl rfl rfl rfl (rn_extract (hF59.get rfl) rfl) ?_)
    intro a60 hF61; clear hF59
    refine wpl_op (i := 4) rfl (o_val (v := (.bool ok49)) hF61 rfl rfl rfl rfl (rn_extract (hF61.get rfl) rfl) ?_)
    intro a62 hF63; clear hF61
    refine wpl_op (i := 5) rfl (o_val (v := (.slice A45 m46 c47)) hF63 rfl rfl rfl rfl (rn_assign (hF63.get rfl)) ?_)
    intro a64 hF65; clear hF63
    refine wpl_op (i := 6) rfl (o_val (v := (.bool ok49)) hF65 rfl rfl rfl rfl (rn_assign (hF65.get rfl)) ?_)
    intro a66 hF67; clear hF65
    refine wpList_nil ?_
    refine hK40 _ _ ?_
    clear hK40
    have hF68 := ((((((((hF67.nil.cons (hF67.get (t := 6) (v := (.bool ok49)) rfl)).cons (hF67.get (t := 5) (v := (.slice A45 m46 c47)) rfl)).cons (hF67.get (t := 10) (v := (.bool (decide (((chk n l) : Int) ≠ (0 : Int))))) rfl)).cons (hF67.get (t := 4) (v := (.int .i64 (chk n l))) rfl)).cons (hF67.get (t := 3) (v := (.int .i64 0)) rfl)).cons (hF67.get (t := 2) (v := (.slice none 0 0)) rfl)).cons (hF67.get (t := 1) (v := (.pointer (some ⟨g2, 0, none⟩))) rfl)).cons (hF67.get (t := 0) (v := (.agg #[(.int .i64 n), (.slice A l.length c)])) rfl))
    clear hF67
    refine wp_seq_k (fun K69 hK69 => ?_)
    refine wp_seq_k (fun K70 hK70 => ?_)
    refine wp_region_lit ?_
    refine wpl_op (i := 0) rfl (o_val (v := (.bool ok49)) hF68 rfl rfl rfl rfl (rn_move (hF68.get rfl)) ?_)
    intro a71 hF72; clear hF68
    refine wpl_op (i := 1) rfl (o_val (v := (.bool (!ok49))) hF72 rfl rfl rfl rfl (rn_not' (hF72.get rfl) rfl) ?_)
    intro a73 hF74; clear hF72
    refine wpList_nil ?_
    refine hK70 _ _ ?_
    clear hK70
    rcases Bool.eq_false_or_eq_true ok49 with hc75 | hc75
    · skip
      refine wp_cond_false (c_false hF74 rfl (not_t hc75)) ?_
      refine wp_skip ?_
      refine hK69 _ _ ?_
      clear hK69
      refine wp_seq_k (fun K76 hK76 => ?_)
      refine wp_region_lit ?_
      refine wpl_op (i := 0) rfl (o_val (v := (.slice A45 m46 c47)) hF74 rfl rfl rfl rfl (rn_move (hF74.get rfl)) ?_)
      intro a77 hF78; clear hF74
      refine wpl_op (i := 1) rfl (o_val (v := (.slice A45 m46 c47)) hF78 rfl rfl rfl rfl (rn_assign (hF78.get rfl)) ?_)
      intro a79 hF80; clear hF78
      refine wpl_op (i := 2) rfl (o_val (v := (.int .i64 0)) hF80 rfl rfl rfl rfl (rn_assign rfl) ?_)
      intro a81 hF82; clear hF80
      refine wpList_nil ?_
      refine hK76 _ _ ?_
      clear hK76
      refine wp_ret ?_
      refine ret2 hF82 rfl rfl rfl ?_
      rw [hc75] at hd51
      exact ⟨_, _, _, t48, _, rfl, hf57.subB (fun b _ hb => by simp only [Clip] at hb; omega), .inr (.inr (by rcases hd51 with h | h; cases h.1; exact ⟨rfl, hvo, h.2⟩)), ((((Ext.refl w).trans hx5).trans hx19).trans hx53)⟩
    · skip
      refine wp_cond_true (c_true hF74 rfl (not_f hc75)) ?_
      refine wp_seq_k (fun K83 hK83 => ?_)
      refine wp_region_lit ?_
      refine wpl_op (i := 0) rfl (o_val (v := (.slice none 0 0)) hF74 rfl rfl rfl rfl (rn_assign rfl) ?_)
      intro a84 hF85; clear hF74
      refine wpl_op (i := 1) rfl (o_val (v := (.int .i64 151)) hF85 rfl rfl rfl rfl (rn_assign rfl) ?_)
      intro a86 hF87; clear hF85
      refine wpList_nil ?_
      refine hK83 _ _ ?_
      clear hK83
      refine wp_ret ?_
      refine ret_then ?_
      refine ret2 hF87 rfl rfl rfl ?_
      rw [hc75] at hd51
      exact ⟨_, _, _, [], _, rfl, RIss.nil _, .inr (.inl ⟨rfl, hvo, (by rcases hd51 with h | h; exact h.2.1; cases h.1), rfl⟩), ((((Ext.refl w).trans hx5).trans hx19).trans hx53)⟩

theorem rfar_at {v : Value} {m : Nat} (n : Int) (l : List E3) (w : World) (hf : Fl S w 3 v m (edVals l)) (hfew : vOk n l = true → n ≤ 8 ∧ l.length ≤ 31) :
    Calls Try.prog 17 #[.agg #[.int .i64 n, v]] w (fun e w' => ∃ A m c t er, e = .returned (.tuple #[.slice A m c, .int .i64 er]) ∧ RIss (fun b => w.heap.size ≤ b) w' (.slice A m c) t ∧ SysP n l t er ∧ Ext w w') := by
  have hm := Fl.edlen hf
  subst hm
  obtain ⟨A, c, rfl, _⟩ := hf.form
  exact rfar_any A c n l w hf hfew

set_option maxRecDepth 100000 in
set_option maxHeartbeats 1000000 in
theorem args_any (A : Option Addr) (c : Nat) (n : Int) (l : List E3) (a v : Int) (w : World) (hf : Fl S w 3 (.slice A l.length c) l.length (edVals l)) (hfew : vOk n l = true → n ≤ 8 ∧ l.length ≤ 31) :
    Calls Try.prog 34 #[.agg #[.int .i64 n, .slice A l.length c], .int .i64 a, .int .i64 v] w (fun e w' => ∃ A m c t er e2, e = .returned (.tuple #[.slice A m c, .int .i64 e2]) ∧ SysP n l t er ∧ e2 = solR n t er a v ∧ (e2 = 0 → RIss (fun b => w.heap.size ≤ b) w' (.slice A m c) t) ∧ Ext w w') := by
  have hc : Fl (Clip S w) w 3 (.slice A l.length c) l.length (edVals l) := hf.clip
  have hcc := (Fl.cel hc).2.1
  refine calls_enter (l := [(.agg #[(.int .i64 n), (.slice A l.length c)]), (.int .i64 a), (.int .i64 v)]) Try.func34 rfl rfl rfl (fun aA hF => ?_)
  refine wp_seq_k (fun K1 hK1 => ?_)
  refine wp_region_lit ?_
  refine wpl_op (i := 0) rfl (o_new (fun g => (.pointer (some ⟨g, 0, none⟩))) [(.int .i64 n), (.slice A l.length c)] 24 hF rfl rfl rfl rfl (rn_box (hF.get rfl) (by kernel_rfl)) ?_)
  intro g2 w3 a8 hF9 z6 z7 b4 hx5; clear hF
  refine wpl_op (i := 1) rfl (o_val (v := (.slice none 0 0)) hF9 rfl rfl rfl rfl (rn_assign rfl) ?_)
  intro a10 hF11; clear hF9
  refine wpl_op (i := 2) rfl (o_val (v := (.int .i64 0)) hF11 rfl rfl rfl rfl (rn_assign rfl) ?_)
  intro a12 hF13; clear hF11
  refine wpList_nil ?_
  refine hK1 _ _ ?_
  clear hK1
  refine wp_seq_k (fun K14 hK14 => ?_)
  refine wp_region_lit ?_
  refine wpl_op (i := 0) rfl (o_val (v := (.agg #[(.int .i64 n), (.slice A l.length c)])) hF13 rfl rfl rfl rfl (rn_loadBlk (hF13.get rfl) b4 Try.underlying24 rfl (by kernel_rfl : (Try.prog.info? 24).map (·.size) = some 2)) ?_)
  intro a15 hF16; clear hF13
  have d17 := (hc.ext hx5)
  refine wpl_op (i := 1) rfl (o_call hF16 rfl rfl rfl rfl (rn_call (args1 (hF16.get rfl)) rfl (by kernel_rfl)) (rfar_at (v := (.slice A l.length c)) n l _ d17 hfew) ?_)
  rintro _ w26 ⟨A18, m19, c20, t21, er22, rfl, ht23, hfar24, hx27⟩
  have z25 := RIss.len ht23
  refine ⟨_, rfl, ?_⟩; intro a28 hF29; clear hF16; have z30 := hx27.size
  have hf31 : RIss (Clip (fun b => w3.heap.size ≤ b) w26) w26 (.slice A18 m19 c20) t21 := ht23.clip
  refine wpl_op (i := 2) rfl (o_val (v := (.tuple #[(.slice A18 m19 c20), (.int .i64 er22)])) hF29 rfl rfl rfl rfl (rn_move (hF29.get rfl)) ?_)
  intro a32 hF33; clear hF29
  refine wpl_op (i := 3) rfl (o_val (v := (.slice A18 m19 c20)) hF33 rfl rfl rfl rfl (rn_extract (hF33.get rfl) rfl) ?_)
  intro a34 hF35; clear hF33
  refine wpl_op (i := 4) rfl (o_val (v := (.int .i64 er22)) hF35 rfl rfl rfl rfl (rn_extract (hF35.get rfl) rfl) ?_)
  intro a36 hF37; clear hF35
  refine wpl_op (i := 5) rfl (o_val (v := (.slice A18 m19 c20)) hF37 rfl rfl rfl rfl (rn_assign (hF37.get rfl)) ?_)
  intro a38 hF39; clear hF37
  refine wpl_op (i := 6) rfl (o_val (v := (.int .i64 er22)) hF39 rfl rfl rfl rfl (rn_assign (hF39.get rfl)) ?_)
  intro a40 hF41; clear hF39
  refine wpList_nil ?_
  refine hK14 _ _ ?_
  clear hK14
  have hF42 := ((((((((hF41.nil.cons (hF41.get (t := 9) (v := (.int .i64 er22)) rfl)).cons (hF41.get (t := 8) (v := (.slice A18 m19 c20)) rfl)).cons (hF41.get (t := 7) (v := (.int .i64 0)) rfl)).cons (hF41.get (t := 6) (v := (.slice none 0 0)) rfl)).cons (hF41.get (t := 3) (v := (.pointer (some ⟨g2, 0, none⟩))) rfl)).cons (hF41.get (t := 2) (v := (.int .i64 v)) rfl)).cons (hF41.get (t := 1) (v := (.int .i64 a)) rfl)).cons (hF41.get (t := 0) (v := (.agg #[(.int .i64 n), (.slice A l.length c)])) rfl))
  clear hF41
  refine wp_seq_k (fun K43 hK43 => ?_)
  refine wp_seq_k (fun K44 hK44 => ?_)
  refine wp_region_lit ?_
  refine wpl_op (i := 0) rfl (o_val (v := (.int .i64 er22)) hF42 rfl rfl rfl rfl (rn_move (hF42.get rfl)) ?_)
  intro a45 hF46; clear hF42
  refine wpl_op (i := 1) rfl (o_val (v := (.bool (decide ((er22 : Int) ≠ (0 : Int))))) hF46 rfl rfl rfl rfl (rn_neq (hF46.get rfl) rfl) ?_)
  intro a47 hF48; clear hF46
  refine wpList_nil ?_
  refine hK44 _ _ ?_
  clear hK44
  by_cases hc49 : (er22 : Int) ≠ (0 : Int)
  · skip
    refine wp_cond_true (c_true hF48 rfl (decide_eq_true hc49)) ?_
    refine wp_seq_k (fun K50 hK50 => ?_)
    refine wp_region_lit ?_
    refine wpl_op (i := 0) rfl (o_val (v := (.int .i64 er22)) hF48 rfl rfl rfl rfl (rn_move (hF48.get rfl)) ?_)
    intro a51 hF52; clear hF48
    refine wpl_op (i := 1) rfl (o_val (v := (.slice none 0 0)) hF52 rfl rfl rfl rfl (rn_assign rfl) ?_)
    intro a53 hF54; clear hF52
    refine wpl_op (i := 2) rfl (o_val (v := (.int .i64 er22)) hF54 rfl rfl rfl rfl (rn_assign (hF54.get rfl)) ?_)
    intro a55 hF56; clear hF54
    refine wpList_nil ?_
    refine hK50 _ _ ?_
    clear hK50
    refine wp_ret ?_
    refine ret_then ?_
    refine ret2 hF56 rfl rfl rfl ?_
    exact ⟨_, _, _, t21, er22, _, rfl, hfar24, by rw [solR, if_pos (by omega)], fun h => absurd h (by omega), (((Ext.refl w).trans hx5).trans hx27)⟩
  · skip
    refine wp_cond_false (c_false hF48 rfl (decide_eq_false hc49)) ?_
    refine wp_skip ?_
    refine hK43 _ _ ?_
    clear hK43
    refine wp_seq_k (fun K57 hK57 => ?_)
    refine wp_seq_k (fun K58 hK58 => ?_)
    obtain ⟨hvo, hng, hdt⟩ := hfar24.zero (by omega)
    have hn1 := vOk_n hvo
    have htl := hdt.len
    refine wp_region_lit ?_
    refine wpl_op (i := 0) rfl (o_val (v := (.int .i64 a)) hF48 rfl rfl rfl rfl (rn_move (hF48.get rfl)) ?_)
    intro a59 hF60; clear hF48
    refine wpl_op (i := 1) rfl (o_val (v := (.bool (decide ((a : Int) < (0 : Int))))) hF60 rfl rfl rfl rfl (rn_lss (hF60.get rfl) rfl) ?_)
    intro a61 hF62; clear hF60
    refine wpl_op (i := 2) rfl (o_val (v := (.bool (decide ((a : Int) < (0 : Int))))) hF62 rfl rfl rfl rfl (rn_move (hF62.get rfl)) ?_)
    intro a63 hF64; clear hF62
    by_cases hc65 : (a : Int) < (0 : Int)
    · skip
      refine wpl_op (i := 3) rfl (o_skip hF64 rfl (unwanted_guard rfl rfl rfl hF64 rfl (decide_eq_true hc65) rfl) rfl rfl ?_)
      intro a66 hF67; clear hF64
      refine wpl_op (i := 4) rfl (o_skip hF67 rfl (unwanted_guard rfl rfl rfl hF67 rfl (decide_eq_true hc65) rfl) rfl rfl ?_)
      intro a68 hF69; clear hF67
      refine wpl_op (i := 5) rfl (o_skip hF69 rfl (unwanted_guard rfl rfl rfl hF69 rfl (decide_eq_true hc65) rfl) rfl rfl ?_)
      intro a70 hF71; clear hF69
      refine wpl_op (i := 6) rfl (o_skip hF71 rfl (unwanted_guard rfl rfl rfl hF71 rfl (decide_eq_true hc65) rfl) rfl rfl ?_)
      intro a72 hF73; clear hF71
      refine wpl_op (i := 7) rfl (o_val (v := (.bool true)) hF73 rfl rfl rfl rfl (rn_pickT (c_true hF73 rfl (decide_eq_true hc65)) rfl) ?_)
      intro a74 hF75; clear hF73
      refine wpList_nil ?_
      refine hK58 _ _ ?_
      clear hK58
      have hF76 := ((((((((((hF75.nil.cons (hF75.get (t := 26) (v := (.bool true)) rfl)).cons (hF75.get (t := 17) (v := (.bool (decide ((er22 : Int) ≠ (0 : Int))))) rfl)).cons (hF75.get (t := 9) (v := (.int .i64 er22)) rfl)).cons (hF75.get (t := 8) (v := (.slice A18 m19 c20)) rfl)).cons (hF75.get (t := 7) (v := (.int .i64 0)) rfl)).cons (hF75.get (t := 6) (v := (.slice none 0 0)) rfl)).cons (hF75.get (t := 3) (v := (.pointer (some ⟨g2, 0, none⟩))) rfl)).cons (hF75.get (t := 2) (v := (.int .i64 v)) rfl)).cons (hF75.get (t := 1) (v := (.int .i64 a)) rfl)).cons (hF75.get (t := 0) (v := (.agg #[(.int .i64 n), (.slice A l.length c)])) rfl))
      clear hF75
      refine wp_cond_true (c_true hF76 rfl rfl) ?_
      refine wp_seq_k (fun K77 hK77 => ?_)
      refine wp_region_lit ?_
      refine wpl_op (i := 0) rfl (o_val (v := (.slice none 0 0)) hF76 rfl rfl rfl rfl (rn_assign rfl) ?_)
      intro a78 hF79; clear hF76
      refine wpl_op (i := 1) rfl (o_val (v := (.int .i64 1)) hF79 rfl rfl rfl rfl (rn_assign rfl) ?_)
      intro a80 hF81; clear hF79
      refine wpList_nil ?_
      refine hK77 _ _ ?_
      clear hK77
      refine wp_ret ?_
      refine ret_then ?_
      refine ret2 hF81 rfl rfl rfl ?_
      have hq : solveE n.toNat t21 a v = 1 := solve_1 (by omega)
      exact ⟨_, _, _, t21, er22, _, rfl, hfar24, by rw [solR, if_neg (by omega), hq], fun h => absurd h (by omega), (((Ext.refl w).trans hx5).trans hx27)⟩
    · skip
      refine wpl_op (i := 3) rfl (o_val (v := (.int .i64 a)) hF64 rfl (wanted_guard rfl rfl rfl hF64 rfl (decide_eq_false hc65) rfl) rfl rfl (rn_move (hF64.get rfl)) ?_)
      intro a82 hF83; clear hF64
      refine wpl_op (i := 4) rfl (o_val (v := (.pointer (some ⟨g2, 0, none⟩))) hF83 rfl (wanted_guard rfl rfl rfl hF83 rfl (decide_eq_false hc65) rfl) rfl rfl (rn_field Try.underlying24 rfl (by kernel_rfl) (hF83.get rfl) rfl) ?_)
      intro a84 hF85; clear hF83
      have b86 : Blk w26 g2 24 [(.int .i64 n), (.slice A l.length c)] := (b4.ext hx27)
      refine wpl_op (i := 5) rfl (o_val (v := (.int .i64 n)) hF85 rfl (wanted_guard rfl rfl rfl hF85 rfl (decide_eq_false hc65) rfl) rfl rfl (rn_load (isAgg_no Try.underlying3 rfl) (hF85.get rfl) (b86.rule.1 0)) ?_)
      intro a87 hF88; clear hF85
      refine wpl_op (i := 6) rfl (o_val (v := (.bool (decide ((n : Int) ≤ (a : Int))))) hF88 rfl (wanted_guard rfl rfl rfl hF88 rfl (decide_eq_false hc65) rfl) rfl rfl (rn_geq (hF88.get rfl) (hF88.get rfl)) ?_)
      intro a89 hF90; clear hF88
      refine wpl_op (i := 7) rfl (o_val (v := (.bool (decide ((n : Int) ≤ (a : Int))))) hF90 rfl rfl rfl rfl (rn_pickF (c_false hF90 rfl (decide_eq_false hc65)) (hF90.get rfl)) ?_)
      intro a91 hF92; clear hF90
      refine wpList_nil ?_
      refine hK58 _ _ ?_
      clear hK58
      have hF93 := ((((((((((hF92.nil.cons (hF92.get (t := 26) (v := (.bool (decide ((n : Int) ≤ (a : Int))))) rfl)).cons (hF92.get (t := 17) (v := (.bool (decide ((er22 : Int) ≠ (0 : Int))))) rfl)).cons (hF92.get (t := 9) (v := (.int .i64 er22)) rfl)).cons (hF92.get (t := 8) (v := (.slice A18 m19 c20)) rfl)).cons (hF92.get (t := 7) (v := (.int .i64 0)) rfl)).cons (hF92.get (t := 6) (v := (.slice none 0 0)) rfl)).cons (hF92.get (t := 3) (v := (.pointer (some ⟨g2, 0, none⟩))) rfl)).cons (hF92.get (t := 2) (v := (.int .i64 v)) rfl)).cons (hF92.get (t := 1) (v := (.int .i64 a)) rfl)).cons (hF92.get (t := 0) (v := (.agg #[(.int .i64 n), (.slice A l.length c)])) rfl))
      clear hF92
      by_cases hc94 : (n : Int) ≤ (a : Int)
      · skip
        refine wp_cond_true (c_true hF93 rfl (decide_eq_true hc94)) ?_
        refine wp_seq_k (fun K95 hK95 => ?_)
        refine wp_region_lit ?_
        refine wpl_op (i := 0) rfl (o_val (v := (.slice none 0 0)) hF93 rfl rfl rfl rfl (rn_assign rfl) ?_)
        intro a96 hF97; clear hF93
        refine wpl_op (i := 1) rfl (o_val (v := (.int .i64 1)) hF97 rfl rfl rfl rfl (rn_assign rfl) ?_)
        intro a98 hF99; clear hF97
        refine wpList_nil ?_
        refine hK95 _ _ ?_
        clear hK95
        refine wp_ret ?_
        refine ret_then ?_
        refine ret2 hF99 rfl rfl rfl ?_
        have hq : solveE n.toNat t21 a v = 1 := solve_1 (by omega)
        exact ⟨_, _, _, t21, er22, _, rfl, hfar24, by rw [solR, if_neg (by omega), hq], fun h => absurd h (by omega), (((Ext.refl w).trans hx5).trans hx27)⟩
      · skip
        refine wp_cond_false (c_false hF93 rfl (decide_eq_false hc94)) ?_
        refine wp_skip ?_
        refine hK57 _ _ ?_
        clear hK57
        refine wp_seq_k (fun K100 hK100 => ?_)
        refine wp_seq_k (fun K101 hK101 => ?_)
        refine wp_region_lit ?_
        refine wpl_op (i := 0) rfl (o_val (v := (.int .i64 0)) hF93 rfl rfl rfl rfl (rn_assign rfl) ?_)
        intro a102 hF103; clear hF93
        refine wpList_nil ?_
        refine hK101 _ _ ?_
        clear hK101
        refine wp_block ?_
        refine wp_loop (fun a' W => ∃ (k : Nat), Sl 69 [(0, (.agg #[(.int .i64 n), (.slice A l.length c)])), (1, (.int .i64 a)), (2, (.int .i64 v)), (3, (.pointer (some ⟨g2, 0, none⟩))), (6, (.slice none 0 0)), (7, (.int .i64 0)), (8, (.slice A18 m19 c20)), (9, (.int .i64 er22)), (17, (.bool (decide ((er22 : Int) ≠ (0 : Int))))), (26, (.bool (decide ((n : Int) ≤ (a : Int))))), (10, (.int .i64 (k : Nat)))] a' ∧ k ≤ n.toNat ∧ (∀ i, i < k → ¬ (T t21 0 i = 1152921504606846976 ∨ T t21 i 0 = 1152921504606846976)) ∧ Ext w W ∧ Blk W g2 24 [(.int .i64 n), (.slice A l.length c)] ∧ RIss (Clip (fun b => w3.heap.size ≤ b) w26) W (.slice A18 m19 c20) t21 ∧ w26.heap.size ≤ W.heap.size) (fun a' _ => n.toNat - (intOf (a'.eval (.tmp 10))).toNat) ⟨0, (((((((((((hF103.nil.cons (q_get hF103 (t := 10) rfl (by first | rfl | (congr 1; omega) | (congr 1; done)))).cons (q_get hF103 (t := 26) rfl rfl)).cons (q_get hF103 (t := 17) rfl rfl)).cons (q_get hF103 (t := 9) rfl rfl)).cons (q_get hF103 (t := 8) rfl rfl)).cons (q_get hF103 (t := 7) rfl rfl)).cons (q_get hF103 (t := 6) rfl rfl)).cons (q_get hF103 (t := 3) rfl rfl)).cons (q_get hF103 (t := 2) rfl rfl)).cons (q_get hF103 (t := 1) rfl rfl)).cons (q_get hF103 (t := 0) rfl rfl)), (by omega), (fun i hi => absurd hi (by omega)), (((Ext.refl w).trans hx5).trans hx27), b86, hf31, (Nat.le_refl _)⟩ ?_
        clear hF103
        rintro a104 w105 ⟨k, hF106, hp108, hp109, hx107, b110, hf111, hf112⟩
        have hL113 := hF106
        have z114 := hx107.size
        have z115 := b110.lt
        refine wp_seq_k (fun K116 hK116 => ?_)
        refine wp_seq_k (fun K117 hK117 => ?_)
        refine wp_region_lit ?_
        refine wpl_op (i := 0) rfl (o_val (v := (.int .i64 (k : Nat))) hF106 rfl rfl rfl rfl (rn_move (hF106.get rfl)) ?_)
        intro a118 hF119; clear hF106
        refine wpl_op (i := 1) rfl (o_val (v := (.pointer (some ⟨g2, 0, none⟩))) hF119 rfl rfl rfl rfl (rn_field Try.underlying24 rfl (by kernel_rfl) (hF119.get rfl) rfl) ?_)
        intro a120 hF121; clear hF119
        refine wpl_op (i := 2) rfl (o_val (v := (.int .i64 n)) hF121 rfl rfl rfl rfl (rn_load (isAgg_no Try.underlying3 rfl) (hF121.get rfl) (b110.rule.1 0)) ?_)
        intro a122 hF123; clear hF121
        refine wpl_op (i := 3) rfl (o_val (v := (.bool (decide (((k : Nat) : Int) < (n : Int))))) hF123 rfl rfl rfl rfl (rn_lss (hF123.get rfl) (hF123.get rfl)) ?_)
        intro a124 hF125; clear hF123
        refine wpList_nil ?_
        refine hK117 _ _ ?_
        clear hK117
        by_cases hc126 : ((k : Nat) : Int) < (n : Int)
        · skip
          refine wp_cond_true (c_true hF125 rfl (decide_eq_true hc126)) ?_
          refine wp_skip ?_
          refine hK116 _ _ ?_
          clear hK116
          refine wp_seq_k (fun K127 hK127 => ?_)
          refine wp_block ?_
          refine wp_seq_k (fun K128 hK128 => ?_)
          refine wp_region_lit ?_
          refine wpl_op (i := 0) rfl (o_val (v := (.slice A18 m19 c20)) hF125 rfl rfl rfl rfl (rn_move (hF125.get rfl)) ?_)
          intro a129 hF130; clear hF125
          obtain ⟨b131, o132, A133, c134, hA135, hl136, hc137, hr138, z139, z140⟩ := RIss.get (i := 0) hf111 (by omega)
          have z141 := hdt.row 0 (by omega)
          refine wpl_op (i := 1) rfl (o_val (v := (.pointer (some ⟨b131, o132 + 0, none⟩))) hF130 rfl rfl rfl rfl (rn_index1 Try.underlying33 (by kernel_rfl : (Try.prog.info? 25).map (·.size) = some 1) ((hF130.get rfl).trans (by rw [hA135])) rfl (by omega : (0 : Int) ≤ 0) (by omega : (0 : Int) < ((m19 : Nat) : Int))) ?_)
          intro a142 hF143; clear hF130
          refine wpl_op (i := 2) rfl (o_val (v := (.slice A133 ((t21.getD 0 []).length) c134)) hF143 rfl rfl rfl rfl (rn_load (isAgg_no Try.underlying25 rfl) (hF143.get rfl) (Ext.keep (Ext.refl w105) hc137)) ?_)
          intro a144 hF145; clear hF143
          refine wpl_op (i := 3) rfl (o_val (v := (.int .i64 (k : Nat))) hF145 rfl rfl rfl rfl (rn_move (hF145.get rfl)) ?_)
          intro a146 hF147; clear hF145
          obtain ⟨b148, o149, hA150, -⟩ := Fl.at hr138 (by omega)
          refine wpl_op (i := 4) rfl (o_val (v := (.pointer (some ⟨b148, o149 + k, none⟩))) hF147 rfl rfl rfl rfl (rn_index1 Try.underlying25 (by kernel_rfl : (Try.prog.info? 3).map (·.size) = some 1) ((hF147.get rfl).trans (by rw [hA150])) (hF147.get rfl) (by omega : (0 : Int) ≤ (k : Nat)) (by omega : ((k : Nat) : Int) < (((t21.getD 0 []).length : Nat) : Int))) ?_)
          intro a151 hF152; clear hF147
          refine wpl_op (i := 5) rfl (o_val (v := (.int .i64 ((t21.getD 0 []).getD k 0))) hF152 rfl rfl rfl rfl (rn_load (isAgg_no Try.underlying3 rfl) (hF152.get rfl) (Fl.cellAt hr138 hA150 (intVals_at (i := k) (by omega)))) ?_)
          intro a153 hF154; clear hF152
          refine wpl_op (i := 6) rfl (o_val (v := (.bool (decide ((((t21.getD 0 []).getD k 0) : Int) = (1152921504606846976 : Int))))) hF154 rfl rfl rfl rfl (rn_eql (hF154.get rfl) rfl) ?_)
          intro a155 hF156; clear hF154
          refine wpl_op (i := 7) rfl (o_val (v := (.bool (decide ((((t21.getD 0 []).getD k 0) : Int) = (1152921504606846976 : Int))))) hF156 rfl rfl rfl rfl (rn_move (hF156.get rfl)) ?_)
          intro a157 hF158; clear hF156
          by_cases hc159 : (((t21.getD 0 []).getD k 0) : Int) = (1152921504606846976 : Int)
          · skip
            refine wpl_op (i := 8) rfl (o_skip hF158 rfl (unwanted_guard rfl rfl rfl hF158 rfl (decide_eq_true hc159) rfl) rfl rfl ?_)
            intro a160 hF161; clear hF158
            refine wpl_op (i := 9) rfl (o_skip hF161 rfl (unwanted_guard rfl rfl rfl hF161 rfl (decide_eq_true hc159) rfl) rfl rfl ?_)
            intro a162 hF163; clear hF161
            refine wpl_op (i := 10) rfl (o_skip hF163 rfl (unwanted_guard rfl rfl rfl hF163 rfl (decide_eq_true hc159) rfl) rfl rfl ?_)
            intro a164 hF165; clear hF163
            refine wpl_op (i := 11) rfl (o_skip hF165 rfl (unwanted_guard rfl rfl rfl hF165 rfl (decide_eq_true hc159) rfl) rfl rfl ?_)
            intro a166 hF167; clear hF165
            refine wpl_op (i := 12) rfl (o_skip hF167 rfl (unwanted_guard rfl rfl rfl hF167 rfl (decide_eq_true hc159) rfl) rfl rfl ?_)
            intro a168 hF169; clear hF167
            refine wpl_op (i := 13) rfl (o_skip hF169 rfl (unwanted_guard rfl rfl rfl hF169 rfl (decide_eq_true hc159) rfl) rfl rfl ?_)
            intro a170 hF171; clear hF169
            refine wpl_op (i := 14) rfl (o_skip hF171 rfl (unwanted_guard rfl rfl rfl hF171 rfl (decide_eq_true hc159) rfl) rfl rfl ?_)
            intro a172 hF173; clear hF171
            refine wpl_op (i := 15) rfl (o_val (v := (.bool true)) hF173 rfl rfl rfl rfl (rn_pickT (c_true hF173 rfl (decide_eq_true hc159)) rfl) ?_)
            intro a174 hF175; clear hF173
            refine wpList_nil ?_
            refine hK128 _ _ ?_
            clear hK128
            have hF176 := (((((((((((((hF175.nil.cons (hF175.get (t := 48) (v := (.bool true)) rfl)).cons (hF175.get (t := 30) (v := (.bool (decide (((k : Nat) : Int) < (n : Int))))) rfl)).cons (hF175.get (t := 10) (v := (.int .i64 (k : Nat))) rfl)).cons (hF175.get (t := 26) (v := (.bool (decide ((n : Int) ≤ (a : Int))))) rfl)).cons (hF175.get (t := 17) (v := (.bool (decide ((er22 : Int) ≠ (0 : Int))))) rfl)).cons (hF175.get (t := 9) (v := (.int .i64 er22)) rfl)).cons (hF175.get (t := 8) (v := (.slice A18 m19 c20)) rfl)).cons (hF175.get (t := 7) (v := (.int .i64 0)) rfl)).cons (hF175.get (t := 6) (v := (.slice none 0 0)) rfl)).cons (hF175.get (t := 3) (v := (.pointer (some ⟨g2, 0, none⟩))) rfl)).cons (hF175.get (t := 2) (v := (.int .i64 v)) rfl)).cons (hF175.get (t := 1) (v := (.int .i64 a)) rfl)).cons (hF175.get (t := 0) (v := (.agg #[(.int .i64 n), (.slice A l.length c)])) rfl))
            clear hF175
            refine wp_cond_true (c_true hF176 rfl rfl) ?_
            refine wp_seq_k (fun K177 hK177 => ?_)
            refine wp_region_lit ?_
            refine wpl_op (i := 0) rfl (o_val (v := (.slice none 0 0)) hF176 rfl rfl rfl rfl (rn_assign rfl) ?_)
            intro a178 hF179; clear hF176
            refine wpl_op (i := 1) rfl (o_val (v := (.int .i64 2)) hF179 rfl rfl rfl rfl (rn_assign rfl) ?_)
            intro a180 hF181; clear hF179
            refine wpList_nil ?_
            refine hK177 _ _ ?_
            clear hK177
            refine wp_ret ?_
            refine ret_block ?_
            refine ret_then ?_
            refine ret_then ?_
            refine ret_block ?_
            refine ret_then ?_
            refine ret2 hF181 rfl rfl rfl ?_
            have hq : solveE n.toNat t21 a v = 2 := solve_2 (by omega) (i := k) (by omega) (by unfold T; omega)
            exact ⟨_, _, _, t21, er22, _, rfl, hfar24, by rw [solR, if_neg (by omega), hq], fun h => absurd h (by omega), ((Ext.refl w).trans hx107)⟩
          · skip
            refine wpl_op (i := 8) rfl (o_val (v := (.slice A18 m19 c20)) hF158 rfl (wanted_guard rfl rfl rfl hF158 rfl (decide_eq_false hc159) rfl) rfl rfl (rn_move (hF158.get rfl)) ?_)
            intro a182 hF183; clear hF158
            refine wpl_op (i := 9) rfl (o_val (v := (.int .i64 (k : Nat))) hF183 rfl (wanted_guard rfl rfl rfl hF183 rfl (decide_eq_false hc159) rfl) rfl rfl (rn_move (hF183.get rfl)) ?_)
            intro a184 hF185; clear hF183
            obtain ⟨b186, o187, A188, c189, hA190, hl191, hc192, hr193, z194, z195⟩ := RIss.get (i := k) hf111 (by omega)
            have z196 := hdt.row k (by omega)
            refine wpl_op (i := 10) rfl (o_val (v := (.pointer (some ⟨b186, o187 + k, none⟩))) hF185 rfl (wanted_guard rfl rfl rfl hF185 rfl (decide_eq_false hc159) rfl) rfl rfl (rn_index1 Try.underlying33 (by kernel_rfl : (Try.prog.info? 25).map (·.size) = some 1) ((hF185.get rfl).trans (by rw [hA190])) (hF185.get rfl) (by omega : (0 : Int) ≤ (k : Nat)) (by omega : ((k : Nat) : Int) < ((m19 : Nat) : Int))) ?_)
            intro a197 hF198; clear hF185
            refine wpl_op (i := 11) rfl (o_val (v := (.slice A188 ((t21.getD k []).length) c189)) hF198 rfl (wanted_guard rfl rfl rfl hF198 rfl (decide_eq_false hc159) rfl) rfl rfl (rn_load (isAgg_no Try.underlying25 rfl) (hF198.get rfl) (Ext.keep (Ext.refl w105) hc192)) ?_)
            intro a199 hF200; clear hF198
            obtain ⟨b201, o202, hA203, -⟩ := Fl.at hr193 (by omega)
            refine wpl_op (i := 12) rfl (o_val (v := (.pointer (some ⟨b201, o202 + 0, none⟩))) hF200 rfl (wanted_guard rfl rfl rfl hF200 rfl (decide_eq_false hc159) rfl) rfl rfl (rn_index1 Try.underlying25 (by kernel_rfl : (Try.prog.info? 3).map (·.size) = some 1) ((hF200.get rfl).trans (by rw [hA203])) rfl (by omega : (0 : Int) ≤ 0) (by omega : (0 : Int) < (((t21.getD k []).length : Nat) : Int))) ?_)
            intro a204 hF205; clear hF200
            refine wpl_op (i := 13) rfl (o_val (v := (.int .i64 ((t21.getD k []).getD 0 0))) hF205 rfl (wanted_guard rfl rfl rfl hF205 rfl (decide_eq_false hc159) rfl) rfl rfl (rn_load (isAgg_no Try.underlying3 rfl) (hF205.get rfl) (Fl.cellAt hr193 hA203 (intVals_at (i := 0) (by omega)))) ?_)
            intro a206 hF207; clear hF205
            refine wpl_op (i := 14) rfl (o_val (v := (.bool (decide ((((t21.getD k []).getD 0 0) : Int) = (1152921504606846976 : Int))))) hF207 rfl (wanted_guard rfl rfl rfl hF207 rfl (decide_eq_false hc159) rfl) rfl rfl (rn_eql (hF207.get rfl) rfl) ?_)
            intro a208 hF209; clear hF207
            refine wpl_op (i := 15) rfl (o_val (v := (.bool (decide ((((t21.getD k []).getD 0 0) : Int) = (1152921504606846976 : Int))))) hF209 rfl rfl rfl rfl (rn_pickF (c_false hF209 rfl (decide_eq_false hc159)) (hF209.get rfl)) ?_)
            intro a210 hF211; clear hF209
            refine wpList_nil ?_
            refine hK128 _ _ ?_
            clear hK128
            have hF212 := (((((((((((((hF211.nil.cons (hF211.get (t := 48) (v := (.bool (decide ((((t21.getD k []).getD 0 0) : Int) = (1152921504606846976 : Int))))) rfl)).cons (hF211.get (t := 30) (v := (.bool (decide (((k : Nat) : Int) < (n : Int))))) rfl)).cons (hF211.get (t := 10) (v := (.int .i64 (k : Nat))) rfl)).cons (hF211.get (t := 26) (v := (.bool (decide ((n : Int) ≤ (a : Int))))) rfl)).cons (hF211.get (t := 17) (v := (.bool (decide ((er22 : Int) ≠ (0 : Int))))) rfl)).cons (hF211.get (t := 9) (v := (.int .i64 er22)) rfl)).cons (hF211.get (t := 8) (v := (.slice A18 m19 c20)) rfl)).cons (hF211.get (t := 7) (v := (.int .i64 0)) rfl)).cons (hF211.get (t := 6) (v := (.slice none 0 0)) rfl)).cons (hF211.get (t := 3) (v := (.pointer (some ⟨g2, 0, none⟩))) rfl)).cons (hF211.get (t := 2) (v := (.int .i64 v)) rfl)).cons (hF211.get (t := 1) (v := (.int .i64 a)) rfl)).cons (hF211.get (t := 0) (v := (.agg #[(.int .i64 n), (.slice A l.length c)])) rfl))
            clear hF211
            by_cases hc213 : (((t21.getD k []).getD 0 0) : Int) = (1152921504606846976 : Int)
            · skip
              refine wp_cond_true (c_true hF212 rfl (decide_eq_true hc213)) ?_
              refine wp_seq_k (fun K214 hK214 => ?_)
              refine wp_region_lit ?_
              refine wpl_op (i := 0) rfl (o_val (v := (.slice none 0 0)) hF212 rfl rfl rfl rfl (rn_assign rfl) ?_)
              intro a215 hF216; clear hF212
              refine wpl_op (i := 1) rfl (o_val (v := (.int .i64 2)) hF216 rfl rfl rfl rfl (rn_assign rfl) ?_)
              intro a217 hF218; clear hF216
              refine wpList_nil ?_
              refine hK214 _ _ ?_
              clear hK214
              refine wp_ret ?_
              refine ret_block ?_
              refine ret_then ?_
              refine ret_then ?_
              refine ret_block ?_
              refine ret_then ?_
              refine ret2 hF218 rfl rfl rfl ?_
              have hq : solveE n.toNat t21 a v = 2 := solve_2 (by omega) (i := k) (by omega) (by unfold T; omega)
              exact ⟨_, _, _, t21, er22, _, rfl, hfar24, by rw [solR, if_neg (by omega), hq], fun h => absurd h (by omega), ((Ext.refl w).trans hx107)⟩
            · skip
              refine wp_cond_false (c_false hF212 rfl (decide_eq_false hc213)) ?_
              refine wp_skip ?_
              refine hK127 _ _ ?_
              clear hK127
              refine wp_region_lit ?_
              refine wpl_op (i := 0) rfl (o_val (v := (.int .i64 (k : Nat))) hF212 rfl rfl rfl rfl (rn_move (hF212.get rfl)) ?_)
              intro a219 hF220; clear hF212
              refine wpl_op (i := 1) rfl (o_val (v := (.int .i64 (k + 1 : Nat))) hF220 rfl rfl rfl rfl (rn_addN (a := k) (b := 1) (hF220.get rfl) rfl (by omega)) ?_)
              intro a221 hF222; clear hF220
              refine wpl_op (i := 2) rfl (o_val (v := (.int .i64 (k + 1 : Nat))) hF222 rfl rfl rfl rfl (rn_assign (hF222.get rfl)) ?_)
              intro a223 hF224; clear hF222
              refine wpList_nil ?_
              refine ⟨⟨(k + 1), (((((((((((hF224.nil.cons (q_get hF224 (t := 10) rfl (by first | rfl | (congr 1; omega) | (congr 1; done)))).cons (q_get hF224 (t := 26) rfl rfl)).cons (q_get hF224 (t := 17) rfl rfl)).cons (q_get hF224 (t := 9) rfl rfl)).cons (q_get hF224 (t := 8) rfl rfl)).cons (q_get hF224 (t := 7) rfl rfl)).cons (q_get hF224 (t := 6) rfl rfl)).cons (q_get hF224 (t := 3) rfl rfl)).cons (q_get hF224 (t := 2) rfl rfl)).cons (q_get hF224 (t := 1) rfl rfl)).cons (q_get hF224 (t := 0) rfl rfl)), (by omega), (upto_step hp109 (by unfold T; omega)), ((Ext.refl w).trans hx107), b110, hf111, (by omega)⟩, ?_⟩
              rw [hF224.get (t := 10) rfl, hL113.get (t := 10) rfl]; simp [intOf] <;> omega
        · skip
          refine wp_cond_false (c_false hF125 rfl (decide_eq_false hc126)) ?_
          refine wp_exit ?_
          refine exit_then ?_
          refine exit_then ?_
          refine exit_here ?_
          refine hK100 _ _ ?_
          clear hK100
          refine wp_seq_k (fun K225 hK225 => ?_)
          refine wp_seq_k (fun K226 hK226 => ?_)
          have hk : k = n.toNat := by omega
          have z227 := hdt.sm (a.toNat) (0) (by omega) (by omega)
          have z228 := hdt.sm (0) (a.toNat) (by omega) (by omega)
          have e1 : T t21 a.toNat 0 = (t21.getD a.toNat []).getD 0 0 := rfl
          have e2 : T t21 0 a.toNat = (t21.getD 0 []).getD a.toNat 0 := rfl
          refine wp_region_lit ?_
          refine wpl_op (i := 0) rfl (o_val (v := (.int .i64 v)) hF125 rfl rfl rfl rfl (rn_move (hF125.get rfl)) ?_)
          intro a229 hF230; clear hF125
          refine wpl_op (i := 1) rfl (o_val (v := (.slice A18 m19 c20)) hF230 rfl rfl rfl rfl (rn_move (hF230.get rfl)) ?_)
          intro a231 hF232; clear hF230
          refine wpl_op (i := 2) rfl (o_val (v := (.int .i64 a)) hF232 rfl rfl rfl rfl (rn_move (hF232.get rfl)) ?_)
          intro a233 hF234; clear hF232
          obtain ⟨b235, o236, A237, c238, hA239, hl240, hc241, hr242, z243, z244⟩ := RIss.get (i := (a : Int).toNat) hf111 (by omega)
          have z245 := hdt.row ((a : Int).toNat) (by omega)
          refine wpl_op (i := 3) rfl (o_val (v := (.pointer (some ⟨b235, o236 + (a : Int).toNat, none⟩))) hF234 rfl rfl rfl rfl (rn_index1 Try.underlying33 (by kernel_rfl : (Try.prog.info? 25).map (·.size) = some 1) ((hF234.get rfl).trans (by rw [hA239])) (hF234.get rfl) (by omega : (0 : Int) ≤ a) (by omega : (a : Int) < ((m19 : Nat) : Int))) ?_)
          intro a246 hF247; clear hF234
          refine wpl_op (i := 4) rfl (o_val (v := (.slice A237 ((t21.getD ((a : Int).toNat) []).length) c238)) hF247 rfl rfl rfl rfl (rn_load (isAgg_no Try.underlying25 rfl) (hF247.get rfl) (Ext.keep (Ext.refl w105) hc241)) ?_)
          intro a248 hF249; clear hF247
          obtain ⟨b250, o251, hA252, -⟩ := Fl.at hr242 (by omega)
          refine wpl_op (i := 5) rfl (o_val (v := (.pointer (some ⟨b250, o251 + 0, none⟩))) hF249 rfl rfl rfl rfl (rn_index1 Try.underlying25 (by kernel_rfl : (Try.prog.info? 3).map (·.size) = some 1) ((hF249.get rfl).trans (by rw [hA252])) rfl (by omega : (0 : Int) ≤ 0) (by omega : (0 : Int) < (((t21.getD ((a : Int).toNat) []).length : Nat) : Int))) ?_)
          intro a253 hF254; clear hF249
          refine wpl_op (i := 6) rfl (o_val (v := (.int .i64 ((t21.getD ((a : Int).toNat) []).getD 0 0))) hF254 rfl rfl rfl rfl (rn_load (isAgg_no Try.underlying3 rfl) (hF254.get rfl) (Fl.cellAt hr242 hA252 (intVals_at (i := 0) (by omega)))) ?_)
          intro a255 hF256; clear hF254
          refine wpl_op (i := 7) rfl (o_val (v := (.int .i64 (-(((t21.getD ((a : Int).toNat) []).getD 0 0) : Int)))) hF256 rfl rfl rfl rfl (rn_neg (hF256.get rfl) (by omega) rfl) ?_)
          intro a257 hF258; clear hF256
          refine wpl_op (i := 8) rfl (o_val (v := (.bool (decide ((v : Int) < ((-(((t21.getD ((a : Int).toNat) []).getD 0 0) : Int)) : Int))))) hF258 rfl rfl rfl rfl (rn_lss (hF258.get rfl) (hF258.get rfl)) ?_)
          intro a259 hF260; clear hF258
          refine wpl_op (i := 9) rfl (o_val (v := (.bool (decide ((v : Int) < ((-(((t21.getD ((a : Int).toNat) []).getD 0 0) : Int)) : Int))))) hF260 rfl rfl rfl rfl (rn_move (hF260.get rfl)) ?_)
          intro a261 hF262; clear hF260
          by_cases hc263 : (v : Int) < ((-(((t21.getD ((a : Int).toNat) []).getD 0 0) : Int)) : Int)
          · skip
            refine wpl_op (i := 10) rfl (o_skip hF262 rfl (unwanted_guard rfl rfl rfl hF262 rfl (decide_eq_true hc263) rfl) rfl rfl ?_)
            intro a264 hF265; clear hF262
            refine wpl_op (i := 11) rfl (o_skip hF265 rfl (unwanted_guard rfl rfl rfl hF265 rfl (decide_eq_true hc263) rfl) rfl rfl ?_)
            intro a266 hF267; clear hF265
            refine wpl_op (i := 12) rfl (o_skip hF267 rfl (unwanted_guard rfl rfl rfl hF267 rfl (decide_eq_true hc263) rfl) rfl rfl ?_)
            intro a268 hF269; clear hF267
            refine wpl_op (i := 13) rfl (o_skip hF269 rfl (unwanted_guard rfl rfl rfl hF269 rfl (decide_eq_true hc263) rfl) rfl rfl ?_)
            intro a270 hF271; clear hF269
            refine wpl_op (i := 14) rfl (o_skip hF271 rfl (unwanted_guard rfl rfl rfl hF271 rfl (decide_eq_true hc263) rfl) rfl rfl ?_)
            intro a272 hF273; clear hF271
            refine wpl_op (i := 15) rfl (o_skip hF273 rfl (unwanted_guard rfl rfl rfl hF273 rfl (decide_eq_true hc263) rfl) rfl rfl ?_)
            intro a274 hF275; clear hF273
            refine wpl_op (i := 16) rfl (o_skip hF275 rfl (unwanted_guard rfl rfl rfl hF275 rfl (decide_eq_true hc263) rfl) rfl rfl ?_)
            intro a276 hF277; clear hF275
            refine wpl_op (i := 17) rfl (o_skip hF277 rfl (unwanted_guard rfl rfl rfl hF277 rfl (decide_eq_true hc263) rfl) rfl rfl ?_)
            intro a278 hF279; clear hF277
            refine wpl_op (i := 18) rfl (o_val (v := (.bool true)) hF279 rfl rfl rfl rfl (rn_pickT (c_true hF279 rfl (decide_eq_true hc263)) rfl) ?_)
            intro a280 hF281; clear hF279
            refine wpList_nil ?_
            refine hK226 _ _ ?_
            clear hK226
            have hF282 := (((((((((((((hF281.nil.cons (hF281.get (t := 67) (v := (.bool true)) rfl)).cons (hF281.get (t := 30) (v := (.bool (decide (((k : Nat) : Int) < (n : Int))))) rfl)).cons (hF281.get (t := 10) (v := (.int .i64 (k : Nat))) rfl)).cons (hF281.get (t := 26) (v := (.bool (decide ((n : Int) ≤ (a : Int))))) rfl)).cons (hF281.get (t := 17) (v := (.bool (decide ((er22 : Int) ≠ (0 : Int))))) rfl)).cons (hF281.get (t := 9) (v := (.int .i64 er22)) rfl)).cons (hF281.get (t := 8) (v := (.slice A18 m19 c20)) rfl)).cons (hF281.get (t := 7) (v := (.int .i64 0)) rfl)).cons (hF281.get (t := 6) (v := (.slice none 0 0)) rfl)).cons (hF281.get (t := 3) (v := (.pointer (some ⟨g2, 0, none⟩))) rfl)).cons (hF281.get (t := 2) (v := (.int .i64 v)) rfl)).cons (hF281.get (t := 1) (v := (.int .i64 a)) rfl)).cons (hF281.get (t := 0) (v := (.agg #[(.int .i64 n), (.slice A l.length c)])) rfl))
            clear hF281
            refine wp_cond_true (c_true hF282 rfl rfl) ?_
            refine wp_seq_k (fun K283 hK283 => ?_)
            refine wp_region_lit ?_
            refine wpl_op (i := 0) rfl (o_val (v := (.slice none 0 0)) hF282 rfl rfl rfl rfl (rn_assign rfl) ?_)
            intro a284 hF285; clear hF282
            refine wpl_op (i := 1) rfl (o_val (v := (.int .i64 1)) hF285 rfl rfl rfl rfl (rn_assign rfl) ?_)
            intro a286 hF287; clear hF285
            refine wpList_nil ?_
            refine hK283 _ _ ?_
            clear hK283
            refine wp_ret ?_
            refine ret_then ?_
            refine ret2 hF287 rfl rfl rfl ?_
            have hq : solveE n.toNat t21 a v = 1 := solve_3 (by omega) (fun i hi => hp109 i (by omega)) (by omega)
            exact ⟨_, _, _, t21, er22, _, rfl, hfar24, by rw [solR, if_neg (by omega), hq], fun h => absurd h (by omega), ((Ext.refl w).trans hx107)⟩
          · skip
            refine wpl_op (i := 10) rfl (o_val (v := (.int .i64 v)) hF262 rfl (wanted_guard rfl rfl rfl hF262 rfl (decide_eq_false hc263) rfl) rfl rfl (rn_move (hF262.get rfl)) ?_)
            intro a288 hF289; clear hF262
            refine wpl_op (i := 11) rfl (o_val (v := (.slice A18 m19 c20)) hF289 rfl (wanted_guard rfl rfl rfl hF289 rfl (decide_eq_false hc263) rfl) rfl rfl (rn_move (hF289.get rfl)) ?_)
            intro a290 hF291; clear hF289
            obtain ⟨b292, o293, A294, c295, hA296, hl297, hc298, hr299, z300, z301⟩ := RIss.get (i := 0) hf111 (by omega)
            have z302 := hdt.row 0 (by omega)
            refine wpl_op (i := 12) rfl (o_val (v := (.pointer (some ⟨b292, o293 + 0, none⟩))) hF291 rfl (wanted_guard rfl rfl rfl hF291 rfl (decide_eq_false hc263) rfl) rfl rfl (rn_index1 Try.underlying33 (by kernel_rfl : (Try.prog.info? 25).map (·.size) = some 1) ((hF291.get rfl).trans (by rw [hA296])) rfl (by omega : (0 : Int) ≤ 0) (by omega : (0 : Int) < ((m19 : Nat) : Int))) ?_)
            intro a303 hF304; clear hF291
            refine wpl_op (i := 13) rfl (o_val (v := (.slice A294 ((t21.getD 0 []).length) c295)) hF304 rfl (wanted_guard rfl rfl rfl hF304 rfl (decide_eq_false hc263) rfl) rfl rfl (rn_load (isAgg_no Try.underlying25 rfl) (hF304.get rfl) (Ext.keep (Ext.refl w105) hc298)) ?_)
            intro a305 hF306; clear hF304
            refine wpl_op (i := 14) rfl (o_val (v := (.int .i64 a)) hF306 rfl (wanted_guard rfl rfl rfl hF306 rfl (decide_eq_false hc263) rfl) rfl rfl (rn_move (hF306.get rfl)) ?_)
            intro a307 hF308; clear hF306
            obtain ⟨b309, o310, hA311, -⟩ := Fl.at hr299 (by omega)
            refine wpl_op (i := 15) rfl (o_val (v := (.pointer (some ⟨b309, o310 + (a : Int).toNat, none⟩))) hF308 rfl (wanted_guard rfl rfl rfl hF308 rfl (decide_eq_false hc263) rfl) rfl rfl (rn_index1 Try.underlying25 (by kernel_rfl : (Try.prog.info? 3).map (·.size) = some 1) ((hF308.get rfl).trans (by rw [hA311])) (hF308.get rfl) (by omega : (0 : Int) ≤ a) (by omega : (a : Int) < (((t21.getD 0 []).length : Nat) : Int))) ?_)
            intro a312 hF313; clear hF308
            refine wpl_op (i := 16) rfl (o_val (v := (.int .i64 ((t21.getD 0 []).getD ((a : Int).toNat) 0))) hF313 rfl (wanted_guard rfl rfl rfl hF313 rfl (decide_eq_false hc263) rfl) rfl rfl (rn_load (isAgg_no Try.underlying3 rfl) (hF313.get rfl) (Fl.cellAt hr299 hA311 (intVals_at (i := (a : Int).toNat) (by omega)))) ?_)
            intro a314 hF315; clear hF313
            refine wpl_op (i := 17) rfl (o_val (v := (.bool (decide ((((t21.getD 0 []).getD ((a : Int).toNat) 0) : Int) < (v : Int))))) hF315 rfl (wanted_guard rfl rfl rfl hF315 rfl (decide_eq_false hc263) rfl) rfl rfl (rn_gtr (hF315.get rfl) (hF315.get rfl)) ?_)
            intro a316 hF317; clear hF315
            refine wpl_op (i := 18) rfl (o_val (v := (.bool (decide ((((t21.getD 0 []).getD ((a : Int).toNat) 0) : Int) < (v : Int))))) hF317 rfl rfl rfl rfl (rn_pickF (c_false hF317 rfl (decide_eq_false hc263)) (hF317.get rfl)) ?_)
            intro a318 hF319; clear hF317
            refine wpList_nil ?_
            refine hK226 _ _ ?_
            clear hK226
            have hF320 := (((((((((((((hF319.nil.cons (hF319.get (t := 67) (v := (.bool (decide ((((t21.getD 0 []).getD ((a : Int).toNat) 0) : Int) < (v : Int))))) rfl)).cons (hF319.get (t := 30) (v := (.bool (decide (((k : Nat) : Int) < (n : Int))))) rfl)).cons (hF319.get (t := 10) (v := (.int .i64 (k : Nat))) rfl)).cons (hF319.get (t := 26) (v := (.bool (decide ((n : Int) ≤ (a : Int))))) rfl)).cons (hF319.get (t := 17) (v := (.bool (decide ((er22 : Int) ≠ (0 : Int))))) rfl)).cons (hF319.get (t := 9) (v := (.int .i64 er22)) rfl)).cons (hF319.get (t := 8) (v := (.slice A18 m19 c20)) rfl)).cons (hF319.get (t := 7) (v := (.int .i64 0)) rfl)).cons (hF319.get (t := 6) (v := (.slice none 0 0)) rfl)).cons (hF319.get (t := 3) (v := (.pointer (some ⟨g2, 0, none⟩))) rfl)).cons (hF319.get (t := 2) (v := (.int .i64 v)) rfl)).cons (hF319.get (t := 1) (v := (.int .i64 a)) rfl)).cons (hF319.get (t := 0) (v := (.agg #[(.int .i64 n), (.slice A l.length c)])) rfl))
            clear hF319
            by_cases hc321 : (((t21.getD 0 []).getD ((a : Int).toNat) 0) : Int) < (v : Int)
            · skip
              refine wp_cond_true (c_true hF320 rfl (decide_eq_true hc321)) ?_
              refine wp_seq_k (fun K322 hK322 => ?_)
              refine wp_region_lit ?_
              refine wpl_op (i := 0) rfl (o_val (v := (.slice none 0 0)) hF320 rfl rfl rfl rfl (rn_assign rfl) ?_)
              intro a323 hF324; clear hF320
              refine wpl_op (i := 1) rfl (o_val (v := (.int .i64 1)) hF324 rfl rfl rfl rfl (rn_assign rfl) ?_)
              intro a325 hF326; clear hF324
              refine wpList_nil ?_
              refine hK322 _ _ ?_
              clear hK322
              refine wp_ret ?_
              refine ret_then ?_
              refine ret2 hF326 rfl rfl rfl ?_
              have hq : solveE n.toNat t21 a v = 1 := solve_3 (by omega) (fun i hi => hp109 i (by omega)) (by omega)
              exact ⟨_, _, _, t21, er22, _, rfl, hfar24, by rw [solR, if_neg (by omega), hq], fun h => absurd h (by omega), ((Ext.refl w).trans hx107)⟩
            · skip
              refine wp_cond_false (c_false hF320 rfl (decide_eq_false hc321)) ?_
              refine wp_skip ?_
              refine hK225 _ _ ?_
              clear hK225
              refine wp_seq_k (fun K327 hK327 => ?_)
              refine wp_region_lit ?_
              refine wpl_op (i := 0) rfl (o_val (v := (.slice A18 m19 c20)) hF320 rfl rfl rfl rfl (rn_move (hF320.get rfl)) ?_)
              intro a328 hF329; clear hF320
              refine wpl_op (i := 1) rfl (o_val (v := (.slice A18 m19 c20)) hF329 rfl rfl rfl rfl (rn_assign (hF329.get rfl)) ?_)
              intro a330 hF331; clear hF329
              refine wpl_op (i := 2) rfl (o_val (v := (.int .i64 0)) hF331 rfl rfl rfl rfl (rn_assign rfl) ?_)
              intro a332 hF333; clear hF331
              refine wpList_nil ?_
              refine hK327 _ _ ?_
              clear hK327
              refine wp_ret ?_
              refine ret2 hF333 rfl rfl rfl ?_
              have hq : solveE n.toNat t21 a v = 0 := solve_0 (by omega) (fun i hi => hp109 i (by omega)) (by omega)
              exact ⟨_, _, _, t21, er22, _, rfl, hfar24, by rw [solR, if_neg (by omega), hq], fun _ => hf111.subB (fun b _ hb => by simp only [Clip] at hb; omega), ((Ext.refl w).trans hx107)⟩

theorem args_at {v : Value} {m : Nat} (n : Int) (l : List E3) (a val : Int) (w : World) (hf : Fl S w 3 v m (edVals l)) (hfew : vOk n l = true → n ≤ 8 ∧ l.length ≤ 31) :
    Calls Try.prog 34 #[.agg #[.int .i64 n, v], .int .i64 a, .int .i64 val] w (fun e w' => ∃ A m c t er e2, e = .returned (.tuple #[.slice A m c, .int .i64 e2]) ∧ SysP n l t er ∧ e2 = solR n t er a val ∧ (e2 = 0 → RIss (fun b => w.heap.size ≤ b) w' (.slice A m c) t) ∧ Ext w w') := by
  have hm := Fl.edlen hf
  subst hm
  obtain ⟨A, c, rfl, _⟩ := hf.form
  exact args_any A c n l a val w hf hfew

set_option maxRecDepth 100000 in
set_option maxHeartbeats 1000000 in
theorem few_any (A : Option Addr) (c : Nat) (n : Int) (l : List E3) (w : World) (hf : Fl S w 3 (.slice A l.length c) l.length (edVals l)) :
    Calls Try.prog 15 #[.agg #[.int .i64 n, .slice A l.length c]] w (fun e w' => e = .returned (.bool (few n l)) ∧ Ext w w') := by
  have hc : Fl (Clip S w) w 3 (.slice A l.length c) l.length (edVals l) := hf.clip
  have hcc := (Fl.cel hc).2.1
  refine calls_enter (l := [(.agg #[(.int .i64 n), (.slice A l.length c)])]) Try.func15 rfl rfl rfl (fun aA hF => ?_)
  refine wp_seq_k (fun K1 hK1 => ?_)
  refine wp_region_lit ?_
  refine wpl_op (i := 0) rfl (o_new (fun g => (.pointer (some ⟨g, 0, none⟩))) [(.int .i64 n), (.slice A l.length c)] 24 hF rfl rfl rfl rfl (rn_box (hF.get rfl) (by kernel_rfl)) ?_)
  intro g2 w3 a8 hF9 z6 z7 b4 hx5; clear hF
  refine wpl_op (i := 1) rfl (o_val (v := (.bool false)) hF9 rfl rfl rfl rfl (rn_assign rfl) ?_)
  intro a10 hF11; clear hF9
  refine wpList_nil ?_
  refine hK1 _ _ ?_
  clear hK1
  refine wp_seq_k (fun K12 hK12 => ?_)
  refine wp_region_lit ?_
  refine wpl_op (i := 0) rfl (o_val (v := (.pointer (some ⟨g2, 0, none⟩))) hF11 rfl rfl rfl rfl (rn_field Try.underlying24 rfl (by kernel_rfl) (hF11.get rfl) rfl) ?_)
  intro a13 hF14; clear hF11
  refine wpl_op (i := 1) rfl (o_val (v := (.int .i64 n)) hF14 rfl rfl rfl rfl (rn_load (isAgg_no Try.underlying3 rfl) (hF14.get rfl) (b4.rule.1 0)) ?_)
  intro a15 hF16; clear hF14
  refine wpl_op (i := 2) rfl (o_val (v := (.bool (decide ((n : Int) ≤ (8 : Int))))) hF16 rfl rfl rfl rfl (rn_leq (hF16.get rfl) rfl) ?_)
  intro a17 hF18; clear hF16
  refine wpl_op (i := 3) rfl (o_val (v := (.bool (decide ((n : Int) ≤ (8 : Int))))) hF18 rfl rfl rfl rfl (rn_move (hF18.get rfl)) ?_)
  intro a19 hF20; clear hF18
  by_cases hc21 : (n : Int) ≤ (8 : Int)
  · skip
    refine wpl_op (i := 4) rfl (o_val (v := (.pointer (some ⟨g2, 1, none⟩))) hF20 rfl (wanted_guard rfl rfl rfl hF20 rfl (decide_eq_true hc21) rfl) rfl rfl (rn_field Try.underlying24 rfl (by kernel_rfl) (hF20.get rfl) rfl) ?_)
    intro a22 hF23; clear hF20
    refine wpl_op (i := 5) rfl (o_val (v := (.slice A l.length c)) hF23 rfl (wanted_guard rfl rfl rfl hF23 rfl (decide_eq_true hc21) rfl) rfl rfl (rn_load (isAgg_no Try.underlying22 rfl) (hF23.get rfl) (b4.rule.1 1)) ?_)
    intro a24 hF25; clear hF23
    refine wpl_op (i := 6) rfl (o_val (v := (.int .i64 (l.length : Nat))) hF25 rfl (wanted_guard rfl rfl rfl hF25 rfl (decide_eq_true hc21) rfl) rfl rfl (rn_len_slice Try.underlying22 (hF25.get rfl)) ?_)
    intro a26 hF27; clear hF25
    refine wpl_op (i := 7) rfl (o_val (v := (.bool (decide (((l.length : Nat) : Int) ≤ (30 : Int))))) hF27 rfl (wanted_guard rfl rfl rfl hF27 rfl (decide_eq_true hc21) rfl) rfl rfl (rn_leq (hF27.get rfl) rfl) ?_)
    intro a28 hF29; clear hF27
    refine wpl_op (i := 8) rfl (o_val (v := (.bool (decide (((l.length : Nat) : Int) ≤ (30 : Int))))) hF29 rfl rfl rfl rfl (rn_pickT (c_true hF29 rfl (decide_eq_true hc21)) (hF29.get rfl)) ?_)
    intro a30 hF31; clear hF29
    refine wpl_op (i := 9) rfl (o_val (v := (.bool (decide (((l.length : Nat) : Int) ≤ (30 : Int))))) hF31 rfl rfl rfl rfl (rn_assign (hF31.get rfl)) ?_)
    intro a32 hF33; clear hF31
    refine wpList_nil ?_
    refine hK12 _ _ ?_
    clear hK12
    have hF34 := (((hF33.nil.cons (hF33.get (t := 2) (v := (.bool (decide (((l.length : Nat) : Int) ≤ (30 : Int))))) rfl)).cons (hF33.get (t := 1) (v := (.pointer (some ⟨g2, 0, none⟩))) rfl)).cons (hF33.get (t := 0) (v := (.agg #[(.int .i64 n), (.slice A l.length c)])) rfl))
    clear hF33
    refine wp_ret ?_
    refine ret1 hF34 rfl rfl ?_
    exact ⟨by rw [few]; exact congrArg (fun b => Ending.returned (.bool b)) (decide_eq_decide.2 (by omega)), ((Ext.refl w).trans hx5)⟩
  · skip
    refine wpl_op (i := 4) rfl (o_skip hF20 rfl (unwanted_guard rfl rfl rfl hF20 rfl (decide_eq_false hc21) rfl) rfl rfl ?_)
    intro a35 hF36; clear hF20
    refine wpl_op (i := 5) rfl (o_skip hF36 rfl (unwanted_guard rfl rfl rfl hF36 rfl (decide_eq_false hc21) rfl) rfl rfl ?_)
    intro a37 hF38; clear hF36
    refine wpl_op (i := 6) rfl (o_skip hF38 rfl (unwanted_guard rfl rfl rfl hF38 rfl (decide_eq_false hc21) rfl) rfl rfl ?_)
    intro a39 hF40; clear hF38
    refine wpl_op (i := 7) rfl (o_skip hF40 rfl (unwanted_guard rfl rfl rfl hF40 rfl (decide_eq_false hc21) rfl) rfl rfl ?_)
    intro a41 hF42; clear hF40
    refine wpl_op (i := 8) rfl (o_val (v := (.bool false)) hF42 rfl rfl rfl rfl (rn_pickF (c_false hF42 rfl (decide_eq_false hc21)) rfl) ?_)
    intro a43 hF44; clear hF42
    refine wpl_op (i := 9) rfl (o_val (v := (.bool false)) hF44 rfl rfl rfl rfl (rn_assign (hF44.get rfl)) ?_)
    intro a45 hF46; clear hF44
    refine wpList_nil ?_
    refine hK12 _ _ ?_
    clear hK12
    have hF47 := (((hF46.nil.cons (hF46.get (t := 2) (v := (.bool false)) rfl)).cons (hF46.get (t := 1) (v := (.pointer (some ⟨g2, 0, none⟩))) rfl)).cons (hF46.get (t := 0) (v := (.agg #[(.int .i64 n), (.slice A l.length c)])) rfl))
    clear hF46
    refine wp_ret ?_
    refine ret1 hF47 rfl rfl ?_
    exact ⟨by rw [few, decide_eq_false (by omega)], ((Ext.refl w).trans hx5)⟩

theorem few_at {v : Value} {m : Nat} (n : Int) (l : List E3) (w : World) (hf : Fl S w 3 v m (edVals l)) :
    Calls Try.prog 15 #[.agg #[.int .i64 n, v]] w (fun e w' => e = .returned (.bool (few n l)) ∧ Ext w w') := by
  have hm := Fl.edlen hf
  subst hm
  obtain ⟨A, c, rfl, _⟩ := hf.form
  exact few_any A c n l w hf

set_option maxRecDepth 100000 in
set_option maxHeartbeats 1000000 in
theorem same_any (A B : Option Addr) (c e : Nat) (a b : List Int) (w : World) (ha : Fl S w 1 (.slice A a.length c) a.length (intVals a)) (hb : Fl S' w 1 (.slice B b.length e) b.length (intVals b)) :
    Calls Try.prog 25 #[.slice A a.length c, .slice B b.length e] w (fun e w' => e = .returned (.bool (decide (a = b))) ∧ Ext w w') := by
  have hca := (Fl.cel ha).2.1; have hcb := (Fl.cel hb).2.1
  refine calls_enter (l := [(.slice A a.length c), (.slice B b.length e)]) Try.func25 rfl rfl rfl (fun aA hF => ?_)
  refine wp_seq_k (fun K1 hK1 => ?_)
  refine wp_region_lit ?_
  refine wpl_op (i := 0) rfl (o_val (v := (.bool false)) hF rfl rfl rfl rfl (rn_assign rfl) ?_)
  intro a2 hF3; clear hF
  refine wpList_nil ?_
  refine hK1 _ _ ?_
  clear hK1
  refine wp_seq_k (fun K4 hK4 => ?_)
  refine wp_seq_k (fun K5 hK5 => ?_)
  refine wp_region_lit ?_
  refine wpl_op (i := 0) rfl (o_val (v := (.slice A a.length c)) hF3 rfl rfl rfl rfl (rn_move (hF3.get rfl)) ?_)
  intro a6 hF7; clear hF3
  refine wpl_op (i := 1) rfl (o_val (v := (.int .i64 (a.length : Nat))) hF7 rfl rfl rfl rfl (rn_len_slice Try.underlying25 (hF7.get rfl)) ?_)
  intro a8 hF9; clear hF7
  refine wpl_op (i := 2) rfl (o_val (v := (.slice B b.length e)) hF9 rfl rfl rfl rfl (rn_move (hF9.get rfl)) ?_)
  intro a10 hF11; clear hF9
  refine wpl_op (i := 3) rfl (o_val (v := (.int .i64 (b.length : Nat))) hF11 rfl rfl rfl rfl (rn_len_slice Try.underlying25 (hF11.get rfl)) ?_)
  intro a12 hF13; clear hF11
  refine wpl_op (i := 4) rfl (o_val (v := (.bool (decide (((a.length : Nat) : Int) ≠ ((b.length : Nat) : Int))))) hF13 rfl rfl rfl rfl (rn_neq (hF13.get rfl) (hF13.get rfl)) ?_)
  intro a14 hF15; clear hF13
  refine wpList_nil ?_
  refine hK5 _ _ ?_
  clear hK5
  have hF16 := ((((hF15.nil.cons (hF15.get (t := 10) (v := (.bool (decide (((a.length : Nat) : Int) ≠ ((b.length : Nat) : Int))))) rfl)).cons (hF15.get (t := 4) (v := (.bool false)) rfl)).cons (hF15.get (t := 1) (v := (.slice B b.length e)) rfl)).cons (hF15.get (t := 0) (v := (.slice A a.length c)) rfl))
  clear hF15
  by_cases hc17 : ((a.length : Nat) : Int) ≠ ((b.length : Nat) : Int)
  · skip
    refine wp_cond_true (c_true hF16 rfl (decide_eq_true hc17)) ?_
    refine wp_seq_k (fun K18 hK18 => ?_)
    refine wp_region_lit ?_
    refine wpl_op (i := 0) rfl (o_val (v := (.bool false)) hF16 rfl rfl rfl rfl (rn_assign rfl) ?_)
    intro a19 hF20; clear hF16
    refine wpList_nil ?_
    refine hK18 _ _ ?_
    clear hK18
    refine wp_ret ?_
    refine ret_then ?_
    refine ret1 hF20 rfl rfl ?_
    have hab : a ≠ b := len_ne (by omega)
    exact ⟨by rw [decide_eq_false hab], (Ext.refl w)⟩
  · skip
    refine wp_cond_false (c_false hF16 rfl (decide_eq_false hc17)) ?_
    refine wp_skip ?_
    refine hK4 _ _ ?_
    clear hK4
    refine wp_seq_k (fun K21 hK21 => ?_)
    refine wp_seq_k (fun K22 hK22 => ?_)
    refine wp_region_lit ?_
    refine wpl_op (i := 0) rfl (o_val (v := (.int .i64 0)) hF16 rfl rfl rfl rfl (rn_assign rfl) ?_)
    intro a23 hF24; clear hF16
    refine wpList_nil ?_
    refine hK22 _ _ ?_
    clear hK22
    refine wp_block ?_
    refine wp_loop (fun a' W => ∃ (k : Nat), Sl 26 [(0, (.slice A a.length c)), (1, (.slice B b.length e)), (4, (.bool false)), (10, (.bool (decide (((a.length : Nat) : Int) ≠ ((b.length : Nat) : Int))))), (5, (.int .i64 (k : Nat)))] a' ∧ k ≤ a.length ∧ (∀ j, j < k → a.getD j 0 = b.getD j 0) ∧ Ext w W ∧ w.heap.size ≤ W.heap.size) (fun a' _ => a.length - (intOf (a'.eval (.tmp 5))).toNat) ⟨0, (((((hF24.nil.cons (q_get hF24 (t := 5) rfl (by first | rfl | (congr 1; omega) | (congr 1; done)))).cons (q_get hF24 (t := 10) rfl rfl)).cons (q_get hF24 (t := 4) rfl rfl)).cons (q_get hF24 (t := 1) rfl rfl)).cons (q_get hF24 (t := 0) rfl rfl)), (by omega), (fun j hj => absurd hj (by omega)), (Ext.refl w), (Nat.le_refl _)⟩ ?_
    clear hF24
    rintro a25 w26 ⟨k, hF27, hp29, hp30, hx28, hf31⟩
    have hL32 := hF27
    have z33 := hx28.size
    refine wp_seq_k (fun K34 hK34 => ?_)
    refine wp_seq_k (fun K35 hK35 => ?_)
    refine wp_region_lit ?_
    refine wpl_op (i := 0) rfl (o_val (v := (.int .i64 (k : Nat))) hF27 rfl rfl rfl rfl (rn_move (hF27.get rfl)) ?_)
    intro a36 hF37; clear hF27
    refine wpl_op (i := 1) rfl (o_val (v := (.slice A a.length c)) hF37 rfl rfl rfl rfl (rn_move (hF37.get rfl)) ?_)
    intro a38 hF39; clear hF37
    refine wpl_op (i := 2) rfl (o_val (v := (.int .i64 (a.length : Nat))) hF39 rfl rfl rfl rfl (rn_len_slice Try.underlying25 (hF39.get rfl)) ?_)
    intro a40 hF41; clear hF39
    refine wpl_op (i := 3) rfl (o_val (v := (.bool (decide (((k : Nat) : Int) < ((a.length : Nat) : Int))))) hF41 rfl rfl rfl rfl (rn_lss (hF41.get rfl) (hF41.get rfl)) ?_)
    intro a42 hF43; clear hF41
    refine wpList_nil ?_
    refine hK35 _ _ ?_
    clear hK35
    by_cases hc44 : ((k : Nat) : Int) < ((a.length : Nat) : Int)
    · skip
      refine wp_cond_true (c_true hF43 rfl (decide_eq_true hc44)) ?_
      refine wp_skip ?_
      refine hK34 _ _ ?_
      clear hK34
      refine wp_seq_k (fun K45 hK45 => ?_)
      refine wp_block ?_
      refine wp_seq_k (fun K46 hK46 => ?_)
      have hx48 : ∃ W, w26.drew = W ∧ Ext w26 W := ⟨_, rfl, (Ext.refl _).drew⟩
      obtain ⟨w47, e49, hx48⟩ := hx48
      have z50 := hx48.size
      refine any_start (fun W => Ext w47 W) (fun i => false) 9 #[false, false, false, false, false, false, false, false, false] rfl rfl rfl ?_
      rw [e49]; clear e49
      refine any_pure (i := 0) (v := (.slice A a.length c)) hF43 (by decide +kernel) (by decide +kernel) rfl rfl rfl rfl (fun _ _ _ _ h => h) rfl (fun W => (rn_move (hF43.get rfl))) ?_
      intro a51 hF52; clear hF43
      refine any_pure (i := 1) (v := (.int .i64 (k : Nat))) hF52 (by decide +kernel) (by decide +kernel) rfl rfl rfl rfl (fun _ _ _ _ h => h) rfl (fun W => (rn_move (hF52.get rfl))) ?_
      intro a53 hF54; clear hF52
      have d58 := ((ha.ext hx28).ext hx48)
      obtain ⟨b55, o56, hA57, -⟩ := Fl.at d58 (by omega)
      refine any_pure (i := 2) (v := (.pointer (some ⟨b55, o56 + k, none⟩))) hF54 (by decide +kernel) (by decide +kernel) rfl rfl rfl rfl (fun _ _ _ _ h => h) rfl (fun W => (rn_index1 Try.underlying25 (by kernel_rfl : (Try.prog.info? 3).map (·.size) = some 1) ((hF54.get rfl).trans (by rw [hA57])) (hF54.get rfl) (by omega : (0 : Int) ≤ (k : Nat)) (by omega : ((k : Nat) : Int) < ((a.length : Nat) : Int)))) ?_
      intro a59 hF60; clear hF54
      have hS61 : Ext w47 w47 := (Ext.refl w47)
      refine any_val (i := 3) (v := (.int .i64 (a.getD k 0))) hF60 (by decide +kernel) (by decide +kernel) rfl rfl rfl rfl (fun _ _ _ _ h => h) rfl hS61 (fun W hW => (rn_load (isAgg_no Try.underlying3 rfl) (hF60.get rfl) (Fl.cellAt (d58.ext hW) hA57 (intVals_at (i := k) (by omega))))) ?_
      intro a62 hF63; clear hF60
      refine any_pure (i := 4) (v := (.slice B b.length e)) hF63 (by decide +kernel) (by decide +kernel) rfl rfl rfl rfl (fun _ _ _ _ h => h) rfl (fun W => (rn_move (hF63.get rfl))) ?_
      intro a64 hF65; clear hF63
      refine any_pure (i := 5) (v := (.int .i64 (k : Nat))) hF65 (by decide +kernel) (by decide +kernel) rfl rfl rfl rfl (fun _ _ _ _ h => h) rfl (fun W => (rn_move (hF65.get rfl))) ?_
      intro a66 hF67; clear hF65
      have d71 := ((hb.ext hx28).ext hx48)
      obtain ⟨b68, o69, hA70, -⟩ := Fl.at d71 (by omega)
      refine any_pure (i := 6) (v := (.pointer (some ⟨b68, o69 + k, none⟩))) hF67 (by decide +kernel) (by decide +kernel) rfl rfl rfl rfl (fun _ _ _ _ h => h) rfl (fun W => (rn_index1 Try.underlying25 (by kernel_rfl : (Try.prog.info? 3).map (·.size) = some 1) ((hF67.get rfl).trans (by rw [hA70])) (hF67.get rfl) (by omega : (0 : Int) ≤ (k : Nat)) (by omega : ((k : Nat) : Int) < ((b.length : Nat) : Int)))) ?_
      intro a72 hF73; clear hF67
      refine any_val (i := 7) (v := (.int .i64 (b.getD k 0))) hF73 (by decide +kernel) (by decide +kernel) rfl rfl rfl rfl (fun _ _ _ _ h => h) rfl hS61 (fun W hW => (rn_load (isAgg_no Try.underlying3 rfl) (hF73.get rfl) (Fl.cellAt (d71.ext hW) hA70 (intVals_at (i := k) (by omega))))) ?_
      intro a74 hF75; clear hF73
      refine any_pure (i := 8) (v := (.bool (decide (((a.getD k 0) : Int) ≠ ((b.getD k 0) : Int))))) hF75 (by decide +kernel) (by decide +kernel) rfl rfl rfl rfl (fun _ _ _ _ h => h) rfl (fun W => (rn_neq (hF75.get rfl) (hF75.get rfl))) ?_
      intro a76 hF77; clear hF75
      refine any_nil (by decide +kernel) ?_
      refine hK46 _ _ ?_
      clear hK46
      have hF78 := (((((((hF77.nil.cons (hF77.get (t := 25) (v := (.bool (decide (((a.getD k 0) : Int) ≠ ((b.getD k 0) : Int))))) rfl)).cons (hF77.get (t := 14) (v := (.bool (decide (((k : Nat) : Int) < ((a.length : Nat) : Int))))) rfl)).cons (hF77.get (t := 5) (v := (.int .i64 (k : Nat))) rfl)).cons (hF77.get (t := 10) (v := (.bool (decide (((a.length : Nat) : Int) ≠ ((b.length : Nat) : Int))))) rfl)).cons (hF77.get (t := 4) (v := (.bool false)) rfl)).cons (hF77.get (t := 1) (v := (.slice B b.length e)) rfl)).cons (hF77.get (t := 0) (v := (.slice A a.length c)) rfl))
      clear hF77
      by_cases hc79 : ((a.getD k 0) : Int) ≠ ((b.getD k 0) : Int)
      · skip
        refine wp_cond_true (c_true hF78 rfl (decide_eq_true hc79)) ?_
        refine wp_seq_k (fun K80 hK80 => ?_)
        refine wp_region_lit ?_
        refine wpl_op (i := 0) rfl (o_val (v := (.bool false)) hF78 rfl rfl rfl rfl (rn_assign rfl) ?_)
        intro a81 hF82; clear hF78
        refine wpList_nil ?_
        refine hK80 _ _ ?_
        clear hK80
        refine wp_ret ?_
        refine ret_block ?_
        refine ret_then ?_
        refine ret_then ?_
        refine ret_block ?_
        refine ret_then ?_
        refine ret1 hF82 rfl rfl ?_
        have hab : a ≠ b := getD_ne (d := 0) (k := k) (by omega)
        exact ⟨by rw [decide_eq_false hab], (((Ext.refl w).trans hx28).trans hx48)⟩
      · skip
        refine wp_cond_false (c_false hF78 rfl (decide_eq_false hc79)) ?_
        refine wp_skip ?_
        refine hK45 _ _ ?_
        clear hK45
        refine wp_region_lit ?_
        refine wpl_op (i := 0) rfl (o_val (v := (.int .i64 (k : Nat))) hF78 rfl rfl rfl rfl (rn_move (hF78.get rfl)) ?_)
        intro a83 hF84; clear hF78
        refine wpl_op (i := 1) rfl (o_val (v := (.int .i64 (k + 1 : Nat))) hF84 rfl rfl rfl rfl (rn_addN (a := k) (b := 1) (hF84.get rfl) rfl (by omega)) ?_)
        intro a85 hF86; clear hF84
        refine wpl_op (i := 2) rfl (o_val (v := (.int .i64 (k + 1 : Nat))) hF86 rfl rfl rfl rfl (rn_assign (hF86.get rfl)) ?_)
        intro a87 hF88; clear hF86
        refine wpList_nil ?_
        refine ⟨⟨(k + 1), (((((hF88.nil.cons (q_get hF88 (t := 5) rfl (by first | rfl | (congr 1; omega) | (congr 1; done)))).cons (q_get hF88 (t := 10) rfl rfl)).cons (q_get hF88 (t := 4) rfl rfl)).cons (q_get hF88 (t := 1) rfl rfl)).cons (q_get hF88 (t := 0) rfl rfl)), (by omega), (upto_step hp30 (by omega)), (((Ext.refl w).trans hx28).trans hx48), (by omega)⟩, ?_⟩
        rw [hF88.get (t := 5) rfl, hL32.get (t := 5) rfl]; simp [intOf] <;> omega
    · skip
      refine wp_cond_false (c_false hF43 rfl (decide_eq_false hc44)) ?_
      refine wp_exit ?_
      refine exit_then ?_
      refine exit_then ?_
      refine exit_here ?_
      refine hK21 _ _ ?_
      clear hK21
      refine wp_seq_k (fun K89 hK89 => ?_)
      refine wp_region_lit ?_
      refine wpl_op (i := 0) rfl (o_val (v := (.bool true)) hF43 rfl rfl rfl rfl (rn_assign rfl) ?_)
      intro a90 hF91; clear hF43
      refine wpList_nil ?_
      refine hK89 _ _ ?_
      clear hK89
      refine wp_ret ?_
      refine ret1 hF91 rfl rfl ?_
      have hab : a = b := list_eqI (by omega) (fun j hj => hp30 j (by omega))
      exact ⟨by rw [decide_eq_true hab], ((Ext.refl w).trans hx28)⟩

theorem same_at {u v : Value} {m k : Nat} (a b : List Int) (w : World) (ha : Fl S w 1 u m (intVals a)) (hb : Fl S' w 1 v k (intVals b)) :
    Calls Try.prog 25 #[u, v] w (fun e w' => e = .returned (.bool (decide (a = b))) ∧ Ext w w') := by
  have h1 := Fl.ilen ha
  have h2 := Fl.ilen hb
  subst h1 h2
  obtain ⟨A, c, rfl, _⟩ := ha.form
  obtain ⟨B, e, rfl, _⟩ := hb.form
  exact same_any A B c e a b w ha hb

set_option maxRecDepth 100000 in
set_option maxHeartbeats 1000000 in
theorem samefar_any (A B : Option Addr) (c e : Nat) (a b : List (List Int)) (w : World) (ha : RIss S w (.slice A a.length c) a) (hb : RIss S' w (.slice B b.length e) b) :
    Calls Try.prog 18 #[.slice A a.length c, .slice B b.length e] w (fun e w' => e = .returned (.bool (decide (a = b))) ∧ Ext w w') := by
  have hca := (RIss.form ha); have hcb := (RIss.form hb)
  obtain ⟨_, _, eA, hA1, hA2⟩ := hca; cases eA; obtain ⟨_, _, eB, hB1, hB2⟩ := hcb; cases eB
  refine calls_enter (l := [(.slice A a.length c), (.slice B b.length e)]) Try.func18 rfl rfl rfl (fun aA hF => ?_)
  refine wp_seq_k (fun K1 hK1 => ?_)
  refine wp_region_lit ?_
  refine wpl_op (i := 0) rfl (o_val (v := (.bool false)) hF rfl rfl rfl rfl (rn_assign rfl) ?_)
  intro a2 hF3; clear hF
  refine wpList_nil ?_
  refine hK1 _ _ ?_
  clear hK1
  refine wp_seq_k (fun K4 hK4 => ?_)
  refine wp_seq_k (fun K5 hK5 => ?_)
  refine wp_region_lit ?_
  refine wpl_op (i := 0) rfl (o_val (v := (.slice A a.length c)) hF3 rfl rfl rfl rfl (rn_move (hF3.get rfl)) ?_)
  intro a6 hF7; clear hF3
  refine wpl_op (i := 1) rfl (o_val (v := (.int .i64 (a.length : Nat))) hF7 rfl rfl rfl rfl (rn_len_slice Try.underlying33 (hF7.get rfl)) ?_)
  intro a8 hF9; clear hF7
  refine wpl_op (i := 2) rfl (o_val (v := (.slice B b.length e)) hF9 rfl rfl rfl rfl (rn_move (hF9.get rfl)) ?_)
  intro a10 hF11; clear hF9
  refine wpl_op (i := 3) rfl (o_val (v := (.int .i64 (b.length : Nat))) hF11 rfl rfl rfl rfl (rn_len_slice Try.underlying33 (hF11.get rfl)) ?_)
  intro a12 hF13; clear hF11
  refine wpl_op (i := 4) rfl (o_val (v := (.bool (decide (((a.length : Nat) : Int) ≠ ((b.length : Nat) : Int))))) hF13 rfl rfl rfl rfl (rn_neq (hF13.get rfl) (hF13.get rfl)) ?_)
  intro a14 hF15; clear hF13
  refine wpList_nil ?_
  refine hK5 _ _ ?_
  clear hK5
  have hF16 := ((((hF15.nil.cons (hF15.get (t := 10) (v := (.bool (decide (((a.length : Nat) : Int) ≠ ((b.length : Nat) : Int))))) rfl)).cons (hF15.get (t := 4) (v := (.bool false)) rfl)).cons (hF15.get (t := 1) (v := (.slice B b.length e)) rfl)).cons (hF15.get (t := 0) (v := (.slice A a.length c)) rfl))
  clear hF15
  by_cases hc17 : ((a.length : Nat) : Int) ≠ ((b.length : Nat) : Int)
  · skip
    refine wp_cond_true (c_true hF16 rfl (decide_eq_true hc17)) ?_
    refine wp_seq_k (fun K18 hK18 => ?_)
    refine wp_region_lit ?_
    refine wpl_op (i := 0) rfl (o_val (v := (.bool false)) hF16 rfl rfl rfl rfl (rn_assign rfl) ?_)
    intro a19 hF20; clear hF16
    refine wpList_nil ?_
    refine hK18 _ _ ?_
    clear hK18
    refine wp_ret ?_
    refine ret_then ?_
    refine ret1 hF20 rfl rfl ?_
    have hab : a ≠ b := len_ne (by omega)
    exact ⟨by rw [decide_eq_false hab], (Ext.refl w)⟩
  · skip
    refine wp_cond_false (c_false hF16 rfl (decide_eq_false hc17)) ?_
    refine wp_skip ?_
    refine hK4 _ _ ?_
    clear hK4
    refine wp_seq_k (fun K21 hK21 => ?_)
    refine wp_seq_k (fun K22 hK22 => ?_)
    refine wp_region_lit ?_
    refine wpl_op (i := 0) rfl (o_val (v := (.int .i64 0)) hF16 rfl rfl rfl rfl (rn_assign rfl) ?_)
    intro a23 hF24; clear hF16
    refine wpList_nil ?_
    refine hK22 _ _ ?_
    clear hK22
    refine wp_block ?_
    refine wp_loop (fun a' W => ∃ (k : Nat), Sl 27 [(0, (.slice A a.length c)), (1, (.slice B b.length e)), (4, (.bool false)), (10, (.bool (decide (((a.length : Nat) : Int) ≠ ((b.length : Nat) : Int))))), (5, (.int .i64 (k : Nat)))] a' ∧ k ≤ a.length ∧ (∀ j, j < k → a.getD j [] = b.getD j []) ∧ Ext w W ∧ w.heap.size ≤ W.heap.size) (fun a' _ => a.length - (intOf (a'.eval (.tmp 5))).toNat) ⟨0, (((((hF24.nil.cons (q_get hF24 (t := 5) rfl (by first | rfl | (congr 1; omega) | (congr 1; done)))).cons (q_get hF24 (t := 10) rfl rfl)).cons (q_get hF24 (t := 4) rfl rfl)).cons (q_get hF24 (t := 1) rfl rfl)).cons (q_get hF24 (t := 0) rfl rfl)), (by omega), (fun j hj => absurd hj (by omega)), (Ext.refl w), (Nat.le_refl _)⟩ ?_
    clear hF24
    rintro a25 w26 ⟨k, hF27, hp29, hp30, hx28, hf31⟩
    have hL32 := hF27
    have z33 := hx28.size
    refine wp_seq_k (fun K34 hK34 => ?_)
    refine wp_seq_k (fun K35 hK35 => ?_)
    refine wp_region_lit ?_
    refine wpl_op (i := 0) rfl (o_val (v := (.int .i64 (k : Nat))) hF27 rfl rfl rfl rfl (rn_move (hF27.get rfl)) ?_)
    intro a36 hF37; clear hF27
    refine wpl_op (i := 1) rfl (o_val (v := (.slice A a.length c)) hF37 rfl rfl rfl rfl (rn_move (hF37.get rfl)) ?_)
    intro a38 hF39; clear hF37
    refine wpl_op (i := 2) rfl (o_val (v := (.int .i64 (a.length : Nat))) hF39 rfl rfl rfl rfl (rn_len_slice Try.underlying33 (hF39.get rfl)) ?_)
    intro a40 hF41; clear hF39
    refine wpl_op (i := 3) rfl (o_val (v := (.bool (decide (((k : Nat) : Int) < ((a.length : Nat) : Int))))) hF41 rfl rfl rfl rfl (rn_lss (hF41.get rfl) (hF41.get rfl)) ?_)
    intro a42 hF43; clear hF41
    refine wpList_nil ?_
    refine hK35 _ _ ?_
    clear hK35
    by_cases hc44 : ((k : Nat) : Int) < ((a.length : Nat) : Int)
    · skip
      refine wp_cond_true (c_true hF43 rfl (decide_eq_true hc44)) ?_
      refine wp_skip ?_
      refine hK34 _ _ ?_
      clear hK34
      refine wp_seq_k (fun K45 hK45 => ?_)
      refine wp_block ?_
      refine wp_seq_k (fun K46 hK46 => ?_)
      have hx48 : ∃ W, w26.drew = W ∧ Ext w26 W := ⟨_, rfl, (Ext.refl _).drew⟩
      obtain ⟨w47, e49, hx48⟩ := hx48
      have z50 := hx48.size
      refine any_start (fun W => Ext w47 W) (fun i => false) 10 #[false, false, false, false, false, false, false, false, false, false] rfl rfl rfl ?_
      rw [e49]; clear e49
      refine any_pure (i := 0) (v := (.slice A a.length c)) hF43 (by decide +kernel) (by decide +kernel) rfl rfl rfl rfl (fun _ _ _ _ h => h) rfl (fun W => (rn_move (hF43.get rfl))) ?_
      intro a51 hF52; clear hF43
      refine any_pure (i := 1) (v := (.int .i64 (k : Nat))) hF52 (by decide +kernel) (by decide +kernel) rfl rfl rfl rfl (fun _ _ _ _ h => h) rfl (fun W => (rn_move (hF52.get rfl))) ?_
      intro a53 hF54; clear hF52
      have d65 := ((ha.ext hx28).ext hx48)
      obtain ⟨b55, o56, A57, c58, hA59, hl60, hc61, hr62, z63, z64⟩ := RIss.get (i := k) d65 (by omega)
      refine any_pure (i := 2) (v := (.pointer (some ⟨b55, o56 + k, none⟩))) hF54 (by decide +kernel) (by decide +kernel) rfl rfl rfl rfl (fun _ _ _ _ h => h) rfl (fun W => (rn_index1 Try.underlying33 (by kernel_rfl : (Try.prog.info? 25).map (·.size) = some 1) ((hF54.get rfl).trans (by rw [hA59])) (hF54.get rfl) (by omega : (0 : Int) ≤ (k : Nat)) (by omega : ((k : Nat) : Int) < ((a.length : Nat) : Int)))) ?_
      intro a66 hF67; clear hF54
      have hS68 : Ext w47 w47 := (Ext.refl w47)
      refine any_val (i := 3) (v := (.slice A57 ((a.getD k []).length) c58)) hF67 (by decide +kernel) (by decide +kernel) rfl rfl rfl rfl (fun _ _ _ _ h => h) rfl hS68 (fun W hW => (rn_load (isAgg_no Try.underlying25 rfl) (hF67.get rfl) (Ext.keep ((Ext.refl w47).trans hW) hc61))) ?_
      intro a69 hF70; clear hF67
      refine any_pure (i := 4) (v := (.slice B b.length e)) hF70 (by decide +kernel) (by decide +kernel) rfl rfl rfl rfl (fun _ _ _ _ h => h) rfl (fun W => (rn_move (hF70.get rfl))) ?_
      intro a71 hF72; clear hF70
      refine any_pure (i := 5) (v := (.int .i64 (k : Nat))) hF72 (by decide +kernel) (by decide +kernel) rfl rfl rfl rfl (fun _ _ _ _ h => h) rfl (fun W => (rn_move (hF72.get rfl))) ?_
      intro a73 hF74; clear hF72
      have d85 := ((hb.ext hx28).ext hx48)
      obtain ⟨b75, o76, A77, c78, hA79, hl80, hc81, hr82, z83, z84⟩ := RIss.get (i := k) d85 (by omega)
      refine any_pure (i := 6) (v := (.pointer (some ⟨b75, o76 + k, none⟩))) hF74 (by decide +kernel) (by decide +kernel) rfl rfl rfl rfl (fun _ _ _ _ h => h) rfl (fun W => (rn_index1 Try.underlying33 (by kernel_rfl : (Try.prog.info? 25).map (·.size) = some 1) ((hF74.get rfl).trans (by rw [hA79])) (hF74.get rfl) (by omega : (0 : Int) ≤ (k : Nat)) (by omega : ((k : Nat) : Int) < ((b.length : Nat) : Int)))) ?_
      intro a86 hF87; clear hF74
      refine any_val (i := 7) (v := (.slice A77 ((b.getD k []).length) c78)) hF87 (by decide +kernel) (by decide +kernel) rfl rfl rfl rfl (fun _ _ _ _ h => h) rfl hS68 (fun W hW => (rn_load (isAgg_no Try.underlying25 rfl) (hF87.get rfl) (Ext.keep ((Ext.refl w47).trans hW) hc81))) ?_
      intro a88 hF89; clear hF87
      refine any_one (i := 8) (by decide +kernel) rfl ?_
      refine o_call hF89 rfl rfl rfl rfl (rn_call (args2 (hF89.get rfl) (hF89.get rfl)) rfl (by kernel_rfl)) (same_at (a.getD k []) (b.getD k []) _ hr62 hr82) ?_
      rintro _ w90 ⟨rfl, hx91⟩
      refine ⟨_, rfl, ?_⟩; intro a92 hF93; clear hF89; have z94 := hx91.size
      refine ⟨fun _ _ => ((Ext.refl w47).trans hx91), ?_⟩
      refine any_pure (i := 9) (v := (.bool (!(decide ((a.getD k []) = (b.getD k [])))))) hF93 (by decide +kernel) (by decide +kernel) rfl rfl rfl rfl (fun _ _ _ _ h => h) rfl (fun W => (rn_not' (hF93.get rfl) rfl)) ?_
      intro a95 hF96; clear hF93
      refine any_nil (by decide +kernel) ?_
      refine hK46 _ _ ?_
      clear hK46
      have hF97 := (((((((hF96.nil.cons (hF96.get (t := 26) (v := (.bool (!(decide ((a.getD k []) = (b.getD k [])))))) rfl)).cons (hF96.get (t := 14) (v := (.bool (decide (((k : Nat) : Int) < ((a.length : Nat) : Int))))) rfl)).cons (hF96.get (t := 5) (v := (.int .i64 (k : Nat))) rfl)).cons (hF96.get (t := 10) (v := (.bool (decide (((a.length : Nat) : Int) ≠ ((b.length : Nat) : Int))))) rfl)).cons (hF96.get (t := 4) (v := (.bool false)) rfl)).cons (hF96.get (t := 1) (v := (.slice B b.length e)) rfl)).cons (hF96.get (t := 0) (v := (.slice A a.length c)) rfl))
      clear hF96
      by_cases hc98 : (a.getD k []) = (b.getD k [])
      · skip
        refine wp_cond_false (c_false hF97 rfl (not_t (decide_eq_true hc98))) ?_
        refine wp_skip ?_
        refine hK45 _ _ ?_
        clear hK45
        refine wp_region_lit ?_
        refine wpl_op (i := 0) rfl (o_val (v := (.int .i64 (k : Nat))) hF97 rfl rfl rfl rfl (rn_move (hF97.get rfl)) ?_)
        intro a99 hF100; clear hF97
        refine wpl_op (i := 1) rfl (o_val (v := (.int .i64 (k + 1 : Nat))) hF100 rfl rfl rfl rfl (rn_addN (a := k) (b := 1) (hF100.get rfl) rfl (by omega)) ?_)
        intro a101 hF102; clear hF100
        refine wpl_op (i := 2) rfl (o_val (v := (.int .i64 (k + 1 : Nat))) hF102 rfl rfl rfl rfl (rn_assign (hF102.get rfl)) ?_)
        intro a103 hF104; clear hF102
        refine wpList_nil ?_
        refine ⟨⟨(k + 1), (((((hF104.nil.cons (q_get hF104 (t := 5) rfl (by first | rfl | (congr 1; omega) | (congr 1; done)))).cons (q_get hF104 (t := 10) rfl rfl)).cons (q_get hF104 (t := 4) rfl rfl)).cons (q_get hF104 (t := 1) rfl rfl)).cons (q_get hF104 (t := 0) rfl rfl)), (by omega), (upto_step hp30 hc98), ((((Ext.refl w).trans hx28).trans hx48).trans hx91), (by omega)⟩, ?_⟩
        rw [hF104.get (t := 5) rfl, hL32.get (t := 5) rfl]; simp [intOf] <;> omega
      · skip
        refine wp_cond_true (c_true hF97 rfl (not_f (decide_eq_false hc98))) ?_
        refine wp_seq_k (fun K105 hK105 => ?_)
        refine wp_region_lit ?_
        refine wpl_op (i := 0) rfl (o_val (v := (.bool false)) hF97 rfl rfl rfl rfl (rn_assign rfl) ?_)
        intro a106 hF107; clear hF97
        refine wpList_nil ?_
        refine hK105 _ _ ?_
        clear hK105
        refine wp_ret ?_
        refine ret_block ?_
        refine ret_then ?_
        refine ret_then ?_
        refine ret_block ?_
        refine ret_then ?_
        refine ret1 hF107 rfl rfl ?_
        have hab : a ≠ b := getD_ne (d := []) (k := k) hc98
        exact ⟨by rw [decide_eq_false hab], ((((Ext.refl w).trans hx28).trans hx48).trans hx91)⟩
    · skip
      refine wp_cond_false (c_false hF43 rfl (decide_eq_false hc44)) ?_
      refine wp_exit ?_
      refine exit_then ?_
      refine exit_then ?_
      refine exit_here ?_
      refine hK21 _ _ ?_
      clear hK21
      refine wp_seq_k (fun K108 hK108 => ?_)
      refine wp_region_lit ?_
      refine wpl_op (i := 0) rfl (o_val (v := (.bool true)) hF43 rfl rfl rfl rfl (rn_assign rfl) ?_)
      intro a109 hF110; clear hF43
      refine wpList_nil ?_
      refine hK108 _ _ ?_
      clear hK108
      refine wp_ret ?_
      refine ret1 hF110 rfl rfl ?_
      have hab : a = b := list_eqT (by omega) (fun j hj => hp30 j (by omega))
      exact ⟨by rw [decide_eq_true hab], ((Ext.refl w).trans hx28)⟩

theorem samefar_at {u v : Value} (a b : List (List Int)) (w : World) (ha : RIss S w u a) (hb : RIss S' w v b) :
    Calls Try.prog 18 #[u, v] w (fun e w' => e = .returned (.bool (decide (a = b))) ∧ Ext w w') := by
  obtain ⟨A, c, rfl, _⟩ := ha.form
  obtain ⟨B, e, rfl, _⟩ := hb.form
  exact samefar_any A B c e a b w ha hb

set_option maxRecDepth 100000 in
set_option maxHeartbeats 1000000 in
theorem cycle_any (A B : Option Addr) (c cb : Nat) (n : Int) (l : List E3) (cyc : List Int) (w : World) (hf : Fl S w 3 (.slice A l.length c) l.length (edVals l)) (hfc : Fl S' w 1 (.slice B cyc.length cb) cyc.length (intVals cyc)) (hcy : CycP l cyc) (hv : vOk n l = true) :
    Calls Try.prog 19 #[.agg #[.int .i64 n, .slice A l.length c], .slice B cyc.length cb] w (fun e w' => e = .returned (.bool true) ∧ Ext w w') := by
  have hc : Fl (Clip S w) w 3 (.slice A l.length c) l.length (edVals l) := hf.clip
  have hcc := (Fl.cel hc).2.1
  have hcv : Fl (Clip S' w) w 1 (.slice B cyc.length cb) cyc.length (intVals cyc) := hfc.clip
  have hcc2 := (Fl.cel hcv).2.1
  have hfew := hcy.few
  refine calls_enter (l := [(.agg #[(.int .i64 n), (.slice A l.length c)]), (.slice B cyc.length cb)]) Try.func19 rfl rfl rfl (fun aA hF => ?_)
  refine wp_seq_k (fun K1 hK1 => ?_)
  refine wp_region_lit ?_
  refine wpl_op (i := 0) rfl (o_new (fun g => (.pointer (some ⟨g, 0, none⟩))) [(.int .i64 n), (.slice A l.length c)] 24 hF rfl rfl rfl rfl (rn_box (hF.get rfl) (by kernel_rfl)) ?_)
  intro g2 w3 a8 hF9 z6 z7 b4 hx5; clear hF
  refine wpl_op (i := 1) rfl (o_val (v := (.bool false)) hF9 rfl rfl rfl rfl (rn_assign rfl) ?_)
  intro a10 hF11; clear hF9
  refine wpList_nil ?_
  refine hK1 _ _ ?_
  clear hK1
  refine wp_seq_k (fun K12 hK12 => ?_)
  refine wp_region_lit ?_
  refine wpl_op (i := 0) rfl (o_val (v := (.int .i64 0)) hF11 rfl rfl rfl rfl (rn_assign rfl) ?_)
  intro a13 hF14; clear hF11
  refine wpList_nil ?_
  refine hK12 _ _ ?_
  clear hK12
  refine wp_seq_k (fun K15 hK15 => ?_)
  refine wp_seq_k (fun K16 hK16 => ?_)
  refine wp_region_lit ?_
  refine wpl_op (i := 0) rfl (o_val (v := (.int .i64 0)) hF14 rfl rfl rfl rfl (rn_assign rfl) ?_)
  intro a17 hF18; clear hF14
  refine wpList_nil ?_
  refine hK16 _ _ ?_
  clear hK16
  refine wp_block ?_
  refine wp_loop (fun a' W => ∃ (k : Nat), Sl 89 [(0, (.agg #[(.int .i64 n), (.slice A l.length c)])), (1, (.slice B cyc.length cb)), (2, (.pointer (some ⟨g2, 0, none⟩))), (4, (.bool false)), (5, (.int .i64 0)), (6, (.int .i64 (k : Nat)))] a' ∧ k ≤ cyc.length ∧ Ext w W ∧ Blk W g2 24 [(.int .i64 n), (.slice A l.length c)] ∧ w3.heap.size ≤ W.heap.size) (fun a' _ => cyc.length - (intOf (a'.eval (.tmp 6))).toNat) ⟨0, ((((((hF18.nil.cons (q_get hF18 (t := 6) rfl (by first | rfl | (congr 1; omega) | (congr 1; done)))).cons (q_get hF18 (t := 5) rfl rfl)).cons (q_get hF18 (t := 4) rfl rfl)).cons (q_get hF18 (t := 2) rfl rfl)).cons (q_get hF18 (t := 1) rfl rfl)).cons (q_get hF18 (t := 0) rfl rfl)), (by omega), ((Ext.refl w).trans hx5), b4, (Nat.le_refl _)⟩ ?_
  clear hF18
  rintro a19 w20 ⟨k, hF21, hp23, hx22, b24, hf25⟩
  have hL26 := hF21
  have z27 := hx22.size
  have z28 := b24.lt
  refine wp_seq_k (fun K29 hK29 => ?_)
  refine wp_seq_k (fun K30 hK30 => ?_)
  refine wp_region_lit ?_
  refine wpl_op (i := 0) rfl (o_val (v := (.int .i64 (k : Nat))) hF21 rfl rfl rfl rfl (rn_move (hF21.get rfl)) ?_)
  intro a31 hF32; clear hF21
  refine wpl_op (i := 1) rfl (o_val (v := (.slice B cyc.length cb)) hF32 rfl rfl rfl rfl (rn_move (hF32.get rfl)) ?_)
  intro a33 hF34; clear hF32
  refine wpl_op (i := 2) rfl (o_val (v := (.int .i64 (cyc.length : Nat))) hF34 rfl rfl rfl rfl (rn_len_slice Try.underlying25 (hF34.get rfl)) ?_)
  intro a35 hF36; clear hF34
  refine wpl_op (i := 3) rfl (o_val (v := (.bool (decide (((k : Nat) : Int) < ((cyc.length : Nat) : Int))))) hF36 rfl rfl rfl rfl (rn_lss (hF36.get rfl) (hF36.get rfl)) ?_)
  intro a37 hF38; clear hF36
  refine wpList_nil ?_
  refine hK30 _ _ ?_
  clear hK30
  by_cases hc39 : ((k : Nat) : Int) < ((cyc.length : Nat) : Int)
  · skip
    refine wp_cond_true (c_true hF38 rfl (decide_eq_true hc39)) ?_
    refine wp_skip ?_
    refine hK29 _ _ ?_
    clear hK29
    refine wp_seq_k (fun K40 hK40 => ?_)
    refine wp_block ?_
    refine wp_seq_k (fun K41 hK41 => ?_)
    have hix := hcy.ix k (by omega)
    have hx43 : ∃ W, w20.drew = W ∧ Ext w20 W := ⟨_, rfl, (Ext.refl _).drew⟩
    obtain ⟨w42, e44, hx43⟩ := hx43
    have z45 := hx43.size
    refine any_start (fun W => Ext w42 W ∧ Blk W g2 24 [(.int .i64 n), (.slice A l.length c)]) (fun i => false) 15 #[false, false, false, false, false, false, false, false, false, false, false, false, false, false, false] rfl rfl rfl ?_
    rw [e44]; clear e44
    refine any_pure (i := 0) (v := (.slice B cyc.length cb)) hF38 (by decide +kernel) (by decide +kernel) rfl rfl rfl rfl (fun _ _ _ _ h => h) rfl (fun W => (rn_move (hF38.get rfl))) ?_
    intro a46 hF47; clear hF38
    refine any_pure (i := 1) (v := (.int .i64 (k : Nat))) hF47 (by decide +kernel) (by decide +kernel) rfl rfl rfl rfl (fun _ _ _ _ h => h) rfl (fun W => (rn_move (hF47.get rfl))) ?_
    intro a48 hF49; clear hF47
    have d53 := ((hcv.ext hx22).ext hx43)
    obtain ⟨b50, o51, hA52, -⟩ := Fl.at d53 (by omega)
    refine any_pure (i := 2) (v := (.pointer (some ⟨b50, o51 + k, none⟩))) hF49 (by decide +kernel) (by decide +kernel) rfl rfl rfl rfl (fun _ _ _ _ h => h) rfl (fun W => (rn_index1 Try.underlying25 (by kernel_rfl : (Try.prog.info? 3).map (·.size) = some 1) ((hF49.get rfl).trans (by rw [hA52])) (hF49.get rfl) (by omega : (0 : Int) ≤ (k : Nat)) (by omega : ((k : Nat) : Int) < ((cyc.length : Nat) : Int)))) ?_
    intro a54 hF55; clear hF49
    have b57 : Blk w42 g2 24 [(.int .i64 n), (.slice A l.length c)] := (b24.ext hx43)
    have hS56 : Ext w42 w42 ∧ Blk w42 g2 24 [(.int .i64 n), (.slice A l.length c)] := ⟨(Ext.refl w42), b57⟩
    refine any_val (i := 3) (v := (.int .i64 (cyc.getD k 0))) hF55 (by decide +kernel) (by decide +kernel) rfl rfl rfl rfl (fun _ _ _ _ h => h) rfl hS56 (fun W hW => (rn_load (isAgg_no Try.underlying3 rfl) (hF55.get rfl) (Fl.cellAt (d53.ext hW.1) hA52 (intVals_at (i := k) (by omega))))) ?_
    intro a58 hF59; clear hF55
    refine any_pure (i := 4) (v := (.bool (decide (((cyc.getD k 0) : Int) < (0 : Int))))) hF59 (by decide +kernel) (by decide +kernel) rfl rfl rfl rfl (fun _ _ _ _ h => h) rfl (fun W => (rn_lss (hF59.get rfl) rfl)) ?_
    intro a60 hF61; clear hF59
    refine any_pure (i := 5) (v := (.bool (decide (((cyc.getD k 0) : Int) < (0 : Int))))) hF61 (by decide +kernel) (by decide +kernel) rfl rfl rfl rfl (fun _ _ _ _ h => h) rfl (fun W => (rn_move (hF61.get rfl))) ?_
    intro a62 hF63; clear hF61
    by_cases hc64 : ((cyc.getD k 0) : Int) < (0 : Int)
    · skip
      refine any_pass (i := 6) hF63 (by decide +kernel) (by decide +kernel) rfl rfl rfl rfl (fun _ _ _ _ h => h) (unwanted_guard rfl rfl rfl hF63 rfl (decide_eq_true hc64) rfl) ?_
      intro a65 hF66; clear hF63
      refine any_pass (i := 7) hF66 (by decide +kernel) (by decide +kernel) rfl rfl rfl rfl (fun _ _ _ _ h => h) (unwanted_guard rfl rfl rfl hF66 rfl (decide_eq_true hc64) rfl) ?_
      intro a67 hF68; clear hF66
      refine any_pass (i := 8) hF68 (by decide +kernel) (by decide +kernel) rfl rfl rfl rfl (fun _ _ _ _ h => h) (unwanted_guard rfl rfl rfl hF68 rfl (decide_eq_true hc64) rfl) ?_
      intro a69 hF70; clear hF68
      refine any_pass (i := 9) hF70 (by decide +kernel) (by decide +kernel) rfl rfl rfl rfl (fun _ _ _ _ h => h) (unwanted_guard rfl rfl rfl hF70 rfl (decide_eq_true hc64) rfl) ?_
      intro a71 hF72; clear hF70
      refine any_pass (i := 10) hF72 (by decide +kernel) (by decide +kernel) rfl rfl rfl rfl (fun _ _ _ _ h => h) (unwanted_guard rfl rfl rfl hF72 rfl (decide_eq_true hc64) rfl) ?_
      intro a73 hF74; clear hF72
      refine any_pass (i := 11) hF74 (by decide +kernel) (by decide +kernel) rfl rfl rfl rfl (fun _ _ _ _ h => h) (unwanted_guard rfl rfl rfl hF74 rfl (decide_eq_true hc64) rfl) ?_
      intro a75 hF76; clear hF74
      refine any_pass (i := 12) hF76 (by decide +kernel) (by decide +kernel) rfl rfl rfl rfl (fun _ _ _ _ h => h) (unwanted_guard rfl rfl rfl hF76 rfl (decide_eq_true hc64) rfl) ?_
      intro a77 hF78; clear hF76
      refine any_pass (i := 13) hF78 (by decide +kernel) (by decide +kernel) rfl rfl rfl rfl (fun _ _ _ _ h => h) (unwanted_guard rfl rfl rfl hF78 rfl (decide_eq_true hc64) rfl) ?_
      intro a79 hF80; clear hF78
      refine any_pure (i := 14) (v := (.bool true)) hF80 (by decide +kernel) (by decide +kernel) rfl rfl rfl rfl (fun _ _ _ _ h => h) rfl (fun W => (rn_pickT (c_true hF80 rfl (decide_eq_true hc64)) rfl)) ?_
      intro a81 hF82; clear hF80
      refine any_nil (by decide +kernel) ?_
      refine hK41 _ _ ?_
      clear hK41
      have hF83 := ((((((((hF82.nil.cons (hF82.get (t := 30) (v := (.bool true)) rfl)).cons (hF82.get (t := 13) (v := (.bool (decide (((k : Nat) : Int) < ((cyc.length : Nat) : Int))))) rfl)).cons (hF82.get (t := 6) (v := (.int .i64 (k : Nat))) rfl)).cons (hF82.get (t := 5) (v := (.int .i64 0)) rfl)).cons (hF82.get (t := 4) (v := (.bool false)) rfl)).cons (hF82.get (t := 2) (v := (.pointer (some ⟨g2, 0, none⟩))) rfl)).cons (hF82.get (t := 1) (v := (.slice B cyc.length cb)) rfl)).cons (hF82.get (t := 0) (v := (.agg #[(.int .i64 n), (.slice A l.length c)])) rfl))
      clear hF82
      refine wp_cond_true (c_true hF83 rfl rfl) ?_
      refine wp_seq_k (fun K84 hK84 => ?_)
      refine wp_region_lit ?_
      refine wpl_op (i := 0) rfl (o_val (v := (.bool false)) hF83 rfl rfl rfl rfl (rn_assign rfl) ?_)
      intro a85 hF86; clear hF83
      refine wpList_nil ?_
      refine hK84 _ _ ?_
      clear hK84
      refine wp_ret ?_
      refine ret_block ?_
      refine ret_then ?_
      refine ret_then ?_
      refine ret_block ?_
      refine ret_then ?_
      refine ret1 hF86 rfl rfl ?_
      exfalso; first | omega | (have h1 := hcy.pos; omega)
    · skip
      refine any_pure (i := 6) (v := (.slice B cyc.length cb)) hF63 (by decide +kernel) (by decide +kernel) rfl rfl rfl rfl (fun _ _ _ _ h => h) (wanted_guard rfl rfl rfl hF63 rfl (decide_eq_false hc64) rfl) (fun W => (rn_move (hF63.get rfl))) ?_
      intro a87 hF88; clear hF63
      refine any_pure (i := 7) (v := (.int .i64 (k : Nat))) hF88 (by decide +kernel) (by decide +kernel) rfl rfl rfl rfl (fun _ _ _ _ h => h) (wanted_guard rfl rfl rfl hF88 rfl (decide_eq_false hc64) rfl) (fun W => (rn_move (hF88.get rfl))) ?_
      intro a89 hF90; clear hF88
      refine any_pure (i := 8) (v := (.pointer (some ⟨b50, o51 + k, none⟩))) hF90 (by decide +kernel) (by decide +kernel) rfl rfl rfl rfl (fun _ _ _ _ h => h) (wanted_guard rfl rfl rfl hF90 rfl (decide_eq_false hc64) rfl) (fun W => (rn_index1 Try.underlying25 (by kernel_rfl : (Try.prog.info? 3).map (·.size) = some 1) ((hF90.get rfl).trans (by rw [hA52])) (hF90.get rfl) (by omega : (0 : Int) ≤ (k : Nat)) (by omega : ((k : Nat) : Int) < ((cyc.length : Nat) : Int)))) ?_
      intro a91 hF92; clear hF90
      refine any_val (i := 9) (v := (.int .i64 (cyc.getD k 0))) hF92 (by decide +kernel) (by decide +kernel) rfl rfl rfl rfl (fun _ _ _ _ h => h) (wanted_guard rfl rfl rfl hF92 rfl (decide_eq_false hc64) rfl) hS56 (fun W hW => (rn_load (isAgg_no Try.underlying3 rfl) (hF92.get rfl) (Fl.cellAt (d53.ext hW.1) hA52 (intVals_at (i := k) (by omega))))) ?_
      intro a93 hF94; clear hF92
      refine any_pure (i := 10) (v := (.pointer (some ⟨g2, 1, none⟩))) hF94 (by decide +kernel) (by decide +kernel) rfl rfl rfl rfl (fun _ _ _ _ h => h) (wanted_guard rfl rfl rfl hF94 rfl (decide_eq_false hc64) rfl) (fun W => (rn_field Try.underlying24 rfl (by kernel_rfl) (hF94.get rfl) rfl)) ?_
      intro a95 hF96; clear hF94
      refine any_val (i := 11) (v := (.slice A l.length c)) hF96 (by decide +kernel) (by decide +kernel) rfl rfl rfl rfl (fun _ _ _ _ h => h) (wanted_guard rfl rfl rfl hF96 rfl (decide_eq_false hc64) rfl) hS56 (fun W hW => (rn_load (isAgg_no Try.underlying22 rfl) (hF96.get rfl) (hW.2.rule.1 1))) ?_
      intro a97 hF98; clear hF96
      refine any_pure (i := 12) (v := (.int .i64 (l.length : Nat))) hF98 (by decide +kernel) (by decide +kernel) rfl rfl rfl rfl (fun _ _ _ _ h => h) (wanted_guard rfl rfl rfl hF98 rfl (decide_eq_false hc64) rfl) (fun W => (rn_len_slice Try.underlying22 (hF98.get rfl))) ?_
      intro a99 hF100; clear hF98
      refine any_pure (i := 13) (v := (.bool (decide (((l.length : Nat) : Int) ≤ ((cyc.getD k 0) : Int))))) hF100 (by decide +kernel) (by decide +kernel) rfl rfl rfl rfl (fun _ _ _ _ h => h) (wanted_guard rfl rfl rfl hF100 rfl (decide_eq_false hc64) rfl) (fun W => (rn_geq (hF100.get rfl) (hF100.get rfl))) ?_
      intro a101 hF102; clear hF100
      refine any_pure (i := 14) (v := (.bool (decide (((l.length : Nat) : Int) ≤ ((cyc.getD k 0) : Int))))) hF102 (by decide +kernel) (by decide +kernel) rfl rfl rfl rfl (fun _ _ _ _ h => h) rfl (fun W => (rn_pickF (c_false hF102 rfl (decide_eq_false hc64)) (hF102.get rfl))) ?_
      intro a103 hF104; clear hF102
      refine any_nil (by decide +kernel) ?_
      refine hK41 _ _ ?_
      clear hK41
      have hF105 := ((((((((hF104.nil.cons (hF104.get (t := 30) (v := (.bool (decide (((l.length : Nat) : Int) ≤ ((cyc.getD k 0) : Int))))) rfl)).cons (hF104.get (t := 13) (v := (.bool (decide (((k : Nat) : Int) < ((cyc.length : Nat) : Int))))) rfl)).cons (hF104.get (t := 6) (v := (.int .i64 (k : Nat))) rfl)).cons (hF104.get (t := 5) (v := (.int .i64 0)) rfl)).cons (hF104.get (t := 4) (v := (.bool false)) rfl)).cons (hF104.get (t := 2) (v := (.pointer (some ⟨g2, 0, none⟩))) rfl)).cons (hF104.get (t := 1) (v := (.slice B cyc.length cb)) rfl)).cons (hF104.get (t := 0) (v := (.agg #[(.int .i64 n), (.slice A l.length c)])) rfl))
      clear hF104
      by_cases hc106 : ((l.length : Nat) : Int) ≤ ((cyc.getD k 0) : Int)
      · skip
        refine wp_cond_true (c_true hF105 rfl (decide_eq_true hc106)) ?_
        refine wp_seq_k (fun K107 hK107 => ?_)
        refine wp_region_lit ?_
        refine wpl_op (i := 0) rfl (o_val (v := (.bool false)) hF105 rfl rfl rfl rfl (rn_assign rfl) ?_)
        intro a108 hF109; clear hF105
        refine wpList_nil ?_
        refine hK107 _ _ ?_
        clear hK107
        refine wp_ret ?_
        refine ret_block ?_
        refine ret_then ?_
        refine ret_then ?_
        refine ret_block ?_
        refine ret_then ?_
        refine ret1 hF109 rfl rfl ?_
        exfalso; first | omega | (have h1 := hcy.pos; omega)
      · skip
        refine wp_cond_false (c_false hF105 rfl (decide_eq_false hc106)) ?_
        refine wp_skip ?_
        refine hK40 _ _ ?_
        clear hK40
        refine wp_region_lit ?_
        refine wpl_op (i := 0) rfl (o_val (v := (.int .i64 (k : Nat))) hF105 rfl rfl rfl rfl (rn_move (hF105.get rfl)) ?_)
        intro a110 hF111; clear hF105
        refine wpl_op (i := 1) rfl (o_val (v := (.int .i64 (k + 1 : Nat))) hF111 rfl rfl rfl rfl (rn_addN (a := k) (b := 1) (hF111.get rfl) rfl (by omega)) ?_)
        intro a112 hF113; clear hF111
        refine wpl_op (i := 2) rfl (o_val (v := (.int .i64 (k + 1 : Nat))) hF113 rfl rfl rfl rfl (rn_assign (hF113.get rfl)) ?_)
        intro a114 hF115; clear hF113
        refine wpList_nil ?_
        refine ⟨⟨(k + 1), ((((((hF115.nil.cons (q_get hF115 (t := 6) rfl (by first | rfl | (congr 1; omega) | (congr 1; done)))).cons (q_get hF115 (t := 5) rfl rfl)).cons (q_get hF115 (t := 4) rfl rfl)).cons (q_get hF115 (t := 2) rfl rfl)).cons (q_get hF115 (t := 1) rfl rfl)).cons (q_get hF115 (t := 0) rfl rfl)), (by omega), (((Ext.refl w).trans hx22).trans hx43), b57, (by omega)⟩, ?_⟩
        rw [hF115.get (t := 6) rfl, hL26.get (t := 6) rfl]; simp [intOf] <;> omega
  · skip
    refine wp_cond_false (c_false hF38 rfl (decide_eq_false hc39)) ?_
    refine wp_exit ?_
    refine exit_then ?_
    refine exit_then ?_
    refine exit_here ?_
    refine hK15 _ _ ?_
    clear hK15
    refine wp_seq_k (fun K116 hK116 => ?_)
    refine wp_seq_k (fun K117 hK117 => ?_)
    refine wp_region_lit ?_
    refine wpl_op (i := 0) rfl (o_val (v := (.int .i64 0)) hF38 rfl rfl rfl rfl (rn_assign rfl) ?_)
    intro a118 hF119; clear hF38
    refine wpList_nil ?_
    refine hK117 _ _ ?_
    clear hK117
    refine wp_block ?_
    refine wp_loop (fun a' W => ∃ (i : Nat) (sm : Int), Sl 89 [(0, (.agg #[(.int .i64 n), (.slice A l.length c)])), (1, (.slice B cyc.length cb)), (2, (.pointer (some ⟨g2, 0, none⟩))), (4, (.bool false)), (5, (.int .i64 sm)), (6, (.int .i64 (k : Nat))), (13, (.bool (decide (((k : Nat) : Int) < ((cyc.length : Nat) : Int))))), (7, (.int .i64 (i : Nat)))] a' ∧ i ≤ cyc.length ∧ (sm = P15.total (fun j => (cedge l cyc j).w) i) ∧ Ext w W ∧ Blk W g2 24 [(.int .i64 n), (.slice A l.length c)] ∧ w20.heap.size ≤ W.heap.size) (fun a' _ => cyc.length - (intOf (a'.eval (.tmp 7))).toNat) ⟨0, 0, ((((((((hF119.nil.cons (q_get hF119 (t := 7) rfl (by first | rfl | (congr 1; omega) | (congr 1; done)))).cons (q_get hF119 (t := 13) rfl rfl)).cons (q_get hF119 (t := 6) rfl rfl)).cons (q_get hF119 (t := 5) rfl (by first | rfl | (congr 1; omega) | (congr 1; done)))).cons (q_get hF119 (t := 4) rfl rfl)).cons (q_get hF119 (t := 2) rfl rfl)).cons (q_get hF119 (t := 1) rfl rfl)).cons (q_get hF119 (t := 0) rfl rfl)), (by omega), rfl, ((Ext.refl w).trans hx22), b24, (Nat.le_refl _)⟩ ?_
    clear hF119
    rintro a120 w121 ⟨i, sm, hF122, hp124, hp125, hx123, b126, hf127⟩
    have hL128 := hF122
    have z129 := hx123.size
    have z130 := b126.lt
    refine wp_seq_k (fun K131 hK131 => ?_)
    refine wp_seq_k (fun K132 hK132 => ?_)
    refine wp_region_lit ?_
    refine wpl_op (i := 0) rfl (o_val (v := (.int .i64 (i : Nat))) hF122 rfl rfl rfl rfl (rn_move (hF122.get rfl)) ?_)
    intro a133 hF134; clear hF122
    refine wpl_op (i := 1) rfl (o_val (v := (.slice B cyc.length cb)) hF134 rfl rfl rfl rfl (rn_move (hF134.get rfl)) ?_)
    intro a135 hF136; clear hF134
    refine wpl_op (i := 2) rfl (o_val (v := (.int .i64 (cyc.length : Nat))) hF136 rfl rfl rfl rfl (rn_len_slice Try.underlying25 (hF136.get rfl)) ?_)
    intro a137 hF138; clear hF136
    refine wpl_op (i := 3) rfl (o_val (v := (.bool (decide (((i : Nat) : Int) < ((cyc.length : Nat) : Int))))) hF138 rfl rfl rfl rfl (rn_lss (hF138.get rfl) (hF138.get rfl)) ?_)
    intro a139 hF140; clear hF138
    refine wpList_nil ?_
    refine hK132 _ _ ?_
    clear hK132
    by_cases hc141 : ((i : Nat) : Int) < ((cyc.length : Nat) : Int)
    · skip
      refine wp_cond_true (c_true hF140 rfl (decide_eq_true hc141)) ?_
      refine wp_skip ?_
      refine hK131 _ _ ?_
      clear hK131
      refine wp_seq_k (fun K142 hK142 => ?_)
      refine wp_block ?_
      refine wp_seq_k (fun K143 hK143 => ?_)
      have hix2 := hcy.ix i (by omega)
      have hmod := Nat.mod_lt (i + 1) (show 0 < cyc.length by omega)
      have hix3 := hcy.ix _ hmod
      have hlk := hcy.link i (by omega)
      simp only [cedge] at hlk
      have hx145 : ∃ W, w121.drew = W ∧ Ext w121 W := ⟨_, rfl, (Ext.refl _).drew⟩
      obtain ⟨w144, e146, hx145⟩ := hx145
      have z147 := hx145.size
      refine any_start (fun W => Ext w144 W ∧ Blk W g2 24 [(.int .i64 n), (.slice A l.length c)]) (fun i => i == 9) 10 #[false, false, false, false, false, false, false, false, false, false] rfl rfl rfl ?_
      rw [e146]; clear e146
      refine any_pure (i := 0) (v := (.pointer (some ⟨g2, 1, none⟩))) hF140 (by decide +kernel) (by decide +kernel) rfl rfl rfl rfl (fun _ _ _ _ h => h) rfl (fun W => (rn_field Try.underlying24 rfl (by kernel_rfl) (hF140.get rfl) rfl)) ?_
      intro a148 hF149; clear hF140
      have b151 : Blk w144 g2 24 [(.int .i64 n), (.slice A l.length c)] := (b126.ext hx145)
      have hS150 : Ext w144 w144 ∧ Blk w144 g2 24 [(.int .i64 n), (.slice A l.length c)] := ⟨(Ext.refl w144), b151⟩
      refine any_val (i := 1) (v := (.slice A l.length c)) hF149 (by decide +kernel) (by decide +kernel) rfl rfl rfl rfl (fun _ _ _ _ h => h) rfl hS150 (fun W hW => (rn_load (isAgg_no Try.underlying22 rfl) (hF149.get rfl) (hW.2.rule.1 1))) ?_
      intro a152 hF153; clear hF149
      refine any_pure (i := 2) (v := (.slice B cyc.length cb)) hF153 (by decide +kernel) (by decide +kernel) rfl rfl rfl rfl (fun _ _ _ _ h => h) rfl (fun W => (rn_move (hF153.get rfl))) ?_
      intro a154 hF155; clear hF153
      refine any_pure (i := 3) (v := (.int .i64 (i : Nat))) hF155 (by decide +kernel) (by decide +kernel) rfl rfl rfl rfl (fun _ _ _ _ h => h) rfl (fun W => (rn_move (hF155.get rfl))) ?_
      intro a156 hF157; clear hF155
      have d161 := ((hcv.ext hx123).ext hx145)
      obtain ⟨b158, o159, hA160, -⟩ := Fl.at d161 (by omega)
      refine any_pure (i := 4) (v := (.pointer (some ⟨b158, o159 + i, none⟩))) hF157 (by decide +kernel) (by decide +kernel) rfl rfl rfl rfl (fun _ _ _ _ h => h) rfl (fun W => (rn_index1 Try.underlying25 (by kernel_rfl : (Try.prog.info? 3).map (·.size) = some 1) ((hF157.get rfl).trans (by rw [hA160])) (hF157.get rfl) (by omega : (0 : Int) ≤ (i : Nat)) (by omega : ((i : Nat) : Int) < ((cyc.length : Nat) : Int)))) ?_
      intro a162 hF163; clear hF157
      refine any_val (i := 5) (v := (.int .i64 (cyc.getD i 0))) hF163 (by decide +kernel) (by decide +kernel) rfl rfl rfl rfl (fun _ _ _ _ h => h) rfl hS150 (fun W hW => (rn_load (isAgg_no Try.underlying3 rfl) (hF163.get rfl) (Fl.cellAt (d161.ext hW.1) hA160 (intVals_at (i := i) (by omega))))) ?_
      intro a164 hF165; clear hF163
      have d169 := ((hc.ext hx123).ext hx145)
      obtain ⟨b166, o167, hA168, -⟩ := Fl.at d169 (by omega)
      refine any_pure (i := 6) (v := (.pointer (some ⟨b166, o167 + ((cyc.getD i 0) : Int).toNat * 3, none⟩))) hF165 (by decide +kernel) (by decide +kernel) rfl rfl rfl rfl (fun _ _ _ _ h => h) rfl (fun W => (rn_indexE Try.underlying22 (by kernel_rfl : (Try.prog.info? 41).map (·.size) = some 3) ((hF165.get rfl).trans (by rw [hA168])) (hF165.get rfl) (by omega : (0 : Int) ≤ (cyc.getD i 0)) (by omega : ((cyc.getD i 0) : Int) < ((l.length : Nat) : Int)) (by omega))) ?_
      intro a170 hF171; clear hF165
      refine any_val (i := 7) (v := (.agg #[(.int .i64 ((l.getD (((cyc.getD i 0) : Int).toNat) default).a)), (.int .i64 ((l.getD (((cyc.getD i 0) : Int).toNat) default).b)), (.int .i64 ((l.getD (((cyc.getD i 0) : Int).toNat) default).w))])) hF171 (by decide +kernel) (by decide +kernel) rfl rfl rfl rfl (fun _ _ _ _ h => h) rfl hS150 (fun W hW => (rn_loadN (cs := [(.int .i64 ((l.getD (((cyc.getD i 0) : Int).toNat) default).a)), (.int .i64 ((l.getD (((cyc.getD i 0) : Int).toNat) default).b)), (.int .i64 ((l.getD (((cyc.getD i 0) : Int).toNat) default).w))]) (hF171.get rfl) Try.underlying41 rfl (by kernel_rfl : (Try.prog.info? 41).map (·.size) = some 3) (Fl.recAt edCells_k (d169.ext hW.1) hA168 (by omega)))) ?_
      intro a172 hF173; clear hF171
      refine any_one (i := 8) (by decide +kernel) rfl ?_
      refine o_new (fun g => (.pointer (some ⟨g, 0, none⟩))) [(.int .i64 0), (.int .i64 0), (.int .i64 0)] 41 hF173 rfl rfl rfl rfl (by kernel_rfl) ?_
      intro g174 w175 a180 hF181 z178 z179 b176 hx177; clear hF173
      have b182 : Blk w175 g2 24 [(.int .i64 n), (.slice A l.length c)] := (b151.ext hx177)
      refine ⟨fun _ _ => ⟨((Ext.refl w144).trans hx177), b182⟩, ?_⟩
      refine any_one (i := 9) (by decide +kernel) rfl ?_
      refine o_store (cells := [(.int .i64 ((l.getD (((cyc.getD i 0) : Int).toNat) default).a)), (.int .i64 ((l.getD (((cyc.getD i 0) : Int).toNat) default).b)), (.int .i64 ((l.getD (((cyc.getD i 0) : Int).toNat) default).w))]) hF181 rfl rfl rfl rfl (hF181.get rfl) (hF181.get rfl) b176 (by kernel_rfl : (Try.prog.info? 41).map (·.size) = some 3) rfl (by simp [Value.oneCell']) ?_
      intro w183 b184 hg185; have z186 := hg185.size
      refine ⟨fun h => absurd h (by decide), ?_⟩
      refine any_nil (by decide +kernel) ?_
      refine hK143 _ _ ?_
      clear hK143
      have hF187 := ((((((((((hF181.nil.cons (hF181.get (t := 8) (v := (.pointer (some ⟨g174, 0, none⟩))) rfl)).cons (hF181.get (t := 34) (v := (.bool (decide (((i : Nat) : Int) < ((cyc.length : Nat) : Int))))) rfl)).cons (hF181.get (t := 7) (v := (.int .i64 (i : Nat))) rfl)).cons (hF181.get (t := 13) (v := (.bool (decide (((k : Nat) : Int) < ((cyc.length : Nat) : Int))))) rfl)).cons (hF181.get (t := 6) (v := (.int .i64 (k : Nat))) rfl)).cons (hF181.get (t := 5) (v := (.int .i64 sm)) rfl)).cons (hF181.get (t := 4) (v := (.bool false)) rfl)).cons (hF181.get (t := 2) (v := (.pointer (some ⟨g2, 0, none⟩))) rfl)).cons (hF181.get (t := 1) (v := (.slice B cyc.length cb)) rfl)).cons (hF181.get (t := 0) (v := (.agg #[(.int .i64 n), (.slice A l.length c)])) rfl))
      clear hF181
      refine wp_seq_k (fun K188 hK188 => ?_)
      refine wp_seq_k (fun K189 hK189 => ?_)
      have hx191 : ∃ W, w183.drew = W ∧ Ext w183 W := ⟨_, rfl, (Ext.refl _).drew⟩
      obtain ⟨w190, e192, hx191⟩ := hx191
      have z193 := hx191.size
      refine any_start (fun W => Ext w190 W ∧ Blk W g174 41 [(.int .i64 ((l.getD (((cyc.getD i 0) : Int).toNat) default).a)), (.int .i64 ((l.getD (((cyc.getD i 0) : Int).toNat) default).b)), (.int .i64 ((l.getD (((cyc.getD i 0) : Int).toNat) default).w))] ∧ Blk W g2 24 [(.int .i64 n), (.slice A l.length c)]) (fun i => false) 16 #[false, false, false, false, false, false, false, false, false, false, false, false, false, false, false, false] rfl rfl rfl ?_
      rw [e192]; clear e192
      refine any_pure (i := 0) (v := (.pointer (some ⟨g174, 1, none⟩))) hF187 (by decide +kernel) (by decide +kernel) rfl rfl rfl rfl (fun _ _ _ _ h => h) rfl (fun W => (rn_field Try.underlying41 rfl (by kernel_rfl) (hF187.get rfl) rfl)) ?_
      intro a194 hF195; clear hF187
      have b197 : Blk w190 g174 41 [(.int .i64 ((l.getD (((cyc.getD i 0) : Int).toNat) default).a)), (.int .i64 ((l.getD (((cyc.getD i 0) : Int).toNat) default).b)), (.int .i64 ((l.getD (((cyc.getD i 0) : Int).toNat) default).w))] := (b184.ext hx191)
      have b198 : Blk w190 g2 24 [(.int .i64 n), (.slice A l.length c)] := ((b182.grownN hg185 (by omega)).ext hx191)
      have hS196 : Ext w190 w190 ∧ Blk w190 g174 41 [(.int .i64 ((l.getD (((cyc.getD i 0) : Int).toNat) default).a)), (.int .i64 ((l.getD (((cyc.getD i 0) : Int).toNat) default).b)), (.int .i64 ((l.getD (((cyc.getD i 0) : Int).toNat) default).w))] ∧ Blk w190 g2 24 [(.int .i64 n), (.slice A l.length c)] := ⟨(Ext.refl w190), b197, b198⟩
      refine any_val (i := 1) (v := (.int .i64 ((l.getD (((cyc.getD i 0) : Int).toNat) default).b))) hF195 (by decide +kernel) (by decide +kernel) rfl rfl rfl rfl (fun _ _ _ _ h => h) rfl hS196 (fun W hW => (rn_load (isAgg_no Try.underlying3 rfl) (hF195.get rfl) (hW.2.1.rule.1 1))) ?_
      intro a199 hF200; clear hF195
      refine any_pure (i := 2) (v := (.pointer (some ⟨g2, 1, none⟩))) hF200 (by decide +kernel) (by decide +kernel) rfl rfl rfl rfl (fun _ _ _ _ h => h) rfl (fun W => (rn_field Try.underlying24 rfl (by kernel_rfl) (hF200.get rfl) rfl)) ?_
      intro a201 hF202; clear hF200
      refine any_val (i := 3) (v := (.slice A l.length c)) hF202 (by decide +kernel) (by decide +kernel) rfl rfl rfl rfl (fun _ _ _ _ h => h) rfl hS196 (fun W hW => (rn_load (isAgg_no Try.underlying22 rfl) (hF202.get rfl) (hW.2.2.rule.1 1))) ?_
      intro a203 hF204; clear hF202
      refine any_pure (i := 4) (v := (.slice B cyc.length cb)) hF204 (by decide +kernel) (by decide +kernel) rfl rfl rfl rfl (fun _ _ _ _ h => h) rfl (fun W => (rn_move (hF204.get rfl))) ?_
      intro a205 hF206; clear hF204
      refine any_pure (i := 5) (v := (.int .i64 (i : Nat))) hF206 (by decide +kernel) (by decide +kernel) rfl rfl rfl rfl (fun _ _ _ _ h => h) rfl (fun W => (rn_move (hF206.get rfl))) ?_
      intro a207 hF208; clear hF206
      refine any_pure (i := 6) (v := (.int .i64 (i + 1 : Nat))) hF208 (by decide +kernel) (by decide +kernel) rfl rfl rfl rfl (fun _ _ _ _ h => h) rfl (fun W => (rn_addN (a := i) (b := 1) (hF208.get rfl) rfl (by omega))) ?_
      intro a209 hF210; clear hF208
      refine any_pure (i := 7) (v := (.slice B cyc.length cb)) hF210 (by decide +kernel) (by decide +kernel) rfl rfl rfl rfl (fun _ _ _ _ h => h) rfl (fun W => (rn_move (hF210.get rfl))) ?_
      intro a211 hF212; clear hF210
      refine any_pure (i := 8) (v := (.int .i64 (cyc.length : Nat))) hF212 (by decide +kernel) (by decide +kernel) rfl rfl rfl rfl (fun _ _ _ _ h => h) rfl (fun W => (rn_len_slice Try.underlying25 (hF212.get rfl))) ?_
      intro a213 hF214; clear hF212
      have z215 := Nat.mod_lt (i + 1) (show 0 < cyc.length by omega)
      refine any_pure (i := 9) (v := (.int .i64 ((i + 1) % cyc.length : Nat))) hF214 (by decide +kernel) (by decide +kernel) rfl rfl rfl rfl (fun _ _ _ _ h => h) rfl (fun W => (rn_remN (a := i + 1) (b := cyc.length) (hF214.get rfl) (hF214.get rfl) (by omega))) ?_
      intro a216 hF217; clear hF214
      refine any_pure (i := 10) (v := (.pointer (some ⟨b158, o159 + ((i + 1) % cyc.length), none⟩))) hF217 (by decide +kernel) (by decide +kernel) rfl rfl rfl rfl (fun _ _ _ _ h => h) rfl (fun W => (rn_index1 Try.underlying25 (by kernel_rfl : (Try.prog.info? 3).map (·.size) = some 1) ((hF217.get rfl).trans (by rw [hA160])) (hF217.get rfl) (by omega : (0 : Int) ≤ ((i + 1) % cyc.length : Nat)) (by omega : (((i + 1) % cyc.length : Nat) : Int) < ((cyc.length : Nat) : Int)))) ?_
      intro a218 hF219; clear hF217
      have d220 := (hcv.pres ((((((Pres.refl w).ext hx123).ext hx145).ext hx177).grownN hg185 (fun h => by simp only [Clip] at h; omega)).ext hx191))
      refine any_val (i := 11) (v := (.int .i64 (cyc.getD ((i + 1) % cyc.length) 0))) hF219 (by decide +kernel) (by decide +kernel) rfl rfl rfl rfl (fun _ _ _ _ h => h) rfl hS196 (fun W hW => (rn_load (isAgg_no Try.underlying3 rfl) (hF219.get rfl) (Fl.cellAt (d220.ext hW.1) hA160 (intVals_at (i := ((i + 1) % cyc.length)) (by omega))))) ?_
      intro a221 hF222; clear hF219
      refine any_pure (i := 12) (v := (.pointer (some ⟨b166, o167 + ((cyc.getD ((i + 1) % cyc.length) 0) : Int).toNat * 3, none⟩))) hF222 (by decide +kernel) (by decide +kernel) rfl rfl rfl rfl (fun _ _ _ _ h => h) rfl (fun W => (rn_indexE Try.underlying22 (by kernel_rfl : (Try.prog.info? 41).map (·.size) = some 3) ((hF222.get rfl).trans (by rw [hA168])) (hF222.get rfl) (by omega : (0 : Int) ≤ (cyc.getD ((i + 1) % cyc.length) 0)) (by omega : ((cyc.getD ((i + 1) % cyc.length) 0) : Int) < ((l.length : Nat) : Int)) (by omega))) ?_
      intro a223 hF224; clear hF222
      refine any_pure (i := 13) (v := (.pointer (some ⟨b166, o167 + ((cyc.getD ((i + 1) % cyc.length) 0) : Int).toNat * 3, none⟩))) hF224 (by decide +kernel) (by decide +kernel) rfl rfl rfl rfl (fun _ _ _ _ h => h) rfl (fun W => (rn_field Try.underlying41 rfl (by kernel_rfl) (hF224.get rfl) rfl)) ?_
      intro a225 hF226; clear hF224
      have d227 := (hc.pres ((((((Pres.refl w).ext hx123).ext hx145).ext hx177).grownN hg185 (fun h => by simp only [Clip] at h; omega)).ext hx191))
      refine any_val (i := 14) (v := (.int .i64 ((l.getD (((cyc.getD ((i + 1) % cyc.length) 0) : Int).toNat) default).a))) hF226 (by decide +kernel) (by decide +kernel) rfl rfl rfl rfl (fun _ _ _ _ h => h) rfl hS196 (fun W hW => (rn_load (isAgg_no Try.underlying3 rfl) (hF226.get rfl) (Fl.recAt edCells_k (d227.ext hW.1) hA168 (by omega) 0 _ rfl))) ?_
      intro a228 hF229; clear hF226
      refine any_pure (i := 15) (v := (.bool (decide (((l.getD (((cyc.getD i 0) : Int).toNat) default).b : Int) ≠ ((l.getD (((cyc.getD ((i + 1) % cyc.length) 0) : Int).toNat) default).a : Int))))) hF229 (by decide +kernel) (by decide +kernel) rfl rfl rfl rfl (fun _ _ _ _ h => h) rfl (fun W => (rn_neq (hF229.get rfl) (hF229.get rfl))) ?_
      intro a230 hF231; clear hF229
      refine any_nil (by decide +kernel) ?_
      refine hK189 _ _ ?_
      clear hK189
      have hF232 := (((((((((((hF231.nil.cons (hF231.get (t := 60) (v := (.bool (decide (((l.getD (((cyc.getD i 0) : Int).toNat) default).b : Int) ≠ ((l.getD (((cyc.getD ((i + 1) % cyc.length) 0) : Int).toNat) default).a : Int))))) rfl)).cons (hF231.get (t := 8) (v := (.pointer (some ⟨g174, 0, none⟩))) rfl)).cons (hF231.get (t := 34) (v := (.bool (decide (((i : Nat) : Int) < ((cyc.length : Nat) : Int))))) rfl)).cons (hF231.get (t := 7) (v := (.int .i64 (i : Nat))) rfl)).cons (hF231.get (t := 13) (v := (.bool (decide (((k : Nat) : Int) < ((cyc.length : Nat) : Int))))) rfl)).cons (hF231.get (t := 6) (v := (.int .i64 (k : Nat))) rfl)).cons (hF231.get (t := 5) (v := (.int .i64 sm)) rfl)).cons (hF231.get (t := 4) (v := (.bool false)) rfl)).cons (hF231.get (t := 2) (v := (.pointer (some ⟨g2, 0, none⟩))) rfl)).cons (hF231.get (t := 1) (v := (.slice B cyc.length cb)) rfl)).cons (hF231.get (t := 0) (v := (.agg #[(.int .i64 n), (.slice A l.length c)])) rfl))
      clear hF231
      by_cases hc233 : ((l.getD (((cyc.getD i 0) : Int).toNat) default).b : Int) ≠ ((l.getD (((cyc.getD ((i + 1) % cyc.length) 0) : Int).toNat) default).a : Int)
      · skip
        refine wp_cond_true (c_true hF232 rfl (decide_eq_true hc233)) ?_
        refine wp_seq_k (fun K234 hK234 => ?_)
        refine wp_region_lit ?_
        refine wpl_op (i := 0) rfl (o_val (v := (.bool false)) hF232 rfl rfl rfl rfl (rn_assign rfl) ?_)
        intro a235 hF236; clear hF232
        refine wpList_nil ?_
        refine hK234 _ _ ?_
        clear hK234
        refine wp_ret ?_
        refine ret_then ?_
        refine ret_block ?_
        refine ret_then ?_
        refine ret_then ?_
        refine ret_block ?_
        refine ret_then ?_
        refine ret1 hF236 rfl rfl ?_
        exfalso; first | omega | (have h1 := hcy.pos; omega)
      · skip
        refine wp_cond_false (c_false hF232 rfl (decide_eq_false hc233)) ?_
        refine wp_skip ?_
        refine hK188 _ _ ?_
        clear hK188
        refine wp_seq_k (fun K237 hK237 => ?_)
        refine wp_seq_k (fun K238 hK238 => ?_)
        refine wp_region_lit ?_
        refine wpl_op (i := 0) rfl (o_val (v := (.int .i64 0)) hF232 rfl rfl rfl rfl (rn_assign rfl) ?_)
        intro a239 hF240; clear hF232
        refine wpList_nil ?_
        refine hK238 _ _ ?_
        clear hK238
        refine wp_block ?_
        refine wp_loop (fun a' W => ∃ (k3 : Nat), Sl 89 [(0, (.agg #[(.int .i64 n), (.slice A l.length c)])), (1, (.slice B cyc.length cb)), (2, (.pointer (some ⟨g2, 0, none⟩))), (4, (.bool false)), (5, (.int .i64 sm)), (6, (.int .i64 (k : Nat))), (13, (.bool (decide (((k : Nat) : Int) < ((cyc.length : Nat) : Int))))), (7, (.int .i64 (i : Nat))), (34, (.bool (decide (((i : Nat) : Int) < ((cyc.length : Nat) : Int))))), (8, (.pointer (some ⟨g174, 0, none⟩))), (60, (.bool (decide (((l.getD (((cyc.getD i 0) : Int).toNat) default).b : Int) ≠ ((l.getD (((cyc.getD ((i + 1) % cyc.length) 0) : Int).toNat) default).a : Int))))), (9, (.int .i64 (k3 : Nat)))] a' ∧ k3 ≤ i ∧ Ext w W ∧ Blk W g2 24 [(.int .i64 n), (.slice A l.length c)] ∧ Blk W g174 41 [(.int .i64 ((l.getD (((cyc.getD i 0) : Int).toNat) default).a)), (.int .i64 ((l.getD (((cyc.getD i 0) : Int).toNat) default).b)), (.int .i64 ((l.getD (((cyc.getD i 0) : Int).toNat) default).w))] ∧ w190.heap.size ≤ W.heap.size) (fun a' _ => i - (intOf (a'.eval (.tmp 9))).toNat) ⟨0, ((((((((((((hF240.nil.cons (q_get hF240 (t := 9) rfl (by first | rfl | (congr 1; omega) | (congr 1; done)))).cons (q_get hF240 (t := 60) rfl rfl)).cons (q_get hF240 (t := 8) rfl rfl)).cons (q_get hF240 (t := 34) rfl rfl)).cons (q_get hF240 (t := 7) rfl rfl)).cons (q_get hF240 (t := 13) rfl rfl)).cons (q_get hF240 (t := 6) rfl rfl)).cons (q_get hF240 (t := 5) rfl rfl)).cons (q_get hF240 (t := 4) rfl rfl)).cons (q_get hF240 (t := 2) rfl rfl)).cons (q_get hF240 (t := 1) rfl rfl)).cons (q_get hF240 (t := 0) rfl rfl)), (by omega), ((((((Ext.refl w).trans hx123).trans hx145).trans hx177).grownN hg185 (by omega)).trans hx191), b198, b197, (Nat.le_refl _)⟩ ?_
        clear hF240
        rintro a241 w242 ⟨k3, hF243, hp245, hx244, b246, b247, hf248⟩
        have hL249 := hF243
        have z250 := hx244.size
        have z251 := b246.lt
        have z252 := b247.lt
        refine wp_seq_k (fun K253 hK253 => ?_)
        refine wp_seq_k (fun K254 hK254 => ?_)
        refine wp_region_lit ?_
        refine wpl_op (i := 0) rfl (o_val (v := (.int .i64 (k3 : Nat))) hF243 rfl rfl rfl rfl (rn_move (hF243.get rfl)) ?_)
        intro a255 hF256; clear hF243
        refine wpl_op (i := 1) rfl (o_val (v := (.int .i64 (i : Nat))) hF256 rfl rfl rfl rfl (rn_move (hF256.get rfl)) ?_)
        intro a257 hF258; clear hF256
        refine wpl_op (i := 2) rfl (o_val (v := (.bool (decide (((k3 : Nat) : Int) < ((i : Nat) : Int))))) hF258 rfl rfl rfl rfl (rn_lss (hF258.get rfl) (hF258.get rfl)) ?_)
        intro a259 hF260; clear hF258
        refine wpList_nil ?_
        refine hK254 _ _ ?_
        clear hK254
        by_cases hc261 : ((k3 : Nat) : Int) < ((i : Nat) : Int)
        · skip
          refine wp_cond_true (c_true hF260 rfl (decide_eq_true hc261)) ?_
          refine wp_skip ?_
          refine hK253 _ _ ?_
          clear hK253
          refine wp_seq_k (fun K262 hK262 => ?_)
          refine wp_block ?_
          refine wp_seq_k (fun K263 hK263 => ?_)
          have hap := hcy.apart i k3 (by omega) (by omega)
          simp only [cedge] at hap
          have hix4 := hcy.ix k3 (by omega)
          have hx265 : ∃ W, w242.drew = W ∧ Ext w242 W := ⟨_, rfl, (Ext.refl _).drew⟩
          obtain ⟨w264, e266, hx265⟩ := hx265
          have z267 := hx265.size
          refine any_start (fun W => Ext w264 W ∧ Blk W g2 24 [(.int .i64 n), (.slice A l.length c)] ∧ Blk W g174 41 [(.int .i64 ((l.getD (((cyc.getD i 0) : Int).toNat) default).a)), (.int .i64 ((l.getD (((cyc.getD i 0) : Int).toNat) default).b)), (.int .i64 ((l.getD (((cyc.getD i 0) : Int).toNat) default).w))]) (fun i => false) 12 #[false, false, false, false, false, false, false, false, false, false, false, false] rfl rfl rfl ?_
          rw [e266]; clear e266
          refine any_pure (i := 0) (v := (.pointer (some ⟨g2, 1, none⟩))) hF260 (by decide +kernel) (by decide +kernel) rfl rfl rfl rfl (fun _ _ _ _ h => h) rfl (fun W => (rn_field Try.underlying24 rfl (by kernel_rfl) (hF260.get rfl) rfl)) ?_
          intro a268 hF269; clear hF260
          have b271 : Blk w264 g2 24 [(.int .i64 n), (.slice A l.length c)] := (b246.ext hx265)
          have b272 : Blk w264 g174 41 [(.int .i64 ((l.getD (((cyc.getD i 0) : Int).toNat) default).a)), (.int .i64 ((l.getD (((cyc.getD i 0) : Int).toNat) default).b)), (.int .i64 ((l.getD (((cyc.getD i 0) : Int).toNat) default).w))] := (b247.ext hx265)
          have hS270 : Ext w264 w264 ∧ Blk w264 g2 24 [(.int .i64 n), (.slice A l.length c)] ∧ Blk w264 g174 41 [(.int .i64 ((l.getD (((cyc.getD i 0) : Int).toNat) default).a)), (.int .i64 ((l.getD (((cyc.getD i 0) : Int).toNat) default).b)), (.int .i64 ((l.getD (((cyc.getD i 0) : Int).toNat) default).w))] := ⟨(Ext.refl w264), b271, b272⟩
          refine any_val (i := 1) (v := (.slice A l.length c)) hF269 (by decide +kernel) (by decide +kernel) rfl rfl rfl rfl (fun _ _ _ _ h => h) rfl hS270 (fun W hW => (rn_load (isAgg_no Try.underlying22 rfl) (hF269.get rfl) (hW.2.1.rule.1 1))) ?_
          intro a273 hF274; clear hF269
          refine any_pure (i := 2) (v := (.slice B cyc.length cb)) hF274 (by decide +kernel) (by decide +kernel) rfl rfl rfl rfl (fun _ _ _ _ h => h) rfl (fun W => (rn_move (hF274.get rfl))) ?_
          intro a275 hF276; clear hF274
          refine any_pure (i := 3) (v := (.int .i64 (k3 : Nat))) hF276 (by decide +kernel) (by decide +kernel) rfl rfl rfl rfl (fun _ _ _ _ h => h) rfl (fun W => (rn_move (hF276.get rfl))) ?_
          intro a277 hF278; clear hF276
          refine any_pure (i := 4) (v := (.pointer (some ⟨b158, o159 + k3, none⟩))) hF278 (by decide +kernel) (by decide +kernel) rfl rfl rfl rfl (fun _ _ _ _ h => h) rfl (fun W => (rn_index1 Try.underlying25 (by kernel_rfl : (Try.prog.info? 3).map (·.size) = some 1) ((hF278.get rfl).trans (by rw [hA160])) (hF278.get rfl) (by omega : (0 : Int) ≤ (k3 : Nat)) (by omega : ((k3 : Nat) : Int) < ((cyc.length : Nat) : Int)))) ?_
          intro a279 hF280; clear hF278
          have d281 := ((hcv.ext hx244).ext hx265)
          refine any_val (i := 5) (v := (.int .i64 (cyc.getD k3 0))) hF280 (by decide +kernel) (by decide +kernel) rfl rfl rfl rfl (fun _ _ _ _ h => h) rfl hS270 (fun W hW => (rn_load (isAgg_no Try.underlying3 rfl) (hF280.get rfl) (Fl.cellAt (d281.ext hW.1) hA160 (intVals_at (i := k3) (by omega))))) ?_
          intro a282 hF283; clear hF280
          refine any_pure (i := 6) (v := (.pointer (some ⟨b166, o167 + ((cyc.getD k3 0) : Int).toNat * 3, none⟩))) hF283 (by decide +kernel) (by decide +kernel) rfl rfl rfl rfl (fun _ _ _ _ h => h) rfl (fun W => (rn_indexE Try.underlying22 (by kernel_rfl : (Try.prog.info? 41).map (·.size) = some 3) ((hF283.get rfl).trans (by rw [hA168])) (hF283.get rfl) (by omega : (0 : Int) ≤ (cyc.getD k3 0)) (by omega : ((cyc.getD k3 0) : Int) < ((l.length : Nat) : Int)) (by omega))) ?_
          intro a284 hF285; clear hF283
          refine any_pure (i := 7) (v := (.pointer (some ⟨b166, o167 + ((cyc.getD k3 0) : Int).toNat * 3, none⟩))) hF285 (by decide +kernel) (by decide +kernel) rfl rfl rfl rfl (fun _ _ _ _ h => h) rfl (fun W => (rn_field Try.underlying41 rfl (by kernel_rfl) (hF285.get rfl) rfl)) ?_
          intro a286 hF287; clear hF285
          have d288 := ((hc.ext hx244).ext hx265)
          refine any_val (i := 8) (v := (.int .i64 ((l.getD (((cyc.getD k3 0) : Int).toNat) default).a))) hF287 (by decide +kernel) (by decide +kernel) rfl rfl rfl rfl (fun _ _ _ _ h => h) rfl hS270 (fun W hW => (rn_load (isAgg_no Try.underlying3 rfl) (hF287.get rfl) (Fl.recAt edCells_k (d288.ext hW.1) hA168 (by omega) 0 _ rfl))) ?_
          intro a289 hF290; clear hF287
          refine any_pure (i := 9) (v := (.pointer (some ⟨g174, 0, none⟩))) hF290 (by decide +kernel) (by decide +kernel) rfl rfl rfl rfl (fun _ _ _ _ h => h) rfl (fun W => (rn_field Try.underlying41 rfl (by kernel_rfl) (hF290.get rfl) rfl)) ?_
          intro a291 hF292; clear hF290
          refine any_val (i := 10) (v := (.int .i64 ((l.getD (((cyc.getD i 0) : Int).toNat) default).a))) hF292 (by decide +kernel) (by decide +kernel) rfl rfl rfl rfl (fun _ _ _ _ h => h) rfl hS270 (fun W hW => (rn_load (isAgg_no Try.underlying3 rfl) (hF292.get rfl) (hW.2.2.rule.1 0))) ?_
          intro a293 hF294; clear hF292
          refine any_pure (i := 11) (v := (.bool (decide (((l.getD (((cyc.getD k3 0) : Int).toNat) default).a : Int) = ((l.getD (((cyc.getD i 0) : Int).toNat) default).a : Int))))) hF294 (by decide +kernel) (by decide +kernel) rfl rfl rfl rfl (fun _ _ _ _ h => h) rfl (fun W => (rn_eql (hF294.get rfl) (hF294.get rfl))) ?_
          intro a295 hF296; clear hF294
          refine any_nil (by decide +kernel) ?_
          refine hK263 _ _ ?_
          clear hK263
          have hF297 := ((((((((((((((hF296.nil.cons (hF296.get (t := 77) (v := (.bool (decide (((l.getD (((cyc.getD k3 0) : Int).toNat) default).a : Int) = ((l.getD (((cyc.getD i 0) : Int).toNat) default).a : Int))))) rfl)).cons (hF296.get (t := 63) (v := (.bool (decide (((k3 : Nat) : Int) < ((i : Nat) : Int))))) rfl)).cons (hF296.get (t := 9) (v := (.int .i64 (k3 : Nat))) rfl)).cons (hF296.get (t := 60) (v := (.bool (decide (((l.getD (((cyc.getD i 0) : Int).toNat) default).b : Int) ≠ ((l.getD (((cyc.getD ((i + 1) % cyc.length) 0) : Int).toNat) default).a : Int))))) rfl)).cons (hF296.get (t := 8) (v := (.pointer (some ⟨g174, 0, none⟩))) rfl)).cons (hF296.get (t := 34) (v := (.bool (decide (((i : Nat) : Int) < ((cyc.length : Nat) : Int))))) rfl)).cons (hF296.get (t := 7) (v := (.int .i64 (i : Nat))) rfl)).cons (hF296.get (t := 13) (v := (.bool (decide (((k : Nat) : Int) < ((cyc.length : Nat) : Int))))) rfl)).cons (hF296.get (t := 6) (v := (.int .i64 (k : Nat))) rfl)).cons (hF296.get (t := 5) (v := (.int .i64 sm)) rfl)).cons (hF296.get (t := 4) (v := (.bool false)) rfl)).cons (hF296.get (t := 2) (v := (.pointer (some ⟨g2, 0, none⟩))) rfl)).cons (hF296.get (t := 1) (v := (.slice B cyc.length cb)) rfl)).cons (hF296.get (t := 0) (v := (.agg #[(.int .i64 n), (.slice A l.length c)])) rfl))
          clear hF296
          by_cases hc298 : ((l.getD (((cyc.getD k3 0) : Int).toNat) default).a : Int) = ((l.getD (((cyc.getD i 0) : Int).toNat) default).a : Int)
          · skip
            refine wp_cond_true (c_true hF297 rfl (decide_eq_true hc298)) ?_
            refine wp_seq_k (fun K299 hK299 => ?_)
            refine wp_region_lit ?_
            refine wpl_op (i := 0) rfl (o_val (v := (.bool false)) hF297 rfl rfl rfl rfl (rn_assign rfl) ?_)
            intro a300 hF301; clear hF297
            refine wpList_nil ?_
            refine hK299 _ _ ?_
            clear hK299
            refine wp_ret ?_
            refine ret_block ?_
            refine ret_then ?_
            refine ret_then ?_
            refine ret_block ?_
            refine ret_then ?_
            refine ret_block ?_
            refine ret_then ?_
            refine ret_then ?_
            refine ret_block ?_
            refine ret_then ?_
            refine ret1 hF301 rfl rfl ?_
            exfalso; first | omega | (have h1 := hcy.pos; omega)
          · skip
            refine wp_cond_false (c_false hF297 rfl (decide_eq_false hc298)) ?_
            refine wp_skip ?_
            refine hK262 _ _ ?_
            clear hK262
            refine wp_region_lit ?_
            refine wpl_op (i := 0) rfl (o_val (v := (.int .i64 (k3 : Nat))) hF297 rfl rfl rfl rfl (rn_move (hF297.get rfl)) ?_)
            intro a302 hF303; clear hF297
            refine wpl_op (i := 1) rfl (o_val (v := (.int .i64 (k3 + 1 : Nat))) hF303 rfl rfl rfl rfl (rn_addN (a := k3) (b := 1) (hF303.get rfl) rfl (by omega)) ?_)
            intro a304 hF305; clear hF303
            refine wpl_op (i := 2) rfl (o_val (v := (.int .i64 (k3 + 1 : Nat))) hF305 rfl rfl rfl rfl (rn_assign (hF305.get rfl)) ?_)
            intro a306 hF307; clear hF305
            refine wpList_nil ?_
            refine ⟨⟨(k3 + 1), ((((((((((((hF307.nil.cons (q_get hF307 (t := 9) rfl (by first | rfl | (congr 1; omega) | (congr 1; done)))).cons (q_get hF307 (t := 60) rfl rfl)).cons (q_get hF307 (t := 8) rfl rfl)).cons (q_get hF307 (t := 34) rfl rfl)).cons (q_get hF307 (t := 7) rfl rfl)).cons (q_get hF307 (t := 13) rfl rfl)).cons (q_get hF307 (t := 6) rfl rfl)).cons (q_get hF307 (t := 5) rfl rfl)).cons (q_get hF307 (t := 4) rfl rfl)).cons (q_get hF307 (t := 2) rfl rfl)).cons (q_get hF307 (t := 1) rfl rfl)).cons (q_get hF307 (t := 0) rfl rfl)), (by omega), (((Ext.refl w).trans hx244).trans hx265), b271, b272, (by omega)⟩, ?_⟩
            rw [hF307.get (t := 9) rfl, hL249.get (t := 9) rfl]; simp [intOf] <;> omega
        · skip
          refine wp_cond_false (c_false hF260 rfl (decide_eq_false hc261)) ?_
          refine wp_exit ?_
          refine exit_then ?_
          refine exit_then ?_
          refine exit_here ?_
          refine hK237 _ _ ?_
          clear hK237
          have hbd := total_bd (f := fun j => (cedge l cyc j).w) (B := 35184372088832) i (fun j hj => by have h1 := hcy.ix j (by omega); exact (vOk_at hv (show (cyc.getD j 0).toNat < l.length by omega)).2.2)
          rw [← hp125] at hbd
          have hxw := (vOk_at hv (show (cyc.getD i 0).toNat < l.length by omega)).2.2
          refine wp_region_lit ?_
          refine wpl_op (i := 0) rfl (o_val (v := (.int .i64 sm)) hF260 rfl rfl rfl rfl (rn_move (hF260.get rfl)) ?_)
          intro a308 hF309; clear hF260
          refine wpl_op (i := 1) rfl (o_val (v := (.pointer (some ⟨g174, 2, none⟩))) hF309 rfl rfl rfl rfl (rn_field Try.underlying41 rfl (by kernel_rfl) (hF309.get rfl) rfl) ?_)
          intro a310 hF311; clear hF309
          refine wpl_op (i := 2) rfl (o_val (v := (.int .i64 ((l.getD (((cyc.getD i 0) : Int).toNat) default).w))) hF311 rfl rfl rfl rfl (rn_load (isAgg_no Try.underlying3 rfl) (hF311.get rfl) (b247.rule.1 2)) ?_)
          intro a312 hF313; clear hF311
          refine wpl_op (i := 3) rfl (o_val (v := (.int .i64 (sm + ((l.getD (((cyc.getD i 0) : Int).toNat) default).w)))) hF313 rfl rfl rfl rfl (rn_add (hF313.get rfl) (hF313.get rfl) (by omega) (by omega)) ?_)
          intro a314 hF315; clear hF313
          refine wpl_op (i := 4) rfl (o_val (v := (.int .i64 (sm + ((l.getD (((cyc.getD i 0) : Int).toNat) default).w)))) hF315 rfl rfl rfl rfl (rn_assign (hF315.get rfl)) ?_)
          intro a316 hF317; clear hF315
          refine wpList_nil ?_
          refine hK142 _ _ ?_
          clear hK142
          have hF318 := (((((((((((((hF317.nil.cons (hF317.get (t := 63) (v := (.bool (decide (((k3 : Nat) : Int) < ((i : Nat) : Int))))) rfl)).cons (hF317.get (t := 9) (v := (.int .i64 (k3 : Nat))) rfl)).cons (hF317.get (t := 60) (v := (.bool (decide (((l.getD (((cyc.getD i 0) : Int).toNat) default).b : Int) ≠ ((l.getD (((cyc.getD ((i + 1) % cyc.length) 0) : Int).toNat) default).a : Int))))) rfl)).cons (hF317.get (t := 8) (v := (.pointer (some ⟨g174, 0, none⟩))) rfl)).cons (hF317.get (t := 34) (v := (.bool (decide (((i : Nat) : Int) < ((cyc.length : Nat) : Int))))) rfl)).cons (hF317.get (t := 7) (v := (.int .i64 (i : Nat))) rfl)).cons (hF317.get (t := 13) (v := (.bool (decide (((k : Nat) : Int) < ((cyc.length : Nat) : Int))))) rfl)).cons (hF317.get (t := 6) (v := (.int .i64 (k : Nat))) rfl)).cons (hF317.get (t := 5) (v := (.int .i64 (sm + ((l.getD (((cyc.getD i 0) : Int).toNat) default).w)))) rfl)).cons (hF317.get (t := 4) (v := (.bool false)) rfl)).cons (hF317.get (t := 2) (v := (.pointer (some ⟨g2, 0, none⟩))) rfl)).cons (hF317.get (t := 1) (v := (.slice B cyc.length cb)) rfl)).cons (hF317.get (t := 0) (v := (.agg #[(.int .i64 n), (.slice A l.length c)])) rfl))
          clear hF317
          refine wp_region_lit ?_
          refine wpl_op (i := 0) rfl (o_val (v := (.int .i64 (i : Nat))) hF318 rfl rfl rfl rfl (rn_move (hF318.get rfl)) ?_)
          intro a319 hF320; clear hF318
          refine wpl_op (i := 1) rfl (o_val (v := (.int .i64 (i + 1 : Nat))) hF320 rfl rfl rfl rfl (rn_addN (a := i) (b := 1) (hF320.get rfl) rfl (by omega)) ?_)
          intro a321 hF322; clear hF320
          refine wpl_op (i := 2) rfl (o_val (v := (.int .i64 (i + 1 : Nat))) hF322 rfl rfl rfl rfl (rn_assign (hF322.get rfl)) ?_)
          intro a323 hF324; clear hF322
          refine wpList_nil ?_
          refine ⟨⟨(i + 1), sm + ((l.getD (((cyc.getD i 0) : Int).toNat) default).w), ((((((((hF324.nil.cons (q_get hF324 (t := 7) rfl (by first | rfl | (congr 1; omega) | (congr 1; done)))).cons (q_get hF324 (t := 13) rfl rfl)).cons (q_get hF324 (t := 6) rfl rfl)).cons (q_get hF324 (t := 5) rfl (by first | rfl | (congr 1; omega) | (congr 1; done)))).cons (q_get hF324 (t := 4) rfl rfl)).cons (q_get hF324 (t := 2) rfl rfl)).cons (q_get hF324 (t := 1) rfl rfl)).cons (q_get hF324 (t := 0) rfl rfl)), (by omega), (by rw [hp125]; rfl), ((Ext.refl w).trans hx244), b246, (by omega)⟩, ?_⟩
          rw [hF324.get (t := 7) rfl, hL128.get (t := 7) rfl]; simp [intOf] <;> omega
    · skip
      refine wp_cond_false (c_false hF140 rfl (decide_eq_false hc141)) ?_
      refine wp_exit ?_
      refine exit_then ?_
      refine exit_then ?_
      refine exit_here ?_
      refine hK116 _ _ ?_
      clear hK116
      refine wp_seq_k (fun K325 hK325 => ?_)
      refine wp_region_lit ?_
      refine wpl_op (i := 0) rfl (o_val (v := (.slice B cyc.length cb)) hF140 rfl rfl rfl rfl (rn_move (hF140.get rfl)) ?_)
      intro a326 hF327; clear hF140
      refine wpl_op (i := 1) rfl (o_val (v := (.int .i64 (cyc.length : Nat))) hF327 rfl rfl rfl rfl (rn_len_slice Try.underlying25 (hF327.get rfl)) ?_)
      intro a328 hF329; clear hF327
      refine wpl_op (i := 2) rfl (o_val (v := (.bool (decide ((0 : Int) < ((cyc.length : Nat) : Int))))) hF329 rfl rfl rfl rfl (rn_gtr (hF329.get rfl) rfl) ?_)
      intro a330 hF331; clear hF329
      refine wpl_op (i := 3) rfl (o_val (v := (.bool (decide ((0 : Int) < ((cyc.length : Nat) : Int))))) hF331 rfl rfl rfl rfl (rn_move (hF331.get rfl)) ?_)
      intro a332 hF333; clear hF331
      by_cases hc334 : (0 : Int) < ((cyc.length : Nat) : Int)
      · skip
        refine wpl_op (i := 4) rfl (o_val (v := (.int .i64 sm)) hF333 rfl (wanted_guard rfl rfl rfl hF333 rfl (decide_eq_true hc334) rfl) rfl rfl (rn_move (hF333.get rfl)) ?_)
        intro a335 hF336; clear hF333
        refine wpl_op (i := 5) rfl (o_val (v := (.bool (decide ((sm : Int) < (0 : Int))))) hF336 rfl (wanted_guard rfl rfl rfl hF336 rfl (decide_eq_true hc334) rfl) rfl rfl (rn_lss (hF336.get rfl) rfl) ?_)
        intro a337 hF338; clear hF336
        refine wpl_op (i := 6) rfl (o_val (v := (.bool (decide ((sm : Int) < (0 : Int))))) hF338 rfl rfl rfl rfl (rn_pickT (c_true hF338 rfl (decide_eq_true hc334)) (hF338.get rfl)) ?_)
        intro a339 hF340; clear hF338
        refine wpl_op (i := 7) rfl (o_val (v := (.bool (decide ((sm : Int) < (0 : Int))))) hF340 rfl rfl rfl rfl (rn_assign (hF340.get rfl)) ?_)
        intro a341 hF342; clear hF340
        refine wpList_nil ?_
        refine hK325 _ _ ?_
        clear hK325
        have hF343 := (((((((((hF342.nil.cons (hF342.get (t := 34) (v := (.bool (decide (((i : Nat) : Int) < ((cyc.length : Nat) : Int))))) rfl)).cons (hF342.get (t := 7) (v := (.int .i64 (i : Nat))) rfl)).cons (hF342.get (t := 13) (v := (.bool (decide (((k : Nat) : Int) < ((cyc.length : Nat) : Int))))) rfl)).cons (hF342.get (t := 6) (v := (.int .i64 (k : Nat))) rfl)).cons (hF342.get (t := 5) (v := (.int .i64 sm)) rfl)).cons (hF342.get (t := 4) (v := (.bool (decide ((sm : Int) < (0 : Int))))) rfl)).cons (hF342.get (t := 2) (v := (.pointer (some ⟨g2, 0, none⟩))) rfl)).cons (hF342.get (t := 1) (v := (.slice B cyc.length cb)) rfl)).cons (hF342.get (t := 0) (v := (.agg #[(.int .i64 n), (.slice A l.length c)])) rfl))
        clear hF342
        refine wp_ret ?_
        refine ret1 hF343 rfl rfl ?_
        have hie : i = cyc.length := by omega
        have hng := hcy.neg; rw [← hie, ← hp125] at hng
        have hps := hcy.pos
        exact ⟨by rw [decide_eq_true (by omega)], ((Ext.refl w).trans hx123)⟩
      · skip
        refine wpl_op (i := 4) rfl (o_skip hF333 rfl (unwanted_guard rfl rfl rfl hF333 rfl (decide_eq_false hc334) rfl) rfl rfl ?_)
        intro a344 hF345; clear hF333
        refine wpl_op (i := 5) rfl (o_skip hF345 rfl (unwanted_guard rfl rfl rfl hF345 rfl (decide_eq_false hc334) rfl) rfl rfl ?_)
        intro a346 hF347; clear hF345
        refine wpl_op (i := 6) rfl (o_val (v := (.bool false)) hF347 rfl rfl rfl rfl (rn_pickF (c_false hF347 rfl (decide_eq_false hc334)) rfl) ?_)
        intro a348 hF349; clear hF347
        refine wpl_op (i := 7) rfl (o_val (v := (.bool false)) hF349 rfl rfl rfl rfl (rn_assign (hF349.get rfl)) ?_)
        intro a350 hF351; clear hF349
        refine wpList_nil ?_
        refine hK325 _ _ ?_
        clear hK325
        have hF352 := (((((((((hF351.nil.cons (hF351.get (t := 34) (v := (.bool (decide (((i : Nat) : Int) < ((cyc.length : Nat) : Int))))) rfl)).cons (hF351.get (t := 7) (v := (.int .i64 (i : Nat))) rfl)).cons (hF351.get (t := 13) (v := (.bool (decide (((k : Nat) : Int) < ((cyc.length : Nat) : Int))))) rfl)).cons (hF351.get (t := 6) (v := (.int .i64 (k : Nat))) rfl)).cons (hF351.get (t := 5) (v := (.int .i64 sm)) rfl)).cons (hF351.get (t := 4) (v := (.bool false)) rfl)).cons (hF351.get (t := 2) (v := (.pointer (some ⟨g2, 0, none⟩))) rfl)).cons (hF351.get (t := 1) (v := (.slice B cyc.length cb)) rfl)).cons (hF351.get (t := 0) (v := (.agg #[(.int .i64 n), (.slice A l.length c)])) rfl))
        clear hF351
        refine wp_ret ?_
        refine ret1 hF352 rfl rfl ?_
        exfalso; first | omega | (have h1 := hcy.pos; omega)

theorem cycle_at {u v : Value} {m k : Nat} (n : Int) (l : List E3) (cyc : List Int) (w : World) (hf : Fl S w 3 u m (edVals l)) (hfc : Fl S' w 1 v k (intVals cyc)) (hcy : CycP l cyc) (hv : vOk n l = true) :
    Calls Try.prog 19 #[.agg #[.int .i64 n, u], v] w (fun e w' => e = .returned (.bool true) ∧ Ext w w') := by
  have h1 := Fl.edlen hf
  have h2 := Fl.ilen hfc
  subst h1 h2
  obtain ⟨A, c, rfl, _⟩ := hf.form
  obtain ⟨B, e, rfl, _⟩ := hfc.form
  exact cycle_any A B c e n l cyc w hf hfc hcy hv

set_option maxRecDepth 100000 in
set_option maxHeartbeats 1000000 in
theorem table_any (A : Option Addr) (c nn : Nat) (t : List (List Int)) (w : World) (ha : RIss S w (.slice A t.length c) t) (hn : t.length = nn) (hr : ∀ i, i < nn → (t.getD i []).length = nn) :
    Calls Try.prog 20 #[.slice A t.length c, .int .i64 (nn : Nat)] w (fun e w' => e = .returned (.bool true) ∧ Ext w w') := by
  obtain ⟨_, _, eA, hA1, hA2⟩ := RIss.form ha; cases eA
  refine calls_enter (l := [(.slice A t.length c), (.int .i64 (nn : Nat))]) Try.func20 rfl rfl rfl (fun aA hF => ?_)
  refine wp_seq_k (fun K1 hK1 => ?_)
  refine wp_region_lit ?_
  refine wpl_op (i := 0) rfl (o_val (v := (.bool false)) hF rfl rfl rfl rfl (rn_assign rfl) ?_)
  intro a2 hF3; clear hF
  refine wpList_nil ?_
  refine hK1 _ _ ?_
  clear hK1
  refine wp_seq_k (fun K4 hK4 => ?_)
  refine wp_seq_k (fun K5 hK5 => ?_)
  refine wp_region_lit ?_
  refine wpl_op (i := 0) rfl (o_val (v := (.slice A t.length c)) hF3 rfl rfl rfl rfl (rn_move (hF3.get rfl)) ?_)
  intro a6 hF7; clear hF3
  refine wpl_op (i := 1) rfl (o_val (v := (.int .i64 (t.length : Nat))) hF7 rfl rfl rfl rfl (rn_len_slice Try.underlying33 (hF7.get rfl)) ?_)
  intro a8 hF9; clear hF7
  refine wpl_op (i := 2) rfl (o_val (v := (.int .i64 0)) hF9 rfl rfl rfl rfl (rn_move rfl) ?_)
  intro a10 hF11; clear hF9
  refine wpList_nil ?_
  refine hK5 _ _ ?_
  clear hK5
  refine wp_block ?_
  refine wp_loop (fun a' W => ∃ (k : Nat), Sl 22 [(0, (.slice A t.length c)), (1, (.int .i64 (nn : Nat))), (4, (.bool false)), (7, (.slice A t.length c)), (8, (.int .i64 (t.length : Nat))), (9, (.int .i64 (k : Nat)))] a' ∧ k ≤ t.length ∧ Ext w W ∧ w.heap.size ≤ W.heap.size) (fun a' _ => t.length - (intOf (a'.eval (.tmp 9))).toNat) ⟨0, ((((((hF11.nil.cons (q_get hF11 (t := 9) rfl (by first | rfl | (congr 1; omega) | (congr 1; done)))).cons (q_get hF11 (t := 8) rfl rfl)).cons (q_get hF11 (t := 7) rfl rfl)).cons (q_get hF11 (t := 4) rfl rfl)).cons (q_get hF11 (t := 1) rfl rfl)).cons (q_get hF11 (t := 0) rfl rfl)), (by omega), (Ext.refl w), (Nat.le_refl _)⟩ ?_
  clear hF11
  rintro a12 w13 ⟨k, hF14, hp16, hx15, hf17⟩
  have hL18 := hF14
  have z19 := hx15.size
  refine wp_seq_k (fun K20 hK20 => ?_)
  refine wp_region_lit ?_
  refine wpl_op (i := 0) rfl (o_val (v := (.bool (decide (((k : Nat) : Int) < ((t.length : Nat) : Int))))) hF14 rfl rfl rfl rfl (rn_lss (hF14.get rfl) (hF14.get rfl)) ?_)
  intro a21 hF22; clear hF14
  refine wpList_nil ?_
  refine hK20 _ _ ?_
  clear hK20
  refine wp_seq_k (fun K23 hK23 => ?_)
  by_cases hc24 : ((k : Nat) : Int) < ((t.length : Nat) : Int)
  · skip
    refine wp_cond_true (c_true hF22 rfl (decide_eq_true hc24)) ?_
    refine wp_skip ?_
    refine hK23 _ _ ?_
    clear hK23
    refine wp_seq_k (fun K25 hK25 => ?_)
    refine wp_block ?_
    refine wp_seq_k (fun K26 hK26 => ?_)
    refine wp_region_lit ?_
    have d37 := (ha.ext hx15)
    obtain ⟨b27, o28, A29, c30, hA31, hl32, hc33, hr34, z35, z36⟩ := RIss.get (i := k) d37 (by omega)
    have z38 := hr k (by omega)
    refine wpl_op (i := 0) rfl (o_val (v := (.pointer (some ⟨b27, o28 + k, none⟩))) hF22 rfl rfl rfl rfl (rn_index1 Try.underlying33 (by kernel_rfl : (Try.prog.info? 25).map (·.size) = some 1) ((hF22.get rfl).trans (by rw [hA31])) (hF22.get rfl) (by omega : (0 : Int) ≤ (k : Nat)) (by omega : ((k : Nat) : Int) < ((t.length : Nat) : Int))) ?_)
    intro a39 hF40; clear hF22
    refine wpl_op (i := 1) rfl (o_val (v := (.slice A29 ((t.getD k []).length) c30)) hF40 rfl rfl rfl rfl (rn_load (isAgg_no Try.underlying25 rfl) (hF40.get rfl) (Ext.keep (Ext.refl w13) hc33)) ?_)
    intro a41 hF42; clear hF40
    refine wpl_op (i := 2) rfl (o_val (v := (.slice A29 ((t.getD k []).length) c30)) hF42 rfl rfl rfl rfl (rn_assign (hF42.get rfl)) ?_)
    intro a43 hF44; clear hF42
    refine wpList_nil ?_
    refine hK26 _ _ ?_
    clear hK26
    refine wp_seq_k (fun K45 hK45 => ?_)
    refine wp_region_lit ?_
    refine wpl_op (i := 0) rfl (o_val (v := (.slice A29 ((t.getD k []).length) c30)) hF44 rfl rfl rfl rfl (rn_move (hF44.get rfl)) ?_)
    intro a46 hF47; clear hF44
    refine wpl_op (i := 1) rfl (o_val (v := (.int .i64 ((t.getD k []).length : Nat))) hF47 rfl rfl rfl rfl (rn_len_slice Try.underlying25 (hF47.get rfl)) ?_)
    intro a48 hF49; clear hF47
    refine wpl_op (i := 2) rfl (o_val (v := (.int .i64 (nn : Nat))) hF49 rfl rfl rfl rfl (rn_move (hF49.get rfl)) ?_)
    intro a50 hF51; clear hF49
    refine wpl_op (i := 3) rfl (o_val (v := (.bool (decide ((((t.getD k []).length : Nat) : Int) ≠ ((nn : Nat) : Int))))) hF51 rfl rfl rfl rfl (rn_neq (hF51.get rfl) (hF51.get rfl)) ?_)
    intro a52 hF53; clear hF51
    refine wpList_nil ?_
    refine hK45 _ _ ?_
    clear hK45
    have hF54 := (((((((((hF53.nil.cons (hF53.get (t := 16) (v := (.bool (decide ((((t.getD k []).length : Nat) : Int) ≠ ((nn : Nat) : Int))))) rfl)).cons (hF53.get (t := 6) (v := (.slice A29 ((t.getD k []).length) c30)) rfl)).cons (hF53.get (t := 10) (v := (.bool (decide (((k : Nat) : Int) < ((t.length : Nat) : Int))))) rfl)).cons (hF53.get (t := 9) (v := (.int .i64 (k : Nat))) rfl)).cons (hF53.get (t := 8) (v := (.int .i64 (t.length : Nat))) rfl)).cons (hF53.get (t := 7) (v := (.slice A t.length c)) rfl)).cons (hF53.get (t := 4) (v := (.bool false)) rfl)).cons (hF53.get (t := 1) (v := (.int .i64 (nn : Nat))) rfl)).cons (hF53.get (t := 0) (v := (.slice A t.length c)) rfl))
    clear hF53
    by_cases hc55 : (((t.getD k []).length : Nat) : Int) ≠ ((nn : Nat) : Int)
    · skip
      refine wp_cond_true (c_true hF54 rfl (decide_eq_true hc55)) ?_
      refine wp_seq_k (fun K56 hK56 => ?_)
      refine wp_region_lit ?_
      refine wpl_op (i := 0) rfl (o_val (v := (.bool false)) hF54 rfl rfl rfl rfl (rn_assign rfl) ?_)
      intro a57 hF58; clear hF54
      refine wpList_nil ?_
      refine hK56 _ _ ?_
      clear hK56
      refine wp_ret ?_
      refine ret_block ?_
      refine ret_then ?_
      refine ret_then ?_
      refine ret_block ?_
      refine ret_then ?_
      refine ret1 hF58 rfl rfl ?_
      exfalso; omega
    · skip
      refine wp_cond_false (c_false hF54 rfl (decide_eq_false hc55)) ?_
      refine wp_skip ?_
      refine hK25 _ _ ?_
      clear hK25
      refine wp_region_lit ?_
      refine wpl_op (i := 0) rfl (o_val (v := (.int .i64 (k + 1 : Nat))) hF54 rfl rfl rfl rfl (rn_addN (a := k) (b := 1) (hF54.get rfl) rfl (by omega)) ?_)
      intro a59 hF60; clear hF54
      refine wpl_op (i := 1) rfl (o_val (v := (.int .i64 (k + 1 : Nat))) hF60 rfl rfl rfl rfl (rn_move (hF60.get rfl)) ?_)
      intro a61 hF62; clear hF60
      refine wpList_nil ?_
      refine ⟨⟨(k + 1), ((((((hF62.nil.cons (q_get hF62 (t := 9) rfl (by first | rfl | (congr 1; omega) | (congr 1; done)))).cons (q_get hF62 (t := 8) rfl rfl)).cons (q_get hF62 (t := 7) rfl rfl)).cons (q_get hF62 (t := 4) rfl rfl)).cons (q_get hF62 (t := 1) rfl rfl)).cons (q_get hF62 (t := 0) rfl rfl)), (by omega), ((Ext.refl w).trans hx15), (by omega)⟩, ?_⟩
      rw [hF62.get (t := 9) rfl, hL18.get (t := 9) rfl]; simp [intOf] <;> omega
  · skip
    refine wp_cond_false (c_false hF22 rfl (decide_eq_false hc24)) ?_
    refine wp_exit ?_
    refine exit_then ?_
    refine exit_then ?_
    refine exit_here ?_
    refine hK4 _ _ ?_
    clear hK4
    refine wp_seq_k (fun K63 hK63 => ?_)
    refine wp_region_lit ?_
    refine wpl_op (i := 0) rfl (o_val (v := (.slice A t.length c)) hF22 rfl rfl rfl rfl (rn_move (hF22.get rfl)) ?_)
    intro a64 hF65; clear hF22
    refine wpl_op (i := 1) rfl (o_val (v := (.int .i64 (t.length : Nat))) hF65 rfl rfl rfl rfl (rn_len_slice Try.underlying33 (hF65.get rfl)) ?_)
    intro a66 hF67; clear hF65
    refine wpl_op (i := 2) rfl (o_val (v := (.int .i64 (nn : Nat))) hF67 rfl rfl rfl rfl (rn_move (hF67.get rfl)) ?_)
    intro a68 hF69; clear hF67
    refine wpl_op (i := 3) rfl (o_val (v := (.bool (decide (((t.length : Nat) : Int) = ((nn : Nat) : Int))))) hF69 rfl rfl rfl rfl (rn_eql (hF69.get rfl) (hF69.get rfl)) ?_)
    intro a70 hF71; clear hF69
    refine wpl_op (i := 4) rfl (o_val (v := (.bool (decide (((t.length : Nat) : Int) = ((nn : Nat) : Int))))) hF71 rfl rfl rfl rfl (rn_assign (hF71.get rfl)) ?_)
    intro a72 hF73; clear hF71
    refine wpList_nil ?_
    refine hK63 _ _ ?_
    clear hK63
    have hF74 := (((((((hF73.nil.cons (hF73.get (t := 10) (v := (.bool (decide (((k : Nat) : Int) < ((t.length : Nat) : Int))))) rfl)).cons (hF73.get (t := 9) (v := (.int .i64 (k : Nat))) rfl)).cons (hF73.get (t := 8) (v := (.int .i64 (t.length : Nat))) rfl)).cons (hF73.get (t := 7) (v := (.slice A t.length c)) rfl)).cons (hF73.get (t := 4) (v := (.bool (decide (((t.length : Nat) : Int) = ((nn : Nat) : Int))))) rfl)).cons (hF73.get (t := 1) (v := (.int .i64 (nn : Nat))) rfl)).cons (hF73.get (t := 0) (v := (.slice A t.length c)) rfl))
    clear hF73
    refine wp_ret ?_
    refine ret1 hF74 rfl rfl ?_
    exact ⟨by rw [decide_eq_true (by omega)], ((Ext.refl w).trans hx15)⟩

theorem table_at {u : Value} (n : Int) (t : List (List Int)) (w : World) (ha : RIss S w u t) (h0 : 0 ≤ n) (hn : t.length = n.toNat) (hr : ∀ i, i < n.toNat → (t.getD i []).length = n.toNat) :
    Calls Try.prog 20 #[u, .int .i64 n] w (fun e w' => e = .returned (.bool true) ∧ Ext w w') := by
  obtain ⟨A, c, rfl, _⟩ := ha.form
  obtain ⟨nn, rfl⟩ : ∃ nn : Nat, n = (nn : Int) := ⟨n.toNat, by omega⟩
  exact table_any A c nn t w ha hn hr

end Go.Proofs.Ytjmdodgmoehfkaa
