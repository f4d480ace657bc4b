/- The law BoundsSolved, walked. -/
import Derived.Test.YtjmdodgmoehfkaaProg
import Derived.Test.YtjmdodgmoehfkaaBndS
import Derived.KernelRfl
namespace Go.Proofs.Ytjmdodgmoehfkaa
open Go.RowKit

variable {S S' : Nat → Prop}

set_option maxRecDepth 100000 in
set_option maxHeartbeats 1000000 in
theorem solved_any (A : Option Addr) (c : Nat) (n : Int) (l : List E3) (a : Int) (w : World) (hf : Fl S w 3 (.slice A l.length c) l.length (edVals l)) :
    Calls Try.prog 8 #[.agg #[.int .i64 n, .slice A l.length c], .int .i64 a] w (fun e w' => e = .returned (.bool true) ∧ Ext w w') := by
  have hc : Fl (Clip S w) w 3 (.slice A l.length c) l.length (edVals l) := hf.clip
  have hcc := (Fl.cel hc).2.1
  refine calls_enter (l := [(.agg #[(.int .i64 n), (.slice A l.length c)]), (.int .i64 a)]) Try.func8 rfl rfl rfl (fun aA hF => ?_)
  refine wp_seq_k (fun K1 hK1 => ?_)
  refine wp_region_lit ?_
  refine wpl_op (i := 0) rfl (o_new (fun g => (.pointer (some ⟨g, 0, none⟩))) [(.int .i64 n), (.slice A l.length c)] 24 hF rfl rfl rfl rfl (rn_box (hF.get rfl) (by kernel_rfl)) ?_)
  intro g2 w3 a8 hF9 z6 z7 b4 hx5; clear hF
  refine wpl_op (i := 1) rfl (o_val (v := (.bool false)) hF9 rfl rfl rfl rfl (rn_assign rfl) ?_)
  intro a10 hF11; clear hF9
  refine wpList_nil ?_
  refine hK1 _ _ ?_
  clear hK1
  refine wp_seq_k (fun K12 hK12 => ?_)
  refine wp_seq_k (fun K13 hK13 => ?_)
  refine wp_region_lit ?_
  refine wpl_op (i := 0) rfl (o_call hF11 rfl rfl rfl rfl (rn_call (args0 ) rfl (by kernel_rfl)) (sane_any _) ?_)
  rintro _ w14 ⟨rfl, hx15⟩
  refine ⟨_, rfl, ?_⟩; intro a16 hF17; clear hF11; have z18 := hx15.size
  refine wpl_op (i := 1) rfl (o_val (v := (.bool false)) hF17 rfl rfl rfl rfl (rn_not' (hF17.get rfl) rfl) ?_)
  intro a19 hF20; clear hF17
  refine wpList_nil ?_
  refine hK13 _ _ ?_
  clear hK13
  refine wp_cond_false (c_false hF20 rfl rfl) ?_
  refine wp_skip ?_
  refine hK12 _ _ ?_
  clear hK12
  refine wp_seq_k (fun K21 hK21 => ?_)
  refine wp_seq_k (fun K22 hK22 => ?_)
  refine wp_region_lit ?_
  have b23 : Blk w14 g2 24 [(.int .i64 n), (.slice A l.length c)] := (b4.ext hx15)
  refine wpl_op (i := 0) rfl (o_val (v := (.agg #[(.int .i64 n), (.slice A l.length c)])) hF20 rfl rfl rfl rfl (rn_loadBlk (hF20.get rfl) b23 Try.underlying24 rfl (by kernel_rfl : (Try.prog.info? 24).map (·.size) = some 2)) ?_)
  intro a24 hF25; clear hF20
  have d26 := ((hc.ext hx5).ext hx15)
  refine wpl_op (i := 1) rfl (o_call hF25 rfl rfl rfl rfl (rn_call (args1 (hF25.get rfl)) rfl (by kernel_rfl)) (few_at (v := (.slice A l.length c)) n l _ d26) ?_)
  rintro _ w27 ⟨rfl, hx28⟩
  refine ⟨_, rfl, ?_⟩; intro a29 hF30; clear hF25; have z31 := hx28.size
  refine wpl_op (i := 2) rfl (o_val (v := (.bool (!(few n l)))) hF30 rfl rfl rfl rfl (rn_not' (hF30.get rfl) rfl) ?_)
  intro a32 hF33; clear hF30
  refine wpl_op (i := 3) rfl (o_val (v := (.bool (!(few n l)))) hF33 rfl rfl rfl rfl (rn_move (hF33.get rfl)) ?_)
  intro a34 hF35; clear hF33
  rcases Bool.eq_false_or_eq_true (few n l) with hc36 | hc36
  · skip
    have b37 : Blk w27 g2 24 [(.int .i64 n), (.slice A l.length c)] := (b23.ext hx28)
    refine wpl_op (i := 4) rfl (o_val (v := (.agg #[(.int .i64 n), (.slice A l.length c)])) hF35 rfl (wanted_guard rfl rfl rfl hF35 rfl (not_t hc36) rfl) rfl rfl (rn_loadBlk (hF35.get rfl) b37 Try.underlying24 rfl (by kernel_rfl : (Try.prog.info? 24).map (·.size) = some 2)) ?_)
    intro a38 hF39; clear hF35
    have d40 := (((hc.ext hx5).ext hx15).ext hx28)
    refine wpl_op (i := 5) rfl (o_call hF39 rfl (wanted_guard rfl rfl rfl hF39 rfl (not_t hc36) rfl) rfl rfl (rn_call (args1 (hF39.get rfl)) rfl (by kernel_rfl)) (rcheck_at (v := (.slice A l.length c)) n l _ d40) ?_)
    rintro _ w41 ⟨rfl, hx42⟩
    refine ⟨_, rfl, ?_⟩; intro a43 hF44; clear hF39; have z45 := hx42.size
    refine wpl_op (i := 6) rfl (o_val (v := (.bool (decide (((chk n l) : Int) ≠ (0 : Int))))) hF44 rfl (wanted_guard rfl rfl rfl hF44 rfl (not_t hc36) rfl) rfl rfl (rn_neq (hF44.get rfl) rfl) ?_)
    intro a46 hF47; clear hF44
    refine wpl_op (i := 7) rfl (o_val (v := (.bool (decide (((chk n l) : Int) ≠ (0 : Int))))) hF47 rfl rfl rfl rfl (rn_pickF (c_false hF47 rfl (not_t hc36)) (hF47.get rfl)) ?_)
    intro a48 hF49; clear hF47
    refine wpList_nil ?_
    refine hK22 _ _ ?_
    clear hK22
    have hF50 := ((((((hF49.nil.cons (hF49.get (t := 27) (v := (.bool (decide (((chk n l) : Int) ≠ (0 : Int))))) rfl)).cons (hF49.get (t := 19) (v := (.bool false)) rfl)).cons (hF49.get (t := 4) (v := (.bool false)) rfl)).cons (hF49.get (t := 2) (v := (.pointer (some ⟨g2, 0, none⟩))) rfl)).cons (hF49.get (t := 1) (v := (.int .i64 a)) rfl)).cons (hF49.get (t := 0) (v := (.agg #[(.int .i64 n), (.slice A l.length c)])) rfl))
    clear hF49
    by_cases hc51 : ((chk n l) : Int) ≠ (0 : Int)
    · skip
      refine wp_cond_true (c_true hF50 rfl (decide_eq_true hc51)) ?_
      refine wp_seq_k (fun K52 hK52 => ?_)
      refine wp_region_lit ?_
      refine wpl_op (i := 0) rfl (o_val (v := (.bool true)) hF50 rfl rfl rfl rfl (rn_assign rfl) ?_)
      intro a53 hF54; clear hF50
      refine wpList_nil ?_
      refine hK52 _ _ ?_
      clear hK52
      refine wp_ret ?_
      refine ret_then ?_
      refine ret1 hF54 rfl rfl ?_
      exact ⟨rfl, (((((Ext.refl w).trans hx5).trans hx15).trans hx28).trans hx42)⟩
    · skip
      refine wp_cond_false (c_false hF50 rfl (decide_eq_false hc51)) ?_
      refine wp_skip ?_
      refine hK21 _ _ ?_
      clear hK21
      refine wp_seq_k (fun K55 hK55 => ?_)
      have hfw : n ≤ 8 ∧ l.length ≤ 30 := of_decide_eq_true (show decide _ = true from hc36)
      have hvok := chk_v (by omega : chk n l = 0)
      refine wp_region_lit ?_
      have b56 : Blk w41 g2 24 [(.int .i64 n), (.slice A l.length c)] := (b37.ext hx42)
      refine wpl_op (i := 0) rfl (o_val (v := (.agg #[(.int .i64 n), (.slice A l.length c)])) hF50 rfl rfl rfl rfl (rn_loadBlk (hF50.get rfl) b56 Try.underlying24 rfl (by kernel_rfl : (Try.prog.info? 24).map (·.size) = some 2)) ?_)
      intro a57 hF58; clear hF50
      have d59 := ((((hc.ext hx5).ext hx15).ext hx28).ext hx42)
      refine wpl_op (i := 1) rfl (o_call hF58 rfl rfl rfl rfl (rn_call (args1 (hF58.get rfl)) rfl (by kernel_rfl)) (far_at (v := (.slice A l.length c)) n l _ d59 (fun _ => ⟨by omega, by omega⟩)) ?_)
      rintro _ w74 ⟨A60, m61, c62, t63, B64, k65, c66, cyc67, er68, rfl, ht69, hf70, hfar71, hx75⟩
      have z72 := RIss.len ht69
      have z73 := Fl.ilen hf70
      refine ⟨_, rfl, ?_⟩; intro a76 hF77; clear hF58; have z78 := hx75.size
      have hf79 : RIss (Clip (fun b => w41.heap.size ≤ b) w74) w74 (.slice A60 m61 c62) t63 := ht69.clip
      have hf80 : Fl (Clip (fun b => w41.heap.size ≤ b) w74) w74 1 (.slice B64 k65 c66) k65 (intVals cyc67) := hf70.clip
      refine wpl_op (i := 2) rfl (o_val (v := (.tuple #[(.slice A60 m61 c62), (.slice B64 k65 c66), (.int .i64 er68)])) hF77 rfl rfl rfl rfl (rn_move (hF77.get rfl)) ?_)
      intro a81 hF82; clear hF77
      refine wpl_op (i := 3) rfl (o_val (v := (.slice A60 m61 c62)) hF82 rfl rfl rfl rfl (rn_extract (hF82.get rfl) rfl) ?_)
      intro a83 hF84; clear hF82
      refine wpl_op (i := 4) rfl (o_val (v := (.slice B64 k65 c66)) hF84 rfl rfl rfl rfl (rn_extract (hF84.get rfl) rfl) ?_)
      intro a85 hF86; clear hF84
      refine wpl_op (i := 5) rfl (o_val (v := (.int .i64 er68)) hF86 rfl rfl rfl rfl (rn_extract (hF86.get rfl) rfl) ?_)
      intro a87 hF88; clear hF86
      refine wpl_op (i := 6) rfl (o_val (v := (.slice A60 m61 c62)) hF88 rfl rfl rfl rfl (rn_assign (hF88.get rfl)) ?_)
      intro a89 hF90; clear hF88
      refine wpl_op (i := 7) rfl (o_val (v := (.slice B64 k65 c66)) hF90 rfl rfl rfl rfl (rn_assign (hF90.get rfl)) ?_)
      intro a91 hF92; clear hF90
      refine wpl_op (i := 8) rfl (o_val (v := (.int .i64 er68)) hF92 rfl rfl rfl rfl (rn_assign (hF92.get rfl)) ?_)
      intro a93 hF94; clear hF92
      refine wpList_nil ?_
      refine hK55 _ _ ?_
      clear hK55
      have hF95 := (((((((((hF94.nil.cons (hF94.get (t := 7) (v := (.int .i64 er68)) rfl)).cons (hF94.get (t := 6) (v := (.slice B64 k65 c66)) rfl)).cons (hF94.get (t := 5) (v := (.slice A60 m61 c62)) rfl)).cons (hF94.get (t := 27) (v := (.bool (decide (((chk n l) : Int) ≠ (0 : Int))))) rfl)).cons (hF94.get (t := 19) (v := (.bool false)) rfl)).cons (hF94.get (t := 4) (v := (.bool false)) rfl)).cons (hF94.get (t := 2) (v := (.pointer (some ⟨g2, 0, none⟩))) rfl)).cons (hF94.get (t := 1) (v := (.int .i64 a)) rfl)).cons (hF94.get (t := 0) (v := (.agg #[(.int .i64 n), (.slice A l.length c)])) rfl))
      clear hF94
      refine wp_seq_k (fun K96 hK96 => ?_)
      refine wp_seq_k (fun K97 hK97 => ?_)
      refine wp_region_lit ?_
      refine wpl_op (i := 0) rfl (o_val (v := (.int .i64 er68)) hF95 rfl rfl rfl rfl (rn_move (hF95.get rfl)) ?_)
      intro a98 hF99; clear hF95
      refine wpl_op (i := 1) rfl (o_val (v := (.bool (decide ((er68 : Int) = (151 : Int))))) hF99 rfl rfl rfl rfl (rn_eql (hF99.get rfl) rfl) ?_)
      intro a100 hF101; clear hF99
      refine wpList_nil ?_
      refine hK97 _ _ ?_
      clear hK97
      by_cases hc102 : (er68 : Int) = (151 : Int)
      · skip
        refine wp_cond_true (c_true hF101 rfl (decide_eq_true hc102)) ?_
        refine wp_seq_k (fun K103 hK103 => ?_)
        refine wp_region_lit ?_
        have b104 : Blk w74 g2 24 [(.int .i64 n), (.slice A l.length c)] := (b56.ext hx75)
        refine wpl_op (i := 0) rfl (o_val (v := (.agg #[(.int .i64 n), (.slice A l.length c)])) hF101 rfl rfl rfl rfl (rn_loadBlk (hF101.get rfl) b104 Try.underlying24 rfl (by kernel_rfl : (Try.prog.info? 24).map (·.size) = some 2)) ?_)
        intro a105 hF106; clear hF101
        refine wpl_op (i := 1) rfl (o_val (v := (.slice B64 k65 c66)) hF106 rfl rfl rfl rfl (rn_move (hF106.get rfl)) ?_)
        intro a107 hF108; clear hF106
        have d109 := (((((hc.ext hx5).ext hx15).ext hx28).ext hx42).ext hx75)
        refine wpl_op (i := 2) rfl (o_call hF108 rfl rfl rfl rfl (rn_call (args2 (hF108.get rfl) (hF108.get rfl)) rfl (by kernel_rfl)) (cycle_at (u := (.slice A l.length c)) (v := (.slice B64 k65 c66)) n l cyc67 _ d109 hf80 (hfar71.cycP (by omega)) (hfar71.1.v151 (by omega)).1) ?_)
        rintro _ w110 ⟨rfl, hx111⟩
        refine ⟨_, rfl, ?_⟩; intro a112 hF113; clear hF108; have z114 := hx111.size
        refine wpl_op (i := 3) rfl (o_val (v := (.bool true)) hF113 rfl rfl rfl rfl (rn_assign (hF113.get rfl)) ?_)
        intro a115 hF116; clear hF113
        refine wpList_nil ?_
        refine hK103 _ _ ?_
        clear hK103
        have hF117 := ((((((((((hF116.nil.cons (hF116.get (t := 35) (v := (.bool (decide ((er68 : Int) = (151 : Int))))) rfl)).cons (hF116.get (t := 7) (v := (.int .i64 er68)) rfl)).cons (hF116.get (t := 6) (v := (.slice B64 k65 c66)) rfl)).cons (hF116.get (t := 5) (v := (.slice A60 m61 c62)) rfl)).cons (hF116.get (t := 27) (v := (.bool (decide (((chk n l) : Int) ≠ (0 : Int))))) rfl)).cons (hF116.get (t := 19) (v := (.bool false)) rfl)).cons (hF116.get (t := 4) (v := (.bool true)) rfl)).cons (hF116.get (t := 2) (v := (.pointer (some ⟨g2, 0, none⟩))) rfl)).cons (hF116.get (t := 1) (v := (.int .i64 a)) rfl)).cons (hF116.get (t := 0) (v := (.agg #[(.int .i64 n), (.slice A l.length c)])) rfl))
        clear hF116
        refine wp_ret ?_
        refine ret_then ?_
        refine ret1 hF117 rfl rfl ?_
        exact ⟨rfl, (((((((Ext.refl w).trans hx5).trans hx15).trans hx28).trans hx42).trans hx75).trans hx111)⟩
      · skip
        refine wp_cond_false (c_false hF101 rfl (decide_eq_false hc102)) ?_
        refine wp_skip ?_
        refine hK96 _ _ ?_
        clear hK96
        refine wp_seq_k (fun K118 hK118 => ?_)
        refine wp_seq_k (fun K119 hK119 => ?_)
        have hnb : er68 ≠ 150 := by rcases hfar71.1 with ⟨_, h, _⟩ | ⟨h, _⟩ | ⟨h, _⟩ <;> first | omega | (rw [hvok] at h; cases h)
        have her0 : er68 = 0 := Classical.byContradiction fun h => by have := (hfar71.1.not h).2; omega
        obtain ⟨hvo, hng, hdt⟩ := hfar71.1.zero (by omega)
        have hn1 := vOk_n hvo
        have htl := hdt.len
        refine wp_region_lit ?_
        refine wpl_op (i := 0) rfl (o_val (v := (.int .i64 er68)) hF101 rfl rfl rfl rfl (rn_move (hF101.get rfl)) ?_)
        intro a120 hF121; clear hF101
        refine wpl_op (i := 1) rfl (o_val (v := (.bool (decide ((er68 : Int) ≠ (0 : Int))))) hF121 rfl rfl rfl rfl (rn_neq (hF121.get rfl) rfl) ?_)
        intro a122 hF123; clear hF121
        refine wpl_op (i := 2) rfl (o_val (v := (.bool (decide ((er68 : Int) ≠ (0 : Int))))) hF123 rfl rfl rfl rfl (rn_move (hF123.get rfl)) ?_)
        intro a124 hF125; clear hF123
        by_cases hc126 : (er68 : Int) ≠ (0 : Int)
        · skip
          refine wpl_op (i := 3) rfl (o_skip hF125 rfl (unwanted_guard rfl rfl rfl hF125 rfl (decide_eq_true hc126) rfl) rfl rfl ?_)
          intro a127 hF128; clear hF125
          refine wpl_op (i := 4) rfl (o_skip hF128 rfl (unwanted_guard rfl rfl rfl hF128 rfl (decide_eq_true hc126) rfl) rfl rfl ?_)
          intro a129 hF130; clear hF128
          refine wpl_op (i := 5) rfl (o_skip hF130 rfl (unwanted_guard rfl rfl rfl hF130 rfl (decide_eq_true hc126) rfl) rfl rfl ?_)
          intro a131 hF132; clear hF130
          refine wpl_op (i := 6) rfl (o_skip hF132 rfl (unwanted_guard rfl rfl rfl hF132 rfl (decide_eq_true hc126) rfl) rfl rfl ?_)
          intro a133 hF134; clear hF132
          refine wpl_op (i := 7) rfl (o_skip hF134 rfl (unwanted_guard rfl rfl rfl hF134 rfl (decide_eq_true hc126) rfl) rfl rfl ?_)
          intro a135 hF136; clear hF134
          refine wpl_op (i := 8) rfl (o_val (v := (.bool true)) hF136 rfl rfl rfl rfl (rn_pickT (c_true hF136 rfl (decide_eq_true hc126)) rfl) ?_)
          intro a137 hF138; clear hF136
          refine wpList_nil ?_
          refine hK119 _ _ ?_
          clear hK119
          have hF139 := (((((((((((hF138.nil.cons (hF138.get (t := 47) (v := (.bool true)) rfl)).cons (hF138.get (t := 35) (v := (.bool (decide ((er68 : Int) = (151 : Int))))) rfl)).cons (hF138.get (t := 7) (v := (.int .i64 er68)) rfl)).cons (hF138.get (t := 6) (v := (.slice B64 k65 c66)) rfl)).cons (hF138.get (t := 5) (v := (.slice A60 m61 c62)) rfl)).cons (hF138.get (t := 27) (v := (.bool (decide (((chk n l) : Int) ≠ (0 : Int))))) rfl)).cons (hF138.get (t := 19) (v := (.bool false)) rfl)).cons (hF138.get (t := 4) (v := (.bool false)) rfl)).cons (hF138.get (t := 2) (v := (.pointer (some ⟨g2, 0, none⟩))) rfl)).cons (hF138.get (t := 1) (v := (.int .i64 a)) rfl)).cons (hF138.get (t := 0) (v := (.agg #[(.int .i64 n), (.slice A l.length c)])) rfl))
          clear hF138
          refine wp_cond_true (c_true hF139 rfl rfl) ?_
          refine wp_seq_k (fun K140 hK140 => ?_)
          refine wp_region_lit ?_
          refine wpl_op (i := 0) rfl (o_val (v := (.bool false)) hF139 rfl rfl rfl rfl (rn_assign rfl) ?_)
          intro a141 hF142; clear hF139
          refine wpList_nil ?_
          refine hK140 _ _ ?_
          clear hK140
          refine wp_ret ?_
          refine ret_then ?_
          refine ret1 hF142 rfl rfl ?_
          exfalso; omega
        · skip
          refine wpl_op (i := 3) rfl (o_val (v := (.slice A60 m61 c62)) hF125 rfl (wanted_guard rfl rfl rfl hF125 rfl (decide_eq_false hc126) rfl) rfl rfl (rn_move (hF125.get rfl)) ?_)
          intro a143 hF144; clear hF125
          refine wpl_op (i := 4) rfl (o_val (v := (.pointer (some ⟨g2, 0, none⟩))) hF144 rfl (wanted_guard rfl rfl rfl hF144 rfl (decide_eq_false hc126) rfl) rfl rfl (rn_field Try.underlying24 rfl (by kernel_rfl) (hF144.get rfl) rfl) ?_)
          intro a145 hF146; clear hF144
          have b147 : Blk w74 g2 24 [(.int .i64 n), (.slice A l.length c)] := (b56.ext hx75)
          refine wpl_op (i := 5) rfl (o_val (v := (.int .i64 n)) hF146 rfl (wanted_guard rfl rfl rfl hF146 rfl (decide_eq_false hc126) rfl) rfl rfl (rn_load (isAgg_no Try.underlying3 rfl) (hF146.get rfl) (b147.rule.1 0)) ?_)
          intro a148 hF149; clear hF146
          refine wpl_op (i := 6) rfl (o_call hF149 rfl (wanted_guard rfl rfl rfl hF149 rfl (decide_eq_false hc126) rfl) rfl rfl (rn_call (args2 (hF149.get rfl) (hF149.get rfl)) rfl (by kernel_rfl)) (table_at (u := (.slice A60 m61 c62)) n t63 _ hf79 (by omega) hdt.len hdt.row) ?_)
          rintro _ w150 ⟨rfl, hx151⟩
          refine ⟨_, rfl, ?_⟩; intro a152 hF153; clear hF149; have z154 := hx151.size
          refine wpl_op (i := 7) rfl (o_val (v := (.bool false)) hF153 rfl (wanted_guard rfl rfl rfl hF153 rfl (decide_eq_false hc126) rfl) rfl rfl (rn_not' (hF153.get rfl) rfl) ?_)
          intro a155 hF156; clear hF153
          refine wpl_op (i := 8) rfl (o_val (v := (.bool false)) hF156 rfl rfl rfl rfl (rn_pickF (c_false hF156 rfl (decide_eq_false hc126)) (hF156.get rfl)) ?_)
          intro a157 hF158; clear hF156
          refine wpList_nil ?_
          refine hK119 _ _ ?_
          clear hK119
          have hF159 := (((((((((((hF158.nil.cons (hF158.get (t := 47) (v := (.bool false)) rfl)).cons (hF158.get (t := 35) (v := (.bool (decide ((er68 : Int) = (151 : Int))))) rfl)).cons (hF158.get (t := 7) (v := (.int .i64 er68)) rfl)).cons (hF158.get (t := 6) (v := (.slice B64 k65 c66)) rfl)).cons (hF158.get (t := 5) (v := (.slice A60 m61 c62)) rfl)).cons (hF158.get (t := 27) (v := (.bool (decide (((chk n l) : Int) ≠ (0 : Int))))) rfl)).cons (hF158.get (t := 19) (v := (.bool false)) rfl)).cons (hF158.get (t := 4) (v := (.bool false)) rfl)).cons (hF158.get (t := 2) (v := (.pointer (some ⟨g2, 0, none⟩))) rfl)).cons (hF158.get (t := 1) (v := (.int .i64 a)) rfl)).cons (hF158.get (t := 0) (v := (.agg #[(.int .i64 n), (.slice A l.length c)])) rfl))
          clear hF158
          refine wp_cond_false (c_false hF159 rfl rfl) ?_
          refine wp_skip ?_
          refine hK118 _ _ ?_
          clear hK118
          refine wp_seq_k (fun K160 hK160 => ?_)
          have hand := andI_at a
          obtain ⟨a2, ha2⟩ : ∃ z, z = andI a 1023 % n := ⟨_, rfl⟩
          have hmod : 0 ≤ a2 ∧ a2 < n := by rw [ha2]; exact ⟨Int.emod_nonneg _ (by omega), Int.emod_lt_of_pos _ (by omega)⟩
          refine wp_region_lit ?_
          refine wpl_op (i := 0) rfl (o_val (v := (.int .i64 a)) hF159 rfl rfl rfl rfl (rn_move (hF159.get rfl)) ?_)
          intro a161 hF162; clear hF159
          refine wpl_op (i := 1) rfl (o_val (v := (.int .i64 (andI (a) (1023)))) hF162 rfl rfl rfl rfl (rn_andI (hF162.get rfl) rfl) ?_)
          intro a163 hF164; clear hF162
          refine wpl_op (i := 2) rfl (o_val (v := (.pointer (some ⟨g2, 0, none⟩))) hF164 rfl rfl rfl rfl (rn_field Try.underlying24 rfl (by kernel_rfl) (hF164.get rfl) rfl) ?_)
          intro a165 hF166; clear hF164
          have b167 : Blk w150 g2 24 [(.int .i64 n), (.slice A l.length c)] := (b147.ext hx151)
          refine wpl_op (i := 3) rfl (o_val (v := (.int .i64 n)) hF166 rfl rfl rfl rfl (rn_load (isAgg_no Try.underlying3 rfl) (hF166.get rfl) (b167.rule.1 0)) ?_)
          intro a168 hF169; clear hF166
          refine wpl_op (i := 4) rfl (o_val (v := (.int .i64 a2)) hF169 rfl rfl rfl rfl (by rw [ha2]; exact rn_rem (hF169.get rfl) (hF169.get rfl) (by omega : (0 : Int) ≤ (andI (a) (1023))) (by omega : (0 : Int) < n)) ?_)
          intro a170 hF171; clear hF169
          refine wpl_op (i := 5) rfl (o_val (v := (.int .i64 a2)) hF171 rfl rfl rfl rfl (rn_assign (hF171.get rfl)) ?_)
          intro a172 hF173; clear hF171
          refine wpList_nil ?_
          refine hK160 _ _ ?_
          clear hK160
          have hF174 := (((((((((((hF173.nil.cons (hF173.get (t := 47) (v := (.bool false)) rfl)).cons (hF173.get (t := 35) (v := (.bool (decide ((er68 : Int) = (151 : Int))))) rfl)).cons (hF173.get (t := 7) (v := (.int .i64 er68)) rfl)).cons (hF173.get (t := 6) (v := (.slice B64 k65 c66)) rfl)).cons (hF173.get (t := 5) (v := (.slice A60 m61 c62)) rfl)).cons (hF173.get (t := 27) (v := (.bool (decide (((chk n l) : Int) ≠ (0 : Int))))) rfl)).cons (hF173.get (t := 19) (v := (.bool false)) rfl)).cons (hF173.get (t := 4) (v := (.bool false)) rfl)).cons (hF173.get (t := 2) (v := (.pointer (some ⟨g2, 0, none⟩))) rfl)).cons (hF173.get (t := 1) (v := (.int .i64 a2)) rfl)).cons (hF173.get (t := 0) (v := (.agg #[(.int .i64 n), (.slice A l.length c)])) rfl))
          clear hF173
          refine wp_seq_k (fun K175 hK175 => ?_)
          have z176 := hdt.sm (0) (a2.toNat) (by omega) (by omega); simp only [T] at z176
          have z177 := hdt.sm (a2.toNat) (0) (by omega) (by omega); simp only [T] at z177
          have hx179 : ∃ W, w150.drew = W ∧ Ext w150 W := ⟨_, rfl, (Ext.refl _).drew⟩
          obtain ⟨w178, e180, hx179⟩ := hx179
          have z181 := hx179.size
          refine any_start (fun W => Ext w178 W ∧ Blk W g2 24 [(.int .i64 n), (.slice A l.length c)]) (fun i => false) 14 #[false, false, false, false, false, false, false, false, false, false, false, false, false, false] rfl rfl rfl ?_
          rw [e180]; clear e180
          have b183 : Blk w178 g2 24 [(.int .i64 n), (.slice A l.length c)] := (b167.ext hx179)
          have hS182 : Ext w178 w178 ∧ Blk w178 g2 24 [(.int .i64 n), (.slice A l.length c)] := ⟨(Ext.refl w178), b183⟩
          refine any_val (i := 0) (v := (.agg #[(.int .i64 n), (.slice A l.length c)])) hF174 (by decide +kernel) (by decide +kernel) rfl rfl rfl rfl (fun _ _ _ _ h => h) rfl hS182 (fun W hW => (rn_loadBlk (hF174.get rfl) hW.2 Try.underlying24 rfl (by kernel_rfl : (Try.prog.info? 24).map (·.size) = some 2))) ?_
          intro a184 hF185; clear hF174
          refine any_pure (i := 1) (v := (.int .i64 a2)) hF185 (by decide +kernel) (by decide +kernel) rfl rfl rfl rfl (fun _ _ _ _ h => h) rfl (fun W => (rn_move (hF185.get rfl))) ?_
          intro a186 hF187; clear hF185
          refine any_pure (i := 2) (v := (.slice A60 m61 c62)) hF187 (by decide +kernel) (by decide +kernel) rfl rfl rfl rfl (fun _ _ _ _ h => h) rfl (fun W => (rn_move (hF187.get rfl))) ?_
          intro a188 hF189; clear hF187
          have d200 := ((hf79.ext hx151).ext hx179)
          obtain ⟨b190, o191, A192, c193, hA194, hl195, hc196, hr197, z198, z199⟩ := RIss.get (i := 0) d200 (by omega)
          have z201 := hdt.row 0 (by omega)
          refine any_pure (i := 3) (v := (.pointer (some ⟨b190, o191 + 0, none⟩))) hF189 (by decide +kernel) (by decide +kernel) rfl rfl rfl rfl (fun _ _ _ _ h => h) rfl (fun W => (rn_index1 Try.underlying33 (by kernel_rfl : (Try.prog.info? 25).map (·.size) = some 1) ((hF189.get rfl).trans (by rw [hA194])) rfl (by omega : (0 : Int) ≤ 0) (by omega : (0 : Int) < ((m61 : Nat) : Int)))) ?_
          intro a202 hF203; clear hF189
          refine any_val (i := 4) (v := (.slice A192 ((t63.getD 0 []).length) c193)) hF203 (by decide +kernel) (by decide +kernel) rfl rfl rfl rfl (fun _ _ _ _ h => h) rfl hS182 (fun W hW => (rn_load (isAgg_no Try.underlying25 rfl) (hF203.get rfl) (Ext.keep ((Ext.refl w178).trans hW.1) hc196))) ?_
          intro a204 hF205; clear hF203
          refine any_pure (i := 5) (v := (.int .i64 a2)) hF205 (by decide +kernel) (by decide +kernel) rfl rfl rfl rfl (fun _ _ _ _ h => h) rfl (fun W => (rn_move (hF205.get rfl))) ?_
          intro a206 hF207; clear hF205
          obtain ⟨b208, o209, hA210, -⟩ := Fl.at hr197 (by omega)
          refine any_pure (i := 6) (v := (.pointer (some ⟨b208, o209 + (a2 : Int).toNat, none⟩))) hF207 (by decide +kernel) (by decide +kernel) rfl rfl rfl rfl (fun _ _ _ _ h => h) rfl (fun W => (rn_index1 Try.underlying25 (by kernel_rfl : (Try.prog.info? 3).map (·.size) = some 1) ((hF207.get rfl).trans (by rw [hA210])) (hF207.get rfl) (by omega : (0 : Int) ≤ a2) (by omega : (a2 : Int) < (((t63.getD 0 []).length : Nat) : Int)))) ?_
          intro a211 hF212; clear hF207
          refine any_val (i := 7) (v := (.int .i64 ((t63.getD 0 []).getD ((a2 : Int).toNat) 0))) hF212 (by decide +kernel) (by decide +kernel) rfl rfl rfl rfl (fun _ _ _ _ h => h) rfl hS182 (fun W hW => (rn_load (isAgg_no Try.underlying3 rfl) (hF212.get rfl) (Fl.cellAt (hr197.ext hW.1) hA210 (intVals_at (i := (a2 : Int).toNat) (by omega))))) ?_
          intro a213 hF214; clear hF212
          refine any_one (i := 8) (by decide +kernel) rfl ?_
          have d215 := (((((((hc.ext hx5).ext hx15).ext hx28).ext hx42).ext hx75).ext hx151).ext hx179)
          refine o_call hF214 rfl rfl rfl rfl (rn_call (args3 (hF214.get rfl) (hF214.get rfl) (hF214.get rfl)) rfl (by kernel_rfl)) (bgreat_at (v := (.slice A l.length c)) n l a2 ((t63.getD 0 []).getD ((a2 : Int).toNat) 0) _ d215 (fun _ => ⟨by omega, by omega⟩)) ?_
          rintro _ w224 ⟨A216, m217, c218, r219, e220, rfl, hf221, hs222, hx225⟩
          have z223 := Fl.ilen hf221
          refine ⟨_, rfl, ?_⟩; intro a226 hF227; clear hF214; have z228 := hx225.size
          have hf229 : Fl (Clip (fun b => w178.heap.size ≤ b) w224) w224 1 (.slice A216 m217 c218) m217 (intVals r219) := hf221.clip
          have b230 : Blk w224 g2 24 [(.int .i64 n), (.slice A l.length c)] := (b183.ext hx225)
          refine ⟨fun _ _ => ⟨((Ext.refl w178).trans hx225), b230⟩, ?_⟩
          refine any_pure (i := 9) (v := (.tuple #[(.slice A216 m217 c218), (.int .i64 e220)])) hF227 (by decide +kernel) (by decide +kernel) rfl rfl rfl rfl (fun _ _ _ _ h => h) rfl (fun W => (rn_move (hF227.get rfl))) ?_
          intro a231 hF232; clear hF227
          refine any_pure (i := 10) (v := (.slice A216 m217 c218)) hF232 (by decide +kernel) (by decide +kernel) rfl rfl rfl rfl (fun _ _ _ _ h => h) rfl (fun W => (rn_extract (hF232.get rfl) rfl)) ?_
          intro a233 hF234; clear hF232
          refine any_pure (i := 11) (v := (.int .i64 e220)) hF234 (by decide +kernel) (by decide +kernel) rfl rfl rfl rfl (fun _ _ _ _ h => h) rfl (fun W => (rn_extract (hF234.get rfl) rfl)) ?_
          intro a235 hF236; clear hF234
          refine any_pure (i := 12) (v := (.slice A216 m217 c218)) hF236 (by decide +kernel) (by decide +kernel) rfl rfl rfl rfl (fun _ _ _ _ h => h) rfl (fun W => (rn_assign (hF236.get rfl))) ?_
          intro a237 hF238; clear hF236
          refine any_pure (i := 13) (v := (.int .i64 e220)) hF238 (by decide +kernel) (by decide +kernel) rfl rfl rfl rfl (fun _ _ _ _ h => h) rfl (fun W => (rn_assign (hF238.get rfl))) ?_
          intro a239 hF240; clear hF238
          refine any_nil (by decide +kernel) ?_
          refine hK175 _ _ ?_
          clear hK175
          have hF241 := (((((((((((((hF240.nil.cons (hF240.get (t := 9) (v := (.int .i64 e220)) rfl)).cons (hF240.get (t := 8) (v := (.slice A216 m217 c218)) rfl)).cons (hF240.get (t := 47) (v := (.bool false)) rfl)).cons (hF240.get (t := 35) (v := (.bool (decide ((er68 : Int) = (151 : Int))))) rfl)).cons (hF240.get (t := 7) (v := (.int .i64 er68)) rfl)).cons (hF240.get (t := 6) (v := (.slice B64 k65 c66)) rfl)).cons (hF240.get (t := 5) (v := (.slice A60 m61 c62)) rfl)).cons (hF240.get (t := 27) (v := (.bool (decide (((chk n l) : Int) ≠ (0 : Int))))) rfl)).cons (hF240.get (t := 19) (v := (.bool false)) rfl)).cons (hF240.get (t := 4) (v := (.bool false)) rfl)).cons (hF240.get (t := 2) (v := (.pointer (some ⟨g2, 0, none⟩))) rfl)).cons (hF240.get (t := 1) (v := (.int .i64 a2)) rfl)).cons (hF240.get (t := 0) (v := (.agg #[(.int .i64 n), (.slice A l.length c)])) rfl))
          clear hF240
          refine wp_seq_k (fun K242 hK242 => ?_)
          have hx244 : ∃ W, w224.drew = W ∧ Ext w224 W := ⟨_, rfl, (Ext.refl _).drew⟩
          obtain ⟨w243, e245, hx244⟩ := hx244
          have z246 := hx244.size
          refine any_start (fun W => Ext w243 W ∧ Blk W g2 24 [(.int .i64 n), (.slice A l.length c)]) (fun i => false) 15 #[false, false, false, false, false, false, false, false, false, false, false, false, false, false, false] rfl rfl rfl ?_
          rw [e245]; clear e245
          have b248 : Blk w243 g2 24 [(.int .i64 n), (.slice A l.length c)] := (b230.ext hx244)
          have hS247 : Ext w243 w243 ∧ Blk w243 g2 24 [(.int .i64 n), (.slice A l.length c)] := ⟨(Ext.refl w243), b248⟩
          refine any_val (i := 0) (v := (.agg #[(.int .i64 n), (.slice A l.length c)])) hF241 (by decide +kernel) (by decide +kernel) rfl rfl rfl rfl (fun _ _ _ _ h => h) rfl hS247 (fun W hW => (rn_loadBlk (hF241.get rfl) hW.2 Try.underlying24 rfl (by kernel_rfl : (Try.prog.info? 24).map (·.size) = some 2))) ?_
          intro a249 hF250; clear hF241
          refine any_pure (i := 1) (v := (.int .i64 a2)) hF250 (by decide +kernel) (by decide +kernel) rfl rfl rfl rfl (fun _ _ _ _ h => h) rfl (fun W => (rn_move (hF250.get rfl))) ?_
          intro a251 hF252; clear hF250
          refine any_pure (i := 2) (v := (.slice A60 m61 c62)) hF252 (by decide +kernel) (by decide +kernel) rfl rfl rfl rfl (fun _ _ _ _ h => h) rfl (fun W => (rn_move (hF252.get rfl))) ?_
          intro a253 hF254; clear hF252
          refine any_pure (i := 3) (v := (.int .i64 a2)) hF254 (by decide +kernel) (by decide +kernel) rfl rfl rfl rfl (fun _ _ _ _ h => h) rfl (fun W => (rn_move (hF254.get rfl))) ?_
          intro a255 hF256; clear hF254
          have d267 := ((((hf79.ext hx151).ext hx179).ext hx225).ext hx244)
          obtain ⟨b257, o258, A259, c260, hA261, hl262, hc263, hr264, z265, z266⟩ := RIss.get (i := (a2 : Int).toNat) d267 (by omega)
          have z268 := hdt.row ((a2 : Int).toNat) (by omega)
          refine any_pure (i := 4) (v := (.pointer (some ⟨b257, o258 + (a2 : Int).toNat, none⟩))) hF256 (by decide +kernel) (by decide +kernel) rfl rfl rfl rfl (fun _ _ _ _ h => h) rfl (fun W => (rn_index1 Try.underlying33 (by kernel_rfl : (Try.prog.info? 25).map (·.size) = some 1) ((hF256.get rfl).trans (by rw [hA261])) (hF256.get rfl) (by omega : (0 : Int) ≤ a2) (by omega : (a2 : Int) < ((m61 : Nat) : Int)))) ?_
          intro a269 hF270; clear hF256
          refine any_val (i := 5) (v := (.slice A259 ((t63.getD ((a2 : Int).toNat) []).length) c260)) hF270 (by decide +kernel) (by decide +kernel) rfl rfl rfl rfl (fun _ _ _ _ h => h) rfl hS247 (fun W hW => (rn_load (isAgg_no Try.underlying25 rfl) (hF270.get rfl) (Ext.keep ((Ext.refl w243).trans hW.1) hc263))) ?_
          intro a271 hF272; clear hF270
          obtain ⟨b273, o274, hA275, -⟩ := Fl.at hr264 (by omega)
          refine any_pure (i := 6) (v := (.pointer (some ⟨b273, o274 + 0, none⟩))) hF272 (by decide +kernel) (by decide +kernel) rfl rfl rfl rfl (fun _ _ _ _ h => h) rfl (fun W => (rn_index1 Try.underlying25 (by kernel_rfl : (Try.prog.info? 3).map (·.size) = some 1) ((hF272.get rfl).trans (by rw [hA275])) rfl (by omega : (0 : Int) ≤ 0) (by omega : (0 : Int) < (((t63.getD ((a2 : Int).toNat) []).length : Nat) : Int)))) ?_
          intro a276 hF277; clear hF272
          refine any_val (i := 7) (v := (.int .i64 ((t63.getD ((a2 : Int).toNat) []).getD 0 0))) hF277 (by decide +kernel) (by decide +kernel) rfl rfl rfl rfl (fun _ _ _ _ h => h) rfl hS247 (fun W hW => (rn_load (isAgg_no Try.underlying3 rfl) (hF277.get rfl) (Fl.cellAt (hr264.ext hW.1) hA275 (intVals_at (i := 0) (by omega))))) ?_
          intro a278 hF279; clear hF277
          refine any_pure (i := 8) (v := (.int .i64 (-(((t63.getD ((a2 : Int).toNat) []).getD 0 0) : Int)))) hF279 (by decide +kernel) (by decide +kernel) rfl rfl rfl rfl (fun _ _ _ _ h => h) rfl (fun W => (rn_neg (hF279.get rfl) (by omega) rfl)) ?_
          intro a280 hF281; clear hF279
          refine any_one (i := 9) (by decide +kernel) rfl ?_
          have d282 := (((((((((hc.ext hx5).ext hx15).ext hx28).ext hx42).ext hx75).ext hx151).ext hx179).ext hx225).ext hx244)
          refine o_call hF281 rfl rfl rfl rfl (rn_call (args3 (hF281.get rfl) (hF281.get rfl) (hF281.get rfl)) rfl (by kernel_rfl)) (bleast_at (v := (.slice A l.length c)) n l a2 (-(((t63.getD ((a2 : Int).toNat) []).getD 0 0) : Int)) _ d282 (fun _ => ⟨by omega, by omega⟩)) ?_
          rintro _ w291 ⟨A283, m284, c285, r286, e287, rfl, hf288, hs289, hx292⟩
          have z290 := Fl.ilen hf288
          refine ⟨_, rfl, ?_⟩; intro a293 hF294; clear hF281; have z295 := hx292.size
          have hf296 : Fl (Clip (fun b => w243.heap.size ≤ b) w291) w291 1 (.slice A283 m284 c285) m284 (intVals r286) := hf288.clip
          have b297 : Blk w291 g2 24 [(.int .i64 n), (.slice A l.length c)] := (b248.ext hx292)
          refine ⟨fun _ _ => ⟨((Ext.refl w243).trans hx292), b297⟩, ?_⟩
          refine any_pure (i := 10) (v := (.tuple #[(.slice A283 m284 c285), (.int .i64 e287)])) hF294 (by decide +kernel) (by decide +kernel) rfl rfl rfl rfl (fun _ _ _ _ h => h) rfl (fun W => (rn_move (hF294.get rfl))) ?_
          intro a298 hF299; clear hF294
          refine any_pure (i := 11) (v := (.slice A283 m284 c285)) hF299 (by decide +kernel) (by decide +kernel) rfl rfl rfl rfl (fun _ _ _ _ h => h) rfl (fun W => (rn_extract (hF299.get rfl) rfl)) ?_
          intro a300 hF301; clear hF299
          refine any_pure (i := 12) (v := (.int .i64 e287)) hF301 (by decide +kernel) (by decide +kernel) rfl rfl rfl rfl (fun _ _ _ _ h => h) rfl (fun W => (rn_extract (hF301.get rfl) rfl)) ?_
          intro a302 hF303; clear hF301
          refine any_pure (i := 13) (v := (.slice A283 m284 c285)) hF303 (by decide +kernel) (by decide +kernel) rfl rfl rfl rfl (fun _ _ _ _ h => h) rfl (fun W => (rn_assign (hF303.get rfl))) ?_
          intro a304 hF305; clear hF303
          refine any_pure (i := 14) (v := (.int .i64 e287)) hF305 (by decide +kernel) (by decide +kernel) rfl rfl rfl rfl (fun _ _ _ _ h => h) rfl (fun W => (rn_assign (hF305.get rfl))) ?_
          intro a306 hF307; clear hF305
          refine any_nil (by decide +kernel) ?_
          refine hK242 _ _ ?_
          clear hK242
          have hF308 := (((((((((((((((hF307.nil.cons (hF307.get (t := 11) (v := (.int .i64 e287)) rfl)).cons (hF307.get (t := 10) (v := (.slice A283 m284 c285)) rfl)).cons (hF307.get (t := 9) (v := (.int .i64 e220)) rfl)).cons (hF307.get (t := 8) (v := (.slice A216 m217 c218)) rfl)).cons (hF307.get (t := 47) (v := (.bool false)) rfl)).cons (hF307.get (t := 35) (v := (.bool (decide ((er68 : Int) = (151 : Int))))) rfl)).cons (hF307.get (t := 7) (v := (.int .i64 er68)) rfl)).cons (hF307.get (t := 6) (v := (.slice B64 k65 c66)) rfl)).cons (hF307.get (t := 5) (v := (.slice A60 m61 c62)) rfl)).cons (hF307.get (t := 27) (v := (.bool (decide (((chk n l) : Int) ≠ (0 : Int))))) rfl)).cons (hF307.get (t := 19) (v := (.bool false)) rfl)).cons (hF307.get (t := 4) (v := (.bool false)) rfl)).cons (hF307.get (t := 2) (v := (.pointer (some ⟨g2, 0, none⟩))) rfl)).cons (hF307.get (t := 1) (v := (.int .i64 a2)) rfl)).cons (hF307.get (t := 0) (v := (.agg #[(.int .i64 n), (.slice A l.length c)])) rfl))
          clear hF307
          refine wp_seq_k (fun K309 hK309 => ?_)
          refine wp_seq_k (fun K310 hK310 => ?_)
          refine wp_region_lit ?_
          refine wpl_op (i := 0) rfl (o_val (v := (.slice A60 m61 c62)) hF308 rfl rfl rfl rfl (rn_move (hF308.get rfl)) ?_)
          intro a311 hF312; clear hF308
          refine wpl_op (i := 1) rfl (o_val (v := (.int .i64 (m61 : Nat))) hF312 rfl rfl rfl rfl (rn_len_slice Try.underlying33 (hF312.get rfl)) ?_)
          intro a313 hF314; clear hF312
          refine wpl_op (i := 2) rfl (o_val (v := (.int .i64 0)) hF314 rfl rfl rfl rfl (rn_move rfl) ?_)
          intro a315 hF316; clear hF314
          refine wpList_nil ?_
          refine hK310 _ _ ?_
          clear hK310
          refine wp_block ?_
          have d317 := (((((hf79.ext hx151).ext hx179).ext hx225).ext hx244).ext hx292)
          have d318 := (((((hf80.ext hx151).ext hx179).ext hx225).ext hx244).ext hx292)
          have d319 := ((hf229.ext hx244).ext hx292)
          refine wp_loop (fun a' W => ∃ (k : Nat), Sl 185 [(0, (.agg #[(.int .i64 n), (.slice A l.length c)])), (1, (.int .i64 a2)), (2, (.pointer (some ⟨g2, 0, none⟩))), (4, (.bool false)), (19, (.bool false)), (27, (.bool (decide (((chk n l) : Int) ≠ (0 : Int))))), (5, (.slice A60 m61 c62)), (6, (.slice B64 k65 c66)), (7, (.int .i64 er68)), (35, (.bool (decide ((er68 : Int) = (151 : Int))))), (47, (.bool false)), (8, (.slice A216 m217 c218)), (9, (.int .i64 e220)), (10, (.slice A283 m284 c285)), (11, (.int .i64 e287)), (79, (.int .i64 (m61 : Nat))), (80, (.int .i64 (k : Nat)))] a' ∧ k ≤ n.toNat ∧ (∀ i, i < k → ¬ (T t63 0 i = 1152921504606846976 ∨ T t63 i 0 = 1152921504606846976)) ∧ Ext w W ∧ Blk W g2 24 [(.int .i64 n), (.slice A l.length c)] ∧ RIss (Clip (fun b => w41.heap.size ≤ b) w74) W (.slice A60 m61 c62) t63 ∧ Fl (Clip (fun b => w41.heap.size ≤ b) w74) W 1 (.slice B64 k65 c66) k65 (intVals cyc67) ∧ Fl (Clip (fun b => w178.heap.size ≤ b) w224) W 1 (.slice A216 m217 c218) m217 (intVals r219) ∧ Fl (Clip (fun b => w243.heap.size ≤ b) w291) W 1 (.slice A283 m284 c285) m284 (intVals r286) ∧ w291.heap.size ≤ W.heap.size) (fun a' _ => n.toNat - (intOf (a'.eval (.tmp 80))).toNat) ⟨0, (((((((((((((((((hF316.nil.cons (q_get hF316 (t := 80) rfl (by first | rfl | (congr 1; omega) | (congr 1; done)))).cons (q_get hF316 (t := 79) rfl rfl)).cons (q_get hF316 (t := 11) rfl rfl)).cons (q_get hF316 (t := 10) rfl rfl)).cons (q_get hF316 (t := 9) rfl rfl)).cons (q_get hF316 (t := 8) rfl rfl)).cons (q_get hF316 (t := 47) rfl rfl)).cons (q_get hF316 (t := 35) rfl rfl)).cons (q_get hF316 (t := 7) rfl rfl)).cons (q_get hF316 (t := 6) rfl rfl)).cons (q_get hF316 (t := 5) rfl rfl)).cons (q_get hF316 (t := 27) rfl rfl)).cons (q_get hF316 (t := 19) rfl rfl)).cons (q_get hF316 (t := 4) rfl rfl)).cons (q_get hF316 (t := 2) rfl rfl)).cons (q_get hF316 (t := 1) rfl rfl)).cons (q_get hF316 (t := 0) rfl rfl)), (by omega), (fun i hi => absurd hi (by omega)), (((((((((((Ext.refl w).trans hx5).trans hx15).trans hx28).trans hx42).trans hx75).trans hx151).trans hx179).trans hx225).trans hx244).trans hx292), b297, d317, d318, d319, hf296, (Nat.le_refl _)⟩ ?_
          clear hF316
          rintro a320 w321 ⟨k, hF322, hp324, hp325, hx323, b326, hf327, hf328, hf329, hf330, hf331⟩
          have hL332 := hF322
          have z333 := hx323.size
          have z334 := b326.lt
          refine wp_seq_k (fun K335 hK335 => ?_)
          refine wp_region_lit ?_
          refine wpl_op (i := 0) rfl (o_val (v := (.bool (decide (((k : Nat) : Int) < ((m61 : Nat) : Int))))) hF322 rfl rfl rfl rfl (rn_lss (hF322.get rfl) (hF322.get rfl)) ?_)
          intro a336 hF337; clear hF322
          refine wpList_nil ?_
          refine hK335 _ _ ?_
          clear hK335
          refine wp_seq_k (fun K338 hK338 => ?_)
          by_cases hc339 : ((k : Nat) : Int) < ((m61 : Nat) : Int)
          · skip
            refine wp_cond_true (c_true hF337 rfl (decide_eq_true hc339)) ?_
            refine wp_skip ?_
            refine hK338 _ _ ?_
            clear hK338
            refine wp_seq_k (fun K340 hK340 => ?_)
            refine wp_block ?_
            refine wp_seq_k (fun K341 hK341 => ?_)
            refine wp_region_lit ?_
            refine wpl_op (i := 0) rfl (o_val (v := (.int .i64 (k : Nat))) hF337 rfl rfl rfl rfl (rn_move (hF337.get rfl)) ?_)
            intro a342 hF343; clear hF337
            refine wpl_op (i := 1) rfl (o_val (v := (.int .i64 (k : Nat))) hF343 rfl rfl rfl rfl (rn_assign (hF343.get rfl)) ?_)
            intro a344 hF345; clear hF343
            refine wpList_nil ?_
            refine hK341 _ _ ?_
            clear hK341
            refine wp_seq_k (fun K346 hK346 => ?_)
            have hkn : k < n.toNat := by omega
            have hl1 : T t63 0 k = (t63.getD 0 []).getD k 0 := rfl; have hl2 : T t63 k 0 = (t63.getD k []).getD 0 0 := rfl
            refine wp_region_lit ?_
            refine wpl_op (i := 0) rfl (o_val (v := (.slice A60 m61 c62)) hF345 rfl rfl rfl rfl (rn_move (hF345.get rfl)) ?_)
            intro a347 hF348; clear hF345
            obtain ⟨b349, o350, A351, c352, hA353, hl354, hc355, hr356, z357, z358⟩ := RIss.get (i := 0) hf327 (by omega)
            have z359 := hdt.row 0 (by omega)
            refine wpl_op (i := 1) rfl (o_val (v := (.pointer (some ⟨b349, o350 + 0, none⟩))) hF348 rfl rfl rfl rfl (rn_index1 Try.underlying33 (by kernel_rfl : (Try.prog.info? 25).map (·.size) = some 1) ((hF348.get rfl).trans (by rw [hA353])) rfl (by omega : (0 : Int) ≤ 0) (by omega : (0 : Int) < ((m61 : Nat) : Int))) ?_)
            intro a360 hF361; clear hF348
            refine wpl_op (i := 2) rfl (o_val (v := (.slice A351 ((t63.getD 0 []).length) c352)) hF361 rfl rfl rfl rfl (rn_load (isAgg_no Try.underlying25 rfl) (hF361.get rfl) (Ext.keep (Ext.refl w321) hc355)) ?_)
            intro a362 hF363; clear hF361
            refine wpl_op (i := 3) rfl (o_val (v := (.int .i64 (k : Nat))) hF363 rfl rfl rfl rfl (rn_move (hF363.get rfl)) ?_)
            intro a364 hF365; clear hF363
            obtain ⟨b366, o367, hA368, -⟩ := Fl.at hr356 (by omega)
            refine wpl_op (i := 4) rfl (o_val (v := (.pointer (some ⟨b366, o367 + k, none⟩))) hF365 rfl rfl rfl rfl (rn_index1 Try.underlying25 (by kernel_rfl : (Try.prog.info? 3).map (·.size) = some 1) ((hF365.get rfl).trans (by rw [hA368])) (hF365.get rfl) (by omega : (0 : Int) ≤ (k : Nat)) (by omega : ((k : Nat) : Int) < (((t63.getD 0 []).length : Nat) : Int))) ?_)
            intro a369 hF370; clear hF365
            refine wpl_op (i := 5) rfl (o_val (v := (.int .i64 ((t63.getD 0 []).getD k 0))) hF370 rfl rfl rfl rfl (rn_load (isAgg_no Try.underlying3 rfl) (hF370.get rfl) (Fl.cellAt hr356 hA368 (intVals_at (i := k) (by omega)))) ?_)
            intro a371 hF372; clear hF370
            refine wpl_op (i := 6) rfl (o_val (v := (.bool (decide ((((t63.getD 0 []).getD k 0) : Int) = (1152921504606846976 : Int))))) hF372 rfl rfl rfl rfl (rn_eql (hF372.get rfl) rfl) ?_)
            intro a373 hF374; clear hF372
            refine wpl_op (i := 7) rfl (o_val (v := (.bool (decide ((((t63.getD 0 []).getD k 0) : Int) = (1152921504606846976 : Int))))) hF374 rfl rfl rfl rfl (rn_move (hF374.get rfl)) ?_)
            intro a375 hF376; clear hF374
            by_cases hc377 : (((t63.getD 0 []).getD k 0) : Int) = (1152921504606846976 : Int)
            · skip
              refine wpl_op (i := 8) rfl (o_skip hF376 rfl (unwanted_guard rfl rfl rfl hF376 rfl (decide_eq_true hc377) rfl) rfl rfl ?_)
              intro a378 hF379; clear hF376
              refine wpl_op (i := 9) rfl (o_skip hF379 rfl (unwanted_guard rfl rfl rfl hF379 rfl (decide_eq_true hc377) rfl) rfl rfl ?_)
              intro a380 hF381; clear hF379
              refine wpl_op (i := 10) rfl (o_skip hF381 rfl (unwanted_guard rfl rfl rfl hF381 rfl (decide_eq_true hc377) rfl) rfl rfl ?_)
              intro a382 hF383; clear hF381
              refine wpl_op (i := 11) rfl (o_skip hF383 rfl (unwanted_guard rfl rfl rfl hF383 rfl (decide_eq_true hc377) rfl) rfl rfl ?_)
              intro a384 hF385; clear hF383
              refine wpl_op (i := 12) rfl (o_skip hF385 rfl (unwanted_guard rfl rfl rfl hF385 rfl (decide_eq_true hc377) rfl) rfl rfl ?_)
              intro a386 hF387; clear hF385
              refine wpl_op (i := 13) rfl (o_skip hF387 rfl (unwanted_guard rfl rfl rfl hF387 rfl (decide_eq_true hc377) rfl) rfl rfl ?_)
              intro a388 hF389; clear hF387
              refine wpl_op (i := 14) rfl (o_skip hF389 rfl (unwanted_guard rfl rfl rfl hF389 rfl (decide_eq_true hc377) rfl) rfl rfl ?_)
              intro a390 hF391; clear hF389
              refine wpl_op (i := 15) rfl (o_val (v := (.bool true)) hF391 rfl rfl rfl rfl (rn_pickT (c_true hF391 rfl (decide_eq_true hc377)) rfl) ?_)
              intro a392 hF393; clear hF391
              refine wpList_nil ?_
              refine hK346 _ _ ?_
              clear hK346
              have hF394 := ((((((((((((((((((((hF393.nil.cons (hF393.get (t := 98) (v := (.bool true)) rfl)).cons (hF393.get (t := 12) (v := (.int .i64 (k : Nat))) rfl)).cons (hF393.get (t := 81) (v := (.bool (decide (((k : Nat) : Int) < ((m61 : Nat) : Int))))) rfl)).cons (hF393.get (t := 80) (v := (.int .i64 (k : Nat))) rfl)).cons (hF393.get (t := 79) (v := (.int .i64 (m61 : Nat))) rfl)).cons (hF393.get (t := 11) (v := (.int .i64 e287)) rfl)).cons (hF393.get (t := 10) (v := (.slice A283 m284 c285)) rfl)).cons (hF393.get (t := 9) (v := (.int .i64 e220)) rfl)).cons (hF393.get (t := 8) (v := (.slice A216 m217 c218)) rfl)).cons (hF393.get (t := 47) (v := (.bool false)) rfl)).cons (hF393.get (t := 35) (v := (.bool (decide ((er68 : Int) = (151 : Int))))) rfl)).cons (hF393.get (t := 7) (v := (.int .i64 er68)) rfl)).cons (hF393.get (t := 6) (v := (.slice B64 k65 c66)) rfl)).cons (hF393.get (t := 5) (v := (.slice A60 m61 c62)) rfl)).cons (hF393.get (t := 27) (v := (.bool (decide (((chk n l) : Int) ≠ (0 : Int))))) rfl)).cons (hF393.get (t := 19) (v := (.bool false)) rfl)).cons (hF393.get (t := 4) (v := (.bool false)) rfl)).cons (hF393.get (t := 2) (v := (.pointer (some ⟨g2, 0, none⟩))) rfl)).cons (hF393.get (t := 1) (v := (.int .i64 a2)) rfl)).cons (hF393.get (t := 0) (v := (.agg #[(.int .i64 n), (.slice A l.length c)])) rfl))
              clear hF393
              refine wp_cond_true (c_true hF394 rfl rfl) ?_
              refine wp_seq_k (fun K395 hK395 => ?_)
              have hlm : T t63 0 k = 1152921504606846976 ∨ T t63 k 0 = 1152921504606846976 := by omega
              have hg2 := hs222.limit hfar71.1 her0 hmod hkn hlm; have hl3 := hs289.limit hfar71.1 her0 hmod hkn hlm
              refine wp_region_lit ?_
              refine wpl_op (i := 0) rfl (o_val (v := (.int .i64 e220)) hF394 rfl rfl rfl rfl (rn_move (hF394.get rfl)) ?_)
              intro a396 hF397; clear hF394
              refine wpl_op (i := 1) rfl (o_val (v := (.bool (decide ((e220 : Int) = (2 : Int))))) hF397 rfl rfl rfl rfl (rn_eql (hF397.get rfl) rfl) ?_)
              intro a398 hF399; clear hF397
              refine wpl_op (i := 2) rfl (o_val (v := (.bool (decide ((e220 : Int) = (2 : Int))))) hF399 rfl rfl rfl rfl (rn_move (hF399.get rfl)) ?_)
              intro a400 hF401; clear hF399
              by_cases hc402 : (e220 : Int) = (2 : Int)
              · skip
                refine wpl_op (i := 3) rfl (o_val (v := (.int .i64 e287)) hF401 rfl (wanted_guard rfl rfl rfl hF401 rfl (decide_eq_true hc402) rfl) rfl rfl (rn_move (hF401.get rfl)) ?_)
                intro a403 hF404; clear hF401
                refine wpl_op (i := 4) rfl (o_val (v := (.bool (decide ((e287 : Int) = (2 : Int))))) hF404 rfl (wanted_guard rfl rfl rfl hF404 rfl (decide_eq_true hc402) rfl) rfl rfl (rn_eql (hF404.get rfl) rfl) ?_)
                intro a405 hF406; clear hF404
                refine wpl_op (i := 5) rfl (o_val (v := (.bool (decide ((e287 : Int) = (2 : Int))))) hF406 rfl rfl rfl rfl (rn_pickT (c_true hF406 rfl (decide_eq_true hc402)) (hF406.get rfl)) ?_)
                intro a407 hF408; clear hF406
                refine wpl_op (i := 6) rfl (o_val (v := (.bool (decide ((e287 : Int) = (2 : Int))))) hF408 rfl rfl rfl rfl (rn_assign (hF408.get rfl)) ?_)
                intro a409 hF410; clear hF408
                refine wpList_nil ?_
                refine hK395 _ _ ?_
                clear hK395
                have hF411 := ((((((((((((((((((((hF410.nil.cons (hF410.get (t := 98) (v := (.bool true)) rfl)).cons (hF410.get (t := 12) (v := (.int .i64 (k : Nat))) rfl)).cons (hF410.get (t := 81) (v := (.bool (decide (((k : Nat) : Int) < ((m61 : Nat) : Int))))) rfl)).cons (hF410.get (t := 80) (v := (.int .i64 (k : Nat))) rfl)).cons (hF410.get (t := 79) (v := (.int .i64 (m61 : Nat))) rfl)).cons (hF410.get (t := 11) (v := (.int .i64 e287)) rfl)).cons (hF410.get (t := 10) (v := (.slice A283 m284 c285)) rfl)).cons (hF410.get (t := 9) (v := (.int .i64 e220)) rfl)).cons (hF410.get (t := 8) (v := (.slice A216 m217 c218)) rfl)).cons (hF410.get (t := 47) (v := (.bool false)) rfl)).cons (hF410.get (t := 35) (v := (.bool (decide ((er68 : Int) = (151 : Int))))) rfl)).cons (hF410.get (t := 7) (v := (.int .i64 er68)) rfl)).cons (hF410.get (t := 6) (v := (.slice B64 k65 c66)) rfl)).cons (hF410.get (t := 5) (v := (.slice A60 m61 c62)) rfl)).cons (hF410.get (t := 27) (v := (.bool (decide (((chk n l) : Int) ≠ (0 : Int))))) rfl)).cons (hF410.get (t := 19) (v := (.bool false)) rfl)).cons (hF410.get (t := 4) (v := (.bool (decide ((e287 : Int) = (2 : Int))))) rfl)).cons (hF410.get (t := 2) (v := (.pointer (some ⟨g2, 0, none⟩))) rfl)).cons (hF410.get (t := 1) (v := (.int .i64 a2)) rfl)).cons (hF410.get (t := 0) (v := (.agg #[(.int .i64 n), (.slice A l.length c)])) rfl))
                clear hF410
                refine wp_ret ?_
                refine ret_block ?_
                refine ret_then ?_
                refine ret_then ?_
                refine ret_block ?_
                refine ret_then ?_
                refine ret1 hF411 rfl rfl ?_
                exact ⟨by rw [show (decide ((e287 : Int) = (2 : Int))) = true from decide_eq_true (by omega)], ((Ext.refl w).trans hx323)⟩
              · skip
                refine wpl_op (i := 3) rfl (o_skip hF401 rfl (unwanted_guard rfl rfl rfl hF401 rfl (decide_eq_false hc402) rfl) rfl rfl ?_)
                intro a412 hF413; clear hF401
                refine wpl_op (i := 4) rfl (o_skip hF413 rfl (unwanted_guard rfl rfl rfl hF413 rfl (decide_eq_false hc402) rfl) rfl rfl ?_)
                intro a414 hF415; clear hF413
                refine wpl_op (i := 5) rfl (o_val (v := (.bool false)) hF415 rfl rfl rfl rfl (rn_pickF (c_false hF415 rfl (decide_eq_false hc402)) rfl) ?_)
                intro a416 hF417; clear hF415
                refine wpl_op (i := 6) rfl (o_val (v := (.bool false)) hF417 rfl rfl rfl rfl (rn_assign (hF417.get rfl)) ?_)
                intro a418 hF419; clear hF417
                refine wpList_nil ?_
                refine hK395 _ _ ?_
                clear hK395
                have hF420 := ((((((((((((((((((((hF419.nil.cons (hF419.get (t := 98) (v := (.bool true)) rfl)).cons (hF419.get (t := 12) (v := (.int .i64 (k : Nat))) rfl)).cons (hF419.get (t := 81) (v := (.bool (decide (((k : Nat) : Int) < ((m61 : Nat) : Int))))) rfl)).cons (hF419.get (t := 80) (v := (.int .i64 (k : Nat))) rfl)).cons (hF419.get (t := 79) (v := (.int .i64 (m61 : Nat))) rfl)).cons (hF419.get (t := 11) (v := (.int .i64 e287)) rfl)).cons (hF419.get (t := 10) (v := (.slice A283 m284 c285)) rfl)).cons (hF419.get (t := 9) (v := (.int .i64 e220)) rfl)).cons (hF419.get (t := 8) (v := (.slice A216 m217 c218)) rfl)).cons (hF419.get (t := 47) (v := (.bool false)) rfl)).cons (hF419.get (t := 35) (v := (.bool (decide ((er68 : Int) = (151 : Int))))) rfl)).cons (hF419.get (t := 7) (v := (.int .i64 er68)) rfl)).cons (hF419.get (t := 6) (v := (.slice B64 k65 c66)) rfl)).cons (hF419.get (t := 5) (v := (.slice A60 m61 c62)) rfl)).cons (hF419.get (t := 27) (v := (.bool (decide (((chk n l) : Int) ≠ (0 : Int))))) rfl)).cons (hF419.get (t := 19) (v := (.bool false)) rfl)).cons (hF419.get (t := 4) (v := (.bool false)) rfl)).cons (hF419.get (t := 2) (v := (.pointer (some ⟨g2, 0, none⟩))) rfl)).cons (hF419.get (t := 1) (v := (.int .i64 a2)) rfl)).cons (hF419.get (t := 0) (v := (.agg #[(.int .i64 n), (.slice A l.length c)])) rfl))
                clear hF419
                refine wp_ret ?_
                refine ret_block ?_
                refine ret_then ?_
                refine ret_then ?_
                refine ret_block ?_
                refine ret_then ?_
                refine ret1 hF420 rfl rfl ?_
                exfalso; omega
            · skip
              refine wpl_op (i := 8) rfl (o_val (v := (.slice A60 m61 c62)) hF376 rfl (wanted_guard rfl rfl rfl hF376 rfl (decide_eq_false hc377) rfl) rfl rfl (rn_move (hF376.get rfl)) ?_)
              intro a421 hF422; clear hF376
              refine wpl_op (i := 9) rfl (o_val (v := (.int .i64 (k : Nat))) hF422 rfl (wanted_guard rfl rfl rfl hF422 rfl (decide_eq_false hc377) rfl) rfl rfl (rn_move (hF422.get rfl)) ?_)
              intro a423 hF424; clear hF422
              obtain ⟨b425, o426, A427, c428, hA429, hl430, hc431, hr432, z433, z434⟩ := RIss.get (i := k) hf327 (by omega)
              have z435 := hdt.row k (by omega)
              refine wpl_op (i := 10) rfl (o_val (v := (.pointer (some ⟨b425, o426 + k, none⟩))) hF424 rfl (wanted_guard rfl rfl rfl hF424 rfl (decide_eq_false hc377) rfl) rfl rfl (rn_index1 Try.underlying33 (by kernel_rfl : (Try.prog.info? 25).map (·.size) = some 1) ((hF424.get rfl).trans (by rw [hA429])) (hF424.get rfl) (by omega : (0 : Int) ≤ (k : Nat)) (by omega : ((k : Nat) : Int) < ((m61 : Nat) : Int))) ?_)
              intro a436 hF437; clear hF424
              refine wpl_op (i := 11) rfl (o_val (v := (.slice A427 ((t63.getD k []).length) c428)) hF437 rfl (wanted_guard rfl rfl rfl hF437 rfl (decide_eq_false hc377) rfl) rfl rfl (rn_load (isAgg_no Try.underlying25 rfl) (hF437.get rfl) (Ext.keep (Ext.refl w321) hc431)) ?_)
              intro a438 hF439; clear hF437
              obtain ⟨b440, o441, hA442, -⟩ := Fl.at hr432 (by omega)
              refine wpl_op (i := 12) rfl (o_val (v := (.pointer (some ⟨b440, o441 + 0, none⟩))) hF439 rfl (wanted_guard rfl rfl rfl hF439 rfl (decide_eq_false hc377) rfl) rfl rfl (rn_index1 Try.underlying25 (by kernel_rfl : (Try.prog.info? 3).map (·.size) = some 1) ((hF439.get rfl).trans (by rw [hA442])) rfl (by omega : (0 : Int) ≤ 0) (by omega : (0 : Int) < (((t63.getD k []).length : Nat) : Int))) ?_)
              intro a443 hF444; clear hF439
              refine wpl_op (i := 13) rfl (o_val (v := (.int .i64 ((t63.getD k []).getD 0 0))) hF444 rfl (wanted_guard rfl rfl rfl hF444 rfl (decide_eq_false hc377) rfl) rfl rfl (rn_load (isAgg_no Try.underlying3 rfl) (hF444.get rfl) (Fl.cellAt hr432 hA442 (intVals_at (i := 0) (by omega)))) ?_)
              intro a445 hF446; clear hF444
              refine wpl_op (i := 14) rfl (o_val (v := (.bool (decide ((((t63.getD k []).getD 0 0) : Int) = (1152921504606846976 : Int))))) hF446 rfl (wanted_guard rfl rfl rfl hF446 rfl (decide_eq_false hc377) rfl) rfl rfl (rn_eql (hF446.get rfl) rfl) ?_)
              intro a447 hF448; clear hF446
              refine wpl_op (i := 15) rfl (o_val (v := (.bool (decide ((((t63.getD k []).getD 0 0) : Int) = (1152921504606846976 : Int))))) hF448 rfl rfl rfl rfl (rn_pickF (c_false hF448 rfl (decide_eq_false hc377)) (hF448.get rfl)) ?_)
              intro a449 hF450; clear hF448
              refine wpList_nil ?_
              refine hK346 _ _ ?_
              clear hK346
              have hF451 := ((((((((((((((((((((hF450.nil.cons (hF450.get (t := 98) (v := (.bool (decide ((((t63.getD k []).getD 0 0) : Int) = (1152921504606846976 : Int))))) rfl)).cons (hF450.get (t := 12) (v := (.int .i64 (k : Nat))) rfl)).cons (hF450.get (t := 81) (v := (.bool (decide (((k : Nat) : Int) < ((m61 : Nat) : Int))))) rfl)).cons (hF450.get (t := 80) (v := (.int .i64 (k : Nat))) rfl)).cons (hF450.get (t := 79) (v := (.int .i64 (m61 : Nat))) rfl)).cons (hF450.get (t := 11) (v := (.int .i64 e287)) rfl)).cons (hF450.get (t := 10) (v := (.slice A283 m284 c285)) rfl)).cons (hF450.get (t := 9) (v := (.int .i64 e220)) rfl)).cons (hF450.get (t := 8) (v := (.slice A216 m217 c218)) rfl)).cons (hF450.get (t := 47) (v := (.bool false)) rfl)).cons (hF450.get (t := 35) (v := (.bool (decide ((er68 : Int) = (151 : Int))))) rfl)).cons (hF450.get (t := 7) (v := (.int .i64 er68)) rfl)).cons (hF450.get (t := 6) (v := (.slice B64 k65 c66)) rfl)).cons (hF450.get (t := 5) (v := (.slice A60 m61 c62)) rfl)).cons (hF450.get (t := 27) (v := (.bool (decide (((chk n l) : Int) ≠ (0 : Int))))) rfl)).cons (hF450.get (t := 19) (v := (.bool false)) rfl)).cons (hF450.get (t := 4) (v := (.bool false)) rfl)).cons (hF450.get (t := 2) (v := (.pointer (some ⟨g2, 0, none⟩))) rfl)).cons (hF450.get (t := 1) (v := (.int .i64 a2)) rfl)).cons (hF450.get (t := 0) (v := (.agg #[(.int .i64 n), (.slice A l.length c)])) rfl))
              clear hF450
              by_cases hc452 : (((t63.getD k []).getD 0 0) : Int) = (1152921504606846976 : Int)
              · skip
                refine wp_cond_true (c_true hF451 rfl (decide_eq_true hc452)) ?_
                refine wp_seq_k (fun K453 hK453 => ?_)
                have hlm : T t63 0 k = 1152921504606846976 ∨ T t63 k 0 = 1152921504606846976 := by omega
                have hg2 := hs222.limit hfar71.1 her0 hmod hkn hlm; have hl3 := hs289.limit hfar71.1 her0 hmod hkn hlm
                refine wp_region_lit ?_
                refine wpl_op (i := 0) rfl (o_val (v := (.int .i64 e220)) hF451 rfl rfl rfl rfl (rn_move (hF451.get rfl)) ?_)
                intro a454 hF455; clear hF451
                refine wpl_op (i := 1) rfl (o_val (v := (.bool (decide ((e220 : Int) = (2 : Int))))) hF455 rfl rfl rfl rfl (rn_eql (hF455.get rfl) rfl) ?_)
                intro a456 hF457; clear hF455
                refine wpl_op (i := 2) rfl (o_val (v := (.bool (decide ((e220 : Int) = (2 : Int))))) hF457 rfl rfl rfl rfl (rn_move (hF457.get rfl)) ?_)
                intro a458 hF459; clear hF457
                by_cases hc460 : (e220 : Int) = (2 : Int)
                · skip
                  refine wpl_op (i := 3) rfl (o_val (v := (.int .i64 e287)) hF459 rfl (wanted_guard rfl rfl rfl hF459 rfl (decide_eq_true hc460) rfl) rfl rfl (rn_move (hF459.get rfl)) ?_)
                  intro a461 hF462; clear hF459
                  refine wpl_op (i := 4) rfl (o_val (v := (.bool (decide ((e287 : Int) = (2 : Int))))) hF462 rfl (wanted_guard rfl rfl rfl hF462 rfl (decide_eq_true hc460) rfl) rfl rfl (rn_eql (hF462.get rfl) rfl) ?_)
                  intro a463 hF464; clear hF462
                  refine wpl_op (i := 5) rfl (o_val (v := (.bool (decide ((e287 : Int) = (2 : Int))))) hF464 rfl rfl rfl rfl (rn_pickT (c_true hF464 rfl (decide_eq_true hc460)) (hF464.get rfl)) ?_)
                  intro a465 hF466; clear hF464
                  refine wpl_op (i := 6) rfl (o_val (v := (.bool (decide ((e287 : Int) = (2 : Int))))) hF466 rfl rfl rfl rfl (rn_assign (hF466.get rfl)) ?_)
                  intro a467 hF468; clear hF466
                  refine wpList_nil ?_
                  refine hK453 _ _ ?_
                  clear hK453
                  have hF469 := ((((((((((((((((((((hF468.nil.cons (hF468.get (t := 98) (v := (.bool (decide ((((t63.getD k []).getD 0 0) : Int) = (1152921504606846976 : Int))))) rfl)).cons (hF468.get (t := 12) (v := (.int .i64 (k : Nat))) rfl)).cons (hF468.get (t := 81) (v := (.bool (decide (((k : Nat) : Int) < ((m61 : Nat) : Int))))) rfl)).cons (hF468.get (t := 80) (v := (.int .i64 (k : Nat))) rfl)).cons (hF468.get (t := 79) (v := (.int .i64 (m61 : Nat))) rfl)).cons (hF468.get (t := 11) (v := (.int .i64 e287)) rfl)).cons (hF468.get (t := 10) (v := (.slice A283 m284 c285)) rfl)).cons (hF468.get (t := 9) (v := (.int .i64 e220)) rfl)).cons (hF468.get (t := 8) (v := (.slice A216 m217 c218)) rfl)).cons (hF468.get (t := 47) (v := (.bool false)) rfl)).cons (hF468.get (t := 35) (v := (.bool (decide ((er68 : Int) = (151 : Int))))) rfl)).cons (hF468.get (t := 7) (v := (.int .i64 er68)) rfl)).cons (hF468.get (t := 6) (v := (.slice B64 k65 c66)) rfl)).cons (hF468.get (t := 5) (v := (.slice A60 m61 c62)) rfl)).cons (hF468.get (t := 27) (v := (.bool (decide (((chk n l) : Int) ≠ (0 : Int))))) rfl)).cons (hF468.get (t := 19) (v := (.bool false)) rfl)).cons (hF468.get (t := 4) (v := (.bool (decide ((e287 : Int) = (2 : Int))))) rfl)).cons (hF468.get (t := 2) (v := (.pointer (some ⟨g2, 0, none⟩))) rfl)).cons (hF468.get (t := 1) (v := (.int .i64 a2)) rfl)).cons (hF468.get (t := 0) (v := (.agg #[(.int .i64 n), (.slice A l.length c)])) rfl))
                  clear hF468
                  refine wp_ret ?_
                  refine ret_block ?_
                  refine ret_then ?_
                  refine ret_then ?_
                  refine ret_block ?_
                  refine ret_then ?_
                  refine ret1 hF469 rfl rfl ?_
                  exact ⟨by rw [show (decide ((e287 : Int) = (2 : Int))) = true from decide_eq_true (by omega)], ((Ext.refl w).trans hx323)⟩
                · skip
                  refine wpl_op (i := 3) rfl (o_skip hF459 rfl (unwanted_guard rfl rfl rfl hF459 rfl (decide_eq_false hc460) rfl) rfl rfl ?_)
                  intro a470 hF471; clear hF459
                  refine wpl_op (i := 4) rfl (o_skip hF471 rfl (unwanted_guard rfl rfl rfl hF471 rfl (decide_eq_false hc460) rfl) rfl rfl ?_)
                  intro a472 hF473; clear hF471
                  refine wpl_op (i := 5) rfl (o_val (v := (.bool false)) hF473 rfl rfl rfl rfl (rn_pickF (c_false hF473 rfl (decide_eq_false hc460)) rfl) ?_)
                  intro a474 hF475; clear hF473
                  refine wpl_op (i := 6) rfl (o_val (v := (.bool false)) hF475 rfl rfl rfl rfl (rn_assign (hF475.get rfl)) ?_)
                  intro a476 hF477; clear hF475
                  refine wpList_nil ?_
                  refine hK453 _ _ ?_
                  clear hK453
                  have hF478 := ((((((((((((((((((((hF477.nil.cons (hF477.get (t := 98) (v := (.bool (decide ((((t63.getD k []).getD 0 0) : Int) = (1152921504606846976 : Int))))) rfl)).cons (hF477.get (t := 12) (v := (.int .i64 (k : Nat))) rfl)).cons (hF477.get (t := 81) (v := (.bool (decide (((k : Nat) : Int) < ((m61 : Nat) : Int))))) rfl)).cons (hF477.get (t := 80) (v := (.int .i64 (k : Nat))) rfl)).cons (hF477.get (t := 79) (v := (.int .i64 (m61 : Nat))) rfl)).cons (hF477.get (t := 11) (v := (.int .i64 e287)) rfl)).cons (hF477.get (t := 10) (v := (.slice A283 m284 c285)) rfl)).cons (hF477.get (t := 9) (v := (.int .i64 e220)) rfl)).cons (hF477.get (t := 8) (v := (.slice A216 m217 c218)) rfl)).cons (hF477.get (t := 47) (v := (.bool false)) rfl)).cons (hF477.get (t := 35) (v := (.bool (decide ((er68 : Int) = (151 : Int))))) rfl)).cons (hF477.get (t := 7) (v := (.int .i64 er68)) rfl)).cons (hF477.get (t := 6) (v := (.slice B64 k65 c66)) rfl)).cons (hF477.get (t := 5) (v := (.slice A60 m61 c62)) rfl)).cons (hF477.get (t := 27) (v := (.bool (decide (((chk n l) : Int) ≠ (0 : Int))))) rfl)).cons (hF477.get (t := 19) (v := (.bool false)) rfl)).cons (hF477.get (t := 4) (v := (.bool false)) rfl)).cons (hF477.get (t := 2) (v := (.pointer (some ⟨g2, 0, none⟩))) rfl)).cons (hF477.get (t := 1) (v := (.int .i64 a2)) rfl)).cons (hF477.get (t := 0) (v := (.agg #[(.int .i64 n), (.slice A l.length c)])) rfl))
                  clear hF477
                  refine wp_ret ?_
                  refine ret_block ?_
                  refine ret_then ?_
                  refine ret_then ?_
                  refine ret_block ?_
                  refine ret_then ?_
                  refine ret1 hF478 rfl rfl ?_
                  exfalso; omega
              · skip
                refine wp_cond_false (c_false hF451 rfl (decide_eq_false hc452)) ?_
                refine wp_skip ?_
                refine hK340 _ _ ?_
                clear hK340
                refine wp_region_lit ?_
                refine wpl_op (i := 0) rfl (o_val (v := (.int .i64 (k + 1 : Nat))) hF451 rfl rfl rfl rfl (rn_addN (a := k) (b := 1) (hF451.get rfl) rfl (by omega)) ?_)
                intro a479 hF480; clear hF451
                refine wpl_op (i := 1) rfl (o_val (v := (.int .i64 (k + 1 : Nat))) hF480 rfl rfl rfl rfl (rn_move (hF480.get rfl)) ?_)
                intro a481 hF482; clear hF480
                refine wpList_nil ?_
                refine ⟨⟨(k + 1), (((((((((((((((((hF482.nil.cons (q_get hF482 (t := 80) rfl (by first | rfl | (congr 1; omega) | (congr 1; done)))).cons (q_get hF482 (t := 79) rfl rfl)).cons (q_get hF482 (t := 11) rfl rfl)).cons (q_get hF482 (t := 10) rfl rfl)).cons (q_get hF482 (t := 9) rfl rfl)).cons (q_get hF482 (t := 8) rfl rfl)).cons (q_get hF482 (t := 47) rfl rfl)).cons (q_get hF482 (t := 35) rfl rfl)).cons (q_get hF482 (t := 7) rfl rfl)).cons (q_get hF482 (t := 6) rfl rfl)).cons (q_get hF482 (t := 5) rfl rfl)).cons (q_get hF482 (t := 27) rfl rfl)).cons (q_get hF482 (t := 19) rfl rfl)).cons (q_get hF482 (t := 4) rfl rfl)).cons (q_get hF482 (t := 2) rfl rfl)).cons (q_get hF482 (t := 1) rfl rfl)).cons (q_get hF482 (t := 0) rfl rfl)), (by omega), (upto_step hp325 (by omega)), ((Ext.refl w).trans hx323), b326, hf327, hf328, hf329, hf330, (by omega)⟩, ?_⟩
                rw [hF482.get (t := 80) rfl, hL332.get (t := 80) rfl]; simp [intOf] <;> omega
          · skip
            refine wp_cond_false (c_false hF337 rfl (decide_eq_false hc339)) ?_
            refine wp_exit ?_
            refine exit_then ?_
            refine exit_then ?_
            refine exit_here ?_
            refine hK309 _ _ ?_
            clear hK309
            refine wp_seq_k (fun K483 hK483 => ?_)
            have hall : ∀ i, i < n.toNat → ¬ (T t63 0 i = 1152921504606846976 ∨ T t63 i 0 = 1152921504606846976) := fun i hi => hp325 i (by omega)
            obtain ⟨hfull, hends, h00⟩ := hdt.ends hvo hng hall hmod
            have e1 : T t63 0 a2.toNat = (t63.getD 0 []).getD a2.toNat 0 := rfl; have e2 : T t63 a2.toNat 0 = (t63.getD a2.toNat []).getD 0 0 := rfl
            obtain ⟨hg1, hg2⟩ := hs222.good hfar71.1 her0 hmod hall (by omega); obtain ⟨hl1, hl2⟩ := hs289.good hfar71.1 her0 hmod hall (by omega)
            have hh1 : hld n l r219 = true := by rw [hg2]; exact great_holds hdt hvo hfull hmod
            have hh2 : hld n l r286 = true := by rw [hl2]; exact least_holds hdt hvo hfull hmod
            have hlen1 : r219.length = n.toNat := by rw [hg2, greatL_len]
            have hlen2 : r286.length = n.toNat := by rw [hl2, leastL_len]
            refine wp_region_lit ?_
            refine wpl_op (i := 0) rfl (o_val (v := (.agg #[(.int .i64 n), (.slice A l.length c)])) hF337 rfl rfl rfl rfl (rn_loadBlk (hF337.get rfl) b326 Try.underlying24 rfl (by kernel_rfl : (Try.prog.info? 24).map (·.size) = some 2)) ?_)
            intro a484 hF485; clear hF337
            refine wpl_op (i := 1) rfl (o_val (v := (.slice A216 m217 c218)) hF485 rfl rfl rfl rfl (rn_move (hF485.get rfl)) ?_)
            intro a486 hF487; clear hF485
            have d488 := (hc.ext hx323)
            refine wpl_op (i := 2) rfl (o_call hF487 rfl rfl rfl rfl (rn_call (args2 (hF487.get rfl) (hF487.get rfl)) rfl (by kernel_rfl)) (bholds_at (u := (.slice A l.length c)) (z := (.slice A216 m217 c218)) n l r219 _ d488 hf329) ?_)
            rintro _ w489 ⟨rfl, hx490⟩
            refine ⟨_, rfl, ?_⟩; intro a491 hF492; clear hF487; have z493 := hx490.size
            refine wpl_op (i := 3) rfl (o_val (v := (.tuple #[(.bool (hld n l r219)), (.int .i64 (chk n l))])) hF492 rfl rfl rfl rfl (rn_move (hF492.get rfl)) ?_)
            intro a494 hF495; clear hF492
            refine wpl_op (i := 4) rfl (o_val (v := (.bool (hld n l r219))) hF495 rfl rfl rfl rfl (rn_extract (hF495.get rfl) rfl) ?_)
            intro a496 hF497; clear hF495
            refine wpl_op (i := 5) rfl (o_val (v := (.int .i64 (chk n l))) hF497 rfl rfl rfl rfl (rn_extract (hF497.get rfl) rfl) ?_)
            intro a498 hF499; clear hF497
            refine wpl_op (i := 6) rfl (o_val (v := (.bool (hld n l r219))) hF499 rfl rfl rfl rfl (rn_assign (hF499.get rfl)) ?_)
            intro a500 hF501; clear hF499
            refine wpl_op (i := 7) rfl (o_val (v := (.int .i64 (chk n l))) hF501 rfl rfl rfl rfl (rn_assign (hF501.get rfl)) ?_)
            intro a502 hF503; clear hF501
            refine wpList_nil ?_
            refine hK483 _ _ ?_
            clear hK483
            have hF504 := ((((((((((((((((((((hF503.nil.cons (hF503.get (t := 14) (v := (.int .i64 (chk n l))) rfl)).cons (hF503.get (t := 13) (v := (.bool (hld n l r219))) rfl)).cons (hF503.get (t := 81) (v := (.bool (decide (((k : Nat) : Int) < ((m61 : Nat) : Int))))) rfl)).cons (hF503.get (t := 80) (v := (.int .i64 (k : Nat))) rfl)).cons (hF503.get (t := 79) (v := (.int .i64 (m61 : Nat))) rfl)).cons (hF503.get (t := 11) (v := (.int .i64 e287)) rfl)).cons (hF503.get (t := 10) (v := (.slice A283 m284 c285)) rfl)).cons (hF503.get (t := 9) (v := (.int .i64 e220)) rfl)).cons (hF503.get (t := 8) (v := (.slice A216 m217 c218)) rfl)).cons (hF503.get (t := 47) (v := (.bool false)) rfl)).cons (hF503.get (t := 35) (v := (.bool (decide ((er68 : Int) = (151 : Int))))) rfl)).cons (hF503.get (t := 7) (v := (.int .i64 er68)) rfl)).cons (hF503.get (t := 6) (v := (.slice B64 k65 c66)) rfl)).cons (hF503.get (t := 5) (v := (.slice A60 m61 c62)) rfl)).cons (hF503.get (t := 27) (v := (.bool (decide (((chk n l) : Int) ≠ (0 : Int))))) rfl)).cons (hF503.get (t := 19) (v := (.bool false)) rfl)).cons (hF503.get (t := 4) (v := (.bool false)) rfl)).cons (hF503.get (t := 2) (v := (.pointer (some ⟨g2, 0, none⟩))) rfl)).cons (hF503.get (t := 1) (v := (.int .i64 a2)) rfl)).cons (hF503.get (t := 0) (v := (.agg #[(.int .i64 n), (.slice A l.length c)])) rfl))
            clear hF503
            refine wp_seq_k (fun K505 hK505 => ?_)
            refine wp_region_lit ?_
            have b506 : Blk w489 g2 24 [(.int .i64 n), (.slice A l.length c)] := (b326.ext hx490)
            refine wpl_op (i := 0) rfl (o_val (v := (.agg #[(.int .i64 n), (.slice A l.length c)])) hF504 rfl rfl rfl rfl (rn_loadBlk (hF504.get rfl) b506 Try.underlying24 rfl (by kernel_rfl : (Try.prog.info? 24).map (·.size) = some 2)) ?_)
            intro a507 hF508; clear hF504
            refine wpl_op (i := 1) rfl (o_val (v := (.slice A283 m284 c285)) hF508 rfl rfl rfl rfl (rn_move (hF508.get rfl)) ?_)
            intro a509 hF510; clear hF508
            have d511 := ((hc.ext hx323).ext hx490)
            have d512 := (hf330.ext hx490)
            refine wpl_op (i := 2) rfl (o_call hF510 rfl rfl rfl rfl (rn_call (args2 (hF510.get rfl) (hF510.get rfl)) rfl (by kernel_rfl)) (bholds_at (u := (.slice A l.length c)) (z := (.slice A283 m284 c285)) n l r286 _ d511 d512) ?_)
            rintro _ w513 ⟨rfl, hx514⟩
            refine ⟨_, rfl, ?_⟩; intro a515 hF516; clear hF510; have z517 := hx514.size
            refine wpl_op (i := 3) rfl (o_val (v := (.tuple #[(.bool (hld n l r286)), (.int .i64 (chk n l))])) hF516 rfl rfl rfl rfl (rn_move (hF516.get rfl)) ?_)
            intro a518 hF519; clear hF516
            refine wpl_op (i := 4) rfl (o_val (v := (.bool (hld n l r286))) hF519 rfl rfl rfl rfl (rn_extract (hF519.get rfl) rfl) ?_)
            intro a520 hF521; clear hF519
            refine wpl_op (i := 5) rfl (o_val (v := (.int .i64 (chk n l))) hF521 rfl rfl rfl rfl (rn_extract (hF521.get rfl) rfl) ?_)
            intro a522 hF523; clear hF521
            refine wpl_op (i := 6) rfl (o_val (v := (.bool (hld n l r286))) hF523 rfl rfl rfl rfl (rn_assign (hF523.get rfl)) ?_)
            intro a524 hF525; clear hF523
            refine wpl_op (i := 7) rfl (o_val (v := (.int .i64 (chk n l))) hF525 rfl rfl rfl rfl (rn_assign (hF525.get rfl)) ?_)
            intro a526 hF527; clear hF525
            refine wpList_nil ?_
            refine hK505 _ _ ?_
            clear hK505
            have hF528 := ((((((((((((((((((((((hF527.nil.cons (hF527.get (t := 16) (v := (.int .i64 (chk n l))) rfl)).cons (hF527.get (t := 15) (v := (.bool (hld n l r286))) rfl)).cons (hF527.get (t := 14) (v := (.int .i64 (chk n l))) rfl)).cons (hF527.get (t := 13) (v := (.bool (hld n l r219))) rfl)).cons (hF527.get (t := 81) (v := (.bool (decide (((k : Nat) : Int) < ((m61 : Nat) : Int))))) rfl)).cons (hF527.get (t := 80) (v := (.int .i64 (k : Nat))) rfl)).cons (hF527.get (t := 79) (v := (.int .i64 (m61 : Nat))) rfl)).cons (hF527.get (t := 11) (v := (.int .i64 e287)) rfl)).cons (hF527.get (t := 10) (v := (.slice A283 m284 c285)) rfl)).cons (hF527.get (t := 9) (v := (.int .i64 e220)) rfl)).cons (hF527.get (t := 8) (v := (.slice A216 m217 c218)) rfl)).cons (hF527.get (t := 47) (v := (.bool false)) rfl)).cons (hF527.get (t := 35) (v := (.bool (decide ((er68 : Int) = (151 : Int))))) rfl)).cons (hF527.get (t := 7) (v := (.int .i64 er68)) rfl)).cons (hF527.get (t := 6) (v := (.slice B64 k65 c66)) rfl)).cons (hF527.get (t := 5) (v := (.slice A60 m61 c62)) rfl)).cons (hF527.get (t := 27) (v := (.bool (decide (((chk n l) : Int) ≠ (0 : Int))))) rfl)).cons (hF527.get (t := 19) (v := (.bool false)) rfl)).cons (hF527.get (t := 4) (v := (.bool false)) rfl)).cons (hF527.get (t := 2) (v := (.pointer (some ⟨g2, 0, none⟩))) rfl)).cons (hF527.get (t := 1) (v := (.int .i64 a2)) rfl)).cons (hF527.get (t := 0) (v := (.agg #[(.int .i64 n), (.slice A l.length c)])) rfl))
            clear hF527
            refine wp_seq_k (fun K529 hK529 => ?_)
            refine wp_seq_k (fun K530 hK530 => ?_)
            refine wp_region_lit ?_
            refine wpl_op (i := 0) rfl (o_val (v := (.int .i64 e220)) hF528 rfl rfl rfl rfl (rn_move (hF528.get rfl)) ?_)
            intro a531 hF532; clear hF528
            refine wpl_op (i := 1) rfl (o_val (v := (.bool (decide ((e220 : Int) ≠ (0 : Int))))) hF532 rfl rfl rfl rfl (rn_neq (hF532.get rfl) rfl) ?_)
            intro a533 hF534; clear hF532
            refine wpl_op (i := 2) rfl (o_val (v := (.bool (decide ((e220 : Int) ≠ (0 : Int))))) hF534 rfl rfl rfl rfl (rn_move (hF534.get rfl)) ?_)
            intro a535 hF536; clear hF534
            by_cases hc537 : (e220 : Int) ≠ (0 : Int)
            · skip
              refine wpl_op (i := 3) rfl (o_skip hF536 rfl (unwanted_guard rfl rfl rfl hF536 rfl (decide_eq_true hc537) rfl) rfl rfl ?_)
              intro a538 hF539; clear hF536
              refine wpl_op (i := 4) rfl (o_skip hF539 rfl (unwanted_guard rfl rfl rfl hF539 rfl (decide_eq_true hc537) rfl) rfl rfl ?_)
              intro a540 hF541; clear hF539
              refine wpl_op (i := 5) rfl (o_val (v := (.bool true)) hF541 rfl rfl rfl rfl (rn_pickT (c_true hF541 rfl (decide_eq_true hc537)) rfl) ?_)
              intro a542 hF543; clear hF541
              refine wpl_op (i := 6) rfl (o_val (v := (.bool true)) hF543 rfl rfl rfl rfl (rn_move (hF543.get rfl)) ?_)
              intro a544 hF545; clear hF543
              refine wpl_op (i := 7) rfl (o_skip hF545 rfl (unwanted_guard rfl rfl rfl hF545 rfl rfl rfl) rfl rfl ?_)
              intro a546 hF547; clear hF545
              refine wpl_op (i := 8) rfl (o_skip hF547 rfl (unwanted_guard rfl rfl rfl hF547 rfl rfl rfl) rfl rfl ?_)
              intro a548 hF549; clear hF547
              refine wpl_op (i := 9) rfl (o_val (v := (.bool true)) hF549 rfl rfl rfl rfl (rn_pickT (c_true hF549 rfl rfl) rfl) ?_)
              intro a550 hF551; clear hF549
              refine wpl_op (i := 10) rfl (o_val (v := (.bool true)) hF551 rfl rfl rfl rfl (rn_move (hF551.get rfl)) ?_)
              intro a552 hF553; clear hF551
              refine wpl_op (i := 11) rfl (o_skip hF553 rfl (unwanted_guard rfl rfl rfl hF553 rfl rfl rfl) rfl rfl ?_)
              intro a554 hF555; clear hF553
              refine wpl_op (i := 12) rfl (o_skip hF555 rfl (unwanted_guard rfl rfl rfl hF555 rfl rfl rfl) rfl rfl ?_)
              intro a556 hF557; clear hF555
              refine wpl_op (i := 13) rfl (o_val (v := (.bool true)) hF557 rfl rfl rfl rfl (rn_pickT (c_true hF557 rfl rfl) rfl) ?_)
              intro a558 hF559; clear hF557
              refine wpl_op (i := 14) rfl (o_val (v := (.bool true)) hF559 rfl rfl rfl rfl (rn_move (hF559.get rfl)) ?_)
              intro a560 hF561; clear hF559
              refine wpl_op (i := 15) rfl (o_skip hF561 rfl (unwanted_guard rfl rfl rfl hF561 rfl rfl rfl) rfl rfl ?_)
              intro a562 hF563; clear hF561
              refine wpl_op (i := 16) rfl (o_skip hF563 rfl (unwanted_guard rfl rfl rfl hF563 rfl rfl rfl) rfl rfl ?_)
              intro a564 hF565; clear hF563
              refine wpl_op (i := 17) rfl (o_val (v := (.bool true)) hF565 rfl rfl rfl rfl (rn_pickT (c_true hF565 rfl rfl) rfl) ?_)
              intro a566 hF567; clear hF565
              refine wpl_op (i := 18) rfl (o_val (v := (.bool true)) hF567 rfl rfl rfl rfl (rn_move (hF567.get rfl)) ?_)
              intro a568 hF569; clear hF567
              refine wpl_op (i := 19) rfl (o_skip hF569 rfl (unwanted_guard rfl rfl rfl hF569 rfl rfl rfl) rfl rfl ?_)
              intro a570 hF571; clear hF569
              refine wpl_op (i := 20) rfl (o_skip hF571 rfl (unwanted_guard rfl rfl rfl hF571 rfl rfl rfl) rfl rfl ?_)
              intro a572 hF573; clear hF571
              refine wpl_op (i := 21) rfl (o_val (v := (.bool true)) hF573 rfl rfl rfl rfl (rn_pickT (c_true hF573 rfl rfl) rfl) ?_)
              intro a574 hF575; clear hF573
              refine wpl_op (i := 22) rfl (o_val (v := (.bool true)) hF575 rfl rfl rfl rfl (rn_move (hF575.get rfl)) ?_)
              intro a576 hF577; clear hF575
              refine wpl_op (i := 23) rfl (o_skip hF577 rfl (unwanted_guard rfl rfl rfl hF577 rfl rfl rfl) rfl rfl ?_)
              intro a578 hF579; clear hF577
              refine wpl_op (i := 24) rfl (o_skip hF579 rfl (unwanted_guard rfl rfl rfl hF579 rfl rfl rfl) rfl rfl ?_)
              intro a580 hF581; clear hF579
              refine wpl_op (i := 25) rfl (o_skip hF581 rfl (unwanted_guard rfl rfl rfl hF581 rfl rfl rfl) rfl rfl ?_)
              intro a582 hF583; clear hF581
              refine wpl_op (i := 26) rfl (o_skip hF583 rfl (unwanted_guard rfl rfl rfl hF583 rfl rfl rfl) rfl rfl ?_)
              intro a584 hF585; clear hF583
              refine wpl_op (i := 27) rfl (o_skip hF585 rfl (unwanted_guard rfl rfl rfl hF585 rfl rfl rfl) rfl rfl ?_)
              intro a586 hF587; clear hF585
              refine wpl_op (i := 28) rfl (o_val (v := (.bool true)) hF587 rfl rfl rfl rfl (rn_pickT (c_true hF587 rfl rfl) rfl) ?_)
              intro a588 hF589; clear hF587
              refine wpl_op (i := 29) rfl (o_val (v := (.bool true)) hF589 rfl rfl rfl rfl (rn_move (hF589.get rfl)) ?_)
              intro a590 hF591; clear hF589
              refine wpl_op (i := 30) rfl (o_skip hF591 rfl (unwanted_guard rfl rfl rfl hF591 rfl rfl rfl) rfl rfl ?_)
              intro a592 hF593; clear hF591
              refine wpl_op (i := 31) rfl (o_skip hF593 rfl (unwanted_guard rfl rfl rfl hF593 rfl rfl rfl) rfl rfl ?_)
              intro a594 hF595; clear hF593
              refine wpl_op (i := 32) rfl (o_skip hF595 rfl (unwanted_guard rfl rfl rfl hF595 rfl rfl rfl) rfl rfl ?_)
              intro a596 hF597; clear hF595
              refine wpl_op (i := 33) rfl (o_skip hF597 rfl (unwanted_guard rfl rfl rfl hF597 rfl rfl rfl) rfl rfl ?_)
              intro a598 hF599; clear hF597
              refine wpl_op (i := 34) rfl (o_skip hF599 rfl (unwanted_guard rfl rfl rfl hF599 rfl rfl rfl) rfl rfl ?_)
              intro a600 hF601; clear hF599
              refine wpl_op (i := 35) rfl (o_val (v := (.bool true)) hF601 rfl rfl rfl rfl (rn_pickT (c_true hF601 rfl rfl) rfl) ?_)
              intro a602 hF603; clear hF601
              refine wpList_nil ?_
              refine hK530 _ _ ?_
              clear hK530
              have hF604 := (((((((((((((((((((((((hF603.nil.cons (hF603.get (t := 153) (v := (.bool true)) rfl)).cons (hF603.get (t := 16) (v := (.int .i64 (chk n l))) rfl)).cons (hF603.get (t := 15) (v := (.bool (hld n l r286))) rfl)).cons (hF603.get (t := 14) (v := (.int .i64 (chk n l))) rfl)).cons (hF603.get (t := 13) (v := (.bool (hld n l r219))) rfl)).cons (hF603.get (t := 81) (v := (.bool (decide (((k : Nat) : Int) < ((m61 : Nat) : Int))))) rfl)).cons (hF603.get (t := 80) (v := (.int .i64 (k : Nat))) rfl)).cons (hF603.get (t := 79) (v := (.int .i64 (m61 : Nat))) rfl)).cons (hF603.get (t := 11) (v := (.int .i64 e287)) rfl)).cons (hF603.get (t := 10) (v := (.slice A283 m284 c285)) rfl)).cons (hF603.get (t := 9) (v := (.int .i64 e220)) rfl)).cons (hF603.get (t := 8) (v := (.slice A216 m217 c218)) rfl)).cons (hF603.get (t := 47) (v := (.bool false)) rfl)).cons (hF603.get (t := 35) (v := (.bool (decide ((er68 : Int) = (151 : Int))))) rfl)).cons (hF603.get (t := 7) (v := (.int .i64 er68)) rfl)).cons (hF603.get (t := 6) (v := (.slice B64 k65 c66)) rfl)).cons (hF603.get (t := 5) (v := (.slice A60 m61 c62)) rfl)).cons (hF603.get (t := 27) (v := (.bool (decide (((chk n l) : Int) ≠ (0 : Int))))) rfl)).cons (hF603.get (t := 19) (v := (.bool false)) rfl)).cons (hF603.get (t := 4) (v := (.bool false)) rfl)).cons (hF603.get (t := 2) (v := (.pointer (some ⟨g2, 0, none⟩))) rfl)).cons (hF603.get (t := 1) (v := (.int .i64 a2)) rfl)).cons (hF603.get (t := 0) (v := (.agg #[(.int .i64 n), (.slice A l.length c)])) rfl))
              clear hF603
              refine wp_cond_true (c_true hF604 rfl rfl) ?_
              refine wp_seq_k (fun K605 hK605 => ?_)
              refine wp_region_lit ?_
              refine wpl_op (i := 0) rfl (o_val (v := (.bool false)) hF604 rfl rfl rfl rfl (rn_assign rfl) ?_)
              intro a606 hF607; clear hF604
              refine wpList_nil ?_
              refine hK605 _ _ ?_
              clear hK605
              refine wp_ret ?_
              refine ret_then ?_
              refine ret1 hF607 rfl rfl ?_
              exfalso; omega
            · skip
              refine wpl_op (i := 3) rfl (o_val (v := (.int .i64 e287)) hF536 rfl (wanted_guard rfl rfl rfl hF536 rfl (decide_eq_false hc537) rfl) rfl rfl (rn_move (hF536.get rfl)) ?_)
              intro a608 hF609; clear hF536
              refine wpl_op (i := 4) rfl (o_val (v := (.bool (decide ((e287 : Int) ≠ (0 : Int))))) hF609 rfl (wanted_guard rfl rfl rfl hF609 rfl (decide_eq_false hc537) rfl) rfl rfl (rn_neq (hF609.get rfl) rfl) ?_)
              intro a610 hF611; clear hF609
              refine wpl_op (i := 5) rfl (o_val (v := (.bool (decide ((e287 : Int) ≠ (0 : Int))))) hF611 rfl rfl rfl rfl (rn_pickF (c_false hF611 rfl (decide_eq_false hc537)) (hF611.get rfl)) ?_)
              intro a612 hF613; clear hF611
              refine wpl_op (i := 6) rfl (o_val (v := (.bool (decide ((e287 : Int) ≠ (0 : Int))))) hF613 rfl rfl rfl rfl (rn_move (hF613.get rfl)) ?_)
              intro a614 hF615; clear hF613
              by_cases hc616 : (e287 : Int) ≠ (0 : Int)
              · skip
                refine wpl_op (i := 7) rfl (o_skip hF615 rfl (unwanted_guard rfl rfl rfl hF615 rfl (decide_eq_true hc616) rfl) rfl rfl ?_)
                intro a617 hF618; clear hF615
                refine wpl_op (i := 8) rfl (o_skip hF618 rfl (unwanted_guard rfl rfl rfl hF618 rfl (decide_eq_true hc616) rfl) rfl rfl ?_)
                intro a619 hF620; clear hF618
                refine wpl_op (i := 9) rfl (o_val (v := (.bool true)) hF620 rfl rfl rfl rfl (rn_pickT (c_true hF620 rfl (decide_eq_true hc616)) rfl) ?_)
                intro a621 hF622; clear hF620
                refine wpl_op (i := 10) rfl (o_val (v := (.bool true)) hF622 rfl rfl rfl rfl (rn_move (hF622.get rfl)) ?_)
                intro a623 hF624; clear hF622
                refine wpl_op (i := 11) rfl (o_skip hF624 rfl (unwanted_guard rfl rfl rfl hF624 rfl rfl rfl) rfl rfl ?_)
                intro a625 hF626; clear hF624
                refine wpl_op (i := 12) rfl (o_skip hF626 rfl (unwanted_guard rfl rfl rfl hF626 rfl rfl rfl) rfl rfl ?_)
                intro a627 hF628; clear hF626
                refine wpl_op (i := 13) rfl (o_val (v := (.bool true)) hF628 rfl rfl rfl rfl (rn_pickT (c_true hF628 rfl rfl) rfl) ?_)
                intro a629 hF630; clear hF628
                refine wpl_op (i := 14) rfl (o_val (v := (.bool true)) hF630 rfl rfl rfl rfl (rn_move (hF630.get rfl)) ?_)
                intro a631 hF632; clear hF630
                refine wpl_op (i := 15) rfl (o_skip hF632 rfl (unwanted_guard rfl rfl rfl hF632 rfl rfl rfl) rfl rfl ?_)
                intro a633 hF634; clear hF632
                refine wpl_op (i := 16) rfl (o_skip hF634 rfl (unwanted_guard rfl rfl rfl hF634 rfl rfl rfl) rfl rfl ?_)
                intro a635 hF636; clear hF634
                refine wpl_op (i := 17) rfl (o_val (v := (.bool true)) hF636 rfl rfl rfl rfl (rn_pickT (c_true hF636 rfl rfl) rfl) ?_)
                intro a637 hF638; clear hF636
                refine wpl_op (i := 18) rfl (o_val (v := (.bool true)) hF638 rfl rfl rfl rfl (rn_move (hF638.get rfl)) ?_)
                intro a639 hF640; clear hF638
                refine wpl_op (i := 19) rfl (o_skip hF640 rfl (unwanted_guard rfl rfl rfl hF640 rfl rfl rfl) rfl rfl ?_)
                intro a641 hF642; clear hF640
                refine wpl_op (i := 20) rfl (o_skip hF642 rfl (unwanted_guard rfl rfl rfl hF642 rfl rfl rfl) rfl rfl ?_)
                intro a643 hF644; clear hF642
                refine wpl_op (i := 21) rfl (o_val (v := (.bool true)) hF644 rfl rfl rfl rfl (rn_pickT (c_true hF644 rfl rfl) rfl) ?_)
                intro a645 hF646; clear hF644
                refine wpl_op (i := 22) rfl (o_val (v := (.bool true)) hF646 rfl rfl rfl rfl (rn_move (hF646.get rfl)) ?_)
                intro a647 hF648; clear hF646
                refine wpl_op (i := 23) rfl (o_skip hF648 rfl (unwanted_guard rfl rfl rfl hF648 rfl rfl rfl) rfl rfl ?_)
                intro a649 hF650; clear hF648
                refine wpl_op (i := 24) rfl (o_skip hF650 rfl (unwanted_guard rfl rfl rfl hF650 rfl rfl rfl) rfl rfl ?_)
                intro a651 hF652; clear hF650
                refine wpl_op (i := 25) rfl (o_skip hF652 rfl (unwanted_guard rfl rfl rfl hF652 rfl rfl rfl) rfl rfl ?_)
                intro a653 hF654; clear hF652
                refine wpl_op (i := 26) rfl (o_skip hF654 rfl (unwanted_guard rfl rfl rfl hF654 rfl rfl rfl) rfl rfl ?_)
                intro a655 hF656; clear hF654
                refine wpl_op (i := 27) rfl (o_skip hF656 rfl (unwanted_guard rfl rfl rfl hF656 rfl rfl rfl) rfl rfl ?_)
                intro a657 hF658; clear hF656
                refine wpl_op (i := 28) rfl (o_val (v := (.bool true)) hF658 rfl rfl rfl rfl (rn_pickT (c_true hF658 rfl rfl) rfl) ?_)
                intro a659 hF660; clear hF658
                refine wpl_op (i := 29) rfl (o_val (v := (.bool true)) hF660 rfl rfl rfl rfl (rn_move (hF660.get rfl)) ?_)
                intro a661 hF662; clear hF660
                refine wpl_op (i := 30) rfl (o_skip hF662 rfl (unwanted_guard rfl rfl rfl hF662 rfl rfl rfl) rfl rfl ?_)
                intro a663 hF664; clear hF662
                refine wpl_op (i := 31) rfl (o_skip hF664 rfl (unwanted_guard rfl rfl rfl hF664 rfl rfl rfl) rfl rfl ?_)
                intro a665 hF666; clear hF664
                refine wpl_op (i := 32) rfl (o_skip hF666 rfl (unwanted_guard rfl rfl rfl hF666 rfl rfl rfl) rfl rfl ?_)
                intro a667 hF668; clear hF666
                refine wpl_op (i := 33) rfl (o_skip hF668 rfl (unwanted_guard rfl rfl rfl hF668 rfl rfl rfl) rfl rfl ?_)
                intro a669 hF670; clear hF668
                refine wpl_op (i := 34) rfl (o_skip hF670 rfl (unwanted_guard rfl rfl rfl hF670 rfl rfl rfl) rfl rfl ?_)
                intro a671 hF672; clear hF670
                refine wpl_op (i := 35) rfl (o_val (v := (.bool true)) hF672 rfl rfl rfl rfl (rn_pickT (c_true hF672 rfl rfl) rfl) ?_)
                intro a673 hF674; clear hF672
                refine wpList_nil ?_
                refine hK530 _ _ ?_
                clear hK530
                have hF675 := (((((((((((((((((((((((hF674.nil.cons (hF674.get (t := 153) (v := (.bool true)) rfl)).cons (hF674.get (t := 16) (v := (.int .i64 (chk n l))) rfl)).cons (hF674.get (t := 15) (v := (.bool (hld n l r286))) rfl)).cons (hF674.get (t := 14) (v := (.int .i64 (chk n l))) rfl)).cons (hF674.get (t := 13) (v := (.bool (hld n l r219))) rfl)).cons (hF674.get (t := 81) (v := (.bool (decide (((k : Nat) : Int) < ((m61 : Nat) : Int))))) rfl)).cons (hF674.get (t := 80) (v := (.int .i64 (k : Nat))) rfl)).cons (hF674.get (t := 79) (v := (.int .i64 (m61 : Nat))) rfl)).cons (hF674.get (t := 11) (v := (.int .i64 e287)) rfl)).cons (hF674.get (t := 10) (v := (.slice A283 m284 c285)) rfl)).cons (hF674.get (t := 9) (v := (.int .i64 e220)) rfl)).cons (hF674.get (t := 8) (v := (.slice A216 m217 c218)) rfl)).cons (hF674.get (t := 47) (v := (.bool false)) rfl)).cons (hF674.get (t := 35) (v := (.bool (decide ((er68 : Int) = (151 : Int))))) rfl)).cons (hF674.get (t := 7) (v := (.int .i64 er68)) rfl)).cons (hF674.get (t := 6) (v := (.slice B64 k65 c66)) rfl)).cons (hF674.get (t := 5) (v := (.slice A60 m61 c62)) rfl)).cons (hF674.get (t := 27) (v := (.bool (decide (((chk n l) : Int) ≠ (0 : Int))))) rfl)).cons (hF674.get (t := 19) (v := (.bool false)) rfl)).cons (hF674.get (t := 4) (v := (.bool false)) rfl)).cons (hF674.get (t := 2) (v := (.pointer (some ⟨g2, 0, none⟩))) rfl)).cons (hF674.get (t := 1) (v := (.int .i64 a2)) rfl)).cons (hF674.get (t := 0) (v := (.agg #[(.int .i64 n), (.slice A l.length c)])) rfl))
                clear hF674
                refine wp_cond_true (c_true hF675 rfl rfl) ?_
                refine wp_seq_k (fun K676 hK676 => ?_)
                refine wp_region_lit ?_
                refine wpl_op (i := 0) rfl (o_val (v := (.bool false)) hF675 rfl rfl rfl rfl (rn_assign rfl) ?_)
                intro a677 hF678; clear hF675
                refine wpList_nil ?_
                refine hK676 _ _ ?_
                clear hK676
                refine wp_ret ?_
                refine ret_then ?_
                refine ret1 hF678 rfl rfl ?_
                exfalso; omega
              · skip
                refine wpl_op (i := 7) rfl (o_val (v := (.int .i64 (chk n l))) hF615 rfl (wanted_guard rfl rfl rfl hF615 rfl (decide_eq_false hc616) rfl) rfl rfl (rn_move (hF615.get rfl)) ?_)
                intro a679 hF680; clear hF615
                refine wpl_op (i := 8) rfl (o_val (v := (.bool (decide (((chk n l) : Int) ≠ (0 : Int))))) hF680 rfl (wanted_guard rfl rfl rfl hF680 rfl (decide_eq_false hc616) rfl) rfl rfl (rn_neq (hF680.get rfl) rfl) ?_)
                intro a681 hF682; clear hF680
                refine wpl_op (i := 9) rfl (o_val (v := (.bool (decide (((chk n l) : Int) ≠ (0 : Int))))) hF682 rfl rfl rfl rfl (rn_pickF (c_false hF682 rfl (decide_eq_false hc616)) (hF682.get rfl)) ?_)
                intro a683 hF684; clear hF682
                refine wpl_op (i := 10) rfl (o_val (v := (.bool (decide (((chk n l) : Int) ≠ (0 : Int))))) hF684 rfl rfl rfl rfl (rn_move (hF684.get rfl)) ?_)
                intro a685 hF686; clear hF684
                refine wpl_op (i := 11) rfl (o_val (v := (.int .i64 (chk n l))) hF686 rfl (wanted_guard rfl rfl rfl hF686 rfl (decide_eq_false hc51) rfl) rfl rfl (rn_move (hF686.get rfl)) ?_)
                intro a687 hF688; clear hF686
                refine wpl_op (i := 12) rfl (o_val (v := (.bool (decide (((chk n l) : Int) ≠ (0 : Int))))) hF688 rfl (wanted_guard rfl rfl rfl hF688 rfl (decide_eq_false hc51) rfl) rfl rfl (rn_neq (hF688.get rfl) rfl) ?_)
                intro a689 hF690; clear hF688
                refine wpl_op (i := 13) rfl (o_val (v := (.bool (decide (((chk n l) : Int) ≠ (0 : Int))))) hF690 rfl rfl rfl rfl (rn_pickF (c_false hF690 rfl (decide_eq_false hc51)) (hF690.get rfl)) ?_)
                intro a691 hF692; clear hF690
                refine wpl_op (i := 14) rfl (o_val (v := (.bool (decide (((chk n l) : Int) ≠ (0 : Int))))) hF692 rfl rfl rfl rfl (rn_move (hF692.get rfl)) ?_)
                intro a693 hF694; clear hF692
                refine wpl_op (i := 15) rfl (o_val (v := (.bool (hld n l r219))) hF694 rfl (wanted_guard rfl rfl rfl hF694 rfl (decide_eq_false hc51) rfl) rfl rfl (rn_move (hF694.get rfl)) ?_)
                intro a695 hF696; clear hF694
                refine wpl_op (i := 16) rfl (o_val (v := (.bool (!(hld n l r219)))) hF696 rfl (wanted_guard rfl rfl rfl hF696 rfl (decide_eq_false hc51) rfl) rfl rfl (rn_not' (hF696.get rfl) rfl) ?_)
                intro a697 hF698; clear hF696
                refine wpl_op (i := 17) rfl (o_val (v := (.bool (!(hld n l r219)))) hF698 rfl rfl rfl rfl (rn_pickF (c_false hF698 rfl (decide_eq_false hc51)) (hF698.get rfl)) ?_)
                intro a699 hF700; clear hF698
                refine wpl_op (i := 18) rfl (o_val (v := (.bool (!(hld n l r219)))) hF700 rfl rfl rfl rfl (rn_move (hF700.get rfl)) ?_)
                intro a701 hF702; clear hF700
                refine wpl_op (i := 19) rfl (o_val (v := (.bool (hld n l r286))) hF702 rfl (wanted_guard rfl rfl rfl hF702 rfl (not_t (hh1 : hld n l r219 = true)) rfl) rfl rfl (rn_move (hF702.get rfl)) ?_)
                intro a704 hF705; clear hF702
                refine wpl_op (i := 20) rfl (o_val (v := (.bool (!(hld n l r286)))) hF705 rfl (wanted_guard rfl rfl rfl hF705 rfl (not_t (hh1 : hld n l r219 = true)) rfl) rfl rfl (rn_not' (hF705.get rfl) rfl) ?_)
                intro a706 hF707; clear hF705
                refine wpl_op (i := 21) rfl (o_val (v := (.bool (!(hld n l r286)))) hF707 rfl rfl rfl rfl (rn_pickF (c_false hF707 rfl (not_t (hh1 : hld n l r219 = true))) (hF707.get rfl)) ?_)
                intro a708 hF709; clear hF707
                refine wpl_op (i := 22) rfl (o_val (v := (.bool (!(hld n l r286)))) hF709 rfl rfl rfl rfl (rn_move (hF709.get rfl)) ?_)
                intro a710 hF711; clear hF709
                refine wpl_op (i := 23) rfl (o_val (v := (.slice A216 m217 c218)) hF711 rfl (wanted_guard rfl rfl rfl hF711 rfl (not_t (hh2 : hld n l r286 = true)) rfl) rfl rfl (rn_move (hF711.get rfl)) ?_)
                intro a713 hF714; clear hF711
                refine wpl_op (i := 24) rfl (o_val (v := (.int .i64 (m217 : Nat))) hF714 rfl (wanted_guard rfl rfl rfl hF714 rfl (not_t (hh2 : hld n l r286 = true)) rfl) rfl rfl (rn_len_slice Try.underlying25 (hF714.get rfl)) ?_)
                intro a715 hF716; clear hF714
                refine wpl_op (i := 25) rfl (o_val (v := (.slice A60 m61 c62)) hF716 rfl (wanted_guard rfl rfl rfl hF716 rfl (not_t (hh2 : hld n l r286 = true)) rfl) rfl rfl (rn_move (hF716.get rfl)) ?_)
                intro a717 hF718; clear hF716
                refine wpl_op (i := 26) rfl (o_val (v := (.int .i64 (m61 : Nat))) hF718 rfl (wanted_guard rfl rfl rfl hF718 rfl (not_t (hh2 : hld n l r286 = true)) rfl) rfl rfl (rn_len_slice Try.underlying33 (hF718.get rfl)) ?_)
                intro a719 hF720; clear hF718
                refine wpl_op (i := 27) rfl (o_val (v := (.bool (decide (((m217 : Nat) : Int) ≠ ((m61 : Nat) : Int))))) hF720 rfl (wanted_guard rfl rfl rfl hF720 rfl (not_t (hh2 : hld n l r286 = true)) rfl) rfl rfl (rn_neq (hF720.get rfl) (hF720.get rfl)) ?_)
                intro a721 hF722; clear hF720
                refine wpl_op (i := 28) rfl (o_val (v := (.bool (decide (((m217 : Nat) : Int) ≠ ((m61 : Nat) : Int))))) hF722 rfl rfl rfl rfl (rn_pickF (c_false hF722 rfl (not_t (hh2 : hld n l r286 = true))) (hF722.get rfl)) ?_)
                intro a723 hF724; clear hF722
                refine wpl_op (i := 29) rfl (o_val (v := (.bool (decide (((m217 : Nat) : Int) ≠ ((m61 : Nat) : Int))))) hF724 rfl rfl rfl rfl (rn_move (hF724.get rfl)) ?_)
                intro a725 hF726; clear hF724
                by_cases hc727 : ((m217 : Nat) : Int) ≠ ((m61 : Nat) : Int)
                · skip
                  refine wpl_op (i := 30) rfl (o_skip hF726 rfl (unwanted_guard rfl rfl rfl hF726 rfl (decide_eq_true hc727) rfl) rfl rfl ?_)
                  intro a728 hF729; clear hF726
                  refine wpl_op (i := 31) rfl (o_skip hF729 rfl (unwanted_guard rfl rfl rfl hF729 rfl (decide_eq_true hc727) rfl) rfl rfl ?_)
                  intro a730 hF731; clear hF729
                  refine wpl_op (i := 32) rfl (o_skip hF731 rfl (unwanted_guard rfl rfl rfl hF731 rfl (decide_eq_true hc727) rfl) rfl rfl ?_)
                  intro a732 hF733; clear hF731
                  refine wpl_op (i := 33) rfl (o_skip hF733 rfl (unwanted_guard rfl rfl rfl hF733 rfl (decide_eq_true hc727) rfl) rfl rfl ?_)
                  intro a734 hF735; clear hF733
                  refine wpl_op (i := 34) rfl (o_skip hF735 rfl (unwanted_guard rfl rfl rfl hF735 rfl (decide_eq_true hc727) rfl) rfl rfl ?_)
                  intro a736 hF737; clear hF735
                  refine wpl_op (i := 35) rfl (o_val (v := (.bool true)) hF737 rfl rfl rfl rfl (rn_pickT (c_true hF737 rfl (decide_eq_true hc727)) rfl) ?_)
                  intro a738 hF739; clear hF737
                  refine wpList_nil ?_
                  refine hK530 _ _ ?_
                  clear hK530
                  have hF740 := (((((((((((((((((((((((hF739.nil.cons (hF739.get (t := 153) (v := (.bool true)) rfl)).cons (hF739.get (t := 16) (v := (.int .i64 (chk n l))) rfl)).cons (hF739.get (t := 15) (v := (.bool (hld n l r286))) rfl)).cons (hF739.get (t := 14) (v := (.int .i64 (chk n l))) rfl)).cons (hF739.get (t := 13) (v := (.bool (hld n l r219))) rfl)).cons (hF739.get (t := 81) (v := (.bool (decide (((k : Nat) : Int) < ((m61 : Nat) : Int))))) rfl)).cons (hF739.get (t := 80) (v := (.int .i64 (k : Nat))) rfl)).cons (hF739.get (t := 79) (v := (.int .i64 (m61 : Nat))) rfl)).cons (hF739.get (t := 11) (v := (.int .i64 e287)) rfl)).cons (hF739.get (t := 10) (v := (.slice A283 m284 c285)) rfl)).cons (hF739.get (t := 9) (v := (.int .i64 e220)) rfl)).cons (hF739.get (t := 8) (v := (.slice A216 m217 c218)) rfl)).cons (hF739.get (t := 47) (v := (.bool false)) rfl)).cons (hF739.get (t := 35) (v := (.bool (decide ((er68 : Int) = (151 : Int))))) rfl)).cons (hF739.get (t := 7) (v := (.int .i64 er68)) rfl)).cons (hF739.get (t := 6) (v := (.slice B64 k65 c66)) rfl)).cons (hF739.get (t := 5) (v := (.slice A60 m61 c62)) rfl)).cons (hF739.get (t := 27) (v := (.bool (decide (((chk n l) : Int) ≠ (0 : Int))))) rfl)).cons (hF739.get (t := 19) (v := (.bool false)) rfl)).cons (hF739.get (t := 4) (v := (.bool false)) rfl)).cons (hF739.get (t := 2) (v := (.pointer (some ⟨g2, 0, none⟩))) rfl)).cons (hF739.get (t := 1) (v := (.int .i64 a2)) rfl)).cons (hF739.get (t := 0) (v := (.agg #[(.int .i64 n), (.slice A l.length c)])) rfl))
                  clear hF739
                  refine wp_cond_true (c_true hF740 rfl rfl) ?_
                  refine wp_seq_k (fun K741 hK741 => ?_)
                  refine wp_region_lit ?_
                  refine wpl_op (i := 0) rfl (o_val (v := (.bool false)) hF740 rfl rfl rfl rfl (rn_assign rfl) ?_)
                  intro a742 hF743; clear hF740
                  refine wpList_nil ?_
                  refine hK741 _ _ ?_
                  clear hK741
                  refine wp_ret ?_
                  refine ret_then ?_
                  refine ret1 hF743 rfl rfl ?_
                  exfalso; omega
                · skip
                  refine wpl_op (i := 30) rfl (o_val (v := (.slice A283 m284 c285)) hF726 rfl (wanted_guard rfl rfl rfl hF726 rfl (decide_eq_false hc727) rfl) rfl rfl (rn_move (hF726.get rfl)) ?_)
                  intro a744 hF745; clear hF726
                  refine wpl_op (i := 31) rfl (o_val (v := (.int .i64 (m284 : Nat))) hF745 rfl (wanted_guard rfl rfl rfl hF745 rfl (decide_eq_false hc727) rfl) rfl rfl (rn_len_slice Try.underlying25 (hF745.get rfl)) ?_)
                  intro a746 hF747; clear hF745
                  refine wpl_op (i := 32) rfl (o_val (v := (.slice A60 m61 c62)) hF747 rfl (wanted_guard rfl rfl rfl hF747 rfl (decide_eq_false hc727) rfl) rfl rfl (rn_move (hF747.get rfl)) ?_)
                  intro a748 hF749; clear hF747
                  refine wpl_op (i := 33) rfl (o_val (v := (.int .i64 (m61 : Nat))) hF749 rfl (wanted_guard rfl rfl rfl hF749 rfl (decide_eq_false hc727) rfl) rfl rfl (rn_len_slice Try.underlying33 (hF749.get rfl)) ?_)
                  intro a750 hF751; clear hF749
                  refine wpl_op (i := 34) rfl (o_val (v := (.bool (decide (((m284 : Nat) : Int) ≠ ((m61 : Nat) : Int))))) hF751 rfl (wanted_guard rfl rfl rfl hF751 rfl (decide_eq_false hc727) rfl) rfl rfl (rn_neq (hF751.get rfl) (hF751.get rfl)) ?_)
                  intro a752 hF753; clear hF751
                  refine wpl_op (i := 35) rfl (o_val (v := (.bool (decide (((m284 : Nat) : Int) ≠ ((m61 : Nat) : Int))))) hF753 rfl rfl rfl rfl (rn_pickF (c_false hF753 rfl (decide_eq_false hc727)) (hF753.get rfl)) ?_)
                  intro a754 hF755; clear hF753
                  refine wpList_nil ?_
                  refine hK530 _ _ ?_
                  clear hK530
                  have hF756 := (((((((((((((((((((((((hF755.nil.cons (hF755.get (t := 153) (v := (.bool (decide (((m284 : Nat) : Int) ≠ ((m61 : Nat) : Int))))) rfl)).cons (hF755.get (t := 16) (v := (.int .i64 (chk n l))) rfl)).cons (hF755.get (t := 15) (v := (.bool (hld n l r286))) rfl)).cons (hF755.get (t := 14) (v := (.int .i64 (chk n l))) rfl)).cons (hF755.get (t := 13) (v := (.bool (hld n l r219))) rfl)).cons (hF755.get (t := 81) (v := (.bool (decide (((k : Nat) : Int) < ((m61 : Nat) : Int))))) rfl)).cons (hF755.get (t := 80) (v := (.int .i64 (k : Nat))) rfl)).cons (hF755.get (t := 79) (v := (.int .i64 (m61 : Nat))) rfl)).cons (hF755.get (t := 11) (v := (.int .i64 e287)) rfl)).cons (hF755.get (t := 10) (v := (.slice A283 m284 c285)) rfl)).cons (hF755.get (t := 9) (v := (.int .i64 e220)) rfl)).cons (hF755.get (t := 8) (v := (.slice A216 m217 c218)) rfl)).cons (hF755.get (t := 47) (v := (.bool false)) rfl)).cons (hF755.get (t := 35) (v := (.bool (decide ((er68 : Int) = (151 : Int))))) rfl)).cons (hF755.get (t := 7) (v := (.int .i64 er68)) rfl)).cons (hF755.get (t := 6) (v := (.slice B64 k65 c66)) rfl)).cons (hF755.get (t := 5) (v := (.slice A60 m61 c62)) rfl)).cons (hF755.get (t := 27) (v := (.bool (decide (((chk n l) : Int) ≠ (0 : Int))))) rfl)).cons (hF755.get (t := 19) (v := (.bool false)) rfl)).cons (hF755.get (t := 4) (v := (.bool false)) rfl)).cons (hF755.get (t := 2) (v := (.pointer (some ⟨g2, 0, none⟩))) rfl)).cons (hF755.get (t := 1) (v := (.int .i64 a2)) rfl)).cons (hF755.get (t := 0) (v := (.agg #[(.int .i64 n), (.slice A l.length c)])) rfl))
                  clear hF755
                  by_cases hc757 : ((m284 : Nat) : Int) ≠ ((m61 : Nat) : Int)
                  · skip
                    refine wp_cond_true (c_true hF756 rfl (decide_eq_true hc757)) ?_
                    refine wp_seq_k (fun K758 hK758 => ?_)
                    refine wp_region_lit ?_
                    refine wpl_op (i := 0) rfl (o_val (v := (.bool false)) hF756 rfl rfl rfl rfl (rn_assign rfl) ?_)
                    intro a759 hF760; clear hF756
                    refine wpList_nil ?_
                    refine hK758 _ _ ?_
                    clear hK758
                    refine wp_ret ?_
                    refine ret_then ?_
                    refine ret1 hF760 rfl rfl ?_
                    exfalso; omega
                  · skip
                    refine wp_cond_false (c_false hF756 rfl (decide_eq_false hc757)) ?_
                    refine wp_skip ?_
                    refine hK529 _ _ ?_
                    clear hK529
                    refine wp_seq_k (fun K761 hK761 => ?_)
                    refine wp_seq_k (fun K762 hK762 => ?_)
                    refine wp_region_lit ?_
                    refine wpl_op (i := 0) rfl (o_val (v := (.slice A60 m61 c62)) hF756 rfl rfl rfl rfl (rn_move (hF756.get rfl)) ?_)
                    intro a763 hF764; clear hF756
                    refine wpl_op (i := 1) rfl (o_val (v := (.int .i64 (m61 : Nat))) hF764 rfl rfl rfl rfl (rn_len_slice Try.underlying33 (hF764.get rfl)) ?_)
                    intro a765 hF766; clear hF764
                    refine wpl_op (i := 2) rfl (o_val (v := (.int .i64 0)) hF766 rfl rfl rfl rfl (rn_move rfl) ?_)
                    intro a767 hF768; clear hF766
                    refine wpList_nil ?_
                    refine hK762 _ _ ?_
                    clear hK762
                    refine wp_block ?_
                    have d769 := ((hf327.ext hx490).ext hx514)
                    have d770 := ((hf328.ext hx490).ext hx514)
                    have d771 := ((hf329.ext hx490).ext hx514)
                    have d772 := ((hf330.ext hx490).ext hx514)
                    have b773 : Blk w513 g2 24 [(.int .i64 n), (.slice A l.length c)] := (b506.ext hx514)
                    refine wp_loop (fun a' W => ∃ (k2 : Nat), Sl 185 [(0, (.agg #[(.int .i64 n), (.slice A l.length c)])), (1, (.int .i64 a2)), (2, (.pointer (some ⟨g2, 0, none⟩))), (4, (.bool false)), (19, (.bool false)), (27, (.bool (decide (((chk n l) : Int) ≠ (0 : Int))))), (5, (.slice A60 m61 c62)), (6, (.slice B64 k65 c66)), (7, (.int .i64 er68)), (35, (.bool (decide ((er68 : Int) = (151 : Int))))), (47, (.bool false)), (8, (.slice A216 m217 c218)), (9, (.int .i64 e220)), (10, (.slice A283 m284 c285)), (11, (.int .i64 e287)), (79, (.int .i64 (m61 : Nat))), (80, (.int .i64 (k : Nat))), (81, (.bool (decide (((k : Nat) : Int) < ((m61 : Nat) : Int))))), (13, (.bool (hld n l r219))), (14, (.int .i64 (chk n l))), (15, (.bool (hld n l r286))), (16, (.int .i64 (chk n l))), (153, (.bool (decide (((m284 : Nat) : Int) ≠ ((m61 : Nat) : Int))))), (155, (.int .i64 (m61 : Nat))), (156, (.int .i64 (k2 : Nat)))] a' ∧ k2 ≤ n.toNat ∧ Ext w W ∧ Blk W g2 24 [(.int .i64 n), (.slice A l.length c)] ∧ RIss (Clip (fun b => w41.heap.size ≤ b) w74) W (.slice A60 m61 c62) t63 ∧ Fl (Clip (fun b => w41.heap.size ≤ b) w74) W 1 (.slice B64 k65 c66) k65 (intVals cyc67) ∧ Fl (Clip (fun b => w178.heap.size ≤ b) w224) W 1 (.slice A216 m217 c218) m217 (intVals r219) ∧ Fl (Clip (fun b => w243.heap.size ≤ b) w291) W 1 (.slice A283 m284 c285) m284 (intVals r286) ∧ w513.heap.size ≤ W.heap.size) (fun a' _ => n.toNat - (intOf (a'.eval (.tmp 156))).toNat) ⟨0, (((((((((((((((((((((((((hF768.nil.cons (q_get hF768 (t := 156) rfl (by first | rfl | (congr 1; omega) | (congr 1; done)))).cons (q_get hF768 (t := 155) rfl rfl)).cons (q_get hF768 (t := 153) rfl rfl)).cons (q_get hF768 (t := 16) rfl rfl)).cons (q_get hF768 (t := 15) rfl rfl)).cons (q_get hF768 (t := 14) rfl rfl)).cons (q_get hF768 (t := 13) rfl rfl)).cons (q_get hF768 (t := 81) rfl rfl)).cons (q_get hF768 (t := 80) rfl rfl)).cons (q_get hF768 (t := 79) rfl rfl)).cons (q_get hF768 (t := 11) rfl rfl)).cons (q_get hF768 (t := 10) rfl rfl)).cons (q_get hF768 (t := 9) rfl rfl)).cons (q_get hF768 (t := 8) rfl rfl)).cons (q_get hF768 (t := 47) rfl rfl)).cons (q_get hF768 (t := 35) rfl rfl)).cons (q_get hF768 (t := 7) rfl rfl)).cons (q_get hF768 (t := 6) rfl rfl)).cons (q_get hF768 (t := 5) rfl rfl)).cons (q_get hF768 (t := 27) rfl rfl)).cons (q_get hF768 (t := 19) rfl rfl)).cons (q_get hF768 (t := 4) rfl rfl)).cons (q_get hF768 (t := 2) rfl rfl)).cons (q_get hF768 (t := 1) rfl rfl)).cons (q_get hF768 (t := 0) rfl rfl)), (by omega), ((((Ext.refl w).trans hx323).trans hx490).trans hx514), b773, d769, d770, d771, d772, (Nat.le_refl _)⟩ ?_
                    clear hF768
                    rintro a774 w775 ⟨k2, hF776, hp778, hx777, b779, hf780, hf781, hf782, hf783, hf784⟩
                    have hL785 := hF776
                    have z786 := hx777.size
                    have z787 := b779.lt
                    refine wp_seq_k (fun K788 hK788 => ?_)
                    refine wp_region_lit ?_
                    refine wpl_op (i := 0) rfl (o_val (v := (.bool (decide (((k2 : Nat) : Int) < ((m61 : Nat) : Int))))) hF776 rfl rfl rfl rfl (rn_lss (hF776.get rfl) (hF776.get rfl)) ?_)
                    intro a789 hF790; clear hF776
                    refine wpList_nil ?_
                    refine hK788 _ _ ?_
                    clear hK788
                    refine wp_seq_k (fun K791 hK791 => ?_)
                    by_cases hc792 : ((k2 : Nat) : Int) < ((m61 : Nat) : Int)
                    · skip
                      refine wp_cond_true (c_true hF790 rfl (decide_eq_true hc792)) ?_
                      refine wp_skip ?_
                      refine hK791 _ _ ?_
                      clear hK791
                      refine wp_seq_k (fun K793 hK793 => ?_)
                      refine wp_block ?_
                      refine wp_seq_k (fun K794 hK794 => ?_)
                      refine wp_region_lit ?_
                      refine wpl_op (i := 0) rfl (o_val (v := (.int .i64 (k2 : Nat))) hF790 rfl rfl rfl rfl (rn_move (hF790.get rfl)) ?_)
                      intro a795 hF796; clear hF790
                      refine wpl_op (i := 1) rfl (o_val (v := (.int .i64 (k2 : Nat))) hF796 rfl rfl rfl rfl (rn_assign (hF796.get rfl)) ?_)
                      intro a797 hF798; clear hF796
                      refine wpList_nil ?_
                      refine hK794 _ _ ?_
                      clear hK794
                      refine wp_seq_k (fun K799 hK799 => ?_)
                      have hk2 : k2 < n.toNat := by omega
                      have z800 := hdt.sm (0) (k2) (by omega) (by omega); simp only [T] at z800
                      have z801 := hdt.sm (k2) (0) (by omega) (by omega); simp only [T] at z801
                      have hv1 : r219.getD k2 0 = T t63 0 k2 := by rw [hg2, greatL_at hk2]; exact hfull.great_top (by omega) hk2
                      have hv2 : r286.getD k2 0 = -T t63 k2 0 := by rw [hl2, leastL_at hk2]; exact hfull.small_top (by omega) hk2
                      simp only [T] at hv1 hv2
                      have hx803 : ∃ W, w775.drew = W ∧ Ext w775 W := ⟨_, rfl, (Ext.refl _).drew⟩
                      obtain ⟨w802, e804, hx803⟩ := hx803
                      have z805 := hx803.size
                      refine any_start (fun W => Ext w802 W) (fun i => false) 25 #[false, false, false, false, false, false, false, false, false, false, false, false, false, false, false, false, false, false, false, false, false, false, false, false, false] rfl rfl rfl ?_
                      rw [e804]; clear e804
                      refine any_pure (i := 0) (v := (.slice A216 m217 c218)) hF798 (by decide +kernel) (by decide +kernel) rfl rfl rfl rfl (fun _ _ _ _ h => h) rfl (fun W => (rn_move (hF798.get rfl))) ?_
                      intro a806 hF807; clear hF798
                      refine any_pure (i := 1) (v := (.int .i64 (k2 : Nat))) hF807 (by decide +kernel) (by decide +kernel) rfl rfl rfl rfl (fun _ _ _ _ h => h) rfl (fun W => (rn_move (hF807.get rfl))) ?_
                      intro a808 hF809; clear hF807
                      have d813 := (hf782.ext hx803)
                      obtain ⟨b810, o811, hA812, -⟩ := Fl.at d813 (by omega)
                      refine any_pure (i := 2) (v := (.pointer (some ⟨b810, o811 + k2, none⟩))) hF809 (by decide +kernel) (by decide +kernel) rfl rfl rfl rfl (fun _ _ _ _ h => h) rfl (fun W => (rn_index1 Try.underlying25 (by kernel_rfl : (Try.prog.info? 3).map (·.size) = some 1) ((hF809.get rfl).trans (by rw [hA812])) (hF809.get rfl) (by omega : (0 : Int) ≤ (k2 : Nat)) (by omega : ((k2 : Nat) : Int) < ((m217 : Nat) : Int)))) ?_
                      intro a814 hF815; clear hF809
                      have hS816 : Ext w802 w802 := (Ext.refl w802)
                      refine any_val (i := 3) (v := (.int .i64 (r219.getD k2 0))) hF815 (by decide +kernel) (by decide +kernel) rfl rfl rfl rfl (fun _ _ _ _ h => h) rfl hS816 (fun W hW => (rn_load (isAgg_no Try.underlying3 rfl) (hF815.get rfl) (Fl.cellAt (d813.ext hW) hA812 (intVals_at (i := k2) (by omega))))) ?_
                      intro a817 hF818; clear hF815
                      refine any_pure (i := 4) (v := (.slice A60 m61 c62)) hF818 (by decide +kernel) (by decide +kernel) rfl rfl rfl rfl (fun _ _ _ _ h => h) rfl (fun W => (rn_move (hF818.get rfl))) ?_
                      intro a819 hF820; clear hF818
                      have d831 := (hf780.ext hx803)
                      obtain ⟨b821, o822, A823, c824, hA825, hl826, hc827, hr828, z829, z830⟩ := RIss.get (i := 0) d831 (by omega)
                      have z832 := hdt.row 0 (by omega)
                      refine any_pure (i := 5) (v := (.pointer (some ⟨b821, o822 + 0, none⟩))) hF820 (by decide +kernel) (by decide +kernel) rfl rfl rfl rfl (fun _ _ _ _ h => h) rfl (fun W => (rn_index1 Try.underlying33 (by kernel_rfl : (Try.prog.info? 25).map (·.size) = some 1) ((hF820.get rfl).trans (by rw [hA825])) rfl (by omega : (0 : Int) ≤ 0) (by omega : (0 : Int) < ((m61 : Nat) : Int)))) ?_
                      intro a833 hF834; clear hF820
                      refine any_val (i := 6) (v := (.slice A823 ((t63.getD 0 []).length) c824)) hF834 (by decide +kernel) (by decide +kernel) rfl rfl rfl rfl (fun _ _ _ _ h => h) rfl hS816 (fun W hW => (rn_load (isAgg_no Try.underlying25 rfl) (hF834.get rfl) (Ext.keep ((Ext.refl w802).trans hW) hc827))) ?_
                      intro a835 hF836; clear hF834
                      refine any_pure (i := 7) (v := (.int .i64 (k2 : Nat))) hF836 (by decide +kernel) (by decide +kernel) rfl rfl rfl rfl (fun _ _ _ _ h => h) rfl (fun W => (rn_move (hF836.get rfl))) ?_
                      intro a837 hF838; clear hF836
                      obtain ⟨b839, o840, hA841, -⟩ := Fl.at hr828 (by omega)
                      refine any_pure (i := 8) (v := (.pointer (some ⟨b839, o840 + k2, none⟩))) hF838 (by decide +kernel) (by decide +kernel) rfl rfl rfl rfl (fun _ _ _ _ h => h) rfl (fun W => (rn_index1 Try.underlying25 (by kernel_rfl : (Try.prog.info? 3).map (·.size) = some 1) ((hF838.get rfl).trans (by rw [hA841])) (hF838.get rfl) (by omega : (0 : Int) ≤ (k2 : Nat)) (by omega : ((k2 : Nat) : Int) < (((t63.getD 0 []).length : Nat) : Int)))) ?_
                      intro a842 hF843; clear hF838
                      refine any_val (i := 9) (v := (.int .i64 ((t63.getD 0 []).getD k2 0))) hF843 (by decide +kernel) (by decide +kernel) rfl rfl rfl rfl (fun _ _ _ _ h => h) rfl hS816 (fun W hW => (rn_load (isAgg_no Try.underlying3 rfl) (hF843.get rfl) (Fl.cellAt (hr828.ext hW) hA841 (intVals_at (i := k2) (by omega))))) ?_
                      intro a844 hF845; clear hF843
                      refine any_pure (i := 10) (v := (.bool (decide (((r219.getD k2 0) : Int) ≠ (((t63.getD 0 []).getD k2 0) : Int))))) hF845 (by decide +kernel) (by decide +kernel) rfl rfl rfl rfl (fun _ _ _ _ h => h) rfl (fun W => (rn_neq (hF845.get rfl) (hF845.get rfl))) ?_
                      intro a846 hF847; clear hF845
                      refine any_pure (i := 11) (v := (.bool (decide (((r219.getD k2 0) : Int) ≠ (((t63.getD 0 []).getD k2 0) : Int))))) hF847 (by decide +kernel) (by decide +kernel) rfl rfl rfl rfl (fun _ _ _ _ h => h) rfl (fun W => (rn_move (hF847.get rfl))) ?_
                      intro a848 hF849; clear hF847
                      by_cases hc850 : ((r219.getD k2 0) : Int) ≠ (((t63.getD 0 []).getD k2 0) : Int)
                      · skip
                        refine any_pass (i := 12) hF849 (by decide +kernel) (by decide +kernel) rfl rfl rfl rfl (fun _ _ _ _ h => h) (unwanted_guard rfl rfl rfl hF849 rfl (decide_eq_true hc850) rfl) ?_
                        intro a851 hF852; clear hF849
                        refine any_pass (i := 13) hF852 (by decide +kernel) (by decide +kernel) rfl rfl rfl rfl (fun _ _ _ _ h => h) (unwanted_guard rfl rfl rfl hF852 rfl (decide_eq_true hc850) rfl) ?_
                        intro a853 hF854; clear hF852
                        refine any_pass (i := 14) hF854 (by decide +kernel) (by decide +kernel) rfl rfl rfl rfl (fun _ _ _ _ h => h) (unwanted_guard rfl rfl rfl hF854 rfl (decide_eq_true hc850) rfl) ?_
                        intro a855 hF856; clear hF854
                        refine any_pass (i := 15) hF856 (by decide +kernel) (by decide +kernel) rfl rfl rfl rfl (fun _ _ _ _ h => h) (unwanted_guard rfl rfl rfl hF856 rfl (decide_eq_true hc850) rfl) ?_
                        intro a857 hF858; clear hF856
                        refine any_pass (i := 16) hF858 (by decide +kernel) (by decide +kernel) rfl rfl rfl rfl (fun _ _ _ _ h => h) (unwanted_guard rfl rfl rfl hF858 rfl (decide_eq_true hc850) rfl) ?_
                        intro a859 hF860; clear hF858
                        refine any_pass (i := 17) hF860 (by decide +kernel) (by decide +kernel) rfl rfl rfl rfl (fun _ _ _ _ h => h) (unwanted_guard rfl rfl rfl hF860 rfl (decide_eq_true hc850) rfl) ?_
                        intro a861 hF862; clear hF860
                        refine any_pass (i := 18) hF862 (by decide +kernel) (by decide +kernel) rfl rfl rfl rfl (fun _ _ _ _ h => h) (unwanted_guard rfl rfl rfl hF862 rfl (decide_eq_true hc850) rfl) ?_
                        intro a863 hF864; clear hF862
                        refine any_pass (i := 19) hF864 (by decide +kernel) (by decide +kernel) rfl rfl rfl rfl (fun _ _ _ _ h => h) (unwanted_guard rfl rfl rfl hF864 rfl (decide_eq_true hc850) rfl) ?_
                        intro a865 hF866; clear hF864
                        refine any_pass (i := 20) hF866 (by decide +kernel) (by decide +kernel) rfl rfl rfl rfl (fun _ _ _ _ h => h) (unwanted_guard rfl rfl rfl hF866 rfl (decide_eq_true hc850) rfl) ?_
                        intro a867 hF868; clear hF866
                        refine any_pass (i := 21) hF868 (by decide +kernel) (by decide +kernel) rfl rfl rfl rfl (fun _ _ _ _ h => h) (unwanted_guard rfl rfl rfl hF868 rfl (decide_eq_true hc850) rfl) ?_
                        intro a869 hF870; clear hF868
                        refine any_pass (i := 22) hF870 (by decide +kernel) (by decide +kernel) rfl rfl rfl rfl (fun _ _ _ _ h => h) (unwanted_guard rfl rfl rfl hF870 rfl (decide_eq_true hc850) rfl) ?_
                        intro a871 hF872; clear hF870
                        refine any_pass (i := 23) hF872 (by decide +kernel) (by decide +kernel) rfl rfl rfl rfl (fun _ _ _ _ h => h) (unwanted_guard rfl rfl rfl hF872 rfl (decide_eq_true hc850) rfl) ?_
                        intro a873 hF874; clear hF872
                        refine any_pure (i := 24) (v := (.bool true)) hF874 (by decide +kernel) (by decide +kernel) rfl rfl rfl rfl (fun _ _ _ _ h => h) rfl (fun W => (rn_pickT (c_true hF874 rfl (decide_eq_true hc850)) rfl)) ?_
                        intro a875 hF876; clear hF874
                        refine any_nil (by decide +kernel) ?_
                        refine hK799 _ _ ?_
                        clear hK799
                        have hF877 := ((((((((((((((((((((((((((((hF876.nil.cons (hF876.get (t := 183) (v := (.bool true)) rfl)).cons (hF876.get (t := 17) (v := (.int .i64 (k2 : Nat))) rfl)).cons (hF876.get (t := 157) (v := (.bool (decide (((k2 : Nat) : Int) < ((m61 : Nat) : Int))))) rfl)).cons (hF876.get (t := 156) (v := (.int .i64 (k2 : Nat))) rfl)).cons (hF876.get (t := 155) (v := (.int .i64 (m61 : Nat))) rfl)).cons (hF876.get (t := 153) (v := (.bool (decide (((m284 : Nat) : Int) ≠ ((m61 : Nat) : Int))))) rfl)).cons (hF876.get (t := 16) (v := (.int .i64 (chk n l))) rfl)).cons (hF876.get (t := 15) (v := (.bool (hld n l r286))) rfl)).cons (hF876.get (t := 14) (v := (.int .i64 (chk n l))) rfl)).cons (hF876.get (t := 13) (v := (.bool (hld n l r219))) rfl)).cons (hF876.get (t := 81) (v := (.bool (decide (((k : Nat) : Int) < ((m61 : Nat) : Int))))) rfl)).cons (hF876.get (t := 80) (v := (.int .i64 (k : Nat))) rfl)).cons (hF876.get (t := 79) (v := (.int .i64 (m61 : Nat))) rfl)).cons (hF876.get (t := 11) (v := (.int .i64 e287)) rfl)).cons (hF876.get (t := 10) (v := (.slice A283 m284 c285)) rfl)).cons (hF876.get (t := 9) (v := (.int .i64 e220)) rfl)).cons (hF876.get (t := 8) (v := (.slice A216 m217 c218)) rfl)).cons (hF876.get (t := 47) (v := (.bool false)) rfl)).cons (hF876.get (t := 35) (v := (.bool (decide ((er68 : Int) = (151 : Int))))) rfl)).cons (hF876.get (t := 7) (v := (.int .i64 er68)) rfl)).cons (hF876.get (t := 6) (v := (.slice B64 k65 c66)) rfl)).cons (hF876.get (t := 5) (v := (.slice A60 m61 c62)) rfl)).cons (hF876.get (t := 27) (v := (.bool (decide (((chk n l) : Int) ≠ (0 : Int))))) rfl)).cons (hF876.get (t := 19) (v := (.bool false)) rfl)).cons (hF876.get (t := 4) (v := (.bool false)) rfl)).cons (hF876.get (t := 2) (v := (.pointer (some ⟨g2, 0, none⟩))) rfl)).cons (hF876.get (t := 1) (v := (.int .i64 a2)) rfl)).cons (hF876.get (t := 0) (v := (.agg #[(.int .i64 n), (.slice A l.length c)])) rfl))
                        clear hF876
                        refine wp_cond_true (c_true hF877 rfl rfl) ?_
                        refine wp_seq_k (fun K878 hK878 => ?_)
                        refine wp_region_lit ?_
                        refine wpl_op (i := 0) rfl (o_val (v := (.bool false)) hF877 rfl rfl rfl rfl (rn_assign rfl) ?_)
                        intro a879 hF880; clear hF877
                        refine wpList_nil ?_
                        refine hK878 _ _ ?_
                        clear hK878
                        refine wp_ret ?_
                        refine ret_block ?_
                        refine ret_then ?_
                        refine ret_then ?_
                        refine ret_block ?_
                        refine ret_then ?_
                        refine ret1 hF880 rfl rfl ?_
                        exfalso; omega
                      · skip
                        refine any_pure (i := 12) (v := (.slice A283 m284 c285)) hF849 (by decide +kernel) (by decide +kernel) rfl rfl rfl rfl (fun _ _ _ _ h => h) (wanted_guard rfl rfl rfl hF849 rfl (decide_eq_false hc850) rfl) (fun W => (rn_move (hF849.get rfl))) ?_
                        intro a881 hF882; clear hF849
                        refine any_pure (i := 13) (v := (.int .i64 (k2 : Nat))) hF882 (by decide +kernel) (by decide +kernel) rfl rfl rfl rfl (fun _ _ _ _ h => h) (wanted_guard rfl rfl rfl hF882 rfl (decide_eq_false hc850) rfl) (fun W => (rn_move (hF882.get rfl))) ?_
                        intro a883 hF884; clear hF882
                        have d888 := (hf783.ext hx803)
                        obtain ⟨b885, o886, hA887, -⟩ := Fl.at d888 (by omega)
                        refine any_pure (i := 14) (v := (.pointer (some ⟨b885, o886 + k2, none⟩))) hF884 (by decide +kernel) (by decide +kernel) rfl rfl rfl rfl (fun _ _ _ _ h => h) (wanted_guard rfl rfl rfl hF884 rfl (decide_eq_false hc850) rfl) (fun W => (rn_index1 Try.underlying25 (by kernel_rfl : (Try.prog.info? 3).map (·.size) = some 1) ((hF884.get rfl).trans (by rw [hA887])) (hF884.get rfl) (by omega : (0 : Int) ≤ (k2 : Nat)) (by omega : ((k2 : Nat) : Int) < ((m284 : Nat) : Int)))) ?_
                        intro a889 hF890; clear hF884
                        refine any_val (i := 15) (v := (.int .i64 (r286.getD k2 0))) hF890 (by decide +kernel) (by decide +kernel) rfl rfl rfl rfl (fun _ _ _ _ h => h) (wanted_guard rfl rfl rfl hF890 rfl (decide_eq_false hc850) rfl) hS816 (fun W hW => (rn_load (isAgg_no Try.underlying3 rfl) (hF890.get rfl) (Fl.cellAt (d888.ext hW) hA887 (intVals_at (i := k2) (by omega))))) ?_
                        intro a891 hF892; clear hF890
                        refine any_pure (i := 16) (v := (.slice A60 m61 c62)) hF892 (by decide +kernel) (by decide +kernel) rfl rfl rfl rfl (fun _ _ _ _ h => h) (wanted_guard rfl rfl rfl hF892 rfl (decide_eq_false hc850) rfl) (fun W => (rn_move (hF892.get rfl))) ?_
                        intro a893 hF894; clear hF892
                        refine any_pure (i := 17) (v := (.int .i64 (k2 : Nat))) hF894 (by decide +kernel) (by decide +kernel) rfl rfl rfl rfl (fun _ _ _ _ h => h) (wanted_guard rfl rfl rfl hF894 rfl (decide_eq_false hc850) rfl) (fun W => (rn_move (hF894.get rfl))) ?_
                        intro a895 hF896; clear hF894
                        obtain ⟨b897, o898, A899, c900, hA901, hl902, hc903, hr904, z905, z906⟩ := RIss.get (i := k2) d831 (by omega)
                        have z907 := hdt.row k2 (by omega)
                        refine any_pure (i := 18) (v := (.pointer (some ⟨b897, o898 + k2, none⟩))) hF896 (by decide +kernel) (by decide +kernel) rfl rfl rfl rfl (fun _ _ _ _ h => h) (wanted_guard rfl rfl rfl hF896 rfl (decide_eq_false hc850) rfl) (fun W => (rn_index1 Try.underlying33 (by kernel_rfl : (Try.prog.info? 25).map (·.size) = some 1) ((hF896.get rfl).trans (by rw [hA901])) (hF896.get rfl) (by omega : (0 : Int) ≤ (k2 : Nat)) (by omega : ((k2 : Nat) : Int) < ((m61 : Nat) : Int)))) ?_
                        intro a908 hF909; clear hF896
                        refine any_val (i := 19) (v := (.slice A899 ((t63.getD k2 []).length) c900)) hF909 (by decide +kernel) (by decide +kernel) rfl rfl rfl rfl (fun _ _ _ _ h => h) (wanted_guard rfl rfl rfl hF909 rfl (decide_eq_false hc850) rfl) hS816 (fun W hW => (rn_load (isAgg_no Try.underlying25 rfl) (hF909.get rfl) (Ext.keep ((Ext.refl w802).trans hW) hc903))) ?_
                        intro a910 hF911; clear hF909
                        obtain ⟨b912, o913, hA914, -⟩ := Fl.at hr904 (by omega)
                        refine any_pure (i := 20) (v := (.pointer (some ⟨b912, o913 + 0, none⟩))) hF911 (by decide +kernel) (by decide +kernel) rfl rfl rfl rfl (fun _ _ _ _ h => h) (wanted_guard rfl rfl rfl hF911 rfl (decide_eq_false hc850) rfl) (fun W => (rn_index1 Try.underlying25 (by kernel_rfl : (Try.prog.info? 3).map (·.size) = some 1) ((hF911.get rfl).trans (by rw [hA914])) rfl (by omega : (0 : Int) ≤ 0) (by omega : (0 : Int) < (((t63.getD k2 []).length : Nat) : Int)))) ?_
                        intro a915 hF916; clear hF911
                        refine any_val (i := 21) (v := (.int .i64 ((t63.getD k2 []).getD 0 0))) hF916 (by decide +kernel) (by decide +kernel) rfl rfl rfl rfl (fun _ _ _ _ h => h) (wanted_guard rfl rfl rfl hF916 rfl (decide_eq_false hc850) rfl) hS816 (fun W hW => (rn_load (isAgg_no Try.underlying3 rfl) (hF916.get rfl) (Fl.cellAt (hr904.ext hW) hA914 (intVals_at (i := 0) (by omega))))) ?_
                        intro a917 hF918; clear hF916
                        refine any_pure (i := 22) (v := (.int .i64 (-(((t63.getD k2 []).getD 0 0) : Int)))) hF918 (by decide +kernel) (by decide +kernel) rfl rfl rfl rfl (fun _ _ _ _ h => h) (wanted_guard rfl rfl rfl hF918 rfl (decide_eq_false hc850) rfl) (fun W => (rn_neg (hF918.get rfl) (by omega) rfl)) ?_
                        intro a919 hF920; clear hF918
                        refine any_pure (i := 23) (v := (.bool (decide (((r286.getD k2 0) : Int) ≠ ((-(((t63.getD k2 []).getD 0 0) : Int)) : Int))))) hF920 (by decide +kernel) (by decide +kernel) rfl rfl rfl rfl (fun _ _ _ _ h => h) (wanted_guard rfl rfl rfl hF920 rfl (decide_eq_false hc850) rfl) (fun W => (rn_neq (hF920.get rfl) (hF920.get rfl))) ?_
                        intro a921 hF922; clear hF920
                        refine any_pure (i := 24) (v := (.bool (decide (((r286.getD k2 0) : Int) ≠ ((-(((t63.getD k2 []).getD 0 0) : Int)) : Int))))) hF922 (by decide +kernel) (by decide +kernel) rfl rfl rfl rfl (fun _ _ _ _ h => h) rfl (fun W => (rn_pickF (c_false hF922 rfl (decide_eq_false hc850)) (hF922.get rfl))) ?_
                        intro a923 hF924; clear hF922
                        refine any_nil (by decide +kernel) ?_
                        refine hK799 _ _ ?_
                        clear hK799
                        have hF925 := ((((((((((((((((((((((((((((hF924.nil.cons (hF924.get (t := 183) (v := (.bool (decide (((r286.getD k2 0) : Int) ≠ ((-(((t63.getD k2 []).getD 0 0) : Int)) : Int))))) rfl)).cons (hF924.get (t := 17) (v := (.int .i64 (k2 : Nat))) rfl)).cons (hF924.get (t := 157) (v := (.bool (decide (((k2 : Nat) : Int) < ((m61 : Nat) : Int))))) rfl)).cons (hF924.get (t := 156) (v := (.int .i64 (k2 : Nat))) rfl)).cons (hF924.get (t := 155) (v := (.int .i64 (m61 : Nat))) rfl)).cons (hF924.get (t := 153) (v := (.bool (decide (((m284 : Nat) : Int) ≠ ((m61 : Nat) : Int))))) rfl)).cons (hF924.get (t := 16) (v := (.int .i64 (chk n l))) rfl)).cons (hF924.get (t := 15) (v := (.bool (hld n l r286))) rfl)).cons (hF924.get (t := 14) (v := (.int .i64 (chk n l))) rfl)).cons (hF924.get (t := 13) (v := (.bool (hld n l r219))) rfl)).cons (hF924.get (t := 81) (v := (.bool (decide (((k : Nat) : Int) < ((m61 : Nat) : Int))))) rfl)).cons (hF924.get (t := 80) (v := (.int .i64 (k : Nat))) rfl)).cons (hF924.get (t := 79) (v := (.int .i64 (m61 : Nat))) rfl)).cons (hF924.get (t := 11) (v := (.int .i64 e287)) rfl)).cons (hF924.get (t := 10) (v := (.slice A283 m284 c285)) rfl)).cons (hF924.get (t := 9) (v := (.int .i64 e220)) rfl)).cons (hF924.get (t := 8) (v := (.slice A216 m217 c218)) rfl)).cons (hF924.get (t := 47) (v := (.bool false)) rfl)).cons (hF924.get (t := 35) (v := (.bool (decide ((er68 : Int) = (151 : Int))))) rfl)).cons (hF924.get (t := 7) (v := (.int .i64 er68)) rfl)).cons (hF924.get (t := 6) (v := (.slice B64 k65 c66)) rfl)).cons (hF924.get (t := 5) (v := (.slice A60 m61 c62)) rfl)).cons (hF924.get (t := 27) (v := (.bool (decide (((chk n l) : Int) ≠ (0 : Int))))) rfl)).cons (hF924.get (t := 19) (v := (.bool false)) rfl)).cons (hF924.get (t := 4) (v := (.bool false)) rfl)).cons (hF924.get (t := 2) (v := (.pointer (some ⟨g2, 0, none⟩))) rfl)).cons (hF924.get (t := 1) (v := (.int .i64 a2)) rfl)).cons (hF924.get (t := 0) (v := (.agg #[(.int .i64 n), (.slice A l.length c)])) rfl))
                        clear hF924
                        by_cases hc926 : ((r286.getD k2 0) : Int) ≠ ((-(((t63.getD k2 []).getD 0 0) : Int)) : Int)
                        · skip
                          refine wp_cond_true (c_true hF925 rfl (decide_eq_true hc926)) ?_
                          refine wp_seq_k (fun K927 hK927 => ?_)
                          refine wp_region_lit ?_
                          refine wpl_op (i := 0) rfl (o_val (v := (.bool false)) hF925 rfl rfl rfl rfl (rn_assign rfl) ?_)
                          intro a928 hF929; clear hF925
                          refine wpList_nil ?_
                          refine hK927 _ _ ?_
                          clear hK927
                          refine wp_ret ?_
                          refine ret_block ?_
                          refine ret_then ?_
                          refine ret_then ?_
                          refine ret_block ?_
                          refine ret_then ?_
                          refine ret1 hF929 rfl rfl ?_
                          exfalso; omega
                        · skip
                          refine wp_cond_false (c_false hF925 rfl (decide_eq_false hc926)) ?_
                          refine wp_skip ?_
                          refine hK793 _ _ ?_
                          clear hK793
                          refine wp_region_lit ?_
                          refine wpl_op (i := 0) rfl (o_val (v := (.int .i64 (k2 + 1 : Nat))) hF925 rfl rfl rfl rfl (rn_addN (a := k2) (b := 1) (hF925.get rfl) rfl (by omega)) ?_)
                          intro a930 hF931; clear hF925
                          refine wpl_op (i := 1) rfl (o_val (v := (.int .i64 (k2 + 1 : Nat))) hF931 rfl rfl rfl rfl (rn_move (hF931.get rfl)) ?_)
                          intro a932 hF933; clear hF931
                          refine wpList_nil ?_
                          have d934 := (hf781.ext hx803)
                          have b935 : Blk w802 g2 24 [(.int .i64 n), (.slice A l.length c)] := (b779.ext hx803)
                          refine ⟨⟨(k2 + 1), (((((((((((((((((((((((((hF933.nil.cons (q_get hF933 (t := 156) rfl (by first | rfl | (congr 1; omega) | (congr 1; done)))).cons (q_get hF933 (t := 155) rfl rfl)).cons (q_get hF933 (t := 153) rfl rfl)).cons (q_get hF933 (t := 16) rfl rfl)).cons (q_get hF933 (t := 15) rfl rfl)).cons (q_get hF933 (t := 14) rfl rfl)).cons (q_get hF933 (t := 13) rfl rfl)).cons (q_get hF933 (t := 81) rfl rfl)).cons (q_get hF933 (t := 80) rfl rfl)).cons (q_get hF933 (t := 79) rfl rfl)).cons (q_get hF933 (t := 11) rfl rfl)).cons (q_get hF933 (t := 10) rfl rfl)).cons (q_get hF933 (t := 9) rfl rfl)).cons (q_get hF933 (t := 8) rfl rfl)).cons (q_get hF933 (t := 47) rfl rfl)).cons (q_get hF933 (t := 35) rfl rfl)).cons (q_get hF933 (t := 7) rfl rfl)).cons (q_get hF933 (t := 6) rfl rfl)).cons (q_get hF933 (t := 5) rfl rfl)).cons (q_get hF933 (t := 27) rfl rfl)).cons (q_get hF933 (t := 19) rfl rfl)).cons (q_get hF933 (t := 4) rfl rfl)).cons (q_get hF933 (t := 2) rfl rfl)).cons (q_get hF933 (t := 1) rfl rfl)).cons (q_get hF933 (t := 0) rfl rfl)), (by omega), (((Ext.refl w).trans hx777).trans hx803), b935, d831, d934, d813, d888, (by omega)⟩, ?_⟩
                          rw [hF933.get (t := 156) rfl, hL785.get (t := 156) rfl]; simp [intOf] <;> omega
                    · skip
                      refine wp_cond_false (c_false hF790 rfl (decide_eq_false hc792)) ?_
                      refine wp_exit ?_
                      refine exit_then ?_
                      refine exit_then ?_
                      refine exit_here ?_
                      refine hK761 _ _ ?_
                      clear hK761
                      refine wp_seq_k (fun K936 hK936 => ?_)
                      refine wp_region_lit ?_
                      refine wpl_op (i := 0) rfl (o_val (v := (.bool true)) hF790 rfl rfl rfl rfl (rn_assign rfl) ?_)
                      intro a937 hF938; clear hF790
                      refine wpList_nil ?_
                      refine hK936 _ _ ?_
                      clear hK936
                      refine wp_ret ?_
                      refine ret1 hF938 rfl rfl ?_
                      exact ⟨rfl, ((Ext.refl w).trans hx777)⟩
  · skip
    refine wpl_op (i := 4) rfl (o_skip hF35 rfl (unwanted_guard rfl rfl rfl hF35 rfl (not_f hc36) rfl) rfl rfl ?_)
    intro a939 hF940; clear hF35
    refine wpl_op (i := 5) rfl (o_skip hF940 rfl (unwanted_guard rfl rfl rfl hF940 rfl (not_f hc36) rfl) rfl rfl ?_)
    intro a941 hF942; clear hF940
    refine wpl_op (i := 6) rfl (o_skip hF942 rfl (unwanted_guard rfl rfl rfl hF942 rfl (not_f hc36) rfl) rfl rfl ?_)
    intro a943 hF944; clear hF942
    refine wpl_op (i := 7) rfl (o_val (v := (.bool true)) hF944 rfl rfl rfl rfl (rn_pickT (c_true hF944 rfl (not_f hc36)) rfl) ?_)
    intro a945 hF946; clear hF944
    refine wpList_nil ?_
    refine hK22 _ _ ?_
    clear hK22
    have hF947 := ((((((hF946.nil.cons (hF946.get (t := 27) (v := (.bool true)) rfl)).cons (hF946.get (t := 19) (v := (.bool false)) rfl)).cons (hF946.get (t := 4) (v := (.bool false)) rfl)).cons (hF946.get (t := 2) (v := (.pointer (some ⟨g2, 0, none⟩))) rfl)).cons (hF946.get (t := 1) (v := (.int .i64 a)) rfl)).cons (hF946.get (t := 0) (v := (.agg #[(.int .i64 n), (.slice A l.length c)])) rfl))
    clear hF946
    refine wp_cond_true (c_true hF947 rfl rfl) ?_
    refine wp_seq_k (fun K948 hK948 => ?_)
    refine wp_region_lit ?_
    refine wpl_op (i := 0) rfl (o_val (v := (.bool true)) hF947 rfl rfl rfl rfl (rn_assign rfl) ?_)
    intro a949 hF950; clear hF947
    refine wpList_nil ?_
    refine hK948 _ _ ?_
    clear hK948
    refine wp_ret ?_
    refine ret_then ?_
    refine ret1 hF950 rfl rfl ?_
    exact ⟨rfl, ((((Ext.refl w).trans hx5).trans hx15).trans hx28)⟩

end Go.Proofs.Ytjmdodgmoehfkaa
