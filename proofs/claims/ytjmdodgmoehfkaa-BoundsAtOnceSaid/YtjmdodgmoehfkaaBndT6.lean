/- The law BoundsAtOnce, walked. -/
import Derived.Test.YtjmdodgmoehfkaaProg
import Derived.Test.YtjmdodgmoehfkaaBndS
import Derived.KernelRfl
namespace Go.Proofs.Ytjmdodgmoehfkaa
open Go.RowKit

variable {S S' : Nat → Prop}

set_option maxRecDepth 100000 in
set_option maxHeartbeats 1000000 in
theorem atonce_any (A : Option Addr) (c : Nat) (n : Int) (l : List E3) (a : Int) (w : World) (hf : Fl S w 3 (.slice A l.length c) l.length (edVals l)) :
    Calls Try.prog 9 #[.agg #[.int .i64 n, .slice A l.length c], .int .i64 a] w (fun e w' => e = .returned (.bool true) ∧ Ext w w') := by
  have hc : Fl (Clip S w) w 3 (.slice A l.length c) l.length (edVals l) := hf.clip
  have hcc := (Fl.cel hc).2.1
  refine calls_enter (l := [(.agg #[(.int .i64 n), (.slice A l.length c)]), (.int .i64 a)]) Try.func9 rfl rfl rfl (fun aA hF => ?_)
  refine wp_seq_k (fun K1 hK1 => ?_)
  refine wp_region_lit ?_
  refine wpl_op (i := 0) rfl (o_new (fun g => (.pointer (some ⟨g, 0, none⟩))) [(.int .i64 n), (.slice A l.length c)] 24 hF rfl rfl rfl rfl (rn_box (hF.get rfl) (by kernel_rfl)) ?_)
  intro g2 w3 a8 hF9 z6 z7 b4 hx5; clear hF
  refine wpl_op (i := 1) rfl (o_val (v := (.bool false)) hF9 rfl rfl rfl rfl (rn_assign rfl) ?_)
  intro a10 hF11; clear hF9
  refine wpList_nil ?_
  refine hK1 _ _ ?_
  clear hK1
  refine wp_seq_k (fun K12 hK12 => ?_)
  refine wp_seq_k (fun K13 hK13 => ?_)
  refine wp_region_lit ?_
  refine wpl_op (i := 0) rfl (o_call hF11 rfl rfl rfl rfl (rn_call (args0 ) rfl (by kernel_rfl)) (sane_any _) ?_)
  rintro _ w14 ⟨rfl, hx15⟩
  refine ⟨_, rfl, ?_⟩; intro a16 hF17; clear hF11; have z18 := hx15.size
  refine wpl_op (i := 1) rfl (o_val (v := (.bool false)) hF17 rfl rfl rfl rfl (rn_not' (hF17.get rfl) rfl) ?_)
  intro a19 hF20; clear hF17
  refine wpList_nil ?_
  refine hK13 _ _ ?_
  clear hK13
  refine wp_cond_false (c_false hF20 rfl rfl) ?_
  refine wp_skip ?_
  refine hK12 _ _ ?_
  clear hK12
  refine wp_seq_k (fun K21 hK21 => ?_)
  refine wp_seq_k (fun K22 hK22 => ?_)
  refine wp_region_lit ?_
  have b23 : Blk w14 g2 24 [(.int .i64 n), (.slice A l.length c)] := (b4.ext hx15)
  refine wpl_op (i := 0) rfl (o_val (v := (.agg #[(.int .i64 n), (.slice A l.length c)])) hF20 rfl rfl rfl rfl (rn_loadBlk (hF20.get rfl) b23 Try.underlying24 rfl (by kernel_rfl : (Try.prog.info? 24).map (·.size) = some 2)) ?_)
  intro a24 hF25; clear hF20
  have d26 := ((hc.ext hx5).ext hx15)
  refine wpl_op (i := 1) rfl (o_call hF25 rfl rfl rfl rfl (rn_call (args1 (hF25.get rfl)) rfl (by kernel_rfl)) (few_at (v := (.slice A l.length c)) n l _ d26) ?_)
  rintro _ w27 ⟨rfl, hx28⟩
  refine ⟨_, rfl, ?_⟩; intro a29 hF30; clear hF25; have z31 := hx28.size
  refine wpl_op (i := 2) rfl (o_val (v := (.bool (!(few n l)))) hF30 rfl rfl rfl rfl (rn_not' (hF30.get rfl) rfl) ?_)
  intro a32 hF33; clear hF30
  refine wpl_op (i := 3) rfl (o_val (v := (.bool (!(few n l)))) hF33 rfl rfl rfl rfl (rn_move (hF33.get rfl)) ?_)
  intro a34 hF35; clear hF33
  rcases Bool.eq_false_or_eq_true (few n l) with hc36 | hc36
  · skip
    have b37 : Blk w27 g2 24 [(.int .i64 n), (.slice A l.length c)] := (b23.ext hx28)
    refine wpl_op (i := 4) rfl (o_val (v := (.agg #[(.int .i64 n), (.slice A l.length c)])) hF35 rfl (wanted_guard rfl rfl rfl hF35 rfl (not_t hc36) rfl) rfl rfl (rn_loadBlk (hF35.get rfl) b37 Try.underlying24 rfl (by kernel_rfl : (Try.prog.info? 24).map (·.size) = some 2)) ?_)
    intro a38 hF39; clear hF35
    have d40 := (((hc.ext hx5).ext hx15).ext hx28)
    refine wpl_op (i := 5) rfl (o_call hF39 rfl (wanted_guard rfl rfl rfl hF39 rfl (not_t hc36) rfl) rfl rfl (rn_call (args1 (hF39.get rfl)) rfl (by kernel_rfl)) (rcheck_at (v := (.slice A l.length c)) n l _ d40) ?_)
    rintro _ w41 ⟨rfl, hx42⟩
    refine ⟨_, rfl, ?_⟩; intro a43 hF44; clear hF39; have z45 := hx42.size
    refine wpl_op (i := 6) rfl (o_val (v := (.bool (decide (((chk n l) : Int) ≠ (0 : Int))))) hF44 rfl (wanted_guard rfl rfl rfl hF44 rfl (not_t hc36) rfl) rfl rfl (rn_neq (hF44.get rfl) rfl) ?_)
    intro a46 hF47; clear hF44
    refine wpl_op (i := 7) rfl (o_val (v := (.bool (decide (((chk n l) : Int) ≠ (0 : Int))))) hF47 rfl rfl rfl rfl (rn_pickF (c_false hF47 rfl (not_t hc36)) (hF47.get rfl)) ?_)
    intro a48 hF49; clear hF47
    refine wpList_nil ?_
    refine hK22 _ _ ?_
    clear hK22
    have hF50 := ((((((hF49.nil.cons (hF49.get (t := 23) (v := (.bool (decide (((chk n l) : Int) ≠ (0 : Int))))) rfl)).cons (hF49.get (t := 15) (v := (.bool false)) rfl)).cons (hF49.get (t := 4) (v := (.bool false)) rfl)).cons (hF49.get (t := 2) (v := (.pointer (some ⟨g2, 0, none⟩))) rfl)).cons (hF49.get (t := 1) (v := (.int .i64 a)) rfl)).cons (hF49.get (t := 0) (v := (.agg #[(.int .i64 n), (.slice A l.length c)])) rfl))
    clear hF49
    by_cases hc51 : ((chk n l) : Int) ≠ (0 : Int)
    · skip
      refine wp_cond_true (c_true hF50 rfl (decide_eq_true hc51)) ?_
      refine wp_seq_k (fun K52 hK52 => ?_)
      refine wp_region_lit ?_
      refine wpl_op (i := 0) rfl (o_val (v := (.bool true)) hF50 rfl rfl rfl rfl (rn_assign rfl) ?_)
      intro a53 hF54; clear hF50
      refine wpList_nil ?_
      refine hK52 _ _ ?_
      clear hK52
      refine wp_ret ?_
      refine ret_then ?_
      refine ret1 hF54 rfl rfl ?_
      exact ⟨rfl, (((((Ext.refl w).trans hx5).trans hx15).trans hx28).trans hx42)⟩
    · skip
      refine wp_cond_false (c_false hF50 rfl (decide_eq_false hc51)) ?_
      refine wp_skip ?_
      refine hK21 _ _ ?_
      clear hK21
      refine wp_seq_k (fun K55 hK55 => ?_)
      have hfw : n ≤ 8 ∧ l.length ≤ 30 := of_decide_eq_true (show decide _ = true from hc36)
      have hvok := chk_v (by omega : chk n l = 0)
      refine wp_region_lit ?_
      have b56 : Blk w41 g2 24 [(.int .i64 n), (.slice A l.length c)] := (b37.ext hx42)
      refine wpl_op (i := 0) rfl (o_val (v := (.agg #[(.int .i64 n), (.slice A l.length c)])) hF50 rfl rfl rfl rfl (rn_loadBlk (hF50.get rfl) b56 Try.underlying24 rfl (by kernel_rfl : (Try.prog.info? 24).map (·.size) = some 2)) ?_)
      intro a57 hF58; clear hF50
      have d59 := ((((hc.ext hx5).ext hx15).ext hx28).ext hx42)
      refine wpl_op (i := 1) rfl (o_call hF58 rfl rfl rfl rfl (rn_call (args1 (hF58.get rfl)) rfl (by kernel_rfl)) (far_at (v := (.slice A l.length c)) n l _ d59 (fun _ => ⟨by omega, by omega⟩)) ?_)
      rintro _ w74 ⟨A60, m61, c62, t63, B64, k65, c66, cyc67, er68, rfl, ht69, hf70, hfar71, hx75⟩
      have z72 := RIss.len ht69
      have z73 := Fl.ilen hf70
      refine ⟨_, rfl, ?_⟩; intro a76 hF77; clear hF58; have z78 := hx75.size
      have hf79 : RIss (Clip (fun b => w41.heap.size ≤ b) w74) w74 (.slice A60 m61 c62) t63 := ht69.clip
      have hf80 : Fl (Clip (fun b => w41.heap.size ≤ b) w74) w74 1 (.slice B64 k65 c66) k65 (intVals cyc67) := hf70.clip
      refine wpl_op (i := 2) rfl (o_val (v := (.tuple #[(.slice A60 m61 c62), (.slice B64 k65 c66), (.int .i64 er68)])) hF77 rfl rfl rfl rfl (rn_move (hF77.get rfl)) ?_)
      intro a81 hF82; clear hF77
      refine wpl_op (i := 3) rfl (o_val (v := (.slice A60 m61 c62)) hF82 rfl rfl rfl rfl (rn_extract (hF82.get rfl) rfl) ?_)
      intro a83 hF84; clear hF82
      refine wpl_op (i := 4) rfl (o_val (v := (.slice B64 k65 c66)) hF84 rfl rfl rfl rfl (rn_extract (hF84.get rfl) rfl) ?_)
      intro a85 hF86; clear hF84
      refine wpl_op (i := 5) rfl (o_val (v := (.int .i64 er68)) hF86 rfl rfl rfl rfl (rn_extract (hF86.get rfl) rfl) ?_)
      intro a87 hF88; clear hF86
      refine wpl_op (i := 6) rfl (o_val (v := (.slice A60 m61 c62)) hF88 rfl rfl rfl rfl (rn_assign (hF88.get rfl)) ?_)
      intro a89 hF90; clear hF88
      refine wpl_op (i := 7) rfl (o_val (v := (.slice B64 k65 c66)) hF90 rfl rfl rfl rfl (rn_assign (hF90.get rfl)) ?_)
      intro a91 hF92; clear hF90
      refine wpl_op (i := 8) rfl (o_val (v := (.int .i64 er68)) hF92 rfl rfl rfl rfl (rn_assign (hF92.get rfl)) ?_)
      intro a93 hF94; clear hF92
      refine wpList_nil ?_
      refine hK55 _ _ ?_
      clear hK55
      have hF95 := ((((((((hF94.nil.cons (hF94.get (t := 7) (v := (.int .i64 er68)) rfl)).cons (hF94.get (t := 5) (v := (.slice A60 m61 c62)) rfl)).cons (hF94.get (t := 23) (v := (.bool (decide (((chk n l) : Int) ≠ (0 : Int))))) rfl)).cons (hF94.get (t := 15) (v := (.bool false)) rfl)).cons (hF94.get (t := 4) (v := (.bool false)) rfl)).cons (hF94.get (t := 2) (v := (.pointer (some ⟨g2, 0, none⟩))) rfl)).cons (hF94.get (t := 1) (v := (.int .i64 a)) rfl)).cons (hF94.get (t := 0) (v := (.agg #[(.int .i64 n), (.slice A l.length c)])) rfl))
      clear hF94
      refine wp_seq_k (fun K96 hK96 => ?_)
      refine wp_seq_k (fun K97 hK97 => ?_)
      have hnb : er68 = 151 ∨ er68 = 0 := by rcases hfar71.1 with ⟨_, h, _⟩ | ⟨h, _⟩ | ⟨h, _⟩ <;> first | omega | (rw [hvok] at h; cases h)
      refine wp_region_lit ?_
      refine wpl_op (i := 0) rfl (o_val (v := (.int .i64 er68)) hF95 rfl rfl rfl rfl (rn_move (hF95.get rfl)) ?_)
      intro a98 hF99; clear hF95
      refine wpl_op (i := 1) rfl (o_val (v := (.bool (decide ((er68 : Int) ≠ (0 : Int))))) hF99 rfl rfl rfl rfl (rn_neq (hF99.get rfl) rfl) ?_)
      intro a100 hF101; clear hF99
      refine wpl_op (i := 2) rfl (o_val (v := (.bool (decide ((er68 : Int) ≠ (0 : Int))))) hF101 rfl rfl rfl rfl (rn_move (hF101.get rfl)) ?_)
      intro a102 hF103; clear hF101
      by_cases hc104 : (er68 : Int) ≠ (0 : Int)
      · skip
        refine wpl_op (i := 3) rfl (o_skip hF103 rfl (unwanted_guard rfl rfl rfl hF103 rfl (decide_eq_true hc104) rfl) rfl rfl ?_)
        intro a105 hF106; clear hF103
        refine wpl_op (i := 4) rfl (o_skip hF106 rfl (unwanted_guard rfl rfl rfl hF106 rfl (decide_eq_true hc104) rfl) rfl rfl ?_)
        intro a107 hF108; clear hF106
        refine wpl_op (i := 5) rfl (o_skip hF108 rfl (unwanted_guard rfl rfl rfl hF108 rfl (decide_eq_true hc104) rfl) rfl rfl ?_)
        intro a109 hF110; clear hF108
        refine wpl_op (i := 6) rfl (o_skip hF110 rfl (unwanted_guard rfl rfl rfl hF110 rfl (decide_eq_true hc104) rfl) rfl rfl ?_)
        intro a111 hF112; clear hF110
        refine wpl_op (i := 7) rfl (o_skip hF112 rfl (unwanted_guard rfl rfl rfl hF112 rfl (decide_eq_true hc104) rfl) rfl rfl ?_)
        intro a113 hF114; clear hF112
        refine wpl_op (i := 8) rfl (o_val (v := (.bool true)) hF114 rfl rfl rfl rfl (rn_pickT (c_true hF114 rfl (decide_eq_true hc104)) rfl) ?_)
        intro a115 hF116; clear hF114
        refine wpList_nil ?_
        refine hK97 _ _ ?_
        clear hK97
        have hF117 := (((((((((hF116.nil.cons (hF116.get (t := 38) (v := (.bool true)) rfl)).cons (hF116.get (t := 7) (v := (.int .i64 er68)) rfl)).cons (hF116.get (t := 5) (v := (.slice A60 m61 c62)) rfl)).cons (hF116.get (t := 23) (v := (.bool (decide (((chk n l) : Int) ≠ (0 : Int))))) rfl)).cons (hF116.get (t := 15) (v := (.bool false)) rfl)).cons (hF116.get (t := 4) (v := (.bool false)) rfl)).cons (hF116.get (t := 2) (v := (.pointer (some ⟨g2, 0, none⟩))) rfl)).cons (hF116.get (t := 1) (v := (.int .i64 a)) rfl)).cons (hF116.get (t := 0) (v := (.agg #[(.int .i64 n), (.slice A l.length c)])) rfl))
        clear hF116
        refine wp_cond_true (c_true hF117 rfl rfl) ?_
        refine wp_seq_k (fun K118 hK118 => ?_)
        refine wp_region_lit ?_
        refine wpl_op (i := 0) rfl (o_val (v := (.int .i64 er68)) hF117 rfl rfl rfl rfl (rn_move (hF117.get rfl)) ?_)
        intro a119 hF120; clear hF117
        refine wpl_op (i := 1) rfl (o_val (v := (.bool (decide ((er68 : Int) = (151 : Int))))) hF120 rfl rfl rfl rfl (rn_eql (hF120.get rfl) rfl) ?_)
        intro a121 hF122; clear hF120
        refine wpl_op (i := 2) rfl (o_val (v := (.bool (decide ((er68 : Int) = (151 : Int))))) hF122 rfl rfl rfl rfl (rn_assign (hF122.get rfl)) ?_)
        intro a123 hF124; clear hF122
        refine wpList_nil ?_
        refine hK118 _ _ ?_
        clear hK118
        refine wp_ret ?_
        refine ret_then ?_
        refine ret1 hF124 rfl rfl ?_
        exact ⟨by rw [show (decide ((er68 : Int) = (151 : Int))) = true from decide_eq_true (by omega)], ((((((Ext.refl w).trans hx5).trans hx15).trans hx28).trans hx42).trans hx75)⟩
      · skip
        have her0 : er68 = 0 := by omega
        obtain ⟨hvo, hng, hdt⟩ := hfar71.1.zero (by omega)
        have hn1 := vOk_n hvo
        have htl := hdt.len
        refine wpl_op (i := 3) rfl (o_val (v := (.slice A60 m61 c62)) hF103 rfl (wanted_guard rfl rfl rfl hF103 rfl (decide_eq_false hc104) rfl) rfl rfl (rn_move (hF103.get rfl)) ?_)
        intro a125 hF126; clear hF103
        refine wpl_op (i := 4) rfl (o_val (v := (.pointer (some ⟨g2, 0, none⟩))) hF126 rfl (wanted_guard rfl rfl rfl hF126 rfl (decide_eq_false hc104) rfl) rfl rfl (rn_field Try.underlying24 rfl (by kernel_rfl) (hF126.get rfl) rfl) ?_)
        intro a127 hF128; clear hF126
        have b129 : Blk w74 g2 24 [(.int .i64 n), (.slice A l.length c)] := (b56.ext hx75)
        refine wpl_op (i := 5) rfl (o_val (v := (.int .i64 n)) hF128 rfl (wanted_guard rfl rfl rfl hF128 rfl (decide_eq_false hc104) rfl) rfl rfl (rn_load (isAgg_no Try.underlying3 rfl) (hF128.get rfl) (b129.rule.1 0)) ?_)
        intro a130 hF131; clear hF128
        refine wpl_op (i := 6) rfl (o_call hF131 rfl (wanted_guard rfl rfl rfl hF131 rfl (decide_eq_false hc104) rfl) rfl rfl (rn_call (args2 (hF131.get rfl) (hF131.get rfl)) rfl (by kernel_rfl)) (table_at (u := (.slice A60 m61 c62)) n t63 _ hf79 (by omega) hdt.len hdt.row) ?_)
        rintro _ w132 ⟨rfl, hx133⟩
        refine ⟨_, rfl, ?_⟩; intro a134 hF135; clear hF131; have z136 := hx133.size
        refine wpl_op (i := 7) rfl (o_val (v := (.bool false)) hF135 rfl (wanted_guard rfl rfl rfl hF135 rfl (decide_eq_false hc104) rfl) rfl rfl (rn_not' (hF135.get rfl) rfl) ?_)
        intro a137 hF138; clear hF135
        refine wpl_op (i := 8) rfl (o_val (v := (.bool false)) hF138 rfl rfl rfl rfl (rn_pickF (c_false hF138 rfl (decide_eq_false hc104)) (hF138.get rfl)) ?_)
        intro a139 hF140; clear hF138
        refine wpList_nil ?_
        refine hK97 _ _ ?_
        clear hK97
        have hF141 := (((((((((hF140.nil.cons (hF140.get (t := 38) (v := (.bool false)) rfl)).cons (hF140.get (t := 7) (v := (.int .i64 er68)) rfl)).cons (hF140.get (t := 5) (v := (.slice A60 m61 c62)) rfl)).cons (hF140.get (t := 23) (v := (.bool (decide (((chk n l) : Int) ≠ (0 : Int))))) rfl)).cons (hF140.get (t := 15) (v := (.bool false)) rfl)).cons (hF140.get (t := 4) (v := (.bool false)) rfl)).cons (hF140.get (t := 2) (v := (.pointer (some ⟨g2, 0, none⟩))) rfl)).cons (hF140.get (t := 1) (v := (.int .i64 a)) rfl)).cons (hF140.get (t := 0) (v := (.agg #[(.int .i64 n), (.slice A l.length c)])) rfl))
        clear hF140
        refine wp_cond_false (c_false hF141 rfl rfl) ?_
        refine wp_skip ?_
        refine hK96 _ _ ?_
        clear hK96
        refine wp_seq_k (fun K142 hK142 => ?_)
        have hand := andI_at a
        obtain ⟨a2, ha2⟩ : ∃ z, z = andI a 1023 % n := ⟨_, rfl⟩
        have hmod : 0 ≤ a2 ∧ a2 < n := by rw [ha2]; exact ⟨Int.emod_nonneg _ (by omega), Int.emod_lt_of_pos _ (by omega)⟩
        refine wp_region_lit ?_
        refine wpl_op (i := 0) rfl (o_val (v := (.int .i64 a)) hF141 rfl rfl rfl rfl (rn_move (hF141.get rfl)) ?_)
        intro a143 hF144; clear hF141
        refine wpl_op (i := 1) rfl (o_val (v := (.int .i64 (andI (a) (1023)))) hF144 rfl rfl rfl rfl (rn_andI (hF144.get rfl) rfl) ?_)
        intro a145 hF146; clear hF144
        refine wpl_op (i := 2) rfl (o_val (v := (.pointer (some ⟨g2, 0, none⟩))) hF146 rfl rfl rfl rfl (rn_field Try.underlying24 rfl (by kernel_rfl) (hF146.get rfl) rfl) ?_)
        intro a147 hF148; clear hF146
        have b149 : Blk w132 g2 24 [(.int .i64 n), (.slice A l.length c)] := (b129.ext hx133)
        refine wpl_op (i := 3) rfl (o_val (v := (.int .i64 n)) hF148 rfl rfl rfl rfl (rn_load (isAgg_no Try.underlying3 rfl) (hF148.get rfl) (b149.rule.1 0)) ?_)
        intro a150 hF151; clear hF148
        refine wpl_op (i := 4) rfl (o_val (v := (.int .i64 a2)) hF151 rfl rfl rfl rfl (by rw [ha2]; exact rn_rem (hF151.get rfl) (hF151.get rfl) (by omega : (0 : Int) ≤ (andI (a) (1023))) (by omega : (0 : Int) < n)) ?_)
        intro a152 hF153; clear hF151
        refine wpl_op (i := 5) rfl (o_val (v := (.int .i64 a2)) hF153 rfl rfl rfl rfl (rn_assign (hF153.get rfl)) ?_)
        intro a154 hF155; clear hF153
        refine wpList_nil ?_
        refine hK142 _ _ ?_
        clear hK142
        have hF156 := (((((((((hF155.nil.cons (hF155.get (t := 38) (v := (.bool false)) rfl)).cons (hF155.get (t := 7) (v := (.int .i64 er68)) rfl)).cons (hF155.get (t := 5) (v := (.slice A60 m61 c62)) rfl)).cons (hF155.get (t := 23) (v := (.bool (decide (((chk n l) : Int) ≠ (0 : Int))))) rfl)).cons (hF155.get (t := 15) (v := (.bool false)) rfl)).cons (hF155.get (t := 4) (v := (.bool false)) rfl)).cons (hF155.get (t := 2) (v := (.pointer (some ⟨g2, 0, none⟩))) rfl)).cons (hF155.get (t := 1) (v := (.int .i64 a2)) rfl)).cons (hF155.get (t := 0) (v := (.agg #[(.int .i64 n), (.slice A l.length c)])) rfl))
        clear hF155
        refine wp_seq_k (fun K157 hK157 => ?_)
        refine wp_seq_k (fun K158 hK158 => ?_)
        refine wp_region_lit ?_
        refine wpl_op (i := 0) rfl (o_val (v := (.slice A60 m61 c62)) hF156 rfl rfl rfl rfl (rn_move (hF156.get rfl)) ?_)
        intro a159 hF160; clear hF156
        refine wpl_op (i := 1) rfl (o_val (v := (.int .i64 (m61 : Nat))) hF160 rfl rfl rfl rfl (rn_len_slice Try.underlying33 (hF160.get rfl)) ?_)
        intro a161 hF162; clear hF160
        refine wpl_op (i := 2) rfl (o_val (v := (.int .i64 0)) hF162 rfl rfl rfl rfl (rn_move rfl) ?_)
        intro a163 hF164; clear hF162
        refine wpList_nil ?_
        refine hK158 _ _ ?_
        clear hK158
        refine wp_block ?_
        have d165 := (hf79.ext hx133)
        refine wp_loop (fun a' W => ∃ (k : Nat), Sl 155 [(0, (.agg #[(.int .i64 n), (.slice A l.length c)])), (1, (.int .i64 a2)), (2, (.pointer (some ⟨g2, 0, none⟩))), (4, (.bool false)), (15, (.bool false)), (23, (.bool (decide (((chk n l) : Int) ≠ (0 : Int))))), (5, (.slice A60 m61 c62)), (7, (.int .i64 er68)), (38, (.bool false)), (47, (.int .i64 (m61 : Nat))), (48, (.int .i64 (k : Nat)))] a' ∧ k ≤ n.toNat ∧ (∀ i, i < k → ¬ (T t63 0 i = 1152921504606846976 ∨ T t63 i 0 = 1152921504606846976)) ∧ Ext w W ∧ Blk W g2 24 [(.int .i64 n), (.slice A l.length c)] ∧ RIss (Clip (fun b => w41.heap.size ≤ b) w74) W (.slice A60 m61 c62) t63 ∧ w132.heap.size ≤ W.heap.size) (fun a' _ => n.toNat - (intOf (a'.eval (.tmp 48))).toNat) ⟨0, (((((((((((hF164.nil.cons (q_get hF164 (t := 48) rfl (by first | rfl | (congr 1; omega) | (congr 1; done)))).cons (q_get hF164 (t := 47) rfl rfl)).cons (q_get hF164 (t := 38) rfl rfl)).cons (q_get hF164 (t := 7) rfl rfl)).cons (q_get hF164 (t := 5) rfl rfl)).cons (q_get hF164 (t := 23) rfl rfl)).cons (q_get hF164 (t := 15) rfl rfl)).cons (q_get hF164 (t := 4) rfl rfl)).cons (q_get hF164 (t := 2) rfl rfl)).cons (q_get hF164 (t := 1) rfl rfl)).cons (q_get hF164 (t := 0) rfl rfl)), (by omega), (fun i hi => absurd hi (by omega)), (((((((Ext.refl w).trans hx5).trans hx15).trans hx28).trans hx42).trans hx75).trans hx133), b149, d165, (Nat.le_refl _)⟩ ?_
        clear hF164
        rintro a166 w167 ⟨k, hF168, hp170, hp171, hx169, b172, hf173, hf174⟩
        have hL175 := hF168
        have z176 := hx169.size
        have z177 := b172.lt
        refine wp_seq_k (fun K178 hK178 => ?_)
        refine wp_region_lit ?_
        refine wpl_op (i := 0) rfl (o_val (v := (.bool (decide (((k : Nat) : Int) < ((m61 : Nat) : Int))))) hF168 rfl rfl rfl rfl (rn_lss (hF168.get rfl) (hF168.get rfl)) ?_)
        intro a179 hF180; clear hF168
        refine wpList_nil ?_
        refine hK178 _ _ ?_
        clear hK178
        refine wp_seq_k (fun K181 hK181 => ?_)
        by_cases hc182 : ((k : Nat) : Int) < ((m61 : Nat) : Int)
        · skip
          refine wp_cond_true (c_true hF180 rfl (decide_eq_true hc182)) ?_
          refine wp_skip ?_
          refine hK181 _ _ ?_
          clear hK181
          refine wp_seq_k (fun K183 hK183 => ?_)
          refine wp_block ?_
          refine wp_seq_k (fun K184 hK184 => ?_)
          refine wp_region_lit ?_
          refine wpl_op (i := 0) rfl (o_val (v := (.int .i64 (k : Nat))) hF180 rfl rfl rfl rfl (rn_move (hF180.get rfl)) ?_)
          intro a185 hF186; clear hF180
          refine wpl_op (i := 1) rfl (o_val (v := (.int .i64 (k : Nat))) hF186 rfl rfl rfl rfl (rn_assign (hF186.get rfl)) ?_)
          intro a187 hF188; clear hF186
          refine wpList_nil ?_
          refine hK184 _ _ ?_
          clear hK184
          refine wp_seq_k (fun K189 hK189 => ?_)
          have hkn : k < n.toNat := by omega
          have hl1 : T t63 0 k = (t63.getD 0 []).getD k 0 := rfl; have hl2 : T t63 k 0 = (t63.getD k []).getD 0 0 := rfl
          refine wp_region_lit ?_
          refine wpl_op (i := 0) rfl (o_val (v := (.slice A60 m61 c62)) hF188 rfl rfl rfl rfl (rn_move (hF188.get rfl)) ?_)
          intro a190 hF191; clear hF188
          obtain ⟨b192, o193, A194, c195, hA196, hl197, hc198, hr199, z200, z201⟩ := RIss.get (i := 0) hf173 (by omega)
          have z202 := hdt.row 0 (by omega)
          refine wpl_op (i := 1) rfl (o_val (v := (.pointer (some ⟨b192, o193 + 0, none⟩))) hF191 rfl rfl rfl rfl (rn_index1 Try.underlying33 (by kernel_rfl : (Try.prog.info? 25).map (·.size) = some 1) ((hF191.get rfl).trans (by rw [hA196])) rfl (by omega : (0 : Int) ≤ 0) (by omega : (0 : Int) < ((m61 : Nat) : Int))) ?_)
          intro a203 hF204; clear hF191
          refine wpl_op (i := 2) rfl (o_val (v := (.slice A194 ((t63.getD 0 []).length) c195)) hF204 rfl rfl rfl rfl (rn_load (isAgg_no Try.underlying25 rfl) (hF204.get rfl) (Ext.keep (Ext.refl w167) hc198)) ?_)
          intro a205 hF206; clear hF204
          refine wpl_op (i := 3) rfl (o_val (v := (.int .i64 (k : Nat))) hF206 rfl rfl rfl rfl (rn_move (hF206.get rfl)) ?_)
          intro a207 hF208; clear hF206
          obtain ⟨b209, o210, hA211, -⟩ := Fl.at hr199 (by omega)
          refine wpl_op (i := 4) rfl (o_val (v := (.pointer (some ⟨b209, o210 + k, none⟩))) hF208 rfl rfl rfl rfl (rn_index1 Try.underlying25 (by kernel_rfl : (Try.prog.info? 3).map (·.size) = some 1) ((hF208.get rfl).trans (by rw [hA211])) (hF208.get rfl) (by omega : (0 : Int) ≤ (k : Nat)) (by omega : ((k : Nat) : Int) < (((t63.getD 0 []).length : Nat) : Int))) ?_)
          intro a212 hF213; clear hF208
          refine wpl_op (i := 5) rfl (o_val (v := (.int .i64 ((t63.getD 0 []).getD k 0))) hF213 rfl rfl rfl rfl (rn_load (isAgg_no Try.underlying3 rfl) (hF213.get rfl) (Fl.cellAt hr199 hA211 (intVals_at (i := k) (by omega)))) ?_)
          intro a214 hF215; clear hF213
          refine wpl_op (i := 6) rfl (o_val (v := (.bool (decide ((((t63.getD 0 []).getD k 0) : Int) = (1152921504606846976 : Int))))) hF215 rfl rfl rfl rfl (rn_eql (hF215.get rfl) rfl) ?_)
          intro a216 hF217; clear hF215
          refine wpl_op (i := 7) rfl (o_val (v := (.bool (decide ((((t63.getD 0 []).getD k 0) : Int) = (1152921504606846976 : Int))))) hF217 rfl rfl rfl rfl (rn_move (hF217.get rfl)) ?_)
          intro a218 hF219; clear hF217
          by_cases hc220 : (((t63.getD 0 []).getD k 0) : Int) = (1152921504606846976 : Int)
          · skip
            refine wpl_op (i := 8) rfl (o_skip hF219 rfl (unwanted_guard rfl rfl rfl hF219 rfl (decide_eq_true hc220) rfl) rfl rfl ?_)
            intro a221 hF222; clear hF219
            refine wpl_op (i := 9) rfl (o_skip hF222 rfl (unwanted_guard rfl rfl rfl hF222 rfl (decide_eq_true hc220) rfl) rfl rfl ?_)
            intro a223 hF224; clear hF222
            refine wpl_op (i := 10) rfl (o_skip hF224 rfl (unwanted_guard rfl rfl rfl hF224 rfl (decide_eq_true hc220) rfl) rfl rfl ?_)
            intro a225 hF226; clear hF224
            refine wpl_op (i := 11) rfl (o_skip hF226 rfl (unwanted_guard rfl rfl rfl hF226 rfl (decide_eq_true hc220) rfl) rfl rfl ?_)
            intro a227 hF228; clear hF226
            refine wpl_op (i := 12) rfl (o_skip hF228 rfl (unwanted_guard rfl rfl rfl hF228 rfl (decide_eq_true hc220) rfl) rfl rfl ?_)
            intro a229 hF230; clear hF228
            refine wpl_op (i := 13) rfl (o_skip hF230 rfl (unwanted_guard rfl rfl rfl hF230 rfl (decide_eq_true hc220) rfl) rfl rfl ?_)
            intro a231 hF232; clear hF230
            refine wpl_op (i := 14) rfl (o_skip hF232 rfl (unwanted_guard rfl rfl rfl hF232 rfl (decide_eq_true hc220) rfl) rfl rfl ?_)
            intro a233 hF234; clear hF232
            refine wpl_op (i := 15) rfl (o_val (v := (.bool true)) hF234 rfl rfl rfl rfl (rn_pickT (c_true hF234 rfl (decide_eq_true hc220)) rfl) ?_)
            intro a235 hF236; clear hF234
            refine wpList_nil ?_
            refine hK189 _ _ ?_
            clear hK189
            have hF237 := ((((((((((((((hF236.nil.cons (hF236.get (t := 66) (v := (.bool true)) rfl)).cons (hF236.get (t := 8) (v := (.int .i64 (k : Nat))) rfl)).cons (hF236.get (t := 49) (v := (.bool (decide (((k : Nat) : Int) < ((m61 : Nat) : Int))))) rfl)).cons (hF236.get (t := 48) (v := (.int .i64 (k : Nat))) rfl)).cons (hF236.get (t := 47) (v := (.int .i64 (m61 : Nat))) rfl)).cons (hF236.get (t := 38) (v := (.bool false)) rfl)).cons (hF236.get (t := 7) (v := (.int .i64 er68)) rfl)).cons (hF236.get (t := 5) (v := (.slice A60 m61 c62)) rfl)).cons (hF236.get (t := 23) (v := (.bool (decide (((chk n l) : Int) ≠ (0 : Int))))) rfl)).cons (hF236.get (t := 15) (v := (.bool false)) rfl)).cons (hF236.get (t := 4) (v := (.bool false)) rfl)).cons (hF236.get (t := 2) (v := (.pointer (some ⟨g2, 0, none⟩))) rfl)).cons (hF236.get (t := 1) (v := (.int .i64 a2)) rfl)).cons (hF236.get (t := 0) (v := (.agg #[(.int .i64 n), (.slice A l.length c)])) rfl))
            clear hF236
            refine wp_cond_true (c_true hF237 rfl rfl) ?_
            refine wp_seq_k (fun K238 hK238 => ?_)
            refine wp_region_lit ?_
            refine wpl_op (i := 0) rfl (o_val (v := (.bool true)) hF237 rfl rfl rfl rfl (rn_assign rfl) ?_)
            intro a239 hF240; clear hF237
            refine wpList_nil ?_
            refine hK238 _ _ ?_
            clear hK238
            refine wp_ret ?_
            refine ret_block ?_
            refine ret_then ?_
            refine ret_then ?_
            refine ret_block ?_
            refine ret_then ?_
            refine ret1 hF240 rfl rfl ?_
            exact ⟨rfl, ((Ext.refl w).trans hx169)⟩
          · skip
            refine wpl_op (i := 8) rfl (o_val (v := (.slice A60 m61 c62)) hF219 rfl (wanted_guard rfl rfl rfl hF219 rfl (decide_eq_false hc220) rfl) rfl rfl (rn_move (hF219.get rfl)) ?_)
            intro a241 hF242; clear hF219
            refine wpl_op (i := 9) rfl (o_val (v := (.int .i64 (k : Nat))) hF242 rfl (wanted_guard rfl rfl rfl hF242 rfl (decide_eq_false hc220) rfl) rfl rfl (rn_move (hF242.get rfl)) ?_)
            intro a243 hF244; clear hF242
            obtain ⟨b245, o246, A247, c248, hA249, hl250, hc251, hr252, z253, z254⟩ := RIss.get (i := k) hf173 (by omega)
            have z255 := hdt.row k (by omega)
            refine wpl_op (i := 10) rfl (o_val (v := (.pointer (some ⟨b245, o246 + k, none⟩))) hF244 rfl (wanted_guard rfl rfl rfl hF244 rfl (decide_eq_false hc220) rfl) rfl rfl (rn_index1 Try.underlying33 (by kernel_rfl : (Try.prog.info? 25).map (·.size) = some 1) ((hF244.get rfl).trans (by rw [hA249])) (hF244.get rfl) (by omega : (0 : Int) ≤ (k : Nat)) (by omega : ((k : Nat) : Int) < ((m61 : Nat) : Int))) ?_)
            intro a256 hF257; clear hF244
            refine wpl_op (i := 11) rfl (o_val (v := (.slice A247 ((t63.getD k []).length) c248)) hF257 rfl (wanted_guard rfl rfl rfl hF257 rfl (decide_eq_false hc220) rfl) rfl rfl (rn_load (isAgg_no Try.underlying25 rfl) (hF257.get rfl) (Ext.keep (Ext.refl w167) hc251)) ?_)
            intro a258 hF259; clear hF257
            obtain ⟨b260, o261, hA262, -⟩ := Fl.at hr252 (by omega)
            refine wpl_op (i := 12) rfl (o_val (v := (.pointer (some ⟨b260, o261 + 0, none⟩))) hF259 rfl (wanted_guard rfl rfl rfl hF259 rfl (decide_eq_false hc220) rfl) rfl rfl (rn_index1 Try.underlying25 (by kernel_rfl : (Try.prog.info? 3).map (·.size) = some 1) ((hF259.get rfl).trans (by rw [hA262])) rfl (by omega : (0 : Int) ≤ 0) (by omega : (0 : Int) < (((t63.getD k []).length : Nat) : Int))) ?_)
            intro a263 hF264; clear hF259
            refine wpl_op (i := 13) rfl (o_val (v := (.int .i64 ((t63.getD k []).getD 0 0))) hF264 rfl (wanted_guard rfl rfl rfl hF264 rfl (decide_eq_false hc220) rfl) rfl rfl (rn_load (isAgg_no Try.underlying3 rfl) (hF264.get rfl) (Fl.cellAt hr252 hA262 (intVals_at (i := 0) (by omega)))) ?_)
            intro a265 hF266; clear hF264
            refine wpl_op (i := 14) rfl (o_val (v := (.bool (decide ((((t63.getD k []).getD 0 0) : Int) = (1152921504606846976 : Int))))) hF266 rfl (wanted_guard rfl rfl rfl hF266 rfl (decide_eq_false hc220) rfl) rfl rfl (rn_eql (hF266.get rfl) rfl) ?_)
            intro a267 hF268; clear hF266
            refine wpl_op (i := 15) rfl (o_val (v := (.bool (decide ((((t63.getD k []).getD 0 0) : Int) = (1152921504606846976 : Int))))) hF268 rfl rfl rfl rfl (rn_pickF (c_false hF268 rfl (decide_eq_false hc220)) (hF268.get rfl)) ?_)
            intro a269 hF270; clear hF268
            refine wpList_nil ?_
            refine hK189 _ _ ?_
            clear hK189
            have hF271 := ((((((((((((((hF270.nil.cons (hF270.get (t := 66) (v := (.bool (decide ((((t63.getD k []).getD 0 0) : Int) = (1152921504606846976 : Int))))) rfl)).cons (hF270.get (t := 8) (v := (.int .i64 (k : Nat))) rfl)).cons (hF270.get (t := 49) (v := (.bool (decide (((k : Nat) : Int) < ((m61 : Nat) : Int))))) rfl)).cons (hF270.get (t := 48) (v := (.int .i64 (k : Nat))) rfl)).cons (hF270.get (t := 47) (v := (.int .i64 (m61 : Nat))) rfl)).cons (hF270.get (t := 38) (v := (.bool false)) rfl)).cons (hF270.get (t := 7) (v := (.int .i64 er68)) rfl)).cons (hF270.get (t := 5) (v := (.slice A60 m61 c62)) rfl)).cons (hF270.get (t := 23) (v := (.bool (decide (((chk n l) : Int) ≠ (0 : Int))))) rfl)).cons (hF270.get (t := 15) (v := (.bool false)) rfl)).cons (hF270.get (t := 4) (v := (.bool false)) rfl)).cons (hF270.get (t := 2) (v := (.pointer (some ⟨g2, 0, none⟩))) rfl)).cons (hF270.get (t := 1) (v := (.int .i64 a2)) rfl)).cons (hF270.get (t := 0) (v := (.agg #[(.int .i64 n), (.slice A l.length c)])) rfl))
            clear hF270
            by_cases hc272 : (((t63.getD k []).getD 0 0) : Int) = (1152921504606846976 : Int)
            · skip
              refine wp_cond_true (c_true hF271 rfl (decide_eq_true hc272)) ?_
              refine wp_seq_k (fun K273 hK273 => ?_)
              refine wp_region_lit ?_
              refine wpl_op (i := 0) rfl (o_val (v := (.bool true)) hF271 rfl rfl rfl rfl (rn_assign rfl) ?_)
              intro a274 hF275; clear hF271
              refine wpList_nil ?_
              refine hK273 _ _ ?_
              clear hK273
              refine wp_ret ?_
              refine ret_block ?_
              refine ret_then ?_
              refine ret_then ?_
              refine ret_block ?_
              refine ret_then ?_
              refine ret1 hF275 rfl rfl ?_
              exact ⟨rfl, ((Ext.refl w).trans hx169)⟩
            · skip
              refine wp_cond_false (c_false hF271 rfl (decide_eq_false hc272)) ?_
              refine wp_skip ?_
              refine hK183 _ _ ?_
              clear hK183
              refine wp_region_lit ?_
              refine wpl_op (i := 0) rfl (o_val (v := (.int .i64 (k + 1 : Nat))) hF271 rfl rfl rfl rfl (rn_addN (a := k) (b := 1) (hF271.get rfl) rfl (by omega)) ?_)
              intro a276 hF277; clear hF271
              refine wpl_op (i := 1) rfl (o_val (v := (.int .i64 (k + 1 : Nat))) hF277 rfl rfl rfl rfl (rn_move (hF277.get rfl)) ?_)
              intro a278 hF279; clear hF277
              refine wpList_nil ?_
              refine ⟨⟨(k + 1), (((((((((((hF279.nil.cons (q_get hF279 (t := 48) rfl (by first | rfl | (congr 1; omega) | (congr 1; done)))).cons (q_get hF279 (t := 47) rfl rfl)).cons (q_get hF279 (t := 38) rfl rfl)).cons (q_get hF279 (t := 7) rfl rfl)).cons (q_get hF279 (t := 5) rfl rfl)).cons (q_get hF279 (t := 23) rfl rfl)).cons (q_get hF279 (t := 15) rfl rfl)).cons (q_get hF279 (t := 4) rfl rfl)).cons (q_get hF279 (t := 2) rfl rfl)).cons (q_get hF279 (t := 1) rfl rfl)).cons (q_get hF279 (t := 0) rfl rfl)), (by omega), (upto_step hp171 (by omega)), ((Ext.refl w).trans hx169), b172, hf173, (by omega)⟩, ?_⟩
              rw [hF279.get (t := 48) rfl, hL175.get (t := 48) rfl]; simp [intOf] <;> omega
        · skip
          refine wp_cond_false (c_false hF180 rfl (decide_eq_false hc182)) ?_
          refine wp_exit ?_
          refine exit_then ?_
          refine exit_then ?_
          refine exit_here ?_
          refine hK157 _ _ ?_
          clear hK157
          refine wp_seq_k (fun K280 hK280 => ?_)
          have hall : ∀ i, i < n.toNat → ¬ (T t63 0 i = 1152921504606846976 ∨ T t63 i 0 = 1152921504606846976) := fun i hi => hp171 i (by omega)
          obtain ⟨hfull, hends, h00⟩ := hdt.ends hvo hng hall hmod
          have z281 := hdt.sm (0) (a2.toNat) (by omega) (by omega); simp only [T] at z281
          have z282 := hdt.sm (a2.toNat) (0) (by omega) (by omega); simp only [T] at z282
          have e1 : T t63 0 a2.toNat = (t63.getD 0 []).getD a2.toNat 0 := rfl; have e2 : T t63 a2.toNat 0 = (t63.getD a2.toNat []).getD 0 0 := rfl
          have hx284 : ∃ W, w167.drew = W ∧ Ext w167 W := ⟨_, rfl, (Ext.refl _).drew⟩
          obtain ⟨w283, e285, hx284⟩ := hx284
          have z286 := hx284.size
          refine any_start (fun W => Ext w283 W ∧ Blk W g2 24 [(.int .i64 n), (.slice A l.length c)]) (fun i => false) 15 #[false, false, false, false, false, false, false, false, false, false, false, false, false, false, false] rfl rfl rfl ?_
          rw [e285]; clear e285
          have b288 : Blk w283 g2 24 [(.int .i64 n), (.slice A l.length c)] := (b172.ext hx284)
          have hS287 : Ext w283 w283 ∧ Blk w283 g2 24 [(.int .i64 n), (.slice A l.length c)] := ⟨(Ext.refl w283), b288⟩
          refine any_val (i := 0) (v := (.agg #[(.int .i64 n), (.slice A l.length c)])) hF180 (by decide +kernel) (by decide +kernel) rfl rfl rfl rfl (fun _ _ _ _ h => h) rfl hS287 (fun W hW => (rn_loadBlk (hF180.get rfl) hW.2 Try.underlying24 rfl (by kernel_rfl : (Try.prog.info? 24).map (·.size) = some 2))) ?_
          intro a289 hF290; clear hF180
          refine any_pure (i := 1) (v := (.int .i64 a2)) hF290 (by decide +kernel) (by decide +kernel) rfl rfl rfl rfl (fun _ _ _ _ h => h) rfl (fun W => (rn_move (hF290.get rfl))) ?_
          intro a291 hF292; clear hF290
          refine any_pure (i := 2) (v := (.slice A60 m61 c62)) hF292 (by decide +kernel) (by decide +kernel) rfl rfl rfl rfl (fun _ _ _ _ h => h) rfl (fun W => (rn_move (hF292.get rfl))) ?_
          intro a293 hF294; clear hF292
          refine any_pure (i := 3) (v := (.int .i64 a2)) hF294 (by decide +kernel) (by decide +kernel) rfl rfl rfl rfl (fun _ _ _ _ h => h) rfl (fun W => (rn_move (hF294.get rfl))) ?_
          intro a295 hF296; clear hF294
          have d307 := (hf173.ext hx284)
          obtain ⟨b297, o298, A299, c300, hA301, hl302, hc303, hr304, z305, z306⟩ := RIss.get (i := (a2 : Int).toNat) d307 (by omega)
          have z308 := hdt.row ((a2 : Int).toNat) (by omega)
          refine any_pure (i := 4) (v := (.pointer (some ⟨b297, o298 + (a2 : Int).toNat, none⟩))) hF296 (by decide +kernel) (by decide +kernel) rfl rfl rfl rfl (fun _ _ _ _ h => h) rfl (fun W => (rn_index1 Try.underlying33 (by kernel_rfl : (Try.prog.info? 25).map (·.size) = some 1) ((hF296.get rfl).trans (by rw [hA301])) (hF296.get rfl) (by omega : (0 : Int) ≤ a2) (by omega : (a2 : Int) < ((m61 : Nat) : Int)))) ?_
          intro a309 hF310; clear hF296
          refine any_val (i := 5) (v := (.slice A299 ((t63.getD ((a2 : Int).toNat) []).length) c300)) hF310 (by decide +kernel) (by decide +kernel) rfl rfl rfl rfl (fun _ _ _ _ h => h) rfl hS287 (fun W hW => (rn_load (isAgg_no Try.underlying25 rfl) (hF310.get rfl) (Ext.keep ((Ext.refl w283).trans hW.1) hc303))) ?_
          intro a311 hF312; clear hF310
          obtain ⟨b313, o314, hA315, -⟩ := Fl.at hr304 (by omega)
          refine any_pure (i := 6) (v := (.pointer (some ⟨b313, o314 + 0, none⟩))) hF312 (by decide +kernel) (by decide +kernel) rfl rfl rfl rfl (fun _ _ _ _ h => h) rfl (fun W => (rn_index1 Try.underlying25 (by kernel_rfl : (Try.prog.info? 3).map (·.size) = some 1) ((hF312.get rfl).trans (by rw [hA315])) rfl (by omega : (0 : Int) ≤ 0) (by omega : (0 : Int) < (((t63.getD ((a2 : Int).toNat) []).length : Nat) : Int)))) ?_
          intro a316 hF317; clear hF312
          refine any_val (i := 7) (v := (.int .i64 ((t63.getD ((a2 : Int).toNat) []).getD 0 0))) hF317 (by decide +kernel) (by decide +kernel) rfl rfl rfl rfl (fun _ _ _ _ h => h) rfl hS287 (fun W hW => (rn_load (isAgg_no Try.underlying3 rfl) (hF317.get rfl) (Fl.cellAt (hr304.ext hW.1) hA315 (intVals_at (i := 0) (by omega))))) ?_
          intro a318 hF319; clear hF317
          refine any_pure (i := 8) (v := (.int .i64 (-(((t63.getD ((a2 : Int).toNat) []).getD 0 0) : Int)))) hF319 (by decide +kernel) (by decide +kernel) rfl rfl rfl rfl (fun _ _ _ _ h => h) rfl (fun W => (rn_neg (hF319.get rfl) (by omega) rfl)) ?_
          intro a320 hF321; clear hF319
          refine any_one (i := 9) (by decide +kernel) rfl ?_
          have d322 := ((hc.ext hx169).ext hx284)
          refine o_call hF321 rfl rfl rfl rfl (rn_call (args3 (hF321.get rfl) (hF321.get rfl) (hF321.get rfl)) rfl (by kernel_rfl)) (bgreat_at (v := (.slice A l.length c)) n l a2 (-(((t63.getD ((a2 : Int).toNat) []).getD 0 0) : Int)) _ d322 (fun _ => ⟨by omega, by omega⟩)) ?_
          rintro _ w331 ⟨A323, m324, c325, r326, e327, rfl, hf328, hs329, hx332⟩
          have z330 := Fl.ilen hf328
          refine ⟨_, rfl, ?_⟩; intro a333 hF334; clear hF321; have z335 := hx332.size
          have hf336 : Fl (Clip (fun b => w283.heap.size ≤ b) w331) w331 1 (.slice A323 m324 c325) m324 (intVals r326) := hf328.clip
          have b337 : Blk w331 g2 24 [(.int .i64 n), (.slice A l.length c)] := (b288.ext hx332)
          refine ⟨fun _ _ => ⟨((Ext.refl w283).trans hx332), b337⟩, ?_⟩
          refine any_pure (i := 10) (v := (.tuple #[(.slice A323 m324 c325), (.int .i64 e327)])) hF334 (by decide +kernel) (by decide +kernel) rfl rfl rfl rfl (fun _ _ _ _ h => h) rfl (fun W => (rn_move (hF334.get rfl))) ?_
          intro a338 hF339; clear hF334
          refine any_pure (i := 11) (v := (.slice A323 m324 c325)) hF339 (by decide +kernel) (by decide +kernel) rfl rfl rfl rfl (fun _ _ _ _ h => h) rfl (fun W => (rn_extract (hF339.get rfl) rfl)) ?_
          intro a340 hF341; clear hF339
          refine any_pure (i := 12) (v := (.int .i64 e327)) hF341 (by decide +kernel) (by decide +kernel) rfl rfl rfl rfl (fun _ _ _ _ h => h) rfl (fun W => (rn_extract (hF341.get rfl) rfl)) ?_
          intro a342 hF343; clear hF341
          refine any_pure (i := 13) (v := (.slice A323 m324 c325)) hF343 (by decide +kernel) (by decide +kernel) rfl rfl rfl rfl (fun _ _ _ _ h => h) rfl (fun W => (rn_assign (hF343.get rfl))) ?_
          intro a344 hF345; clear hF343
          refine any_pure (i := 14) (v := (.int .i64 e327)) hF345 (by decide +kernel) (by decide +kernel) rfl rfl rfl rfl (fun _ _ _ _ h => h) rfl (fun W => (rn_assign (hF345.get rfl))) ?_
          intro a346 hF347; clear hF345
          refine any_nil (by decide +kernel) ?_
          refine hK280 _ _ ?_
          clear hK280
          have hF348 := ((((((((((((((hF347.nil.cons (hF347.get (t := 10) (v := (.int .i64 e327)) rfl)).cons (hF347.get (t := 9) (v := (.slice A323 m324 c325)) rfl)).cons (hF347.get (t := 49) (v := (.bool (decide (((k : Nat) : Int) < ((m61 : Nat) : Int))))) rfl)).cons (hF347.get (t := 48) (v := (.int .i64 (k : Nat))) rfl)).cons (hF347.get (t := 47) (v := (.int .i64 (m61 : Nat))) rfl)).cons (hF347.get (t := 38) (v := (.bool false)) rfl)).cons (hF347.get (t := 7) (v := (.int .i64 er68)) rfl)).cons (hF347.get (t := 5) (v := (.slice A60 m61 c62)) rfl)).cons (hF347.get (t := 23) (v := (.bool (decide (((chk n l) : Int) ≠ (0 : Int))))) rfl)).cons (hF347.get (t := 15) (v := (.bool false)) rfl)).cons (hF347.get (t := 4) (v := (.bool false)) rfl)).cons (hF347.get (t := 2) (v := (.pointer (some ⟨g2, 0, none⟩))) rfl)).cons (hF347.get (t := 1) (v := (.int .i64 a2)) rfl)).cons (hF347.get (t := 0) (v := (.agg #[(.int .i64 n), (.slice A l.length c)])) rfl))
          clear hF347
          refine wp_seq_k (fun K349 hK349 => ?_)
          have hx351 : ∃ W, w331.drew = W ∧ Ext w331 W := ⟨_, rfl, (Ext.refl _).drew⟩
          obtain ⟨w350, e352, hx351⟩ := hx351
          have z353 := hx351.size
          refine any_start (fun W => Ext w350 W ∧ Blk W g2 24 [(.int .i64 n), (.slice A l.length c)]) (fun i => false) 14 #[false, false, false, false, false, false, false, false, false, false, false, false, false, false] rfl rfl rfl ?_
          rw [e352]; clear e352
          have b355 : Blk w350 g2 24 [(.int .i64 n), (.slice A l.length c)] := (b337.ext hx351)
          have hS354 : Ext w350 w350 ∧ Blk w350 g2 24 [(.int .i64 n), (.slice A l.length c)] := ⟨(Ext.refl w350), b355⟩
          refine any_val (i := 0) (v := (.agg #[(.int .i64 n), (.slice A l.length c)])) hF348 (by decide +kernel) (by decide +kernel) rfl rfl rfl rfl (fun _ _ _ _ h => h) rfl hS354 (fun W hW => (rn_loadBlk (hF348.get rfl) hW.2 Try.underlying24 rfl (by kernel_rfl : (Try.prog.info? 24).map (·.size) = some 2))) ?_
          intro a356 hF357; clear hF348
          refine any_pure (i := 1) (v := (.int .i64 a2)) hF357 (by decide +kernel) (by decide +kernel) rfl rfl rfl rfl (fun _ _ _ _ h => h) rfl (fun W => (rn_move (hF357.get rfl))) ?_
          intro a358 hF359; clear hF357
          refine any_pure (i := 2) (v := (.slice A60 m61 c62)) hF359 (by decide +kernel) (by decide +kernel) rfl rfl rfl rfl (fun _ _ _ _ h => h) rfl (fun W => (rn_move (hF359.get rfl))) ?_
          intro a360 hF361; clear hF359
          have d372 := (((hf173.ext hx284).ext hx332).ext hx351)
          obtain ⟨b362, o363, A364, c365, hA366, hl367, hc368, hr369, z370, z371⟩ := RIss.get (i := 0) d372 (by omega)
          have z373 := hdt.row 0 (by omega)
          refine any_pure (i := 3) (v := (.pointer (some ⟨b362, o363 + 0, none⟩))) hF361 (by decide +kernel) (by decide +kernel) rfl rfl rfl rfl (fun _ _ _ _ h => h) rfl (fun W => (rn_index1 Try.underlying33 (by kernel_rfl : (Try.prog.info? 25).map (·.size) = some 1) ((hF361.get rfl).trans (by rw [hA366])) rfl (by omega : (0 : Int) ≤ 0) (by omega : (0 : Int) < ((m61 : Nat) : Int)))) ?_
          intro a374 hF375; clear hF361
          refine any_val (i := 4) (v := (.slice A364 ((t63.getD 0 []).length) c365)) hF375 (by decide +kernel) (by decide +kernel) rfl rfl rfl rfl (fun _ _ _ _ h => h) rfl hS354 (fun W hW => (rn_load (isAgg_no Try.underlying25 rfl) (hF375.get rfl) (Ext.keep ((Ext.refl w350).trans hW.1) hc368))) ?_
          intro a376 hF377; clear hF375
          refine any_pure (i := 5) (v := (.int .i64 a2)) hF377 (by decide +kernel) (by decide +kernel) rfl rfl rfl rfl (fun _ _ _ _ h => h) rfl (fun W => (rn_move (hF377.get rfl))) ?_
          intro a378 hF379; clear hF377
          obtain ⟨b380, o381, hA382, -⟩ := Fl.at hr369 (by omega)
          refine any_pure (i := 6) (v := (.pointer (some ⟨b380, o381 + (a2 : Int).toNat, none⟩))) hF379 (by decide +kernel) (by decide +kernel) rfl rfl rfl rfl (fun _ _ _ _ h => h) rfl (fun W => (rn_index1 Try.underlying25 (by kernel_rfl : (Try.prog.info? 3).map (·.size) = some 1) ((hF379.get rfl).trans (by rw [hA382])) (hF379.get rfl) (by omega : (0 : Int) ≤ a2) (by omega : (a2 : Int) < (((t63.getD 0 []).length : Nat) : Int)))) ?_
          intro a383 hF384; clear hF379
          refine any_val (i := 7) (v := (.int .i64 ((t63.getD 0 []).getD ((a2 : Int).toNat) 0))) hF384 (by decide +kernel) (by decide +kernel) rfl rfl rfl rfl (fun _ _ _ _ h => h) rfl hS354 (fun W hW => (rn_load (isAgg_no Try.underlying3 rfl) (hF384.get rfl) (Fl.cellAt (hr369.ext hW.1) hA382 (intVals_at (i := (a2 : Int).toNat) (by omega))))) ?_
          intro a385 hF386; clear hF384
          refine any_one (i := 8) (by decide +kernel) rfl ?_
          have d387 := ((((hc.ext hx169).ext hx284).ext hx332).ext hx351)
          refine o_call hF386 rfl rfl rfl rfl (rn_call (args3 (hF386.get rfl) (hF386.get rfl) (hF386.get rfl)) rfl (by kernel_rfl)) (bleast_at (v := (.slice A l.length c)) n l a2 ((t63.getD 0 []).getD ((a2 : Int).toNat) 0) _ d387 (fun _ => ⟨by omega, by omega⟩)) ?_
          rintro _ w396 ⟨A388, m389, c390, r391, e392, rfl, hf393, hs394, hx397⟩
          have z395 := Fl.ilen hf393
          refine ⟨_, rfl, ?_⟩; intro a398 hF399; clear hF386; have z400 := hx397.size
          have hf401 : Fl (Clip (fun b => w350.heap.size ≤ b) w396) w396 1 (.slice A388 m389 c390) m389 (intVals r391) := hf393.clip
          have b402 : Blk w396 g2 24 [(.int .i64 n), (.slice A l.length c)] := (b355.ext hx397)
          refine ⟨fun _ _ => ⟨((Ext.refl w350).trans hx397), b402⟩, ?_⟩
          refine any_pure (i := 9) (v := (.tuple #[(.slice A388 m389 c390), (.int .i64 e392)])) hF399 (by decide +kernel) (by decide +kernel) rfl rfl rfl rfl (fun _ _ _ _ h => h) rfl (fun W => (rn_move (hF399.get rfl))) ?_
          intro a403 hF404; clear hF399
          refine any_pure (i := 10) (v := (.slice A388 m389 c390)) hF404 (by decide +kernel) (by decide +kernel) rfl rfl rfl rfl (fun _ _ _ _ h => h) rfl (fun W => (rn_extract (hF404.get rfl) rfl)) ?_
          intro a405 hF406; clear hF404
          refine any_pure (i := 11) (v := (.int .i64 e392)) hF406 (by decide +kernel) (by decide +kernel) rfl rfl rfl rfl (fun _ _ _ _ h => h) rfl (fun W => (rn_extract (hF406.get rfl) rfl)) ?_
          intro a407 hF408; clear hF406
          refine any_pure (i := 12) (v := (.slice A388 m389 c390)) hF408 (by decide +kernel) (by decide +kernel) rfl rfl rfl rfl (fun _ _ _ _ h => h) rfl (fun W => (rn_assign (hF408.get rfl))) ?_
          intro a409 hF410; clear hF408
          refine any_pure (i := 13) (v := (.int .i64 e392)) hF410 (by decide +kernel) (by decide +kernel) rfl rfl rfl rfl (fun _ _ _ _ h => h) rfl (fun W => (rn_assign (hF410.get rfl))) ?_
          intro a411 hF412; clear hF410
          refine any_nil (by decide +kernel) ?_
          refine hK349 _ _ ?_
          clear hK349
          have hF413 := ((((((((((((((((hF412.nil.cons (hF412.get (t := 12) (v := (.int .i64 e392)) rfl)).cons (hF412.get (t := 11) (v := (.slice A388 m389 c390)) rfl)).cons (hF412.get (t := 10) (v := (.int .i64 e327)) rfl)).cons (hF412.get (t := 9) (v := (.slice A323 m324 c325)) rfl)).cons (hF412.get (t := 49) (v := (.bool (decide (((k : Nat) : Int) < ((m61 : Nat) : Int))))) rfl)).cons (hF412.get (t := 48) (v := (.int .i64 (k : Nat))) rfl)).cons (hF412.get (t := 47) (v := (.int .i64 (m61 : Nat))) rfl)).cons (hF412.get (t := 38) (v := (.bool false)) rfl)).cons (hF412.get (t := 7) (v := (.int .i64 er68)) rfl)).cons (hF412.get (t := 5) (v := (.slice A60 m61 c62)) rfl)).cons (hF412.get (t := 23) (v := (.bool (decide (((chk n l) : Int) ≠ (0 : Int))))) rfl)).cons (hF412.get (t := 15) (v := (.bool false)) rfl)).cons (hF412.get (t := 4) (v := (.bool false)) rfl)).cons (hF412.get (t := 2) (v := (.pointer (some ⟨g2, 0, none⟩))) rfl)).cons (hF412.get (t := 1) (v := (.int .i64 a2)) rfl)).cons (hF412.get (t := 0) (v := (.agg #[(.int .i64 n), (.slice A l.length c)])) rfl))
          clear hF412
          refine wp_seq_k (fun K414 hK414 => ?_)
          refine wp_seq_k (fun K415 hK415 => ?_)
          obtain ⟨hg1, hg2⟩ := hs329.good hfar71.1 her0 hmod hall (by omega); obtain ⟨hl1, hl2⟩ := hs394.good hfar71.1 her0 hmod hall (by omega)
          have hlen1 : r326.length = n.toNat := by rw [hg2, greatL_len]
          have hlen2 : r391.length = n.toNat := by rw [hl2, leastL_len]
          refine wp_region_lit ?_
          refine wpl_op (i := 0) rfl (o_val (v := (.int .i64 e327)) hF413 rfl rfl rfl rfl (rn_move (hF413.get rfl)) ?_)
          intro a416 hF417; clear hF413
          refine wpl_op (i := 1) rfl (o_val (v := (.bool (decide ((e327 : Int) ≠ (0 : Int))))) hF417 rfl rfl rfl rfl (rn_neq (hF417.get rfl) rfl) ?_)
          intro a418 hF419; clear hF417
          refine wpl_op (i := 2) rfl (o_val (v := (.bool (decide ((e327 : Int) ≠ (0 : Int))))) hF419 rfl rfl rfl rfl (rn_move (hF419.get rfl)) ?_)
          intro a420 hF421; clear hF419
          by_cases hc422 : (e327 : Int) ≠ (0 : Int)
          · skip
            refine wpl_op (i := 3) rfl (o_skip hF421 rfl (unwanted_guard rfl rfl rfl hF421 rfl (decide_eq_true hc422) rfl) rfl rfl ?_)
            intro a423 hF424; clear hF421
            refine wpl_op (i := 4) rfl (o_skip hF424 rfl (unwanted_guard rfl rfl rfl hF424 rfl (decide_eq_true hc422) rfl) rfl rfl ?_)
            intro a425 hF426; clear hF424
            refine wpl_op (i := 5) rfl (o_val (v := (.bool true)) hF426 rfl rfl rfl rfl (rn_pickT (c_true hF426 rfl (decide_eq_true hc422)) rfl) ?_)
            intro a427 hF428; clear hF426
            refine wpl_op (i := 6) rfl (o_val (v := (.bool true)) hF428 rfl rfl rfl rfl (rn_move (hF428.get rfl)) ?_)
            intro a429 hF430; clear hF428
            refine wpl_op (i := 7) rfl (o_skip hF430 rfl (unwanted_guard rfl rfl rfl hF430 rfl rfl rfl) rfl rfl ?_)
            intro a431 hF432; clear hF430
            refine wpl_op (i := 8) rfl (o_skip hF432 rfl (unwanted_guard rfl rfl rfl hF432 rfl rfl rfl) rfl rfl ?_)
            intro a433 hF434; clear hF432
            refine wpl_op (i := 9) rfl (o_skip hF434 rfl (unwanted_guard rfl rfl rfl hF434 rfl rfl rfl) rfl rfl ?_)
            intro a435 hF436; clear hF434
            refine wpl_op (i := 10) rfl (o_skip hF436 rfl (unwanted_guard rfl rfl rfl hF436 rfl rfl rfl) rfl rfl ?_)
            intro a437 hF438; clear hF436
            refine wpl_op (i := 11) rfl (o_skip hF438 rfl (unwanted_guard rfl rfl rfl hF438 rfl rfl rfl) rfl rfl ?_)
            intro a439 hF440; clear hF438
            refine wpl_op (i := 12) rfl (o_val (v := (.bool true)) hF440 rfl rfl rfl rfl (rn_pickT (c_true hF440 rfl rfl) rfl) ?_)
            intro a441 hF442; clear hF440
            refine wpl_op (i := 13) rfl (o_val (v := (.bool true)) hF442 rfl rfl rfl rfl (rn_move (hF442.get rfl)) ?_)
            intro a443 hF444; clear hF442
            refine wpl_op (i := 14) rfl (o_skip hF444 rfl (unwanted_guard rfl rfl rfl hF444 rfl rfl rfl) rfl rfl ?_)
            intro a445 hF446; clear hF444
            refine wpl_op (i := 15) rfl (o_skip hF446 rfl (unwanted_guard rfl rfl rfl hF446 rfl rfl rfl) rfl rfl ?_)
            intro a447 hF448; clear hF446
            refine wpl_op (i := 16) rfl (o_skip hF448 rfl (unwanted_guard rfl rfl rfl hF448 rfl rfl rfl) rfl rfl ?_)
            intro a449 hF450; clear hF448
            refine wpl_op (i := 17) rfl (o_skip hF450 rfl (unwanted_guard rfl rfl rfl hF450 rfl rfl rfl) rfl rfl ?_)
            intro a451 hF452; clear hF450
            refine wpl_op (i := 18) rfl (o_skip hF452 rfl (unwanted_guard rfl rfl rfl hF452 rfl rfl rfl) rfl rfl ?_)
            intro a453 hF454; clear hF452
            refine wpl_op (i := 19) rfl (o_val (v := (.bool true)) hF454 rfl rfl rfl rfl (rn_pickT (c_true hF454 rfl rfl) rfl) ?_)
            intro a455 hF456; clear hF454
            refine wpList_nil ?_
            refine hK415 _ _ ?_
            clear hK415
            have hF457 := (((((((((((((((((hF456.nil.cons (hF456.get (t := 112) (v := (.bool true)) rfl)).cons (hF456.get (t := 12) (v := (.int .i64 e392)) rfl)).cons (hF456.get (t := 11) (v := (.slice A388 m389 c390)) rfl)).cons (hF456.get (t := 10) (v := (.int .i64 e327)) rfl)).cons (hF456.get (t := 9) (v := (.slice A323 m324 c325)) rfl)).cons (hF456.get (t := 49) (v := (.bool (decide (((k : Nat) : Int) < ((m61 : Nat) : Int))))) rfl)).cons (hF456.get (t := 48) (v := (.int .i64 (k : Nat))) rfl)).cons (hF456.get (t := 47) (v := (.int .i64 (m61 : Nat))) rfl)).cons (hF456.get (t := 38) (v := (.bool false)) rfl)).cons (hF456.get (t := 7) (v := (.int .i64 er68)) rfl)).cons (hF456.get (t := 5) (v := (.slice A60 m61 c62)) rfl)).cons (hF456.get (t := 23) (v := (.bool (decide (((chk n l) : Int) ≠ (0 : Int))))) rfl)).cons (hF456.get (t := 15) (v := (.bool false)) rfl)).cons (hF456.get (t := 4) (v := (.bool false)) rfl)).cons (hF456.get (t := 2) (v := (.pointer (some ⟨g2, 0, none⟩))) rfl)).cons (hF456.get (t := 1) (v := (.int .i64 a2)) rfl)).cons (hF456.get (t := 0) (v := (.agg #[(.int .i64 n), (.slice A l.length c)])) rfl))
            clear hF456
            refine wp_cond_true (c_true hF457 rfl rfl) ?_
            refine wp_seq_k (fun K458 hK458 => ?_)
            refine wp_region_lit ?_
            refine wpl_op (i := 0) rfl (o_val (v := (.bool false)) hF457 rfl rfl rfl rfl (rn_assign rfl) ?_)
            intro a459 hF460; clear hF457
            refine wpList_nil ?_
            refine hK458 _ _ ?_
            clear hK458
            refine wp_ret ?_
            refine ret_then ?_
            refine ret1 hF460 rfl rfl ?_
            exfalso; omega
          · skip
            refine wpl_op (i := 3) rfl (o_val (v := (.int .i64 e392)) hF421 rfl (wanted_guard rfl rfl rfl hF421 rfl (decide_eq_false hc422) rfl) rfl rfl (rn_move (hF421.get rfl)) ?_)
            intro a461 hF462; clear hF421
            refine wpl_op (i := 4) rfl (o_val (v := (.bool (decide ((e392 : Int) ≠ (0 : Int))))) hF462 rfl (wanted_guard rfl rfl rfl hF462 rfl (decide_eq_false hc422) rfl) rfl rfl (rn_neq (hF462.get rfl) rfl) ?_)
            intro a463 hF464; clear hF462
            refine wpl_op (i := 5) rfl (o_val (v := (.bool (decide ((e392 : Int) ≠ (0 : Int))))) hF464 rfl rfl rfl rfl (rn_pickF (c_false hF464 rfl (decide_eq_false hc422)) (hF464.get rfl)) ?_)
            intro a465 hF466; clear hF464
            refine wpl_op (i := 6) rfl (o_val (v := (.bool (decide ((e392 : Int) ≠ (0 : Int))))) hF466 rfl rfl rfl rfl (rn_move (hF466.get rfl)) ?_)
            intro a467 hF468; clear hF466
            by_cases hc469 : (e392 : Int) ≠ (0 : Int)
            · skip
              refine wpl_op (i := 7) rfl (o_skip hF468 rfl (unwanted_guard rfl rfl rfl hF468 rfl (decide_eq_true hc469) rfl) rfl rfl ?_)
              intro a470 hF471; clear hF468
              refine wpl_op (i := 8) rfl (o_skip hF471 rfl (unwanted_guard rfl rfl rfl hF471 rfl (decide_eq_true hc469) rfl) rfl rfl ?_)
              intro a472 hF473; clear hF471
              refine wpl_op (i := 9) rfl (o_skip hF473 rfl (unwanted_guard rfl rfl rfl hF473 rfl (decide_eq_true hc469) rfl) rfl rfl ?_)
              intro a474 hF475; clear hF473
              refine wpl_op (i := 10) rfl (o_skip hF475 rfl (unwanted_guard rfl rfl rfl hF475 rfl (decide_eq_true hc469) rfl) rfl rfl ?_)
              intro a476 hF477; clear hF475
              refine wpl_op (i := 11) rfl (o_skip hF477 rfl (unwanted_guard rfl rfl rfl hF477 rfl (decide_eq_true hc469) rfl) rfl rfl ?_)
              intro a478 hF479; clear hF477
              refine wpl_op (i := 12) rfl (o_val (v := (.bool true)) hF479 rfl rfl rfl rfl (rn_pickT (c_true hF479 rfl (decide_eq_true hc469)) rfl) ?_)
              intro a480 hF481; clear hF479
              refine wpl_op (i := 13) rfl (o_val (v := (.bool true)) hF481 rfl rfl rfl rfl (rn_move (hF481.get rfl)) ?_)
              intro a482 hF483; clear hF481
              refine wpl_op (i := 14) rfl (o_skip hF483 rfl (unwanted_guard rfl rfl rfl hF483 rfl rfl rfl) rfl rfl ?_)
              intro a484 hF485; clear hF483
              refine wpl_op (i := 15) rfl (o_skip hF485 rfl (unwanted_guard rfl rfl rfl hF485 rfl rfl rfl) rfl rfl ?_)
              intro a486 hF487; clear hF485
              refine wpl_op (i := 16) rfl (o_skip hF487 rfl (unwanted_guard rfl rfl rfl hF487 rfl rfl rfl) rfl rfl ?_)
              intro a488 hF489; clear hF487
              refine wpl_op (i := 17) rfl (o_skip hF489 rfl (unwanted_guard rfl rfl rfl hF489 rfl rfl rfl) rfl rfl ?_)
              intro a490 hF491; clear hF489
              refine wpl_op (i := 18) rfl (o_skip hF491 rfl (unwanted_guard rfl rfl rfl hF491 rfl rfl rfl) rfl rfl ?_)
              intro a492 hF493; clear hF491
              refine wpl_op (i := 19) rfl (o_val (v := (.bool true)) hF493 rfl rfl rfl rfl (rn_pickT (c_true hF493 rfl rfl) rfl) ?_)
              intro a494 hF495; clear hF493
              refine wpList_nil ?_
              refine hK415 _ _ ?_
              clear hK415
              have hF496 := (((((((((((((((((hF495.nil.cons (hF495.get (t := 112) (v := (.bool true)) rfl)).cons (hF495.get (t := 12) (v := (.int .i64 e392)) rfl)).cons (hF495.get (t := 11) (v := (.slice A388 m389 c390)) rfl)).cons (hF495.get (t := 10) (v := (.int .i64 e327)) rfl)).cons (hF495.get (t := 9) (v := (.slice A323 m324 c325)) rfl)).cons (hF495.get (t := 49) (v := (.bool (decide (((k : Nat) : Int) < ((m61 : Nat) : Int))))) rfl)).cons (hF495.get (t := 48) (v := (.int .i64 (k : Nat))) rfl)).cons (hF495.get (t := 47) (v := (.int .i64 (m61 : Nat))) rfl)).cons (hF495.get (t := 38) (v := (.bool false)) rfl)).cons (hF495.get (t := 7) (v := (.int .i64 er68)) rfl)).cons (hF495.get (t := 5) (v := (.slice A60 m61 c62)) rfl)).cons (hF495.get (t := 23) (v := (.bool (decide (((chk n l) : Int) ≠ (0 : Int))))) rfl)).cons (hF495.get (t := 15) (v := (.bool false)) rfl)).cons (hF495.get (t := 4) (v := (.bool false)) rfl)).cons (hF495.get (t := 2) (v := (.pointer (some ⟨g2, 0, none⟩))) rfl)).cons (hF495.get (t := 1) (v := (.int .i64 a2)) rfl)).cons (hF495.get (t := 0) (v := (.agg #[(.int .i64 n), (.slice A l.length c)])) rfl))
              clear hF495
              refine wp_cond_true (c_true hF496 rfl rfl) ?_
              refine wp_seq_k (fun K497 hK497 => ?_)
              refine wp_region_lit ?_
              refine wpl_op (i := 0) rfl (o_val (v := (.bool false)) hF496 rfl rfl rfl rfl (rn_assign rfl) ?_)
              intro a498 hF499; clear hF496
              refine wpList_nil ?_
              refine hK497 _ _ ?_
              clear hK497
              refine wp_ret ?_
              refine ret_then ?_
              refine ret1 hF499 rfl rfl ?_
              exfalso; omega
            · skip
              refine wpl_op (i := 7) rfl (o_val (v := (.slice A323 m324 c325)) hF468 rfl (wanted_guard rfl rfl rfl hF468 rfl (decide_eq_false hc469) rfl) rfl rfl (rn_move (hF468.get rfl)) ?_)
              intro a500 hF501; clear hF468
              refine wpl_op (i := 8) rfl (o_val (v := (.int .i64 (m324 : Nat))) hF501 rfl (wanted_guard rfl rfl rfl hF501 rfl (decide_eq_false hc469) rfl) rfl rfl (rn_len_slice Try.underlying25 (hF501.get rfl)) ?_)
              intro a502 hF503; clear hF501
              refine wpl_op (i := 9) rfl (o_val (v := (.slice A60 m61 c62)) hF503 rfl (wanted_guard rfl rfl rfl hF503 rfl (decide_eq_false hc469) rfl) rfl rfl (rn_move (hF503.get rfl)) ?_)
              intro a504 hF505; clear hF503
              refine wpl_op (i := 10) rfl (o_val (v := (.int .i64 (m61 : Nat))) hF505 rfl (wanted_guard rfl rfl rfl hF505 rfl (decide_eq_false hc469) rfl) rfl rfl (rn_len_slice Try.underlying33 (hF505.get rfl)) ?_)
              intro a506 hF507; clear hF505
              refine wpl_op (i := 11) rfl (o_val (v := (.bool (decide (((m324 : Nat) : Int) ≠ ((m61 : Nat) : Int))))) hF507 rfl (wanted_guard rfl rfl rfl hF507 rfl (decide_eq_false hc469) rfl) rfl rfl (rn_neq (hF507.get rfl) (hF507.get rfl)) ?_)
              intro a508 hF509; clear hF507
              refine wpl_op (i := 12) rfl (o_val (v := (.bool (decide (((m324 : Nat) : Int) ≠ ((m61 : Nat) : Int))))) hF509 rfl rfl rfl rfl (rn_pickF (c_false hF509 rfl (decide_eq_false hc469)) (hF509.get rfl)) ?_)
              intro a510 hF511; clear hF509
              refine wpl_op (i := 13) rfl (o_val (v := (.bool (decide (((m324 : Nat) : Int) ≠ ((m61 : Nat) : Int))))) hF511 rfl rfl rfl rfl (rn_move (hF511.get rfl)) ?_)
              intro a512 hF513; clear hF511
              by_cases hc514 : ((m324 : Nat) : Int) ≠ ((m61 : Nat) : Int)
              · skip
                refine wpl_op (i := 14) rfl (o_skip hF513 rfl (unwanted_guard rfl rfl rfl hF513 rfl (decide_eq_true hc514) rfl) rfl rfl ?_)
                intro a515 hF516; clear hF513
                refine wpl_op (i := 15) rfl (o_skip hF516 rfl (unwanted_guard rfl rfl rfl hF516 rfl (decide_eq_true hc514) rfl) rfl rfl ?_)
                intro a517 hF518; clear hF516
                refine wpl_op (i := 16) rfl (o_skip hF518 rfl (unwanted_guard rfl rfl rfl hF518 rfl (decide_eq_true hc514) rfl) rfl rfl ?_)
                intro a519 hF520; clear hF518
                refine wpl_op (i := 17) rfl (o_skip hF520 rfl (unwanted_guard rfl rfl rfl hF520 rfl (decide_eq_true hc514) rfl) rfl rfl ?_)
                intro a521 hF522; clear hF520
                refine wpl_op (i := 18) rfl (o_skip hF522 rfl (unwanted_guard rfl rfl rfl hF522 rfl (decide_eq_true hc514) rfl) rfl rfl ?_)
                intro a523 hF524; clear hF522
                refine wpl_op (i := 19) rfl (o_val (v := (.bool true)) hF524 rfl rfl rfl rfl (rn_pickT (c_true hF524 rfl (decide_eq_true hc514)) rfl) ?_)
                intro a525 hF526; clear hF524
                refine wpList_nil ?_
                refine hK415 _ _ ?_
                clear hK415
                have hF527 := (((((((((((((((((hF526.nil.cons (hF526.get (t := 112) (v := (.bool true)) rfl)).cons (hF526.get (t := 12) (v := (.int .i64 e392)) rfl)).cons (hF526.get (t := 11) (v := (.slice A388 m389 c390)) rfl)).cons (hF526.get (t := 10) (v := (.int .i64 e327)) rfl)).cons (hF526.get (t := 9) (v := (.slice A323 m324 c325)) rfl)).cons (hF526.get (t := 49) (v := (.bool (decide (((k : Nat) : Int) < ((m61 : Nat) : Int))))) rfl)).cons (hF526.get (t := 48) (v := (.int .i64 (k : Nat))) rfl)).cons (hF526.get (t := 47) (v := (.int .i64 (m61 : Nat))) rfl)).cons (hF526.get (t := 38) (v := (.bool false)) rfl)).cons (hF526.get (t := 7) (v := (.int .i64 er68)) rfl)).cons (hF526.get (t := 5) (v := (.slice A60 m61 c62)) rfl)).cons (hF526.get (t := 23) (v := (.bool (decide (((chk n l) : Int) ≠ (0 : Int))))) rfl)).cons (hF526.get (t := 15) (v := (.bool false)) rfl)).cons (hF526.get (t := 4) (v := (.bool false)) rfl)).cons (hF526.get (t := 2) (v := (.pointer (some ⟨g2, 0, none⟩))) rfl)).cons (hF526.get (t := 1) (v := (.int .i64 a2)) rfl)).cons (hF526.get (t := 0) (v := (.agg #[(.int .i64 n), (.slice A l.length c)])) rfl))
                clear hF526
                refine wp_cond_true (c_true hF527 rfl rfl) ?_
                refine wp_seq_k (fun K528 hK528 => ?_)
                refine wp_region_lit ?_
                refine wpl_op (i := 0) rfl (o_val (v := (.bool false)) hF527 rfl rfl rfl rfl (rn_assign rfl) ?_)
                intro a529 hF530; clear hF527
                refine wpList_nil ?_
                refine hK528 _ _ ?_
                clear hK528
                refine wp_ret ?_
                refine ret_then ?_
                refine ret1 hF530 rfl rfl ?_
                exfalso; omega
              · skip
                refine wpl_op (i := 14) rfl (o_val (v := (.slice A388 m389 c390)) hF513 rfl (wanted_guard rfl rfl rfl hF513 rfl (decide_eq_false hc514) rfl) rfl rfl (rn_move (hF513.get rfl)) ?_)
                intro a531 hF532; clear hF513
                refine wpl_op (i := 15) rfl (o_val (v := (.int .i64 (m389 : Nat))) hF532 rfl (wanted_guard rfl rfl rfl hF532 rfl (decide_eq_false hc514) rfl) rfl rfl (rn_len_slice Try.underlying25 (hF532.get rfl)) ?_)
                intro a533 hF534; clear hF532
                refine wpl_op (i := 16) rfl (o_val (v := (.slice A60 m61 c62)) hF534 rfl (wanted_guard rfl rfl rfl hF534 rfl (decide_eq_false hc514) rfl) rfl rfl (rn_move (hF534.get rfl)) ?_)
                intro a535 hF536; clear hF534
                refine wpl_op (i := 17) rfl (o_val (v := (.int .i64 (m61 : Nat))) hF536 rfl (wanted_guard rfl rfl rfl hF536 rfl (decide_eq_false hc514) rfl) rfl rfl (rn_len_slice Try.underlying33 (hF536.get rfl)) ?_)
                intro a537 hF538; clear hF536
                refine wpl_op (i := 18) rfl (o_val (v := (.bool (decide (((m389 : Nat) : Int) ≠ ((m61 : Nat) : Int))))) hF538 rfl (wanted_guard rfl rfl rfl hF538 rfl (decide_eq_false hc514) rfl) rfl rfl (rn_neq (hF538.get rfl) (hF538.get rfl)) ?_)
                intro a539 hF540; clear hF538
                refine wpl_op (i := 19) rfl (o_val (v := (.bool (decide (((m389 : Nat) : Int) ≠ ((m61 : Nat) : Int))))) hF540 rfl rfl rfl rfl (rn_pickF (c_false hF540 rfl (decide_eq_false hc514)) (hF540.get rfl)) ?_)
                intro a541 hF542; clear hF540
                refine wpList_nil ?_
                refine hK415 _ _ ?_
                clear hK415
                have hF543 := (((((((((((((((((hF542.nil.cons (hF542.get (t := 112) (v := (.bool (decide (((m389 : Nat) : Int) ≠ ((m61 : Nat) : Int))))) rfl)).cons (hF542.get (t := 12) (v := (.int .i64 e392)) rfl)).cons (hF542.get (t := 11) (v := (.slice A388 m389 c390)) rfl)).cons (hF542.get (t := 10) (v := (.int .i64 e327)) rfl)).cons (hF542.get (t := 9) (v := (.slice A323 m324 c325)) rfl)).cons (hF542.get (t := 49) (v := (.bool (decide (((k : Nat) : Int) < ((m61 : Nat) : Int))))) rfl)).cons (hF542.get (t := 48) (v := (.int .i64 (k : Nat))) rfl)).cons (hF542.get (t := 47) (v := (.int .i64 (m61 : Nat))) rfl)).cons (hF542.get (t := 38) (v := (.bool false)) rfl)).cons (hF542.get (t := 7) (v := (.int .i64 er68)) rfl)).cons (hF542.get (t := 5) (v := (.slice A60 m61 c62)) rfl)).cons (hF542.get (t := 23) (v := (.bool (decide (((chk n l) : Int) ≠ (0 : Int))))) rfl)).cons (hF542.get (t := 15) (v := (.bool false)) rfl)).cons (hF542.get (t := 4) (v := (.bool false)) rfl)).cons (hF542.get (t := 2) (v := (.pointer (some ⟨g2, 0, none⟩))) rfl)).cons (hF542.get (t := 1) (v := (.int .i64 a2)) rfl)).cons (hF542.get (t := 0) (v := (.agg #[(.int .i64 n), (.slice A l.length c)])) rfl))
                clear hF542
                by_cases hc544 : ((m389 : Nat) : Int) ≠ ((m61 : Nat) : Int)
                · skip
                  refine wp_cond_true (c_true hF543 rfl (decide_eq_true hc544)) ?_
                  refine wp_seq_k (fun K545 hK545 => ?_)
                  refine wp_region_lit ?_
                  refine wpl_op (i := 0) rfl (o_val (v := (.bool false)) hF543 rfl rfl rfl rfl (rn_assign rfl) ?_)
                  intro a546 hF547; clear hF543
                  refine wpList_nil ?_
                  refine hK545 _ _ ?_
                  clear hK545
                  refine wp_ret ?_
                  refine ret_then ?_
                  refine ret1 hF547 rfl rfl ?_
                  exfalso; omega
                · skip
                  refine wp_cond_false (c_false hF543 rfl (decide_eq_false hc544)) ?_
                  refine wp_skip ?_
                  refine hK414 _ _ ?_
                  clear hK414
                  refine wp_seq_k (fun K548 hK548 => ?_)
                  refine wp_seq_k (fun K549 hK549 => ?_)
                  refine wp_region_lit ?_
                  refine wpl_op (i := 0) rfl (o_val (v := (.slice A60 m61 c62)) hF543 rfl rfl rfl rfl (rn_move (hF543.get rfl)) ?_)
                  intro a550 hF551; clear hF543
                  refine wpl_op (i := 1) rfl (o_val (v := (.int .i64 (m61 : Nat))) hF551 rfl rfl rfl rfl (rn_len_slice Try.underlying33 (hF551.get rfl)) ?_)
                  intro a552 hF553; clear hF551
                  refine wpl_op (i := 2) rfl (o_val (v := (.int .i64 0)) hF553 rfl rfl rfl rfl (rn_move rfl) ?_)
                  intro a554 hF555; clear hF553
                  refine wpList_nil ?_
                  refine hK549 _ _ ?_
                  clear hK549
                  refine wp_block ?_
                  have d556 := ((((hf173.ext hx284).ext hx332).ext hx351).ext hx397)
                  have d557 := ((hf336.ext hx351).ext hx397)
                  refine wp_loop (fun a' W => ∃ (k2 : Nat), Sl 155 [(0, (.agg #[(.int .i64 n), (.slice A l.length c)])), (1, (.int .i64 a2)), (2, (.pointer (some ⟨g2, 0, none⟩))), (4, (.bool false)), (15, (.bool false)), (23, (.bool (decide (((chk n l) : Int) ≠ (0 : Int))))), (5, (.slice A60 m61 c62)), (7, (.int .i64 er68)), (38, (.bool false)), (47, (.int .i64 (m61 : Nat))), (48, (.int .i64 (k : Nat))), (49, (.bool (decide (((k : Nat) : Int) < ((m61 : Nat) : Int))))), (9, (.slice A323 m324 c325)), (10, (.int .i64 e327)), (11, (.slice A388 m389 c390)), (12, (.int .i64 e392)), (112, (.bool (decide (((m389 : Nat) : Int) ≠ ((m61 : Nat) : Int))))), (114, (.int .i64 (m61 : Nat))), (115, (.int .i64 (k2 : Nat)))] a' ∧ k2 ≤ n.toNat ∧ Ext w W ∧ Blk W g2 24 [(.int .i64 n), (.slice A l.length c)] ∧ RIss (Clip (fun b => w41.heap.size ≤ b) w74) W (.slice A60 m61 c62) t63 ∧ Fl (Clip (fun b => w283.heap.size ≤ b) w331) W 1 (.slice A323 m324 c325) m324 (intVals r326) ∧ Fl (Clip (fun b => w350.heap.size ≤ b) w396) W 1 (.slice A388 m389 c390) m389 (intVals r391) ∧ w396.heap.size ≤ W.heap.size) (fun a' _ => n.toNat - (intOf (a'.eval (.tmp 115))).toNat) ⟨0, (((((((((((((((((((hF555.nil.cons (q_get hF555 (t := 115) rfl (by first | rfl | (congr 1; omega) | (congr 1; done)))).cons (q_get hF555 (t := 114) rfl rfl)).cons (q_get hF555 (t := 112) rfl rfl)).cons (q_get hF555 (t := 12) rfl rfl)).cons (q_get hF555 (t := 11) rfl rfl)).cons (q_get hF555 (t := 10) rfl rfl)).cons (q_get hF555 (t := 9) rfl rfl)).cons (q_get hF555 (t := 49) rfl rfl)).cons (q_get hF555 (t := 48) rfl rfl)).cons (q_get hF555 (t := 47) rfl rfl)).cons (q_get hF555 (t := 38) rfl rfl)).cons (q_get hF555 (t := 7) rfl rfl)).cons (q_get hF555 (t := 5) rfl rfl)).cons (q_get hF555 (t := 23) rfl rfl)).cons (q_get hF555 (t := 15) rfl rfl)).cons (q_get hF555 (t := 4) rfl rfl)).cons (q_get hF555 (t := 2) rfl rfl)).cons (q_get hF555 (t := 1) rfl rfl)).cons (q_get hF555 (t := 0) rfl rfl)), (by omega), ((((((Ext.refl w).trans hx169).trans hx284).trans hx332).trans hx351).trans hx397), b402, d556, d557, hf401, (Nat.le_refl _)⟩ ?_
                  clear hF555
                  rintro a558 w559 ⟨k2, hF560, hp562, hx561, b563, hf564, hf565, hf566, hf567⟩
                  have hL568 := hF560
                  have z569 := hx561.size
                  have z570 := b563.lt
                  refine wp_seq_k (fun K571 hK571 => ?_)
                  refine wp_region_lit ?_
                  refine wpl_op (i := 0) rfl (o_val (v := (.bool (decide (((k2 : Nat) : Int) < ((m61 : Nat) : Int))))) hF560 rfl rfl rfl rfl (rn_lss (hF560.get rfl) (hF560.get rfl)) ?_)
                  intro a572 hF573; clear hF560
                  refine wpList_nil ?_
                  refine hK571 _ _ ?_
                  clear hK571
                  refine wp_seq_k (fun K574 hK574 => ?_)
                  by_cases hc575 : ((k2 : Nat) : Int) < ((m61 : Nat) : Int)
                  · skip
                    refine wp_cond_true (c_true hF573 rfl (decide_eq_true hc575)) ?_
                    refine wp_skip ?_
                    refine hK574 _ _ ?_
                    clear hK574
                    refine wp_seq_k (fun K576 hK576 => ?_)
                    refine wp_block ?_
                    refine wp_seq_k (fun K577 hK577 => ?_)
                    refine wp_region_lit ?_
                    refine wpl_op (i := 0) rfl (o_val (v := (.int .i64 (k2 : Nat))) hF573 rfl rfl rfl rfl (rn_move (hF573.get rfl)) ?_)
                    intro a578 hF579; clear hF573
                    refine wpl_op (i := 1) rfl (o_val (v := (.int .i64 (k2 : Nat))) hF579 rfl rfl rfl rfl (rn_assign (hF579.get rfl)) ?_)
                    intro a580 hF581; clear hF579
                    refine wpList_nil ?_
                    refine hK577 _ _ ?_
                    clear hK577
                    refine wp_seq_k (fun K582 hK582 => ?_)
                    have hk2 : k2 < n.toNat := by omega
                    have z583 := hdt.sm (a2.toNat) (k2) (by omega) (by omega); simp only [T] at z583
                    have z584 := hdt.sm (k2) (a2.toNat) (by omega) (by omega); simp only [T] at z584
                    have z585 := hdt.sm (0) (k2) (by omega) (by omega); simp only [T] at z585
                    have z586 := hdt.sm (k2) (0) (by omega) (by omega); simp only [T] at z586
                    have z587 := hdt.sm (a2.toNat) (a2.toNat) (by omega) (by omega); simp only [T] at z587
                    have hna := hall a2.toNat (by omega); have hnk := hall k2 hk2; simp only [T] at hna hnk
                    have hd1 : r326.getD k2 0 - r326.getD a2.toNat 0 = (t63.getD a2.toNat []).getD k2 0 := by rw [hg2, greatL_at hk2, greatL_at (by omega)]; exact hfull.great_low (by omega) hk2
                    have hd2 : r391.getD a2.toNat 0 - r391.getD k2 0 = (t63.getD k2 []).getD a2.toNat 0 := by rw [hl2, leastL_at hk2, leastL_at (by omega)]; exact hfull.small_low (by omega) hk2
                    have hB1 : -1152921504606846976 ≤ r326.getD k2 0 ∧ r326.getD k2 0 ≤ 1152921504606846976 := by rw [hg2, greatL_at (by omega)]; unfold P15.great; simp only [T]; omega
                    have hB2 : -1152921504606846976 ≤ r326.getD a2.toNat 0 ∧ r326.getD a2.toNat 0 ≤ 1152921504606846976 := by rw [hg2, greatL_at (by omega)]; unfold P15.great; simp only [T]; omega
                    have hB3 : -1152921504606846976 ≤ r391.getD a2.toNat 0 ∧ r391.getD a2.toNat 0 ≤ 1152921504606846976 := by rw [hl2, leastL_at (by omega)]; unfold P15.small; simp only [T]; omega
                    have hB4 : -1152921504606846976 ≤ r391.getD k2 0 ∧ r391.getD k2 0 ≤ 1152921504606846976 := by rw [hl2, leastL_at (by omega)]; unfold P15.small; simp only [T]; omega
                    have hx589 : ∃ W, w559.drew = W ∧ Ext w559 W := ⟨_, rfl, (Ext.refl _).drew⟩
                    obtain ⟨w588, e590, hx589⟩ := hx589
                    have z591 := hx589.size
                    refine any_start (fun W => Ext w588 W) (fun i => false) 36 #[false, false, false, false, false, false, false, false, false, false, false, false, false, false, false, false, false, false, false, false, false, false, false, false, false, false, false, false, false, false, false, false, false, false, false, false] rfl rfl rfl ?_
                    rw [e590]; clear e590
                    refine any_pure (i := 0) (v := (.slice A323 m324 c325)) hF581 (by decide +kernel) (by decide +kernel) rfl rfl rfl rfl (fun _ _ _ _ h => h) rfl (fun W => (rn_move (hF581.get rfl))) ?_
                    intro a592 hF593; clear hF581
                    refine any_pure (i := 1) (v := (.int .i64 (k2 : Nat))) hF593 (by decide +kernel) (by decide +kernel) rfl rfl rfl rfl (fun _ _ _ _ h => h) rfl (fun W => (rn_move (hF593.get rfl))) ?_
                    intro a594 hF595; clear hF593
                    have d599 := (hf565.ext hx589)
                    obtain ⟨b596, o597, hA598, -⟩ := Fl.at d599 (by omega)
                    refine any_pure (i := 2) (v := (.pointer (some ⟨b596, o597 + k2, none⟩))) hF595 (by decide +kernel) (by decide +kernel) rfl rfl rfl rfl (fun _ _ _ _ h => h) rfl (fun W => (rn_index1 Try.underlying25 (by kernel_rfl : (Try.prog.info? 3).map (·.size) = some 1) ((hF595.get rfl).trans (by rw [hA598])) (hF595.get rfl) (by omega : (0 : Int) ≤ (k2 : Nat)) (by omega : ((k2 : Nat) : Int) < ((m324 : Nat) : Int)))) ?_
                    intro a600 hF601; clear hF595
                    have hS602 : Ext w588 w588 := (Ext.refl w588)
                    refine any_val (i := 3) (v := (.int .i64 (r326.getD k2 0))) hF601 (by decide +kernel) (by decide +kernel) rfl rfl rfl rfl (fun _ _ _ _ h => h) rfl hS602 (fun W hW => (rn_load (isAgg_no Try.underlying3 rfl) (hF601.get rfl) (Fl.cellAt (d599.ext hW) hA598 (intVals_at (i := k2) (by omega))))) ?_
                    intro a603 hF604; clear hF601
                    refine any_pure (i := 4) (v := (.slice A323 m324 c325)) hF604 (by decide +kernel) (by decide +kernel) rfl rfl rfl rfl (fun _ _ _ _ h => h) rfl (fun W => (rn_move (hF604.get rfl))) ?_
                    intro a605 hF606; clear hF604
                    refine any_pure (i := 5) (v := (.int .i64 a2)) hF606 (by decide +kernel) (by decide +kernel) rfl rfl rfl rfl (fun _ _ _ _ h => h) rfl (fun W => (rn_move (hF606.get rfl))) ?_
                    intro a607 hF608; clear hF606
                    refine any_pure (i := 6) (v := (.pointer (some ⟨b596, o597 + (a2 : Int).toNat, none⟩))) hF608 (by decide +kernel) (by decide +kernel) rfl rfl rfl rfl (fun _ _ _ _ h => h) rfl (fun W => (rn_index1 Try.underlying25 (by kernel_rfl : (Try.prog.info? 3).map (·.size) = some 1) ((hF608.get rfl).trans (by rw [hA598])) (hF608.get rfl) (by omega : (0 : Int) ≤ a2) (by omega : (a2 : Int) < ((m324 : Nat) : Int)))) ?_
                    intro a609 hF610; clear hF608
                    refine any_val (i := 7) (v := (.int .i64 (r326.getD ((a2 : Int).toNat) 0))) hF610 (by decide +kernel) (by decide +kernel) rfl rfl rfl rfl (fun _ _ _ _ h => h) rfl hS602 (fun W hW => (rn_load (isAgg_no Try.underlying3 rfl) (hF610.get rfl) (Fl.cellAt (d599.ext hW) hA598 (intVals_at (i := (a2 : Int).toNat) (by omega))))) ?_
                    intro a611 hF612; clear hF610
                    refine any_pure (i := 8) (v := (.int .i64 ((r326.getD k2 0) - (r326.getD ((a2 : Int).toNat) 0)))) hF612 (by decide +kernel) (by decide +kernel) rfl rfl rfl rfl (fun _ _ _ _ h => h) rfl (fun W => (rn_sub (hF612.get rfl) (hF612.get rfl) (by omega) (by omega))) ?_
                    intro a613 hF614; clear hF612
                    refine any_pure (i := 9) (v := (.slice A60 m61 c62)) hF614 (by decide +kernel) (by decide +kernel) rfl rfl rfl rfl (fun _ _ _ _ h => h) rfl (fun W => (rn_move (hF614.get rfl))) ?_
                    intro a615 hF616; clear hF614
                    refine any_pure (i := 10) (v := (.int .i64 a2)) hF616 (by decide +kernel) (by decide +kernel) rfl rfl rfl rfl (fun _ _ _ _ h => h) rfl (fun W => (rn_move (hF616.get rfl))) ?_
                    intro a617 hF618; clear hF616
                    have d629 := (hf564.ext hx589)
                    obtain ⟨b619, o620, A621, c622, hA623, hl624, hc625, hr626, z627, z628⟩ := RIss.get (i := (a2 : Int).toNat) d629 (by omega)
                    have z630 := hdt.row ((a2 : Int).toNat) (by omega)
                    refine any_pure (i := 11) (v := (.pointer (some ⟨b619, o620 + (a2 : Int).toNat, none⟩))) hF618 (by decide +kernel) (by decide +kernel) rfl rfl rfl rfl (fun _ _ _ _ h => h) rfl (fun W => (rn_index1 Try.underlying33 (by kernel_rfl : (Try.prog.info? 25).map (·.size) = some 1) ((hF618.get rfl).trans (by rw [hA623])) (hF618.get rfl) (by omega : (0 : Int) ≤ a2) (by omega : (a2 : Int) < ((m61 : Nat) : Int)))) ?_
                    intro a631 hF632; clear hF618
                    refine any_val (i := 12) (v := (.slice A621 ((t63.getD ((a2 : Int).toNat) []).length) c622)) hF632 (by decide +kernel) (by decide +kernel) rfl rfl rfl rfl (fun _ _ _ _ h => h) rfl hS602 (fun W hW => (rn_load (isAgg_no Try.underlying25 rfl) (hF632.get rfl) (Ext.keep ((Ext.refl w588).trans hW) hc625))) ?_
                    intro a633 hF634; clear hF632
                    refine any_pure (i := 13) (v := (.int .i64 (k2 : Nat))) hF634 (by decide +kernel) (by decide +kernel) rfl rfl rfl rfl (fun _ _ _ _ h => h) rfl (fun W => (rn_move (hF634.get rfl))) ?_
                    intro a635 hF636; clear hF634
                    obtain ⟨b637, o638, hA639, -⟩ := Fl.at hr626 (by omega)
                    refine any_pure (i := 14) (v := (.pointer (some ⟨b637, o638 + k2, none⟩))) hF636 (by decide +kernel) (by decide +kernel) rfl rfl rfl rfl (fun _ _ _ _ h => h) rfl (fun W => (rn_index1 Try.underlying25 (by kernel_rfl : (Try.prog.info? 3).map (·.size) = some 1) ((hF636.get rfl).trans (by rw [hA639])) (hF636.get rfl) (by omega : (0 : Int) ≤ (k2 : Nat)) (by omega : ((k2 : Nat) : Int) < (((t63.getD ((a2 : Int).toNat) []).length : Nat) : Int)))) ?_
                    intro a640 hF641; clear hF636
                    refine any_val (i := 15) (v := (.int .i64 ((t63.getD ((a2 : Int).toNat) []).getD k2 0))) hF641 (by decide +kernel) (by decide +kernel) rfl rfl rfl rfl (fun _ _ _ _ h => h) rfl hS602 (fun W hW => (rn_load (isAgg_no Try.underlying3 rfl) (hF641.get rfl) (Fl.cellAt (hr626.ext hW) hA639 (intVals_at (i := k2) (by omega))))) ?_
                    intro a642 hF643; clear hF641
                    refine any_pure (i := 16) (v := (.bool (decide (((r326.getD k2 0) - (r326.getD ((a2 : Int).toNat) 0) : Int) ≠ (((t63.getD ((a2 : Int).toNat) []).getD k2 0) : Int))))) hF643 (by decide +kernel) (by decide +kernel) rfl rfl rfl rfl (fun _ _ _ _ h => h) rfl (fun W => (rn_neq (hF643.get rfl) (hF643.get rfl))) ?_
                    intro a644 hF645; clear hF643
                    refine any_pure (i := 17) (v := (.bool (decide (((r326.getD k2 0) - (r326.getD ((a2 : Int).toNat) 0) : Int) ≠ (((t63.getD ((a2 : Int).toNat) []).getD k2 0) : Int))))) hF645 (by decide +kernel) (by decide +kernel) rfl rfl rfl rfl (fun _ _ _ _ h => h) rfl (fun W => (rn_move (hF645.get rfl))) ?_
                    intro a646 hF647; clear hF645
                    by_cases hc648 : ((r326.getD k2 0) - (r326.getD ((a2 : Int).toNat) 0) : Int) ≠ (((t63.getD ((a2 : Int).toNat) []).getD k2 0) : Int)
                    · skip
                      refine any_pass (i := 18) hF647 (by decide +kernel) (by decide +kernel) rfl rfl rfl rfl (fun _ _ _ _ h => h) (unwanted_guard rfl rfl rfl hF647 rfl (decide_eq_true hc648) rfl) ?_
                      intro a649 hF650; clear hF647
                      refine any_pass (i := 19) hF650 (by decide +kernel) (by decide +kernel) rfl rfl rfl rfl (fun _ _ _ _ h => h) (unwanted_guard rfl rfl rfl hF650 rfl (decide_eq_true hc648) rfl) ?_
                      intro a651 hF652; clear hF650
                      refine any_pass (i := 20) hF652 (by decide +kernel) (by decide +kernel) rfl rfl rfl rfl (fun _ _ _ _ h => h) (unwanted_guard rfl rfl rfl hF652 rfl (decide_eq_true hc648) rfl) ?_
                      intro a653 hF654; clear hF652
                      refine any_pass (i := 21) hF654 (by decide +kernel) (by decide +kernel) rfl rfl rfl rfl (fun _ _ _ _ h => h) (unwanted_guard rfl rfl rfl hF654 rfl (decide_eq_true hc648) rfl) ?_
                      intro a655 hF656; clear hF654
                      refine any_pass (i := 22) hF656 (by decide +kernel) (by decide +kernel) rfl rfl rfl rfl (fun _ _ _ _ h => h) (unwanted_guard rfl rfl rfl hF656 rfl (decide_eq_true hc648) rfl) ?_
                      intro a657 hF658; clear hF656
                      refine any_pass (i := 23) hF658 (by decide +kernel) (by decide +kernel) rfl rfl rfl rfl (fun _ _ _ _ h => h) (unwanted_guard rfl rfl rfl hF658 rfl (decide_eq_true hc648) rfl) ?_
                      intro a659 hF660; clear hF658
                      refine any_pass (i := 24) hF660 (by decide +kernel) (by decide +kernel) rfl rfl rfl rfl (fun _ _ _ _ h => h) (unwanted_guard rfl rfl rfl hF660 rfl (decide_eq_true hc648) rfl) ?_
                      intro a661 hF662; clear hF660
                      refine any_pass (i := 25) hF662 (by decide +kernel) (by decide +kernel) rfl rfl rfl rfl (fun _ _ _ _ h => h) (unwanted_guard rfl rfl rfl hF662 rfl (decide_eq_true hc648) rfl) ?_
                      intro a663 hF664; clear hF662
                      refine any_pass (i := 26) hF664 (by decide +kernel) (by decide +kernel) rfl rfl rfl rfl (fun _ _ _ _ h => h) (unwanted_guard rfl rfl rfl hF664 rfl (decide_eq_true hc648) rfl) ?_
                      intro a665 hF666; clear hF664
                      refine any_pass (i := 27) hF666 (by decide +kernel) (by decide +kernel) rfl rfl rfl rfl (fun _ _ _ _ h => h) (unwanted_guard rfl rfl rfl hF666 rfl (decide_eq_true hc648) rfl) ?_
                      intro a667 hF668; clear hF666
                      refine any_pass (i := 28) hF668 (by decide +kernel) (by decide +kernel) rfl rfl rfl rfl (fun _ _ _ _ h => h) (unwanted_guard rfl rfl rfl hF668 rfl (decide_eq_true hc648) rfl) ?_
                      intro a669 hF670; clear hF668
                      refine any_pass (i := 29) hF670 (by decide +kernel) (by decide +kernel) rfl rfl rfl rfl (fun _ _ _ _ h => h) (unwanted_guard rfl rfl rfl hF670 rfl (decide_eq_true hc648) rfl) ?_
                      intro a671 hF672; clear hF670
                      refine any_pass (i := 30) hF672 (by decide +kernel) (by decide +kernel) rfl rfl rfl rfl (fun _ _ _ _ h => h) (unwanted_guard rfl rfl rfl hF672 rfl (decide_eq_true hc648) rfl) ?_
                      intro a673 hF674; clear hF672
                      refine any_pass (i := 31) hF674 (by decide +kernel) (by decide +kernel) rfl rfl rfl rfl (fun _ _ _ _ h => h) (unwanted_guard rfl rfl rfl hF674 rfl (decide_eq_true hc648) rfl) ?_
                      intro a675 hF676; clear hF674
                      refine any_pass (i := 32) hF676 (by decide +kernel) (by decide +kernel) rfl rfl rfl rfl (fun _ _ _ _ h => h) (unwanted_guard rfl rfl rfl hF676 rfl (decide_eq_true hc648) rfl) ?_
                      intro a677 hF678; clear hF676
                      refine any_pass (i := 33) hF678 (by decide +kernel) (by decide +kernel) rfl rfl rfl rfl (fun _ _ _ _ h => h) (unwanted_guard rfl rfl rfl hF678 rfl (decide_eq_true hc648) rfl) ?_
                      intro a679 hF680; clear hF678
                      refine any_pass (i := 34) hF680 (by decide +kernel) (by decide +kernel) rfl rfl rfl rfl (fun _ _ _ _ h => h) (unwanted_guard rfl rfl rfl hF680 rfl (decide_eq_true hc648) rfl) ?_
                      intro a681 hF682; clear hF680
                      refine any_pure (i := 35) (v := (.bool true)) hF682 (by decide +kernel) (by decide +kernel) rfl rfl rfl rfl (fun _ _ _ _ h => h) rfl (fun W => (rn_pickT (c_true hF682 rfl (decide_eq_true hc648)) rfl)) ?_
                      intro a683 hF684; clear hF682
                      refine any_nil (by decide +kernel) ?_
                      refine hK582 _ _ ?_
                      clear hK582
                      have hF685 := ((((((((((((((((((((((hF684.nil.cons (hF684.get (t := 153) (v := (.bool true)) rfl)).cons (hF684.get (t := 13) (v := (.int .i64 (k2 : Nat))) rfl)).cons (hF684.get (t := 116) (v := (.bool (decide (((k2 : Nat) : Int) < ((m61 : Nat) : Int))))) rfl)).cons (hF684.get (t := 115) (v := (.int .i64 (k2 : Nat))) rfl)).cons (hF684.get (t := 114) (v := (.int .i64 (m61 : Nat))) rfl)).cons (hF684.get (t := 112) (v := (.bool (decide (((m389 : Nat) : Int) ≠ ((m61 : Nat) : Int))))) rfl)).cons (hF684.get (t := 12) (v := (.int .i64 e392)) rfl)).cons (hF684.get (t := 11) (v := (.slice A388 m389 c390)) rfl)).cons (hF684.get (t := 10) (v := (.int .i64 e327)) rfl)).cons (hF684.get (t := 9) (v := (.slice A323 m324 c325)) rfl)).cons (hF684.get (t := 49) (v := (.bool (decide (((k : Nat) : Int) < ((m61 : Nat) : Int))))) rfl)).cons (hF684.get (t := 48) (v := (.int .i64 (k : Nat))) rfl)).cons (hF684.get (t := 47) (v := (.int .i64 (m61 : Nat))) rfl)).cons (hF684.get (t := 38) (v := (.bool false)) rfl)).cons (hF684.get (t := 7) (v := (.int .i64 er68)) rfl)).cons (hF684.get (t := 5) (v := (.slice A60 m61 c62)) rfl)).cons (hF684.get (t := 23) (v := (.bool (decide (((chk n l) : Int) ≠ (0 : Int))))) rfl)).cons (hF684.get (t := 15) (v := (.bool false)) rfl)).cons (hF684.get (t := 4) (v := (.bool false)) rfl)).cons (hF684.get (t := 2) (v := (.pointer (some ⟨g2, 0, none⟩))) rfl)).cons (hF684.get (t := 1) (v := (.int .i64 a2)) rfl)).cons (hF684.get (t := 0) (v := (.agg #[(.int .i64 n), (.slice A l.length c)])) rfl))
                      clear hF684
                      refine wp_cond_true (c_true hF685 rfl rfl) ?_
                      refine wp_seq_k (fun K686 hK686 => ?_)
                      refine wp_region_lit ?_
                      refine wpl_op (i := 0) rfl (o_val (v := (.bool false)) hF685 rfl rfl rfl rfl (rn_assign rfl) ?_)
                      intro a687 hF688; clear hF685
                      refine wpList_nil ?_
                      refine hK686 _ _ ?_
                      clear hK686
                      refine wp_ret ?_
                      refine ret_block ?_
                      refine ret_then ?_
                      refine ret_then ?_
                      refine ret_block ?_
                      refine ret_then ?_
                      refine ret1 hF688 rfl rfl ?_
                      exfalso; omega
                    · skip
                      refine any_pure (i := 18) (v := (.slice A388 m389 c390)) hF647 (by decide +kernel) (by decide +kernel) rfl rfl rfl rfl (fun _ _ _ _ h => h) (wanted_guard rfl rfl rfl hF647 rfl (decide_eq_false hc648) rfl) (fun W => (rn_move (hF647.get rfl))) ?_
                      intro a689 hF690; clear hF647
                      refine any_pure (i := 19) (v := (.int .i64 a2)) hF690 (by decide +kernel) (by decide +kernel) rfl rfl rfl rfl (fun _ _ _ _ h => h) (wanted_guard rfl rfl rfl hF690 rfl (decide_eq_false hc648) rfl) (fun W => (rn_move (hF690.get rfl))) ?_
                      intro a691 hF692; clear hF690
                      have d696 := (hf566.ext hx589)
                      obtain ⟨b693, o694, hA695, -⟩ := Fl.at d696 (by omega)
                      refine any_pure (i := 20) (v := (.pointer (some ⟨b693, o694 + (a2 : Int).toNat, none⟩))) hF692 (by decide +kernel) (by decide +kernel) rfl rfl rfl rfl (fun _ _ _ _ h => h) (wanted_guard rfl rfl rfl hF692 rfl (decide_eq_false hc648) rfl) (fun W => (rn_index1 Try.underlying25 (by kernel_rfl : (Try.prog.info? 3).map (·.size) = some 1) ((hF692.get rfl).trans (by rw [hA695])) (hF692.get rfl) (by omega : (0 : Int) ≤ a2) (by omega : (a2 : Int) < ((m389 : Nat) : Int)))) ?_
                      intro a697 hF698; clear hF692
                      refine any_val (i := 21) (v := (.int .i64 (r391.getD ((a2 : Int).toNat) 0))) hF698 (by decide +kernel) (by decide +kernel) rfl rfl rfl rfl (fun _ _ _ _ h => h) (wanted_guard rfl rfl rfl hF698 rfl (decide_eq_false hc648) rfl) hS602 (fun W hW => (rn_load (isAgg_no Try.underlying3 rfl) (hF698.get rfl) (Fl.cellAt (d696.ext hW) hA695 (intVals_at (i := (a2 : Int).toNat) (by omega))))) ?_
                      intro a699 hF700; clear hF698
                      refine any_pure (i := 22) (v := (.slice A388 m389 c390)) hF700 (by decide +kernel) (by decide +kernel) rfl rfl rfl rfl (fun _ _ _ _ h => h) (wanted_guard rfl rfl rfl hF700 rfl (decide_eq_false hc648) rfl) (fun W => (rn_move (hF700.get rfl))) ?_
                      intro a701 hF702; clear hF700
                      refine any_pure (i := 23) (v := (.int .i64 (k2 : Nat))) hF702 (by decide +kernel) (by decide +kernel) rfl rfl rfl rfl (fun _ _ _ _ h => h) (wanted_guard rfl rfl rfl hF702 rfl (decide_eq_false hc648) rfl) (fun W => (rn_move (hF702.get rfl))) ?_
                      intro a703 hF704; clear hF702
                      refine any_pure (i := 24) (v := (.pointer (some ⟨b693, o694 + k2, none⟩))) hF704 (by decide +kernel) (by decide +kernel) rfl rfl rfl rfl (fun _ _ _ _ h => h) (wanted_guard rfl rfl rfl hF704 rfl (decide_eq_false hc648) rfl) (fun W => (rn_index1 Try.underlying25 (by kernel_rfl : (Try.prog.info? 3).map (·.size) = some 1) ((hF704.get rfl).trans (by rw [hA695])) (hF704.get rfl) (by omega : (0 : Int) ≤ (k2 : Nat)) (by omega : ((k2 : Nat) : Int) < ((m389 : Nat) : Int)))) ?_
                      intro a705 hF706; clear hF704
                      refine any_val (i := 25) (v := (.int .i64 (r391.getD k2 0))) hF706 (by decide +kernel) (by decide +kernel) rfl rfl rfl rfl (fun _ _ _ _ h => h) (wanted_guard rfl rfl rfl hF706 rfl (decide_eq_false hc648) rfl) hS602 (fun W hW => (rn_load (isAgg_no Try.underlying3 rfl) (hF706.get rfl) (Fl.cellAt (d696.ext hW) hA695 (intVals_at (i := k2) (by omega))))) ?_
                      intro a707 hF708; clear hF706
                      refine any_pure (i := 26) (v := (.int .i64 ((r391.getD ((a2 : Int).toNat) 0) - (r391.getD k2 0)))) hF708 (by decide +kernel) (by decide +kernel) rfl rfl rfl rfl (fun _ _ _ _ h => h) (wanted_guard rfl rfl rfl hF708 rfl (decide_eq_false hc648) rfl) (fun W => (rn_sub (hF708.get rfl) (hF708.get rfl) (by omega) (by omega))) ?_
                      intro a709 hF710; clear hF708
                      refine any_pure (i := 27) (v := (.slice A60 m61 c62)) hF710 (by decide +kernel) (by decide +kernel) rfl rfl rfl rfl (fun _ _ _ _ h => h) (wanted_guard rfl rfl rfl hF710 rfl (decide_eq_false hc648) rfl) (fun W => (rn_move (hF710.get rfl))) ?_
                      intro a711 hF712; clear hF710
                      refine any_pure (i := 28) (v := (.int .i64 (k2 : Nat))) hF712 (by decide +kernel) (by decide +kernel) rfl rfl rfl rfl (fun _ _ _ _ h => h) (wanted_guard rfl rfl rfl hF712 rfl (decide_eq_false hc648) rfl) (fun W => (rn_move (hF712.get rfl))) ?_
                      intro a713 hF714; clear hF712
                      obtain ⟨b715, o716, A717, c718, hA719, hl720, hc721, hr722, z723, z724⟩ := RIss.get (i := k2) d629 (by omega)
                      have z725 := hdt.row k2 (by omega)
                      refine any_pure (i := 29) (v := (.pointer (some ⟨b715, o716 + k2, none⟩))) hF714 (by decide +kernel) (by decide +kernel) rfl rfl rfl rfl (fun _ _ _ _ h => h) (wanted_guard rfl rfl rfl hF714 rfl (decide_eq_false hc648) rfl) (fun W => (rn_index1 Try.underlying33 (by kernel_rfl : (Try.prog.info? 25).map (·.size) = some 1) ((hF714.get rfl).trans (by rw [hA719])) (hF714.get rfl) (by omega : (0 : Int) ≤ (k2 : Nat)) (by omega : ((k2 : Nat) : Int) < ((m61 : Nat) : Int)))) ?_
                      intro a726 hF727; clear hF714
                      refine any_val (i := 30) (v := (.slice A717 ((t63.getD k2 []).length) c718)) hF727 (by decide +kernel) (by decide +kernel) rfl rfl rfl rfl (fun _ _ _ _ h => h) (wanted_guard rfl rfl rfl hF727 rfl (decide_eq_false hc648) rfl) hS602 (fun W hW => (rn_load (isAgg_no Try.underlying25 rfl) (hF727.get rfl) (Ext.keep ((Ext.refl w588).trans hW) hc721))) ?_
                      intro a728 hF729; clear hF727
                      refine any_pure (i := 31) (v := (.int .i64 a2)) hF729 (by decide +kernel) (by decide +kernel) rfl rfl rfl rfl (fun _ _ _ _ h => h) (wanted_guard rfl rfl rfl hF729 rfl (decide_eq_false hc648) rfl) (fun W => (rn_move (hF729.get rfl))) ?_
                      intro a730 hF731; clear hF729
                      obtain ⟨b732, o733, hA734, -⟩ := Fl.at hr722 (by omega)
                      refine any_pure (i := 32) (v := (.pointer (some ⟨b732, o733 + (a2 : Int).toNat, none⟩))) hF731 (by decide +kernel) (by decide +kernel) rfl rfl rfl rfl (fun _ _ _ _ h => h) (wanted_guard rfl rfl rfl hF731 rfl (decide_eq_false hc648) rfl) (fun W => (rn_index1 Try.underlying25 (by kernel_rfl : (Try.prog.info? 3).map (·.size) = some 1) ((hF731.get rfl).trans (by rw [hA734])) (hF731.get rfl) (by omega : (0 : Int) ≤ a2) (by omega : (a2 : Int) < (((t63.getD k2 []).length : Nat) : Int)))) ?_
                      intro a735 hF736; clear hF731
                      refine any_val (i := 33) (v := (.int .i64 ((t63.getD k2 []).getD ((a2 : Int).toNat) 0))) hF736 (by decide +kernel) (by decide +kernel) rfl rfl rfl rfl (fun _ _ _ _ h => h) (wanted_guard rfl rfl rfl hF736 rfl (decide_eq_false hc648) rfl) hS602 (fun W hW => (rn_load (isAgg_no Try.underlying3 rfl) (hF736.get rfl) (Fl.cellAt (hr722.ext hW) hA734 (intVals_at (i := (a2 : Int).toNat) (by omega))))) ?_
                      intro a737 hF738; clear hF736
                      refine any_pure (i := 34) (v := (.bool (decide (((r391.getD ((a2 : Int).toNat) 0) - (r391.getD k2 0) : Int) ≠ (((t63.getD k2 []).getD ((a2 : Int).toNat) 0) : Int))))) hF738 (by decide +kernel) (by decide +kernel) rfl rfl rfl rfl (fun _ _ _ _ h => h) (wanted_guard rfl rfl rfl hF738 rfl (decide_eq_false hc648) rfl) (fun W => (rn_neq (hF738.get rfl) (hF738.get rfl))) ?_
                      intro a739 hF740; clear hF738
                      refine any_pure (i := 35) (v := (.bool (decide (((r391.getD ((a2 : Int).toNat) 0) - (r391.getD k2 0) : Int) ≠ (((t63.getD k2 []).getD ((a2 : Int).toNat) 0) : Int))))) hF740 (by decide +kernel) (by decide +kernel) rfl rfl rfl rfl (fun _ _ _ _ h => h) rfl (fun W => (rn_pickF (c_false hF740 rfl (decide_eq_false hc648)) (hF740.get rfl))) ?_
                      intro a741 hF742; clear hF740
                      refine any_nil (by decide +kernel) ?_
                      refine hK582 _ _ ?_
                      clear hK582
                      have hF743 := ((((((((((((((((((((((hF742.nil.cons (hF742.get (t := 153) (v := (.bool (decide (((r391.getD ((a2 : Int).toNat) 0) - (r391.getD k2 0) : Int) ≠ (((t63.getD k2 []).getD ((a2 : Int).toNat) 0) : Int))))) rfl)).cons (hF742.get (t := 13) (v := (.int .i64 (k2 : Nat))) rfl)).cons (hF742.get (t := 116) (v := (.bool (decide (((k2 : Nat) : Int) < ((m61 : Nat) : Int))))) rfl)).cons (hF742.get (t := 115) (v := (.int .i64 (k2 : Nat))) rfl)).cons (hF742.get (t := 114) (v := (.int .i64 (m61 : Nat))) rfl)).cons (hF742.get (t := 112) (v := (.bool (decide (((m389 : Nat) : Int) ≠ ((m61 : Nat) : Int))))) rfl)).cons (hF742.get (t := 12) (v := (.int .i64 e392)) rfl)).cons (hF742.get (t := 11) (v := (.slice A388 m389 c390)) rfl)).cons (hF742.get (t := 10) (v := (.int .i64 e327)) rfl)).cons (hF742.get (t := 9) (v := (.slice A323 m324 c325)) rfl)).cons (hF742.get (t := 49) (v := (.bool (decide (((k : Nat) : Int) < ((m61 : Nat) : Int))))) rfl)).cons (hF742.get (t := 48) (v := (.int .i64 (k : Nat))) rfl)).cons (hF742.get (t := 47) (v := (.int .i64 (m61 : Nat))) rfl)).cons (hF742.get (t := 38) (v := (.bool false)) rfl)).cons (hF742.get (t := 7) (v := (.int .i64 er68)) rfl)).cons (hF742.get (t := 5) (v := (.slice A60 m61 c62)) rfl)).cons (hF742.get (t := 23) (v := (.bool (decide (((chk n l) : Int) ≠ (0 : Int))))) rfl)).cons (hF742.get (t := 15) (v := (.bool false)) rfl)).cons (hF742.get (t := 4) (v := (.bool false)) rfl)).cons (hF742.get (t := 2) (v := (.pointer (some ⟨g2, 0, none⟩))) rfl)).cons (hF742.get (t := 1) (v := (.int .i64 a2)) rfl)).cons (hF742.get (t := 0) (v := (.agg #[(.int .i64 n), (.slice A l.length c)])) rfl))
                      clear hF742
                      by_cases hc744 : ((r391.getD ((a2 : Int).toNat) 0) - (r391.getD k2 0) : Int) ≠ (((t63.getD k2 []).getD ((a2 : Int).toNat) 0) : Int)
                      · skip
                        refine wp_cond_true (c_true hF743 rfl (decide_eq_true hc744)) ?_
                        refine wp_seq_k (fun K745 hK745 => ?_)
                        refine wp_region_lit ?_
                        refine wpl_op (i := 0) rfl (o_val (v := (.bool false)) hF743 rfl rfl rfl rfl (rn_assign rfl) ?_)
                        intro a746 hF747; clear hF743
                        refine wpList_nil ?_
                        refine hK745 _ _ ?_
                        clear hK745
                        refine wp_ret ?_
                        refine ret_block ?_
                        refine ret_then ?_
                        refine ret_then ?_
                        refine ret_block ?_
                        refine ret_then ?_
                        refine ret1 hF747 rfl rfl ?_
                        exfalso; omega
                      · skip
                        refine wp_cond_false (c_false hF743 rfl (decide_eq_false hc744)) ?_
                        refine wp_skip ?_
                        refine hK576 _ _ ?_
                        clear hK576
                        refine wp_region_lit ?_
                        refine wpl_op (i := 0) rfl (o_val (v := (.int .i64 (k2 + 1 : Nat))) hF743 rfl rfl rfl rfl (rn_addN (a := k2) (b := 1) (hF743.get rfl) rfl (by omega)) ?_)
                        intro a748 hF749; clear hF743
                        refine wpl_op (i := 1) rfl (o_val (v := (.int .i64 (k2 + 1 : Nat))) hF749 rfl rfl rfl rfl (rn_move (hF749.get rfl)) ?_)
                        intro a750 hF751; clear hF749
                        refine wpList_nil ?_
                        have b752 : Blk w588 g2 24 [(.int .i64 n), (.slice A l.length c)] := (b563.ext hx589)
                        refine ⟨⟨(k2 + 1), (((((((((((((((((((hF751.nil.cons (q_get hF751 (t := 115) rfl (by first | rfl | (congr 1; omega) | (congr 1; done)))).cons (q_get hF751 (t := 114) rfl rfl)).cons (q_get hF751 (t := 112) rfl rfl)).cons (q_get hF751 (t := 12) rfl rfl)).cons (q_get hF751 (t := 11) rfl rfl)).cons (q_get hF751 (t := 10) rfl rfl)).cons (q_get hF751 (t := 9) rfl rfl)).cons (q_get hF751 (t := 49) rfl rfl)).cons (q_get hF751 (t := 48) rfl rfl)).cons (q_get hF751 (t := 47) rfl rfl)).cons (q_get hF751 (t := 38) rfl rfl)).cons (q_get hF751 (t := 7) rfl rfl)).cons (q_get hF751 (t := 5) rfl rfl)).cons (q_get hF751 (t := 23) rfl rfl)).cons (q_get hF751 (t := 15) rfl rfl)).cons (q_get hF751 (t := 4) rfl rfl)).cons (q_get hF751 (t := 2) rfl rfl)).cons (q_get hF751 (t := 1) rfl rfl)).cons (q_get hF751 (t := 0) rfl rfl)), (by omega), (((Ext.refl w).trans hx561).trans hx589), b752, d629, d599, d696, (by omega)⟩, ?_⟩
                        rw [hF751.get (t := 115) rfl, hL568.get (t := 115) rfl]; simp [intOf] <;> omega
                  · skip
                    refine wp_cond_false (c_false hF573 rfl (decide_eq_false hc575)) ?_
                    refine wp_exit ?_
                    refine exit_then ?_
                    refine exit_then ?_
                    refine exit_here ?_
                    refine hK548 _ _ ?_
                    clear hK548
                    refine wp_seq_k (fun K753 hK753 => ?_)
                    refine wp_region_lit ?_
                    refine wpl_op (i := 0) rfl (o_val (v := (.bool true)) hF573 rfl rfl rfl rfl (rn_assign rfl) ?_)
                    intro a754 hF755; clear hF573
                    refine wpList_nil ?_
                    refine hK753 _ _ ?_
                    clear hK753
                    refine wp_ret ?_
                    refine ret1 hF755 rfl rfl ?_
                    exact ⟨rfl, ((Ext.refl w).trans hx561)⟩
  · skip
    refine wpl_op (i := 4) rfl (o_skip hF35 rfl (unwanted_guard rfl rfl rfl hF35 rfl (not_f hc36) rfl) rfl rfl ?_)
    intro a756 hF757; clear hF35
    refine wpl_op (i := 5) rfl (o_skip hF757 rfl (unwanted_guard rfl rfl rfl hF757 rfl (not_f hc36) rfl) rfl rfl ?_)
    intro a758 hF759; clear hF757
    refine wpl_op (i := 6) rfl (o_skip hF759 rfl (unwanted_guard rfl rfl rfl hF759 rfl (not_f hc36) rfl) rfl rfl ?_)
    intro a760 hF761; clear hF759
    refine wpl_op (i := 7) rfl (o_val (v := (.bool true)) hF761 rfl rfl rfl rfl (rn_pickT (c_true hF761 rfl (not_f hc36)) rfl) ?_)
    intro a762 hF763; clear hF761
    refine wpList_nil ?_
    refine hK22 _ _ ?_
    clear hK22
    have hF764 := ((((((hF763.nil.cons (hF763.get (t := 23) (v := (.bool true)) rfl)).cons (hF763.get (t := 15) (v := (.bool false)) rfl)).cons (hF763.get (t := 4) (v := (.bool false)) rfl)).cons (hF763.get (t := 2) (v := (.pointer (some ⟨g2, 0, none⟩))) rfl)).cons (hF763.get (t := 1) (v := (.int .i64 a)) rfl)).cons (hF763.get (t := 0) (v := (.agg #[(.int .i64 n), (.slice A l.length c)])) rfl))
    clear hF763
    refine wp_cond_true (c_true hF764 rfl rfl) ?_
    refine wp_seq_k (fun K765 hK765 => ?_)
    refine wp_region_lit ?_
    refine wpl_op (i := 0) rfl (o_val (v := (.bool true)) hF764 rfl rfl rfl rfl (rn_assign rfl) ?_)
    intro a766 hF767; clear hF764
    refine wpList_nil ?_
    refine hK765 _ _ ?_
    clear hK765
    refine wp_ret ?_
    refine ret_then ?_
    refine ret1 hF767 rfl rfl ?_
    exact ⟨rfl, ((((Ext.refl w).trans hx5).trans hx15).trans hx28)⟩

end Go.Proofs.Ytjmdodgmoehfkaa
