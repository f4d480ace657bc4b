/- The law BoundsGreatestSpec, walked. -/
import Derived.Test.YtjmdodgmoehfkaaProg
import Derived.Test.YtjmdodgmoehfkaaBndS
import Derived.KernelRfl
namespace Go.Proofs.Ytjmdodgmoehfkaa
open Go.RowKit

variable {S S' : Nat → Prop}

set_option maxRecDepth 100000 in
set_option maxHeartbeats 1000000 in
theorem greatspec_any (A : Option Addr) (c : Nat) (n : Int) (l : List E3) (a v : Int) (w : World) (hf : Fl S w 3 (.slice A l.length c) l.length (edVals l)) :
    Calls Try.prog 7 #[.agg #[.int .i64 n, .slice A l.length c], .int .i64 a, .int .i64 v] w (fun e w' => e = .returned (.bool true) ∧ Ext w w') := by
  have hc : Fl (Clip S w) w 3 (.slice A l.length c) l.length (edVals l) := hf.clip
  have hcc := (Fl.cel hc).2.1
  refine calls_enter (l := [(.agg #[(.int .i64 n), (.slice A l.length c)]), (.int .i64 a), (.int .i64 v)]) Try.func7 rfl rfl rfl (fun aA hF => ?_)
  refine wp_seq_k (fun K1 hK1 => ?_)
  refine wp_region_lit ?_
  refine wpl_op (i := 0) rfl (o_new (fun g => (.pointer (some ⟨g, 0, none⟩))) [(.int .i64 n), (.slice A l.length c)] 24 hF rfl rfl rfl rfl (rn_box (hF.get rfl) (by kernel_rfl)) ?_)
  intro g2 w3 a8 hF9 z6 z7 b4 hx5; clear hF
  refine wpl_op (i := 1) rfl (o_val (v := (.bool false)) hF9 rfl rfl rfl rfl (rn_assign rfl) ?_)
  intro a10 hF11; clear hF9
  refine wpList_nil ?_
  refine hK1 _ _ ?_
  clear hK1
  refine wp_seq_k (fun K12 hK12 => ?_)
  refine wp_seq_k (fun K13 hK13 => ?_)
  refine wp_region_lit ?_
  refine wpl_op (i := 0) rfl (o_call hF11 rfl rfl rfl rfl (rn_call (args0 ) rfl (by kernel_rfl)) (sane_any _) ?_)
  rintro _ w14 ⟨rfl, hx15⟩
  refine ⟨_, rfl, ?_⟩; intro a16 hF17; clear hF11; have z18 := hx15.size
  refine wpl_op (i := 1) rfl (o_val (v := (.bool false)) hF17 rfl rfl rfl rfl (rn_not' (hF17.get rfl) rfl) ?_)
  intro a19 hF20; clear hF17
  refine wpList_nil ?_
  refine hK13 _ _ ?_
  clear hK13
  refine wp_cond_false (c_false hF20 rfl rfl) ?_
  refine wp_skip ?_
  refine hK12 _ _ ?_
  clear hK12
  refine wp_seq_k (fun K21 hK21 => ?_)
  refine wp_seq_k (fun K22 hK22 => ?_)
  refine wp_region_lit ?_
  have b23 : Blk w14 g2 24 [(.int .i64 n), (.slice A l.length c)] := (b4.ext hx15)
  refine wpl_op (i := 0) rfl (o_val (v := (.agg #[(.int .i64 n), (.slice A l.length c)])) hF20 rfl rfl rfl rfl (rn_loadBlk (hF20.get rfl) b23 Try.underlying24 rfl (by kernel_rfl : (Try.prog.info? 24).map (·.size) = some 2)) ?_)
  intro a24 hF25; clear hF20
  have d26 := ((hc.ext hx5).ext hx15)
  refine wpl_op (i := 1) rfl (o_call hF25 rfl rfl rfl rfl (rn_call (args1 (hF25.get rfl)) rfl (by kernel_rfl)) (few_at (v := (.slice A l.length c)) n l _ d26) ?_)
  rintro _ w27 ⟨rfl, hx28⟩
  refine ⟨_, rfl, ?_⟩; intro a29 hF30; clear hF25; have z31 := hx28.size
  refine wpl_op (i := 2) rfl (o_val (v := (.bool (!(few n l)))) hF30 rfl rfl rfl rfl (rn_not' (hF30.get rfl) rfl) ?_)
  intro a32 hF33; clear hF30
  refine wpList_nil ?_
  refine hK22 _ _ ?_
  clear hK22
  rcases Bool.eq_false_or_eq_true (few n l) with hc34 | hc34
  · skip
    refine wp_cond_false (c_false hF33 rfl (not_t hc34)) ?_
    refine wp_skip ?_
    refine hK21 _ _ ?_
    clear hK21
    refine wp_seq_k (fun K35 hK35 => ?_)
    have hfw : n ≤ 8 ∧ l.length ≤ 30 := of_decide_eq_true (show decide _ = true from hc34)
    refine wp_region_lit ?_
    refine wpl_op (i := 0) rfl (o_val (v := (.int .i64 v)) hF33 rfl rfl rfl rfl (rn_move (hF33.get rfl)) ?_)
    intro a36 hF37; clear hF33
    refine wpl_op (i := 1) rfl (o_val (v := (.int .i64 v)) hF37 rfl rfl rfl rfl (rn_move (hF37.get rfl)) ?_)
    intro a38 hF39; clear hF37
    refine wpl_op (i := 2) rfl (o_val (v := (.int .i64 (andI (v) (15)))) hF39 rfl rfl rfl rfl (rn_andI (hF39.get rfl) rfl) ?_)
    intro a40 hF41; clear hF39
    refine wpl_op (i := 3) rfl (o_new (fun g => (.slice (some ⟨g, 0, none⟩) 2 2)) (intVals [(v : Int), ((andI (v) (15)) : Int)]) 3 hF41 rfl rfl rfl rfl (rn_buildSlice (parts2 (hF41.get rfl) (hF41.get rfl)) (by kernel_rfl)) ?_)
    intro g42 w43 a48 hF49 z46 z47 b44 hx45; clear hF41
    refine wpl_op (i := 4) rfl (o_val (v := (.slice (some ⟨g42, 0, none⟩) 2 2)) hF49 rfl rfl rfl rfl (rn_assign (hF49.get rfl)) ?_)
    intro a50 hF51; clear hF49
    refine wpList_nil ?_
    refine hK35 _ _ ?_
    clear hK35
    have hF52 := ((((((((hF51.nil.cons (hF51.get (t := 7) (v := (.slice (some ⟨g42, 0, none⟩) 2 2)) rfl)).cons (hF51.get (t := 24) (v := (.bool (!(few n l)))) rfl)).cons (hF51.get (t := 21) (v := (.bool false)) rfl)).cons (hF51.get (t := 6) (v := (.bool false)) rfl)).cons (hF51.get (t := 3) (v := (.pointer (some ⟨g2, 0, none⟩))) rfl)).cons (hF51.get (t := 2) (v := (.int .i64 v)) rfl)).cons (hF51.get (t := 1) (v := (.int .i64 a)) rfl)).cons (hF51.get (t := 0) (v := (.agg #[(.int .i64 n), (.slice A l.length c)])) rfl))
    clear hF51
    refine wp_seq_k (fun K53 hK53 => ?_)
    refine wp_seq_k (fun K54 hK54 => ?_)
    refine wp_region_lit ?_
    have b55 : Blk w43 g2 24 [(.int .i64 n), (.slice A l.length c)] := ((b23.ext hx28).ext hx45)
    refine wpl_op (i := 0) rfl (o_val (v := (.agg #[(.int .i64 n), (.slice A l.length c)])) hF52 rfl rfl rfl rfl (rn_loadBlk (hF52.get rfl) b55 Try.underlying24 rfl (by kernel_rfl : (Try.prog.info? 24).map (·.size) = some 2)) ?_)
    intro a56 hF57; clear hF52
    have d58 := ((((hc.ext hx5).ext hx15).ext hx28).ext hx45)
    refine wpl_op (i := 1) rfl (o_call hF57 rfl rfl rfl rfl (rn_call (args1 (hF57.get rfl)) rfl (by kernel_rfl)) (rfar_at (v := (.slice A l.length c)) n l _ d58 (fun _ => ⟨by omega, by omega⟩)) ?_)
    rintro _ w67 ⟨A59, m60, c61, t62, er63, rfl, ht64, hfar65, hx68⟩
    have z66 := RIss.len ht64
    refine ⟨_, rfl, ?_⟩; intro a69 hF70; clear hF57; have z71 := hx68.size
    have hf72 : RIss (Clip (fun b => w43.heap.size ≤ b) w67) w67 (.slice A59 m60 c61) t62 := ht64.clip
    refine wpl_op (i := 2) rfl (o_val (v := (.tuple #[(.slice A59 m60 c61), (.int .i64 er63)])) hF70 rfl rfl rfl rfl (rn_move (hF70.get rfl)) ?_)
    intro a73 hF74; clear hF70
    refine wpl_op (i := 3) rfl (o_val (v := (.slice A59 m60 c61)) hF74 rfl rfl rfl rfl (rn_extract (hF74.get rfl) rfl) ?_)
    intro a75 hF76; clear hF74
    refine wpl_op (i := 4) rfl (o_val (v := (.int .i64 er63)) hF76 rfl rfl rfl rfl (rn_extract (hF76.get rfl) rfl) ?_)
    intro a77 hF78; clear hF76
    refine wpl_op (i := 5) rfl (o_val (v := (.slice A59 m60 c61)) hF78 rfl rfl rfl rfl (rn_assign (hF78.get rfl)) ?_)
    intro a79 hF80; clear hF78
    refine wpl_op (i := 6) rfl (o_val (v := (.int .i64 er63)) hF80 rfl rfl rfl rfl (rn_assign (hF80.get rfl)) ?_)
    intro a81 hF82; clear hF80
    refine wpList_nil ?_
    refine hK54 _ _ ?_
    clear hK54
    have hF83 := ((((((((((hF82.nil.cons (hF82.get (t := 9) (v := (.int .i64 er63)) rfl)).cons (hF82.get (t := 8) (v := (.slice A59 m60 c61)) rfl)).cons (hF82.get (t := 7) (v := (.slice (some ⟨g42, 0, none⟩) 2 2)) rfl)).cons (hF82.get (t := 24) (v := (.bool (!(few n l)))) rfl)).cons (hF82.get (t := 21) (v := (.bool false)) rfl)).cons (hF82.get (t := 6) (v := (.bool false)) rfl)).cons (hF82.get (t := 3) (v := (.pointer (some ⟨g2, 0, none⟩))) rfl)).cons (hF82.get (t := 2) (v := (.int .i64 v)) rfl)).cons (hF82.get (t := 1) (v := (.int .i64 a)) rfl)).cons (hF82.get (t := 0) (v := (.agg #[(.int .i64 n), (.slice A l.length c)])) rfl))
    clear hF82
    refine wp_seq_k (fun K84 hK84 => ?_)
    refine wp_region_lit ?_
    refine wpl_op (i := 0) rfl (o_val (v := (.int .i64 er63)) hF83 rfl rfl rfl rfl (rn_move (hF83.get rfl)) ?_)
    intro a85 hF86; clear hF83
    refine wpl_op (i := 1) rfl (o_val (v := (.bool (decide ((er63 : Int) = (0 : Int))))) hF86 rfl rfl rfl rfl (rn_eql (hF86.get rfl) rfl) ?_)
    intro a87 hF88; clear hF86
    refine wpl_op (i := 2) rfl (o_val (v := (.bool (decide ((er63 : Int) = (0 : Int))))) hF88 rfl rfl rfl rfl (rn_move (hF88.get rfl)) ?_)
    intro a89 hF90; clear hF88
    by_cases hc91 : (er63 : Int) = (0 : Int)
    · skip
      refine wpl_op (i := 3) rfl (o_val (v := (.int .i64 a)) hF90 rfl (wanted_guard rfl rfl rfl hF90 rfl (decide_eq_true hc91) rfl) rfl rfl (rn_move (hF90.get rfl)) ?_)
      intro a92 hF93; clear hF90
      refine wpl_op (i := 4) rfl (o_val (v := (.bool (decide ((0 : Int) ≤ (a : Int))))) hF93 rfl (wanted_guard rfl rfl rfl hF93 rfl (decide_eq_true hc91) rfl) rfl rfl (rn_geq (hF93.get rfl) rfl) ?_)
      intro a94 hF95; clear hF93
      refine wpl_op (i := 5) rfl (o_val (v := (.bool (decide ((0 : Int) ≤ (a : Int))))) hF95 rfl rfl rfl rfl (rn_pickT (c_true hF95 rfl (decide_eq_true hc91)) (hF95.get rfl)) ?_)
      intro a96 hF97; clear hF95
      refine wpl_op (i := 6) rfl (o_val (v := (.bool (decide ((0 : Int) ≤ (a : Int))))) hF97 rfl rfl rfl rfl (rn_move (hF97.get rfl)) ?_)
      intro a98 hF99; clear hF97
      by_cases hc100 : (0 : Int) ≤ (a : Int)
      · skip
        refine wpl_op (i := 7) rfl (o_val (v := (.int .i64 a)) hF99 rfl (wanted_guard rfl rfl rfl hF99 rfl (decide_eq_true hc100) rfl) rfl rfl (rn_move (hF99.get rfl)) ?_)
        intro a101 hF102; clear hF99
        refine wpl_op (i := 8) rfl (o_val (v := (.pointer (some ⟨g2, 0, none⟩))) hF102 rfl (wanted_guard rfl rfl rfl hF102 rfl (decide_eq_true hc100) rfl) rfl rfl (rn_field Try.underlying24 rfl (by kernel_rfl) (hF102.get rfl) rfl) ?_)
        intro a103 hF104; clear hF102
        have b105 : Blk w67 g2 24 [(.int .i64 n), (.slice A l.length c)] := (b55.ext hx68)
        refine wpl_op (i := 9) rfl (o_val (v := (.int .i64 n)) hF104 rfl (wanted_guard rfl rfl rfl hF104 rfl (decide_eq_true hc100) rfl) rfl rfl (rn_load (isAgg_no Try.underlying3 rfl) (hF104.get rfl) (b105.rule.1 0)) ?_)
        intro a106 hF107; clear hF104
        refine wpl_op (i := 10) rfl (o_val (v := (.bool (decide ((a : Int) < (n : Int))))) hF107 rfl (wanted_guard rfl rfl rfl hF107 rfl (decide_eq_true hc100) rfl) rfl rfl (rn_lss (hF107.get rfl) (hF107.get rfl)) ?_)
        intro a108 hF109; clear hF107
        refine wpl_op (i := 11) rfl (o_val (v := (.bool (decide ((a : Int) < (n : Int))))) hF109 rfl rfl rfl rfl (rn_pickT (c_true hF109 rfl (decide_eq_true hc100)) (hF109.get rfl)) ?_)
        intro a110 hF111; clear hF109
        refine wpList_nil ?_
        refine hK84 _ _ ?_
        clear hK84
        have hF112 := (((((((((((hF111.nil.cons (hF111.get (t := 45) (v := (.bool (decide ((a : Int) < (n : Int))))) rfl)).cons (hF111.get (t := 9) (v := (.int .i64 er63)) rfl)).cons (hF111.get (t := 8) (v := (.slice A59 m60 c61)) rfl)).cons (hF111.get (t := 7) (v := (.slice (some ⟨g42, 0, none⟩) 2 2)) rfl)).cons (hF111.get (t := 24) (v := (.bool (!(few n l)))) rfl)).cons (hF111.get (t := 21) (v := (.bool false)) rfl)).cons (hF111.get (t := 6) (v := (.bool false)) rfl)).cons (hF111.get (t := 3) (v := (.pointer (some ⟨g2, 0, none⟩))) rfl)).cons (hF111.get (t := 2) (v := (.int .i64 v)) rfl)).cons (hF111.get (t := 1) (v := (.int .i64 a)) rfl)).cons (hF111.get (t := 0) (v := (.agg #[(.int .i64 n), (.slice A l.length c)])) rfl))
        clear hF111
        by_cases hc113 : (a : Int) < (n : Int)
        · skip
          refine wp_cond_true (c_true hF112 rfl (decide_eq_true hc113)) ?_
          obtain ⟨hvo, hng, hdt⟩ := hfar65.zero (by omega)
          have hn1 := vOk_n hvo
          have htl := hdt.len
          have z114 := hdt.sm (0) (a.toNat) (by omega) (by omega); simp only [T] at z114
          have z115 := hdt.sm (a.toNat) (0) (by omega) (by omega); simp only [T] at z115
          have hx117 : ∃ W, w67.drew = W ∧ Ext w67 W := ⟨_, rfl, (Ext.refl _).drew⟩
          obtain ⟨w116, e118, hx117⟩ := hx117
          have z119 := hx117.size
          refine any_start (fun W => Ext w116 W) (fun i => i == 15) 17 #[false, false, false, false, false, false, false, false, false, false, false, false, false, false, false, false, false] rfl rfl rfl ?_
          rw [e118]; clear e118
          refine any_pure (i := 0) (v := (.slice (some ⟨g42, 0, none⟩) 2 2)) hF112 (by decide +kernel) (by decide +kernel) rfl rfl rfl rfl (fun _ _ _ _ h => h) rfl (fun W => (rn_move (hF112.get rfl))) ?_
          intro a120 hF121; clear hF112
          refine any_pure (i := 1) (v := (.slice A59 m60 c61)) hF121 (by decide +kernel) (by decide +kernel) rfl rfl rfl rfl (fun _ _ _ _ h => h) rfl (fun W => (rn_move (hF121.get rfl))) ?_
          intro a122 hF123; clear hF121
          have d134 := (hf72.ext hx117)
          obtain ⟨b124, o125, A126, c127, hA128, hl129, hc130, hr131, z132, z133⟩ := RIss.get (i := 0) d134 (by omega)
          have z135 := hdt.row 0 (by omega)
          refine any_pure (i := 2) (v := (.pointer (some ⟨b124, o125 + 0, none⟩))) hF123 (by decide +kernel) (by decide +kernel) rfl rfl rfl rfl (fun _ _ _ _ h => h) rfl (fun W => (rn_index1 Try.underlying33 (by kernel_rfl : (Try.prog.info? 25).map (·.size) = some 1) ((hF123.get rfl).trans (by rw [hA128])) rfl (by omega : (0 : Int) ≤ 0) (by omega : (0 : Int) < ((m60 : Nat) : Int)))) ?_
          intro a136 hF137; clear hF123
          have hS138 : Ext w116 w116 := (Ext.refl w116)
          refine anyt_val (i := 3) (v := (.slice A126 ((t62.getD 0 []).length) c127)) [5, 6, 14, 15] hF137 (fun j hj => by simp at hj; subst hj; decide) (by decide +kernel) (by decide +kernel) rfl rfl rfl rfl (fun _ _ _ _ h => h) rfl hS138 (fun W hW => (rn_load (isAgg_no Try.underlying25 rfl) (hF137.get rfl) (Ext.keep ((Ext.refl w116).trans hW) hc130))) ?_
          intro a139 hF140; clear hF137
          refine any_pure (i := 4) (v := (.int .i64 a)) hF140 (by decide +kernel) (by decide +kernel) rfl rfl rfl rfl (fun _ _ _ _ h => h) rfl (fun W => (rn_move (hF140.get rfl))) ?_
          intro a141 hF142; clear hF140
          obtain ⟨b143, o144, hA145, -⟩ := Fl.at hr131 (by omega)
          refine any_pure (i := 5) (v := (.pointer (some ⟨b143, o144 + (a : Int).toNat, none⟩))) hF142 (by decide +kernel) (by decide +kernel) rfl rfl rfl rfl (fun _ _ _ _ h => h) rfl (fun W => (rn_index1 Try.underlying25 (by kernel_rfl : (Try.prog.info? 3).map (·.size) = some 1) ((hF142.get rfl).trans (by rw [hA145])) (hF142.get rfl) (by omega : (0 : Int) ≤ a) (by omega : (a : Int) < (((t62.getD 0 []).length : Nat) : Int)))) ?_
          intro a146 hF147; clear hF142
          refine anyt_val (i := 6) (v := (.int .i64 ((t62.getD 0 []).getD ((a : Int).toNat) 0))) [14, 15] hF147 (fun j hj => by simp at hj; subst hj; decide) (by decide +kernel) (by decide +kernel) rfl rfl rfl rfl (fun _ _ _ _ h => h) rfl hS138 (fun W hW => (rn_load (isAgg_no Try.underlying3 rfl) (hF147.get rfl) (Fl.cellAt (hr131.ext hW) hA145 (intVals_at (i := (a : Int).toNat) (by omega))))) ?_
          intro a148 hF149; clear hF147
          refine any_pure (i := 7) (v := (.slice A59 m60 c61)) hF149 (by decide +kernel) (by decide +kernel) rfl rfl rfl rfl (fun _ _ _ _ h => h) rfl (fun W => (rn_move (hF149.get rfl))) ?_
          intro a150 hF151; clear hF149
          refine any_pure (i := 8) (v := (.int .i64 a)) hF151 (by decide +kernel) (by decide +kernel) rfl rfl rfl rfl (fun _ _ _ _ h => h) rfl (fun W => (rn_move (hF151.get rfl))) ?_
          intro a152 hF153; clear hF151
          obtain ⟨b154, o155, A156, c157, hA158, hl159, hc160, hr161, z162, z163⟩ := RIss.get (i := (a : Int).toNat) d134 (by omega)
          have z164 := hdt.row ((a : Int).toNat) (by omega)
          refine any_pure (i := 9) (v := (.pointer (some ⟨b154, o155 + (a : Int).toNat, none⟩))) hF153 (by decide +kernel) (by decide +kernel) rfl rfl rfl rfl (fun _ _ _ _ h => h) rfl (fun W => (rn_index1 Try.underlying33 (by kernel_rfl : (Try.prog.info? 25).map (·.size) = some 1) ((hF153.get rfl).trans (by rw [hA158])) (hF153.get rfl) (by omega : (0 : Int) ≤ a) (by omega : (a : Int) < ((m60 : Nat) : Int)))) ?_
          intro a165 hF166; clear hF153
          refine anyt_val (i := 10) (v := (.slice A156 ((t62.getD ((a : Int).toNat) []).length) c157)) [11, 12, 13, 14, 15] hF166 (fun j hj => by simp at hj; subst hj; decide) (by decide +kernel) (by decide +kernel) rfl rfl rfl rfl (fun _ _ _ _ h => h) rfl hS138 (fun W hW => (rn_load (isAgg_no Try.underlying25 rfl) (hF166.get rfl) (Ext.keep ((Ext.refl w116).trans hW) hc160))) ?_
          intro a167 hF168; clear hF166
          obtain ⟨b169, o170, hA171, -⟩ := Fl.at hr161 (by omega)
          refine any_pure (i := 11) (v := (.pointer (some ⟨b169, o170 + 0, none⟩))) hF168 (by decide +kernel) (by decide +kernel) rfl rfl rfl rfl (fun _ _ _ _ h => h) rfl (fun W => (rn_index1 Try.underlying25 (by kernel_rfl : (Try.prog.info? 3).map (·.size) = some 1) ((hF168.get rfl).trans (by rw [hA171])) rfl (by omega : (0 : Int) ≤ 0) (by omega : (0 : Int) < (((t62.getD ((a : Int).toNat) []).length : Nat) : Int)))) ?_
          intro a172 hF173; clear hF168
          refine anyt_val (i := 12) (v := (.int .i64 ((t62.getD ((a : Int).toNat) []).getD 0 0))) [13, 14, 15] hF173 (fun j hj => by simp at hj; subst hj; decide) (by decide +kernel) (by decide +kernel) rfl rfl rfl rfl (fun _ _ _ _ h => h) rfl hS138 (fun W hW => (rn_load (isAgg_no Try.underlying3 rfl) (hF173.get rfl) (Fl.cellAt (hr161.ext hW) hA171 (intVals_at (i := 0) (by omega))))) ?_
          intro a174 hF175; clear hF173
          refine any_pure (i := 13) (v := (.int .i64 (-(((t62.getD ((a : Int).toNat) []).getD 0 0) : Int)))) hF175 (by decide +kernel) (by decide +kernel) rfl rfl rfl rfl (fun _ _ _ _ h => h) rfl (fun W => (rn_neg (hF175.get rfl) (by omega) rfl)) ?_
          intro a176 hF177; clear hF175
          refine any_one (i := 14) (by decide +kernel) rfl ?_
          refine o_new (fun g => (.slice (some ⟨g, 0, none⟩) 2 2)) (intVals [(((t62.getD 0 []).getD ((a : Int).toNat) 0) : Int), ((-(((t62.getD ((a : Int).toNat) []).getD 0 0) : Int)) : Int)]) 3 hF177 rfl rfl rfl rfl (rn_buildSlice (parts2 (hF177.get rfl) (hF177.get rfl)) (by kernel_rfl)) ?_
          intro g178 w179 a184 hF185 z182 z183 b180 hx181; clear hF177
          refine ⟨fun _ _ => ((Ext.refl w116).trans hx181), ?_⟩
          refine any_one (i := 15) (by decide +kernel) rfl ?_
          have b186 : Blk w179 g42 3 (intVals [(v : Int), ((andI (v) (15)) : Int)]) := (((b44.ext hx68).ext hx117).ext hx181)
          have hf196 := (own_blkN (k := 1) (n := 2) (cs := intVals [(v : Int), ((andI (v) (15)) : Int)]) b186 rfl (by omega))
          have nb197 : some g178 ≠ (Value.slice (some ⟨g42, 0, none⟩) 2 2).ownBlock := (ne_slice (n := 2) (c := 2) (by omega : g178 ≠ g42))
          have z198 := b180.lt
          refine o_appB (zs := intVals (([(v : Int), ((andI (v) (15)) : Int)]) ++ ([(((t62.getD 0 []).getD ((a : Int).toNat) 0) : Int), ((-(((t62.getD ((a : Int).toNat) []).getD 0 0) : Int)) : Int)]))) El25 hF185 rfl rfl rfl rfl rfl (hF185.get rfl) (hF185.get rfl) hf196 (Fl.cel (Fl.blk (S := fun b => b = g178) (k := 1) (n := 2) (c := 2) b180 (by rw [intVals_len (show List.length [(((t62.getD 0 []).getD ((a : Int).toNat) 0) : Int), ((-(((t62.getD ((a : Int).toNat) []).getD 0 0) : Int)) : Int)] = 2 from rfl), Nat.mul_one]) (intVals_one _) (by omega) rfl)).2.2 (by omega) (by omega) (by omega) (intVals_app _ _) ?_
          intro A188 c189 w190 a199 hF200 r191 hg192 z193 z194 hnb195; clear hF185; have z201 := hg192.size
          have nb202 := hnb195 g178 (by omega) nb197
          have hg203 : w179.grownBy w190 (some g42) := hg192
          refine ⟨fun h => absurd h (by decide), ?_⟩
          refine any_pure (i := 16) (v := (.slice A188 (2 + 2) c189)) hF200 (by decide +kernel) (by decide +kernel) rfl rfl rfl rfl (fun _ _ _ _ h => h) rfl (fun W => (rn_assign (hF200.get rfl))) ?_
          intro a204 hF205; clear hF200
          refine any_nil (by decide +kernel) ?_
          refine hK53 _ _ ?_
          clear hK53
          have hF206 := (((((((((((hF205.nil.cons (hF205.get (t := 45) (v := (.bool (decide ((a : Int) < (n : Int))))) rfl)).cons (hF205.get (t := 9) (v := (.int .i64 er63)) rfl)).cons (hF205.get (t := 8) (v := (.slice A59 m60 c61)) rfl)).cons (hF205.get (t := 7) (v := (.slice A188 (2 + 2) c189)) rfl)).cons (hF205.get (t := 24) (v := (.bool (!(few n l)))) rfl)).cons (hF205.get (t := 21) (v := (.bool false)) rfl)).cons (hF205.get (t := 6) (v := (.bool false)) rfl)).cons (hF205.get (t := 3) (v := (.pointer (some ⟨g2, 0, none⟩))) rfl)).cons (hF205.get (t := 2) (v := (.int .i64 v)) rfl)).cons (hF205.get (t := 1) (v := (.int .i64 a)) rfl)).cons (hF205.get (t := 0) (v := (.agg #[(.int .i64 n), (.slice A l.length c)])) rfl))
          clear hF205
          refine wp_seq_k (fun K207 hK207 => ?_)
          refine wp_seq_k (fun K208 hK208 => ?_)
          refine wp_region_lit ?_
          refine wpl_op (i := 0) rfl (o_val (v := (.slice A188 (2 + 2) c189)) hF206 rfl rfl rfl rfl (rn_move (hF206.get rfl)) ?_)
          intro a209 hF210; clear hF206
          refine wpl_op (i := 1) rfl (o_val (v := (.int .i64 (2 + 2 : Nat))) hF210 rfl rfl rfl rfl (rn_len_slice Try.underlying25 (hF210.get rfl)) ?_)
          intro a211 hF212; clear hF210
          refine wpl_op (i := 2) rfl (o_val (v := (.int .i64 0)) hF212 rfl rfl rfl rfl (rn_move rfl) ?_)
          intro a213 hF214; clear hF212
          refine wpList_nil ?_
          refine hK208 _ _ ?_
          clear hK208
          refine wp_block ?_
          have hf215 := (Fl.own (S := fun b => g42 ≤ b) r191 (fun b hb => hb) (intVals_one _))
          have hf216 : Fl (Clip (fun b => g42 ≤ b) w190) w190 1 (.slice A188 (2 + 2) c189) (2 + 2) (intVals (([(v : Int), ((andI (v) (15)) : Int)]) ++ ([(((t62.getD 0 []).getD ((a : Int).toNat) 0) : Int), ((-(((t62.getD ((a : Int).toNat) []).getD 0 0) : Int)) : Int)]))) := hf215.clip
          have hvl : List.length (([(v : Int), ((andI (v) (15)) : Int)]) ++ ([(((t62.getD 0 []).getD ((a : Int).toNat) 0) : Int), ((-(((t62.getD ((a : Int).toNat) []).getD 0 0) : Int)) : Int)])) = 2 + 2 := rfl
          have d217 := (hf72.pres ((((Pres.refl w67).ext hx117).ext hx181).grownN hg203 (fun h => by simp only [Clip] at h; omega)))
          have b218 : Blk w190 g2 24 [(.int .i64 n), (.slice A l.length c)] := (((b105.ext hx117).ext hx181).grownN hg203 (by omega))
          have b219 : Blk w190 g178 3 (intVals [(((t62.getD 0 []).getD ((a : Int).toNat) 0) : Int), ((-(((t62.getD ((a : Int).toNat) []).getD 0 0) : Int)) : Int)]) := (b180.grownN hg203 (by omega))
          refine wp_loop (fun a' W => ∃ (k : Nat), Sl 117 [(0, (.agg #[(.int .i64 n), (.slice A l.length c)])), (1, (.int .i64 a)), (2, (.int .i64 v)), (3, (.pointer (some ⟨g2, 0, none⟩))), (6, (.bool false)), (21, (.bool false)), (24, (.bool (!(few n l)))), (7, (.slice A188 (2 + 2) c189)), (8, (.slice A59 m60 c61)), (9, (.int .i64 er63)), (45, (.bool (decide ((a : Int) < (n : Int))))), (62, (.slice A188 (2 + 2) c189)), (63, (.int .i64 (2 + 2 : Nat))), (64, (.int .i64 (k : Nat)))] a' ∧ k ≤ (2 + 2) ∧ Ext w W ∧ Blk W g2 24 [(.int .i64 n), (.slice A l.length c)] ∧ Blk W g178 3 (intVals [(((t62.getD 0 []).getD ((a : Int).toNat) 0) : Int), ((-(((t62.getD ((a : Int).toNat) []).getD 0 0) : Int)) : Int)]) ∧ RIss (Clip (fun b => w43.heap.size ≤ b) w67) W (.slice A59 m60 c61) t62 ∧ Fl (Clip (fun b => g42 ≤ b) w190) W 1 (.slice A188 (2 + 2) c189) (2 + 2) (intVals (([(v : Int), ((andI (v) (15)) : Int)]) ++ ([(((t62.getD 0 []).getD ((a : Int).toNat) 0) : Int), ((-(((t62.getD ((a : Int).toNat) []).getD 0 0) : Int)) : Int)]))) ∧ w190.heap.size ≤ W.heap.size) (fun a' _ => (2 + 2) - (intOf (a'.eval (.tmp 64))).toNat) ⟨0, ((((((((((((((hF214.nil.cons (q_get hF214 (t := 64) rfl (by first | rfl | (congr 1; omega) | (congr 1; done)))).cons (q_get hF214 (t := 63) rfl rfl)).cons (q_get hF214 (t := 62) rfl rfl)).cons (q_get hF214 (t := 45) rfl rfl)).cons (q_get hF214 (t := 9) rfl rfl)).cons (q_get hF214 (t := 8) rfl rfl)).cons (q_get hF214 (t := 7) rfl rfl)).cons (q_get hF214 (t := 24) rfl rfl)).cons (q_get hF214 (t := 21) rfl rfl)).cons (q_get hF214 (t := 6) rfl rfl)).cons (q_get hF214 (t := 3) rfl rfl)).cons (q_get hF214 (t := 2) rfl rfl)).cons (q_get hF214 (t := 1) rfl rfl)).cons (q_get hF214 (t := 0) rfl rfl)), (by omega), (((((((((Ext.refl w).trans hx5).trans hx15).trans hx28).trans hx45).trans hx68).trans hx117).trans hx181).grownN hg203 (by omega)), b218, b219, d217, hf216, (Nat.le_refl _)⟩ ?_
          clear hF214
          rintro a220 w221 ⟨k, hF222, hp224, hx223, b225, b226, hf227, hf228, hf229⟩
          have hL230 := hF222
          have z231 := hx223.size
          have z232 := b225.lt
          have z233 := b226.lt
          refine wp_seq_k (fun K234 hK234 => ?_)
          refine wp_region_lit ?_
          refine wpl_op (i := 0) rfl (o_val (v := (.bool (decide (((k : Nat) : Int) < ((2 + 2 : Nat) : Int))))) hF222 rfl rfl rfl rfl (rn_lss (hF222.get rfl) (hF222.get rfl)) ?_)
          intro a235 hF236; clear hF222
          refine wpList_nil ?_
          refine hK234 _ _ ?_
          clear hK234
          refine wp_seq_k (fun K237 hK237 => ?_)
          by_cases hc238 : ((k : Nat) : Int) < ((2 + 2 : Nat) : Int)
          · skip
            refine wp_cond_true (c_true hF236 rfl (decide_eq_true hc238)) ?_
            refine wp_skip ?_
            refine hK237 _ _ ?_
            clear hK237
            refine wp_seq_k (fun K239 hK239 => ?_)
            refine wp_block ?_
            refine wp_seq_k (fun K240 hK240 => ?_)
            refine wp_region_lit ?_
            obtain ⟨b241, o242, hA243, -⟩ := Fl.at hf228 (by omega)
            refine wpl_op (i := 0) rfl (o_val (v := (.pointer (some ⟨b241, o242 + k, none⟩))) hF236 rfl rfl rfl rfl (rn_index1 Try.underlying25 (by kernel_rfl : (Try.prog.info? 3).map (·.size) = some 1) ((hF236.get rfl).trans (by rw [hA243])) (hF236.get rfl) (by omega : (0 : Int) ≤ (k : Nat)) (by omega : ((k : Nat) : Int) < ((2 + 2 : Nat) : Int))) ?_)
            intro a244 hF245; clear hF236
            refine wpl_op (i := 1) rfl (o_val (v := (.int .i64 ((([(v : Int), ((andI (v) (15)) : Int)]) ++ ([(((t62.getD 0 []).getD ((a : Int).toNat) 0) : Int), ((-(((t62.getD ((a : Int).toNat) []).getD 0 0) : Int)) : Int)])).getD k 0))) hF245 rfl rfl rfl rfl (rn_load (isAgg_no Try.underlying3 rfl) (hF245.get rfl) (Fl.cellAt hf228 hA243 (intVals_at (i := k) (by have := hvl; omega)))) ?_)
            intro a246 hF247; clear hF245
            refine wpl_op (i := 2) rfl (o_val (v := (.int .i64 ((([(v : Int), ((andI (v) (15)) : Int)]) ++ ([(((t62.getD 0 []).getD ((a : Int).toNat) 0) : Int), ((-(((t62.getD ((a : Int).toNat) []).getD 0 0) : Int)) : Int)])).getD k 0))) hF247 rfl rfl rfl rfl (rn_assign (hF247.get rfl)) ?_)
            intro a248 hF249; clear hF247
            refine wpList_nil ?_
            refine hK240 _ _ ?_
            clear hK240
            refine wp_seq_k (fun K250 hK250 => ?_)
            refine wp_region_lit ?_
            refine wpl_op (i := 0) rfl (o_val (v := (.agg #[(.int .i64 n), (.slice A l.length c)])) hF249 rfl rfl rfl rfl (rn_loadBlk (hF249.get rfl) b225 Try.underlying24 rfl (by kernel_rfl : (Try.prog.info? 24).map (·.size) = some 2)) ?_)
            intro a251 hF252; clear hF249
            refine wpl_op (i := 1) rfl (o_val (v := (.int .i64 a)) hF252 rfl rfl rfl rfl (rn_move (hF252.get rfl)) ?_)
            intro a253 hF254; clear hF252
            refine wpl_op (i := 2) rfl (o_val (v := (.int .i64 ((([(v : Int), ((andI (v) (15)) : Int)]) ++ ([(((t62.getD 0 []).getD ((a : Int).toNat) 0) : Int), ((-(((t62.getD ((a : Int).toNat) []).getD 0 0) : Int)) : Int)])).getD k 0))) hF254 rfl rfl rfl rfl (rn_move (hF254.get rfl)) ?_)
            intro a255 hF256; clear hF254
            have d257 := (hc.ext hx223)
            refine wpl_op (i := 3) rfl (o_call hF256 rfl rfl rfl rfl (rn_call (args3 (hF256.get rfl) (hF256.get rfl) (hF256.get rfl)) rfl (by kernel_rfl)) (bgreat_at (v := (.slice A l.length c)) n l a ((([(v : Int), ((andI (v) (15)) : Int)]) ++ ([(((t62.getD 0 []).getD ((a : Int).toNat) 0) : Int), ((-(((t62.getD ((a : Int).toNat) []).getD 0 0) : Int)) : Int)])).getD k 0) _ d257 (fun _ => ⟨by omega, by omega⟩)) ?_)
            rintro _ w266 ⟨A258, m259, c260, r261, e262, rfl, hf263, hs264, hx267⟩
            have z265 := Fl.ilen hf263
            refine ⟨_, rfl, ?_⟩; intro a268 hF269; clear hF256; have z270 := hx267.size
            have hf271 : Fl (Clip (fun b => w221.heap.size ≤ b) w266) w266 1 (.slice A258 m259 c260) m259 (intVals r261) := hf263.clip
            refine wpl_op (i := 4) rfl (o_val (v := (.tuple #[(.slice A258 m259 c260), (.int .i64 e262)])) hF269 rfl rfl rfl rfl (rn_move (hF269.get rfl)) ?_)
            intro a272 hF273; clear hF269
            refine wpl_op (i := 5) rfl (o_val (v := (.slice A258 m259 c260)) hF273 rfl rfl rfl rfl (rn_extract (hF273.get rfl) rfl) ?_)
            intro a274 hF275; clear hF273
            refine wpl_op (i := 6) rfl (o_val (v := (.int .i64 e262)) hF275 rfl rfl rfl rfl (rn_extract (hF275.get rfl) rfl) ?_)
            intro a276 hF277; clear hF275
            refine wpl_op (i := 7) rfl (o_val (v := (.slice A258 m259 c260)) hF277 rfl rfl rfl rfl (rn_assign (hF277.get rfl)) ?_)
            intro a278 hF279; clear hF277
            refine wpl_op (i := 8) rfl (o_val (v := (.int .i64 e262)) hF279 rfl rfl rfl rfl (rn_assign (hF279.get rfl)) ?_)
            intro a280 hF281; clear hF279
            refine wpList_nil ?_
            refine hK250 _ _ ?_
            clear hK250
            have hF282 := ((((((((((((((((((hF281.nil.cons (hF281.get (t := 13) (v := (.int .i64 e262)) rfl)).cons (hF281.get (t := 12) (v := (.slice A258 m259 c260)) rfl)).cons (hF281.get (t := 11) (v := (.int .i64 ((([(v : Int), ((andI (v) (15)) : Int)]) ++ ([(((t62.getD 0 []).getD ((a : Int).toNat) 0) : Int), ((-(((t62.getD ((a : Int).toNat) []).getD 0 0) : Int)) : Int)])).getD k 0))) rfl)).cons (hF281.get (t := 65) (v := (.bool (decide (((k : Nat) : Int) < ((2 + 2 : Nat) : Int))))) rfl)).cons (hF281.get (t := 64) (v := (.int .i64 (k : Nat))) rfl)).cons (hF281.get (t := 63) (v := (.int .i64 (2 + 2 : Nat))) rfl)).cons (hF281.get (t := 62) (v := (.slice A188 (2 + 2) c189)) rfl)).cons (hF281.get (t := 45) (v := (.bool (decide ((a : Int) < (n : Int))))) rfl)).cons (hF281.get (t := 9) (v := (.int .i64 er63)) rfl)).cons (hF281.get (t := 8) (v := (.slice A59 m60 c61)) rfl)).cons (hF281.get (t := 7) (v := (.slice A188 (2 + 2) c189)) rfl)).cons (hF281.get (t := 24) (v := (.bool (!(few n l)))) rfl)).cons (hF281.get (t := 21) (v := (.bool false)) rfl)).cons (hF281.get (t := 6) (v := (.bool false)) rfl)).cons (hF281.get (t := 3) (v := (.pointer (some ⟨g2, 0, none⟩))) rfl)).cons (hF281.get (t := 2) (v := (.int .i64 v)) rfl)).cons (hF281.get (t := 1) (v := (.int .i64 a)) rfl)).cons (hF281.get (t := 0) (v := (.agg #[(.int .i64 n), (.slice A l.length c)])) rfl))
            clear hF281
            refine wp_seq_k (fun K283 hK283 => ?_)
            refine wp_region_lit ?_
            have b284 : Blk w266 g2 24 [(.int .i64 n), (.slice A l.length c)] := (b225.ext hx267)
            refine wpl_op (i := 0) rfl (o_val (v := (.agg #[(.int .i64 n), (.slice A l.length c)])) hF282 rfl rfl rfl rfl (rn_loadBlk (hF282.get rfl) b284 Try.underlying24 rfl (by kernel_rfl : (Try.prog.info? 24).map (·.size) = some 2)) ?_)
            intro a285 hF286; clear hF282
            refine wpl_op (i := 1) rfl (o_val (v := (.int .i64 a)) hF286 rfl rfl rfl rfl (rn_move (hF286.get rfl)) ?_)
            intro a287 hF288; clear hF286
            refine wpl_op (i := 2) rfl (o_val (v := (.int .i64 ((([(v : Int), ((andI (v) (15)) : Int)]) ++ ([(((t62.getD 0 []).getD ((a : Int).toNat) 0) : Int), ((-(((t62.getD ((a : Int).toNat) []).getD 0 0) : Int)) : Int)])).getD k 0))) hF288 rfl rfl rfl rfl (rn_move (hF288.get rfl)) ?_)
            intro a289 hF290; clear hF288
            have d291 := ((hc.ext hx223).ext hx267)
            refine wpl_op (i := 3) rfl (o_call hF290 rfl rfl rfl rfl (rn_call (args3 (hF290.get rfl) (hF290.get rfl) (hF290.get rfl)) rfl (by kernel_rfl)) (rgreat_at (v := (.slice A l.length c)) n l a ((([(v : Int), ((andI (v) (15)) : Int)]) ++ ([(((t62.getD 0 []).getD ((a : Int).toNat) 0) : Int), ((-(((t62.getD ((a : Int).toNat) []).getD 0 0) : Int)) : Int)])).getD k 0) _ d291 (fun _ => ⟨by omega, by omega⟩)) ?_)
            rintro _ w300 ⟨A292, m293, c294, r295, e296, rfl, hf297, hs298, hx301⟩
            have z299 := Fl.ilen hf297
            refine ⟨_, rfl, ?_⟩; intro a302 hF303; clear hF290; have z304 := hx301.size
            have hf305 : Fl (Clip (fun b => w266.heap.size ≤ b) w300) w300 1 (.slice A292 m293 c294) m293 (intVals r295) := hf297.clip
            refine wpl_op (i := 4) rfl (o_val (v := (.tuple #[(.slice A292 m293 c294), (.int .i64 e296)])) hF303 rfl rfl rfl rfl (rn_move (hF303.get rfl)) ?_)
            intro a306 hF307; clear hF303
            refine wpl_op (i := 5) rfl (o_val (v := (.slice A292 m293 c294)) hF307 rfl rfl rfl rfl (rn_extract (hF307.get rfl) rfl) ?_)
            intro a308 hF309; clear hF307
            refine wpl_op (i := 6) rfl (o_val (v := (.int .i64 e296)) hF309 rfl rfl rfl rfl (rn_extract (hF309.get rfl) rfl) ?_)
            intro a310 hF311; clear hF309
            refine wpl_op (i := 7) rfl (o_val (v := (.slice A292 m293 c294)) hF311 rfl rfl rfl rfl (rn_assign (hF311.get rfl)) ?_)
            intro a312 hF313; clear hF311
            refine wpl_op (i := 8) rfl (o_val (v := (.int .i64 e296)) hF313 rfl rfl rfl rfl (rn_assign (hF313.get rfl)) ?_)
            intro a314 hF315; clear hF313
            refine wpList_nil ?_
            refine hK283 _ _ ?_
            clear hK283
            have hF316 := ((((((((((((((((((((hF315.nil.cons (hF315.get (t := 15) (v := (.int .i64 e296)) rfl)).cons (hF315.get (t := 14) (v := (.slice A292 m293 c294)) rfl)).cons (hF315.get (t := 13) (v := (.int .i64 e262)) rfl)).cons (hF315.get (t := 12) (v := (.slice A258 m259 c260)) rfl)).cons (hF315.get (t := 11) (v := (.int .i64 ((([(v : Int), ((andI (v) (15)) : Int)]) ++ ([(((t62.getD 0 []).getD ((a : Int).toNat) 0) : Int), ((-(((t62.getD ((a : Int).toNat) []).getD 0 0) : Int)) : Int)])).getD k 0))) rfl)).cons (hF315.get (t := 65) (v := (.bool (decide (((k : Nat) : Int) < ((2 + 2 : Nat) : Int))))) rfl)).cons (hF315.get (t := 64) (v := (.int .i64 (k : Nat))) rfl)).cons (hF315.get (t := 63) (v := (.int .i64 (2 + 2 : Nat))) rfl)).cons (hF315.get (t := 62) (v := (.slice A188 (2 + 2) c189)) rfl)).cons (hF315.get (t := 45) (v := (.bool (decide ((a : Int) < (n : Int))))) rfl)).cons (hF315.get (t := 9) (v := (.int .i64 er63)) rfl)).cons (hF315.get (t := 8) (v := (.slice A59 m60 c61)) rfl)).cons (hF315.get (t := 7) (v := (.slice A188 (2 + 2) c189)) rfl)).cons (hF315.get (t := 24) (v := (.bool (!(few n l)))) rfl)).cons (hF315.get (t := 21) (v := (.bool false)) rfl)).cons (hF315.get (t := 6) (v := (.bool false)) rfl)).cons (hF315.get (t := 3) (v := (.pointer (some ⟨g2, 0, none⟩))) rfl)).cons (hF315.get (t := 2) (v := (.int .i64 v)) rfl)).cons (hF315.get (t := 1) (v := (.int .i64 a)) rfl)).cons (hF315.get (t := 0) (v := (.agg #[(.int .i64 n), (.slice A l.length c)])) rfl))
            clear hF315
            refine wp_seq_k (fun K317 hK317 => ?_)
            refine wp_region_lit ?_
            have b318 : Blk w300 g2 24 [(.int .i64 n), (.slice A l.length c)] := (b284.ext hx301)
            refine wpl_op (i := 0) rfl (o_val (v := (.agg #[(.int .i64 n), (.slice A l.length c)])) hF316 rfl rfl rfl rfl (rn_loadBlk (hF316.get rfl) b318 Try.underlying24 rfl (by kernel_rfl : (Try.prog.info? 24).map (·.size) = some 2)) ?_)
            intro a319 hF320; clear hF316
            refine wpl_op (i := 1) rfl (o_val (v := (.int .i64 a)) hF320 rfl rfl rfl rfl (rn_move (hF320.get rfl)) ?_)
            intro a321 hF322; clear hF320
            refine wpl_op (i := 2) rfl (o_val (v := (.int .i64 ((([(v : Int), ((andI (v) (15)) : Int)]) ++ ([(((t62.getD 0 []).getD ((a : Int).toNat) 0) : Int), ((-(((t62.getD ((a : Int).toNat) []).getD 0 0) : Int)) : Int)])).getD k 0))) hF322 rfl rfl rfl rfl (rn_move (hF322.get rfl)) ?_)
            intro a323 hF324; clear hF322
            have d325 := (((hc.ext hx223).ext hx267).ext hx301)
            refine wpl_op (i := 3) rfl (o_call hF324 rfl rfl rfl rfl (rn_call (args3 (hF324.get rfl) (hF324.get rfl) (hF324.get rfl)) rfl (by kernel_rfl)) (bleast_at (v := (.slice A l.length c)) n l a ((([(v : Int), ((andI (v) (15)) : Int)]) ++ ([(((t62.getD 0 []).getD ((a : Int).toNat) 0) : Int), ((-(((t62.getD ((a : Int).toNat) []).getD 0 0) : Int)) : Int)])).getD k 0) _ d325 (fun _ => ⟨by omega, by omega⟩)) ?_)
            rintro _ w334 ⟨A326, m327, c328, r329, e330, rfl, hf331, hs332, hx335⟩
            have z333 := Fl.ilen hf331
            refine ⟨_, rfl, ?_⟩; intro a336 hF337; clear hF324; have z338 := hx335.size
            have hf339 : Fl (Clip (fun b => w300.heap.size ≤ b) w334) w334 1 (.slice A326 m327 c328) m327 (intVals r329) := hf331.clip
            refine wpl_op (i := 4) rfl (o_val (v := (.tuple #[(.slice A326 m327 c328), (.int .i64 e330)])) hF337 rfl rfl rfl rfl (rn_move (hF337.get rfl)) ?_)
            intro a340 hF341; clear hF337
            refine wpl_op (i := 5) rfl (o_val (v := (.slice A326 m327 c328)) hF341 rfl rfl rfl rfl (rn_extract (hF341.get rfl) rfl) ?_)
            intro a342 hF343; clear hF341
            refine wpl_op (i := 6) rfl (o_val (v := (.int .i64 e330)) hF343 rfl rfl rfl rfl (rn_extract (hF343.get rfl) rfl) ?_)
            intro a344 hF345; clear hF343
            refine wpl_op (i := 7) rfl (o_val (v := (.slice A326 m327 c328)) hF345 rfl rfl rfl rfl (rn_assign (hF345.get rfl)) ?_)
            intro a346 hF347; clear hF345
            refine wpl_op (i := 8) rfl (o_val (v := (.int .i64 e330)) hF347 rfl rfl rfl rfl (rn_assign (hF347.get rfl)) ?_)
            intro a348 hF349; clear hF347
            refine wpList_nil ?_
            refine hK317 _ _ ?_
            clear hK317
            have hF350 := ((((((((((((((((((((((hF349.nil.cons (hF349.get (t := 17) (v := (.int .i64 e330)) rfl)).cons (hF349.get (t := 16) (v := (.slice A326 m327 c328)) rfl)).cons (hF349.get (t := 15) (v := (.int .i64 e296)) rfl)).cons (hF349.get (t := 14) (v := (.slice A292 m293 c294)) rfl)).cons (hF349.get (t := 13) (v := (.int .i64 e262)) rfl)).cons (hF349.get (t := 12) (v := (.slice A258 m259 c260)) rfl)).cons (hF349.get (t := 11) (v := (.int .i64 ((([(v : Int), ((andI (v) (15)) : Int)]) ++ ([(((t62.getD 0 []).getD ((a : Int).toNat) 0) : Int), ((-(((t62.getD ((a : Int).toNat) []).getD 0 0) : Int)) : Int)])).getD k 0))) rfl)).cons (hF349.get (t := 65) (v := (.bool (decide (((k : Nat) : Int) < ((2 + 2 : Nat) : Int))))) rfl)).cons (hF349.get (t := 64) (v := (.int .i64 (k : Nat))) rfl)).cons (hF349.get (t := 63) (v := (.int .i64 (2 + 2 : Nat))) rfl)).cons (hF349.get (t := 62) (v := (.slice A188 (2 + 2) c189)) rfl)).cons (hF349.get (t := 45) (v := (.bool (decide ((a : Int) < (n : Int))))) rfl)).cons (hF349.get (t := 9) (v := (.int .i64 er63)) rfl)).cons (hF349.get (t := 8) (v := (.slice A59 m60 c61)) rfl)).cons (hF349.get (t := 7) (v := (.slice A188 (2 + 2) c189)) rfl)).cons (hF349.get (t := 24) (v := (.bool (!(few n l)))) rfl)).cons (hF349.get (t := 21) (v := (.bool false)) rfl)).cons (hF349.get (t := 6) (v := (.bool false)) rfl)).cons (hF349.get (t := 3) (v := (.pointer (some ⟨g2, 0, none⟩))) rfl)).cons (hF349.get (t := 2) (v := (.int .i64 v)) rfl)).cons (hF349.get (t := 1) (v := (.int .i64 a)) rfl)).cons (hF349.get (t := 0) (v := (.agg #[(.int .i64 n), (.slice A l.length c)])) rfl))
            clear hF349
            refine wp_seq_k (fun K351 hK351 => ?_)
            refine wp_region_lit ?_
            have b352 : Blk w334 g2 24 [(.int .i64 n), (.slice A l.length c)] := (b318.ext hx335)
            refine wpl_op (i := 0) rfl (o_val (v := (.agg #[(.int .i64 n), (.slice A l.length c)])) hF350 rfl rfl rfl rfl (rn_loadBlk (hF350.get rfl) b352 Try.underlying24 rfl (by kernel_rfl : (Try.prog.info? 24).map (·.size) = some 2)) ?_)
            intro a353 hF354; clear hF350
            refine wpl_op (i := 1) rfl (o_val (v := (.int .i64 a)) hF354 rfl rfl rfl rfl (rn_move (hF354.get rfl)) ?_)
            intro a355 hF356; clear hF354
            refine wpl_op (i := 2) rfl (o_val (v := (.int .i64 ((([(v : Int), ((andI (v) (15)) : Int)]) ++ ([(((t62.getD 0 []).getD ((a : Int).toNat) 0) : Int), ((-(((t62.getD ((a : Int).toNat) []).getD 0 0) : Int)) : Int)])).getD k 0))) hF356 rfl rfl rfl rfl (rn_move (hF356.get rfl)) ?_)
            intro a357 hF358; clear hF356
            have d359 := ((((hc.ext hx223).ext hx267).ext hx301).ext hx335)
            refine wpl_op (i := 3) rfl (o_call hF358 rfl rfl rfl rfl (rn_call (args3 (hF358.get rfl) (hF358.get rfl) (hF358.get rfl)) rfl (by kernel_rfl)) (rleast_at (v := (.slice A l.length c)) n l a ((([(v : Int), ((andI (v) (15)) : Int)]) ++ ([(((t62.getD 0 []).getD ((a : Int).toNat) 0) : Int), ((-(((t62.getD ((a : Int).toNat) []).getD 0 0) : Int)) : Int)])).getD k 0) _ d359 (fun _ => ⟨by omega, by omega⟩)) ?_)
            rintro _ w368 ⟨A360, m361, c362, r363, e364, rfl, hf365, hs366, hx369⟩
            have z367 := Fl.ilen hf365
            refine ⟨_, rfl, ?_⟩; intro a370 hF371; clear hF358; have z372 := hx369.size
            have hf373 : Fl (Clip (fun b => w334.heap.size ≤ b) w368) w368 1 (.slice A360 m361 c362) m361 (intVals r363) := hf365.clip
            refine wpl_op (i := 4) rfl (o_val (v := (.tuple #[(.slice A360 m361 c362), (.int .i64 e364)])) hF371 rfl rfl rfl rfl (rn_move (hF371.get rfl)) ?_)
            intro a374 hF375; clear hF371
            refine wpl_op (i := 5) rfl (o_val (v := (.slice A360 m361 c362)) hF375 rfl rfl rfl rfl (rn_extract (hF375.get rfl) rfl) ?_)
            intro a376 hF377; clear hF375
            refine wpl_op (i := 6) rfl (o_val (v := (.int .i64 e364)) hF377 rfl rfl rfl rfl (rn_extract (hF377.get rfl) rfl) ?_)
            intro a378 hF379; clear hF377
            refine wpl_op (i := 7) rfl (o_val (v := (.slice A360 m361 c362)) hF379 rfl rfl rfl rfl (rn_assign (hF379.get rfl)) ?_)
            intro a380 hF381; clear hF379
            refine wpl_op (i := 8) rfl (o_val (v := (.int .i64 e364)) hF381 rfl rfl rfl rfl (rn_assign (hF381.get rfl)) ?_)
            intro a382 hF383; clear hF381
            refine wpList_nil ?_
            refine hK351 _ _ ?_
            clear hK351
            have hF384 := ((((((((((((((((((((((((hF383.nil.cons (hF383.get (t := 19) (v := (.int .i64 e364)) rfl)).cons (hF383.get (t := 18) (v := (.slice A360 m361 c362)) rfl)).cons (hF383.get (t := 17) (v := (.int .i64 e330)) rfl)).cons (hF383.get (t := 16) (v := (.slice A326 m327 c328)) rfl)).cons (hF383.get (t := 15) (v := (.int .i64 e296)) rfl)).cons (hF383.get (t := 14) (v := (.slice A292 m293 c294)) rfl)).cons (hF383.get (t := 13) (v := (.int .i64 e262)) rfl)).cons (hF383.get (t := 12) (v := (.slice A258 m259 c260)) rfl)).cons (hF383.get (t := 11) (v := (.int .i64 ((([(v : Int), ((andI (v) (15)) : Int)]) ++ ([(((t62.getD 0 []).getD ((a : Int).toNat) 0) : Int), ((-(((t62.getD ((a : Int).toNat) []).getD 0 0) : Int)) : Int)])).getD k 0))) rfl)).cons (hF383.get (t := 65) (v := (.bool (decide (((k : Nat) : Int) < ((2 + 2 : Nat) : Int))))) rfl)).cons (hF383.get (t := 64) (v := (.int .i64 (k : Nat))) rfl)).cons (hF383.get (t := 63) (v := (.int .i64 (2 + 2 : Nat))) rfl)).cons (hF383.get (t := 62) (v := (.slice A188 (2 + 2) c189)) rfl)).cons (hF383.get (t := 45) (v := (.bool (decide ((a : Int) < (n : Int))))) rfl)).cons (hF383.get (t := 9) (v := (.int .i64 er63)) rfl)).cons (hF383.get (t := 8) (v := (.slice A59 m60 c61)) rfl)).cons (hF383.get (t := 7) (v := (.slice A188 (2 + 2) c189)) rfl)).cons (hF383.get (t := 24) (v := (.bool (!(few n l)))) rfl)).cons (hF383.get (t := 21) (v := (.bool false)) rfl)).cons (hF383.get (t := 6) (v := (.bool false)) rfl)).cons (hF383.get (t := 3) (v := (.pointer (some ⟨g2, 0, none⟩))) rfl)).cons (hF383.get (t := 2) (v := (.int .i64 v)) rfl)).cons (hF383.get (t := 1) (v := (.int .i64 a)) rfl)).cons (hF383.get (t := 0) (v := (.agg #[(.int .i64 n), (.slice A l.length c)])) rfl))
            clear hF383
            refine wp_seq_k (fun K385 hK385 => ?_)
            have hu1 := hs264.unique hs298; have hu2 := hs332.unique hs366
            have hu3 := hu1.2; have hu4 := hu2.2
            refine wp_region_lit ?_
            refine wpl_op (i := 0) rfl (o_val (v := (.slice A258 m259 c260)) hF384 rfl rfl rfl rfl (rn_move (hF384.get rfl)) ?_)
            intro a386 hF387; clear hF384
            refine wpl_op (i := 1) rfl (o_val (v := (.slice A292 m293 c294)) hF387 rfl rfl rfl rfl (rn_move (hF387.get rfl)) ?_)
            intro a388 hF389; clear hF387
            have d390 := (((hf271.ext hx301).ext hx335).ext hx369)
            have d391 := ((hf305.ext hx335).ext hx369)
            refine wpl_op (i := 2) rfl (o_call hF389 rfl rfl rfl rfl (rn_call (args2 (hF389.get rfl) (hF389.get rfl)) rfl (by kernel_rfl)) (same_at (u := (.slice A258 m259 c260)) (v := (.slice A292 m293 c294)) r261 r295 _ d390 d391) ?_)
            rintro _ w392 ⟨rfl, hx393⟩
            refine ⟨_, rfl, ?_⟩; intro a394 hF395; clear hF389; have z396 := hx393.size
            refine wpl_op (i := 3) rfl (o_val (v := (.bool (!(decide (r261 = r295))))) hF395 rfl rfl rfl rfl (rn_not' (hF395.get rfl) rfl) ?_)
            intro a397 hF398; clear hF395
            refine wpl_op (i := 4) rfl (o_val (v := (.bool (!(decide (r261 = r295))))) hF398 rfl rfl rfl rfl (rn_move (hF398.get rfl)) ?_)
            intro a399 hF400; clear hF398
            refine wpl_op (i := 5) rfl (o_val (v := (.int .i64 e262)) hF400 rfl (wanted_guard rfl rfl rfl hF400 rfl (not_t (decide_eq_true hu1.1 : decide (r261 = r295) = true)) rfl) rfl rfl (rn_move (hF400.get rfl)) ?_)
            intro a402 hF403; clear hF400
            refine wpl_op (i := 6) rfl (o_val (v := (.int .i64 e296)) hF403 rfl (wanted_guard rfl rfl rfl hF403 rfl (not_t (decide_eq_true hu1.1 : decide (r261 = r295) = true)) rfl) rfl rfl (rn_move (hF403.get rfl)) ?_)
            intro a404 hF405; clear hF403
            refine wpl_op (i := 7) rfl (o_val (v := (.bool (decide ((e262 : Int) ≠ (e296 : Int))))) hF405 rfl (wanted_guard rfl rfl rfl hF405 rfl (not_t (decide_eq_true hu1.1 : decide (r261 = r295) = true)) rfl) rfl rfl (rn_neq (hF405.get rfl) (hF405.get rfl)) ?_)
            intro a406 hF407; clear hF405
            refine wpl_op (i := 8) rfl (o_val (v := (.bool (decide ((e262 : Int) ≠ (e296 : Int))))) hF407 rfl rfl rfl rfl (rn_pickF (c_false hF407 rfl (not_t (decide_eq_true hu1.1 : decide (r261 = r295) = true))) (hF407.get rfl)) ?_)
            intro a408 hF409; clear hF407
            refine wpl_op (i := 9) rfl (o_val (v := (.bool (decide ((e262 : Int) ≠ (e296 : Int))))) hF409 rfl rfl rfl rfl (rn_move (hF409.get rfl)) ?_)
            intro a410 hF411; clear hF409
            by_cases hc412 : (e262 : Int) ≠ (e296 : Int)
            · skip
              refine wpl_op (i := 10) rfl (o_skip hF411 rfl (unwanted_guard rfl rfl rfl hF411 rfl (decide_eq_true hc412) rfl) rfl rfl ?_)
              intro a413 hF414; clear hF411
              refine wpl_op (i := 11) rfl (o_skip hF414 rfl (unwanted_guard rfl rfl rfl hF414 rfl (decide_eq_true hc412) rfl) rfl rfl ?_)
              intro a415 hF416; clear hF414
              refine wpl_op (i := 12) rfl (o_skip hF416 rfl (unwanted_guard rfl rfl rfl hF416 rfl (decide_eq_true hc412) rfl) rfl rfl ?_)
              intro a417 hF418; clear hF416
              refine wpl_op (i := 13) rfl (o_skip hF418 rfl (unwanted_guard rfl rfl rfl hF418 rfl (decide_eq_true hc412) rfl) rfl rfl ?_)
              intro a419 hF420; clear hF418
              refine wpl_op (i := 14) rfl (o_val (v := (.bool true)) hF420 rfl rfl rfl rfl (rn_pickT (c_true hF420 rfl (decide_eq_true hc412)) rfl) ?_)
              intro a421 hF422; clear hF420
              refine wpl_op (i := 15) rfl (o_val (v := (.bool true)) hF422 rfl rfl rfl rfl (rn_move (hF422.get rfl)) ?_)
              intro a423 hF424; clear hF422
              refine wpl_op (i := 16) rfl (o_skip hF424 rfl (unwanted_guard rfl rfl rfl hF424 rfl rfl rfl) rfl rfl ?_)
              intro a425 hF426; clear hF424
              refine wpl_op (i := 17) rfl (o_skip hF426 rfl (unwanted_guard rfl rfl rfl hF426 rfl rfl rfl) rfl rfl ?_)
              intro a427 hF428; clear hF426
              refine wpl_op (i := 18) rfl (o_skip hF428 rfl (unwanted_guard rfl rfl rfl hF428 rfl rfl rfl) rfl rfl ?_)
              intro a429 hF430; clear hF428
              refine wpl_op (i := 19) rfl (o_val (v := (.bool true)) hF430 rfl rfl rfl rfl (rn_pickT (c_true hF430 rfl rfl) rfl) ?_)
              intro a431 hF432; clear hF430
              refine wpList_nil ?_
              refine hK385 _ _ ?_
              clear hK385
              have hF433 := (((((((((((((((((((((((((hF432.nil.cons (hF432.get (t := 115) (v := (.bool true)) rfl)).cons (hF432.get (t := 19) (v := (.int .i64 e364)) rfl)).cons (hF432.get (t := 18) (v := (.slice A360 m361 c362)) rfl)).cons (hF432.get (t := 17) (v := (.int .i64 e330)) rfl)).cons (hF432.get (t := 16) (v := (.slice A326 m327 c328)) rfl)).cons (hF432.get (t := 15) (v := (.int .i64 e296)) rfl)).cons (hF432.get (t := 14) (v := (.slice A292 m293 c294)) rfl)).cons (hF432.get (t := 13) (v := (.int .i64 e262)) rfl)).cons (hF432.get (t := 12) (v := (.slice A258 m259 c260)) rfl)).cons (hF432.get (t := 11) (v := (.int .i64 ((([(v : Int), ((andI (v) (15)) : Int)]) ++ ([(((t62.getD 0 []).getD ((a : Int).toNat) 0) : Int), ((-(((t62.getD ((a : Int).toNat) []).getD 0 0) : Int)) : Int)])).getD k 0))) rfl)).cons (hF432.get (t := 65) (v := (.bool (decide (((k : Nat) : Int) < ((2 + 2 : Nat) : Int))))) rfl)).cons (hF432.get (t := 64) (v := (.int .i64 (k : Nat))) rfl)).cons (hF432.get (t := 63) (v := (.int .i64 (2 + 2 : Nat))) rfl)).cons (hF432.get (t := 62) (v := (.slice A188 (2 + 2) c189)) rfl)).cons (hF432.get (t := 45) (v := (.bool (decide ((a : Int) < (n : Int))))) rfl)).cons (hF432.get (t := 9) (v := (.int .i64 er63)) rfl)).cons (hF432.get (t := 8) (v := (.slice A59 m60 c61)) rfl)).cons (hF432.get (t := 7) (v := (.slice A188 (2 + 2) c189)) rfl)).cons (hF432.get (t := 24) (v := (.bool (!(few n l)))) rfl)).cons (hF432.get (t := 21) (v := (.bool false)) rfl)).cons (hF432.get (t := 6) (v := (.bool false)) rfl)).cons (hF432.get (t := 3) (v := (.pointer (some ⟨g2, 0, none⟩))) rfl)).cons (hF432.get (t := 2) (v := (.int .i64 v)) rfl)).cons (hF432.get (t := 1) (v := (.int .i64 a)) rfl)).cons (hF432.get (t := 0) (v := (.agg #[(.int .i64 n), (.slice A l.length c)])) rfl))
              clear hF432
              refine wp_cond_true (c_true hF433 rfl rfl) ?_
              refine wp_seq_k (fun K434 hK434 => ?_)
              refine wp_region_lit ?_
              refine wpl_op (i := 0) rfl (o_val (v := (.bool false)) hF433 rfl rfl rfl rfl (rn_assign rfl) ?_)
              intro a435 hF436; clear hF433
              refine wpList_nil ?_
              refine hK434 _ _ ?_
              clear hK434
              refine wp_ret ?_
              refine ret_block ?_
              refine ret_then ?_
              refine ret_then ?_
              refine ret_block ?_
              refine ret_then ?_
              refine ret1 hF436 rfl rfl ?_
              exfalso; omega
            · skip
              refine wpl_op (i := 10) rfl (o_val (v := (.slice A326 m327 c328)) hF411 rfl (wanted_guard rfl rfl rfl hF411 rfl (decide_eq_false hc412) rfl) rfl rfl (rn_move (hF411.get rfl)) ?_)
              intro a437 hF438; clear hF411
              refine wpl_op (i := 11) rfl (o_val (v := (.slice A360 m361 c362)) hF438 rfl (wanted_guard rfl rfl rfl hF438 rfl (decide_eq_false hc412) rfl) rfl rfl (rn_move (hF438.get rfl)) ?_)
              intro a439 hF440; clear hF438
              have d441 := ((hf339.ext hx369).ext hx393)
              have d442 := (hf373.ext hx393)
              refine wpl_op (i := 12) rfl (o_call hF440 rfl (wanted_guard rfl rfl rfl hF440 rfl (decide_eq_false hc412) rfl) rfl rfl (rn_call (args2 (hF440.get rfl) (hF440.get rfl)) rfl (by kernel_rfl)) (same_at (u := (.slice A326 m327 c328)) (v := (.slice A360 m361 c362)) r329 r363 _ d441 d442) ?_)
              rintro _ w443 ⟨rfl, hx444⟩
              refine ⟨_, rfl, ?_⟩; intro a445 hF446; clear hF440; have z447 := hx444.size
              refine wpl_op (i := 13) rfl (o_val (v := (.bool (!(decide (r329 = r363))))) hF446 rfl (wanted_guard rfl rfl rfl hF446 rfl (decide_eq_false hc412) rfl) rfl rfl (rn_not' (hF446.get rfl) rfl) ?_)
              intro a448 hF449; clear hF446
              refine wpl_op (i := 14) rfl (o_val (v := (.bool (!(decide (r329 = r363))))) hF449 rfl rfl rfl rfl (rn_pickF (c_false hF449 rfl (decide_eq_false hc412)) (hF449.get rfl)) ?_)
              intro a450 hF451; clear hF449
              refine wpl_op (i := 15) rfl (o_val (v := (.bool (!(decide (r329 = r363))))) hF451 rfl rfl rfl rfl (rn_move (hF451.get rfl)) ?_)
              intro a452 hF453; clear hF451
              refine wpl_op (i := 16) rfl (o_val (v := (.int .i64 e330)) hF453 rfl (wanted_guard rfl rfl rfl hF453 rfl (not_t (decide_eq_true hu2.1 : decide (r329 = r363) = true)) rfl) rfl rfl (rn_move (hF453.get rfl)) ?_)
              intro a455 hF456; clear hF453
              refine wpl_op (i := 17) rfl (o_val (v := (.int .i64 e364)) hF456 rfl (wanted_guard rfl rfl rfl hF456 rfl (not_t (decide_eq_true hu2.1 : decide (r329 = r363) = true)) rfl) rfl rfl (rn_move (hF456.get rfl)) ?_)
              intro a457 hF458; clear hF456
              refine wpl_op (i := 18) rfl (o_val (v := (.bool (decide ((e330 : Int) ≠ (e364 : Int))))) hF458 rfl (wanted_guard rfl rfl rfl hF458 rfl (not_t (decide_eq_true hu2.1 : decide (r329 = r363) = true)) rfl) rfl rfl (rn_neq (hF458.get rfl) (hF458.get rfl)) ?_)
              intro a459 hF460; clear hF458
              refine wpl_op (i := 19) rfl (o_val (v := (.bool (decide ((e330 : Int) ≠ (e364 : Int))))) hF460 rfl rfl rfl rfl (rn_pickF (c_false hF460 rfl (not_t (decide_eq_true hu2.1 : decide (r329 = r363) = true))) (hF460.get rfl)) ?_)
              intro a461 hF462; clear hF460
              refine wpList_nil ?_
              refine hK385 _ _ ?_
              clear hK385
              have hF463 := (((((((((((((((((((((((((hF462.nil.cons (hF462.get (t := 115) (v := (.bool (decide ((e330 : Int) ≠ (e364 : Int))))) rfl)).cons (hF462.get (t := 19) (v := (.int .i64 e364)) rfl)).cons (hF462.get (t := 18) (v := (.slice A360 m361 c362)) rfl)).cons (hF462.get (t := 17) (v := (.int .i64 e330)) rfl)).cons (hF462.get (t := 16) (v := (.slice A326 m327 c328)) rfl)).cons (hF462.get (t := 15) (v := (.int .i64 e296)) rfl)).cons (hF462.get (t := 14) (v := (.slice A292 m293 c294)) rfl)).cons (hF462.get (t := 13) (v := (.int .i64 e262)) rfl)).cons (hF462.get (t := 12) (v := (.slice A258 m259 c260)) rfl)).cons (hF462.get (t := 11) (v := (.int .i64 ((([(v : Int), ((andI (v) (15)) : Int)]) ++ ([(((t62.getD 0 []).getD ((a : Int).toNat) 0) : Int), ((-(((t62.getD ((a : Int).toNat) []).getD 0 0) : Int)) : Int)])).getD k 0))) rfl)).cons (hF462.get (t := 65) (v := (.bool (decide (((k : Nat) : Int) < ((2 + 2 : Nat) : Int))))) rfl)).cons (hF462.get (t := 64) (v := (.int .i64 (k : Nat))) rfl)).cons (hF462.get (t := 63) (v := (.int .i64 (2 + 2 : Nat))) rfl)).cons (hF462.get (t := 62) (v := (.slice A188 (2 + 2) c189)) rfl)).cons (hF462.get (t := 45) (v := (.bool (decide ((a : Int) < (n : Int))))) rfl)).cons (hF462.get (t := 9) (v := (.int .i64 er63)) rfl)).cons (hF462.get (t := 8) (v := (.slice A59 m60 c61)) rfl)).cons (hF462.get (t := 7) (v := (.slice A188 (2 + 2) c189)) rfl)).cons (hF462.get (t := 24) (v := (.bool (!(few n l)))) rfl)).cons (hF462.get (t := 21) (v := (.bool false)) rfl)).cons (hF462.get (t := 6) (v := (.bool false)) rfl)).cons (hF462.get (t := 3) (v := (.pointer (some ⟨g2, 0, none⟩))) rfl)).cons (hF462.get (t := 2) (v := (.int .i64 v)) rfl)).cons (hF462.get (t := 1) (v := (.int .i64 a)) rfl)).cons (hF462.get (t := 0) (v := (.agg #[(.int .i64 n), (.slice A l.length c)])) rfl))
              clear hF462
              by_cases hc464 : (e330 : Int) ≠ (e364 : Int)
              · skip
                refine wp_cond_true (c_true hF463 rfl (decide_eq_true hc464)) ?_
                refine wp_seq_k (fun K465 hK465 => ?_)
                refine wp_region_lit ?_
                refine wpl_op (i := 0) rfl (o_val (v := (.bool false)) hF463 rfl rfl rfl rfl (rn_assign rfl) ?_)
                intro a466 hF467; clear hF463
                refine wpList_nil ?_
                refine hK465 _ _ ?_
                clear hK465
                refine wp_ret ?_
                refine ret_block ?_
                refine ret_then ?_
                refine ret_then ?_
                refine ret_block ?_
                refine ret_then ?_
                refine ret1 hF467 rfl rfl ?_
                exfalso; omega
              · skip
                refine wp_cond_false (c_false hF463 rfl (decide_eq_false hc464)) ?_
                refine wp_skip ?_
                refine hK239 _ _ ?_
                clear hK239
                refine wp_region_lit ?_
                refine wpl_op (i := 0) rfl (o_val (v := (.int .i64 (k + 1 : Nat))) hF463 rfl rfl rfl rfl (rn_addN (a := k) (b := 1) (hF463.get rfl) rfl (by omega)) ?_)
                intro a468 hF469; clear hF463
                refine wpl_op (i := 1) rfl (o_val (v := (.int .i64 (k + 1 : Nat))) hF469 rfl rfl rfl rfl (rn_move (hF469.get rfl)) ?_)
                intro a470 hF471; clear hF469
                refine wpList_nil ?_
                have d472 := ((((((hf227.ext hx267).ext hx301).ext hx335).ext hx369).ext hx393).ext hx444)
                have d473 := ((((((hf228.ext hx267).ext hx301).ext hx335).ext hx369).ext hx393).ext hx444)
                have b474 : Blk w443 g2 24 [(.int .i64 n), (.slice A l.length c)] := (((b352.ext hx369).ext hx393).ext hx444)
                have b475 : Blk w443 g178 3 (intVals [(((t62.getD 0 []).getD ((a : Int).toNat) 0) : Int), ((-(((t62.getD ((a : Int).toNat) []).getD 0 0) : Int)) : Int)]) := ((((((b226.ext hx267).ext hx301).ext hx335).ext hx369).ext hx393).ext hx444)
                refine ⟨⟨(k + 1), ((((((((((((((hF471.nil.cons (q_get hF471 (t := 64) rfl (by first | rfl | (congr 1; omega) | (congr 1; done)))).cons (q_get hF471 (t := 63) rfl rfl)).cons (q_get hF471 (t := 62) rfl rfl)).cons (q_get hF471 (t := 45) rfl rfl)).cons (q_get hF471 (t := 9) rfl rfl)).cons (q_get hF471 (t := 8) rfl rfl)).cons (q_get hF471 (t := 7) rfl rfl)).cons (q_get hF471 (t := 24) rfl rfl)).cons (q_get hF471 (t := 21) rfl rfl)).cons (q_get hF471 (t := 6) rfl rfl)).cons (q_get hF471 (t := 3) rfl rfl)).cons (q_get hF471 (t := 2) rfl rfl)).cons (q_get hF471 (t := 1) rfl rfl)).cons (q_get hF471 (t := 0) rfl rfl)), (by omega), ((((((((Ext.refl w).trans hx223).trans hx267).trans hx301).trans hx335).trans hx369).trans hx393).trans hx444), b474, b475, d472, d473, (by omega)⟩, ?_⟩
                rw [hF471.get (t := 64) rfl, hL230.get (t := 64) rfl]; simp [intOf] <;> omega
          · skip
            refine wp_cond_false (c_false hF236 rfl (decide_eq_false hc238)) ?_
            refine wp_exit ?_
            refine exit_then ?_
            refine exit_then ?_
            refine exit_here ?_
            refine hK207 _ _ ?_
            clear hK207
            refine wp_seq_k (fun K476 hK476 => ?_)
            refine wp_region_lit ?_
            refine wpl_op (i := 0) rfl (o_val (v := (.bool true)) hF236 rfl rfl rfl rfl (rn_assign rfl) ?_)
            intro a477 hF478; clear hF236
            refine wpList_nil ?_
            refine hK476 _ _ ?_
            clear hK476
            refine wp_ret ?_
            refine ret1 hF478 rfl rfl ?_
            exact ⟨rfl, ((Ext.refl w).trans hx223)⟩
        · skip
          refine wp_cond_false (c_false hF112 rfl (decide_eq_false hc113)) ?_
          refine wp_skip ?_
          refine hK53 _ _ ?_
          clear hK53
          refine wp_seq_k (fun K479 hK479 => ?_)
          refine wp_seq_k (fun K480 hK480 => ?_)
          refine wp_region_lit ?_
          refine wpl_op (i := 0) rfl (o_val (v := (.slice (some ⟨g42, 0, none⟩) 2 2)) hF112 rfl rfl rfl rfl (rn_move (hF112.get rfl)) ?_)
          intro a481 hF482; clear hF112
          refine wpl_op (i := 1) rfl (o_val (v := (.int .i64 2)) hF482 rfl rfl rfl rfl (rn_len_slice Try.underlying25 (hF482.get rfl)) ?_)
          intro a483 hF484; clear hF482
          refine wpl_op (i := 2) rfl (o_val (v := (.int .i64 0)) hF484 rfl rfl rfl rfl (rn_move rfl) ?_)
          intro a485 hF486; clear hF484
          refine wpList_nil ?_
          refine hK480 _ _ ?_
          clear hK480
          refine wp_block ?_
          have b487 : Blk w67 g42 3 (intVals [(v : Int), ((andI (v) (15)) : Int)]) := (b44.ext hx68)
          have hf488 := (Fl.blk (S := fun b => b = g42) (k := 1) (n := 2) (c := 2) b487 (by rw [intVals_len (show List.length [(v : Int), ((andI (v) (15)) : Int)] = 2 from rfl), Nat.mul_one]) (intVals_one _) (by omega) rfl)
          have hf489 : Fl (Clip (fun b => b = g42) w67) w67 1 (.slice (some ⟨g42, 0, none⟩) 2 2) 2 (intVals ([(v : Int), ((andI (v) (15)) : Int)])) := hf488.clip
          have hvl : List.length ([(v : Int), ((andI (v) (15)) : Int)]) = 2 := rfl
          refine wp_loop (fun a' W => ∃ (k : Nat), Sl 117 [(0, (.agg #[(.int .i64 n), (.slice A l.length c)])), (1, (.int .i64 a)), (2, (.int .i64 v)), (3, (.pointer (some ⟨g2, 0, none⟩))), (6, (.bool false)), (21, (.bool false)), (24, (.bool (!(few n l)))), (7, (.slice (some ⟨g42, 0, none⟩) 2 2)), (8, (.slice A59 m60 c61)), (9, (.int .i64 er63)), (45, (.bool (decide ((a : Int) < (n : Int))))), (62, (.slice (some ⟨g42, 0, none⟩) 2 2)), (63, (.int .i64 2)), (64, (.int .i64 (k : Nat)))] a' ∧ k ≤ 2 ∧ Ext w W ∧ Blk W g2 24 [(.int .i64 n), (.slice A l.length c)] ∧ Blk W g42 3 (intVals [(v : Int), ((andI (v) (15)) : Int)]) ∧ RIss (Clip (fun b => w43.heap.size ≤ b) w67) W (.slice A59 m60 c61) t62 ∧ Fl (Clip (fun b => b = g42) w67) W 1 (.slice (some ⟨g42, 0, none⟩) 2 2) 2 (intVals ([(v : Int), ((andI (v) (15)) : Int)])) ∧ w67.heap.size ≤ W.heap.size) (fun a' _ => 2 - (intOf (a'.eval (.tmp 64))).toNat) ⟨0, ((((((((((((((hF486.nil.cons (q_get hF486 (t := 64) rfl (by first | rfl | (congr 1; omega) | (congr 1; done)))).cons (q_get hF486 (t := 63) rfl rfl)).cons (q_get hF486 (t := 62) rfl rfl)).cons (q_get hF486 (t := 45) rfl rfl)).cons (q_get hF486 (t := 9) rfl rfl)).cons (q_get hF486 (t := 8) rfl rfl)).cons (q_get hF486 (t := 7) rfl rfl)).cons (q_get hF486 (t := 24) rfl rfl)).cons (q_get hF486 (t := 21) rfl rfl)).cons (q_get hF486 (t := 6) rfl rfl)).cons (q_get hF486 (t := 3) rfl rfl)).cons (q_get hF486 (t := 2) rfl rfl)).cons (q_get hF486 (t := 1) rfl rfl)).cons (q_get hF486 (t := 0) rfl rfl)), (by omega), ((((((Ext.refl w).trans hx5).trans hx15).trans hx28).trans hx45).trans hx68), b105, b487, hf72, hf489, (Nat.le_refl _)⟩ ?_
          clear hF486
          rintro a490 w491 ⟨k, hF492, hp494, hx493, b495, b496, hf497, hf498, hf499⟩
          have hL500 := hF492
          have z501 := hx493.size
          have z502 := b495.lt
          have z503 := b496.lt
          refine wp_seq_k (fun K504 hK504 => ?_)
          refine wp_region_lit ?_
          refine wpl_op (i := 0) rfl (o_val (v := (.bool (decide (((k : Nat) : Int) < (2 : Int))))) hF492 rfl rfl rfl rfl (rn_lss (hF492.get rfl) (hF492.get rfl)) ?_)
          intro a505 hF506; clear hF492
          refine wpList_nil ?_
          refine hK504 _ _ ?_
          clear hK504
          refine wp_seq_k (fun K507 hK507 => ?_)
          by_cases hc508 : ((k : Nat) : Int) < (2 : Int)
          · skip
            refine wp_cond_true (c_true hF506 rfl (decide_eq_true hc508)) ?_
            refine wp_skip ?_
            refine hK507 _ _ ?_
            clear hK507
            refine wp_seq_k (fun K509 hK509 => ?_)
            refine wp_block ?_
            refine wp_seq_k (fun K510 hK510 => ?_)
            refine wp_region_lit ?_
            refine wpl_op (i := 0) rfl (o_val (v := (.pointer (some ⟨g42, 0 + k, none⟩))) hF506 rfl rfl rfl rfl (rn_index1 Try.underlying25 (by kernel_rfl : (Try.prog.info? 3).map (·.size) = some 1) (hF506.get rfl) (hF506.get rfl) (by omega : (0 : Int) ≤ (k : Nat)) (by omega : ((k : Nat) : Int) < ((2 : Nat) : Int))) ?_)
            intro a511 hF512; clear hF506
            refine wpl_op (i := 1) rfl (o_val (v := (.int .i64 (([(v : Int), ((andI (v) (15)) : Int)]).getD k 0))) hF512 rfl rfl rfl rfl (rn_load (isAgg_no Try.underlying3 rfl) (hF512.get rfl) (blk_intVals b496 (by omega) (by have := (show List.length ([(v : Int), ((andI (v) (15)) : Int)]) = _ from (show List.length [(v : Int), ((andI (v) (15)) : Int)] = 2 from rfl)); omega))) ?_)
            intro a513 hF514; clear hF512
            refine wpl_op (i := 2) rfl (o_val (v := (.int .i64 (([(v : Int), ((andI (v) (15)) : Int)]).getD k 0))) hF514 rfl rfl rfl rfl (rn_assign (hF514.get rfl)) ?_)
            intro a515 hF516; clear hF514
            refine wpList_nil ?_
            refine hK510 _ _ ?_
            clear hK510
            refine wp_seq_k (fun K517 hK517 => ?_)
            refine wp_region_lit ?_
            refine wpl_op (i := 0) rfl (o_val (v := (.agg #[(.int .i64 n), (.slice A l.length c)])) hF516 rfl rfl rfl rfl (rn_loadBlk (hF516.get rfl) b495 Try.underlying24 rfl (by kernel_rfl : (Try.prog.info? 24).map (·.size) = some 2)) ?_)
            intro a518 hF519; clear hF516
            refine wpl_op (i := 1) rfl (o_val (v := (.int .i64 a)) hF519 rfl rfl rfl rfl (rn_move (hF519.get rfl)) ?_)
            intro a520 hF521; clear hF519
            refine wpl_op (i := 2) rfl (o_val (v := (.int .i64 (([(v : Int), ((andI (v) (15)) : Int)]).getD k 0))) hF521 rfl rfl rfl rfl (rn_move (hF521.get rfl)) ?_)
            intro a522 hF523; clear hF521
            have d524 := (hc.ext hx493)
            refine wpl_op (i := 3) rfl (o_call hF523 rfl rfl rfl rfl (rn_call (args3 (hF523.get rfl) (hF523.get rfl) (hF523.get rfl)) rfl (by kernel_rfl)) (bgreat_at (v := (.slice A l.length c)) n l a (([(v : Int), ((andI (v) (15)) : Int)]).getD k 0) _ d524 (fun _ => ⟨by omega, by omega⟩)) ?_)
            rintro _ w533 ⟨A525, m526, c527, r528, e529, rfl, hf530, hs531, hx534⟩
            have z532 := Fl.ilen hf530
            refine ⟨_, rfl, ?_⟩; intro a535 hF536; clear hF523; have z537 := hx534.size
            have hf538 : Fl (Clip (fun b => w491.heap.size ≤ b) w533) w533 1 (.slice A525 m526 c527) m526 (intVals r528) := hf530.clip
            refine wpl_op (i := 4) rfl (o_val (v := (.tuple #[(.slice A525 m526 c527), (.int .i64 e529)])) hF536 rfl rfl rfl rfl (rn_move (hF536.get rfl)) ?_)
            intro a539 hF540; clear hF536
            refine wpl_op (i := 5) rfl (o_val (v := (.slice A525 m526 c527)) hF540 rfl rfl rfl rfl (rn_extract (hF540.get rfl) rfl) ?_)
            intro a541 hF542; clear hF540
            refine wpl_op (i := 6) rfl (o_val (v := (.int .i64 e529)) hF542 rfl rfl rfl rfl (rn_extract (hF542.get rfl) rfl) ?_)
            intro a543 hF544; clear hF542
            refine wpl_op (i := 7) rfl (o_val (v := (.slice A525 m526 c527)) hF544 rfl rfl rfl rfl (rn_assign (hF544.get rfl)) ?_)
            intro a545 hF546; clear hF544
            refine wpl_op (i := 8) rfl (o_val (v := (.int .i64 e529)) hF546 rfl rfl rfl rfl (rn_assign (hF546.get rfl)) ?_)
            intro a547 hF548; clear hF546
            refine wpList_nil ?_
            refine hK517 _ _ ?_
            clear hK517
            have hF549 := ((((((((((((((((((hF548.nil.cons (hF548.get (t := 13) (v := (.int .i64 e529)) rfl)).cons (hF548.get (t := 12) (v := (.slice A525 m526 c527)) rfl)).cons (hF548.get (t := 11) (v := (.int .i64 (([(v : Int), ((andI (v) (15)) : Int)]).getD k 0))) rfl)).cons (hF548.get (t := 65) (v := (.bool (decide (((k : Nat) : Int) < (2 : Int))))) rfl)).cons (hF548.get (t := 64) (v := (.int .i64 (k : Nat))) rfl)).cons (hF548.get (t := 63) (v := (.int .i64 2)) rfl)).cons (hF548.get (t := 62) (v := (.slice (some ⟨g42, 0, none⟩) 2 2)) rfl)).cons (hF548.get (t := 45) (v := (.bool (decide ((a : Int) < (n : Int))))) rfl)).cons (hF548.get (t := 9) (v := (.int .i64 er63)) rfl)).cons (hF548.get (t := 8) (v := (.slice A59 m60 c61)) rfl)).cons (hF548.get (t := 7) (v := (.slice (some ⟨g42, 0, none⟩) 2 2)) rfl)).cons (hF548.get (t := 24) (v := (.bool (!(few n l)))) rfl)).cons (hF548.get (t := 21) (v := (.bool false)) rfl)).cons (hF548.get (t := 6) (v := (.bool false)) rfl)).cons (hF548.get (t := 3) (v := (.pointer (some ⟨g2, 0, none⟩))) rfl)).cons (hF548.get (t := 2) (v := (.int .i64 v)) rfl)).cons (hF548.get (t := 1) (v := (.int .i64 a)) rfl)).cons (hF548.get (t := 0) (v := (.agg #[(.int .i64 n), (.slice A l.length c)])) rfl))
            clear hF548
            refine wp_seq_k (fun K550 hK550 => ?_)
            refine wp_region_lit ?_
            have b551 : Blk w533 g2 24 [(.int .i64 n), (.slice A l.length c)] := (b495.ext hx534)
            refine wpl_op (i := 0) rfl (o_val (v := (.agg #[(.int .i64 n), (.slice A l.length c)])) hF549 rfl rfl rfl rfl (rn_loadBlk (hF549.get rfl) b551 Try.underlying24 rfl (by kernel_rfl : (Try.prog.info? 24).map (·.size) = some 2)) ?_)
            intro a552 hF553; clear hF549
            refine wpl_op (i := 1) rfl (o_val (v := (.int .i64 a)) hF553 rfl rfl rfl rfl (rn_move (hF553.get rfl)) ?_)
            intro a554 hF555; clear hF553
            refine wpl_op (i := 2) rfl (o_val (v := (.int .i64 (([(v : Int), ((andI (v) (15)) : Int)]).getD k 0))) hF555 rfl rfl rfl rfl (rn_move (hF555.get rfl)) ?_)
            intro a556 hF557; clear hF555
            have d558 := ((hc.ext hx493).ext hx534)
            refine wpl_op (i := 3) rfl (o_call hF557 rfl rfl rfl rfl (rn_call (args3 (hF557.get rfl) (hF557.get rfl) (hF557.get rfl)) rfl (by kernel_rfl)) (rgreat_at (v := (.slice A l.length c)) n l a (([(v : Int), ((andI (v) (15)) : Int)]).getD k 0) _ d558 (fun _ => ⟨by omega, by omega⟩)) ?_)
            rintro _ w567 ⟨A559, m560, c561, r562, e563, rfl, hf564, hs565, hx568⟩
            have z566 := Fl.ilen hf564
            refine ⟨_, rfl, ?_⟩; intro a569 hF570; clear hF557; have z571 := hx568.size
            have hf572 : Fl (Clip (fun b => w533.heap.size ≤ b) w567) w567 1 (.slice A559 m560 c561) m560 (intVals r562) := hf564.clip
            refine wpl_op (i := 4) rfl (o_val (v := (.tuple #[(.slice A559 m560 c561), (.int .i64 e563)])) hF570 rfl rfl rfl rfl (rn_move (hF570.get rfl)) ?_)
            intro a573 hF574; clear hF570
            refine wpl_op (i := 5) rfl (o_val (v := (.slice A559 m560 c561)) hF574 rfl rfl rfl rfl (rn_extract (hF574.get rfl) rfl) ?_)
            intro a575 hF576; clear hF574
            refine wpl_op (i := 6) rfl (o_val (v := (.int .i64 e563)) hF576 rfl rfl rfl rfl (rn_extract (hF576.get rfl) rfl) ?_)
            intro a577 hF578; clear hF576
            refine wpl_op (i := 7) rfl (o_val (v := (.slice A559 m560 c561)) hF578 rfl rfl rfl rfl (rn_assign (hF578.get rfl)) ?_)
            intro a579 hF580; clear hF578
            refine wpl_op (i := 8) rfl (o_val (v := (.int .i64 e563)) hF580 rfl rfl rfl rfl (rn_assign (hF580.get rfl)) ?_)
            intro a581 hF582; clear hF580
            refine wpList_nil ?_
            refine hK550 _ _ ?_
            clear hK550
            have hF583 := ((((((((((((((((((((hF582.nil.cons (hF582.get (t := 15) (v := (.int .i64 e563)) rfl)).cons (hF582.get (t := 14) (v := (.slice A559 m560 c561)) rfl)).cons (hF582.get (t := 13) (v := (.int .i64 e529)) rfl)).cons (hF582.get (t := 12) (v := (.slice A525 m526 c527)) rfl)).cons (hF582.get (t := 11) (v := (.int .i64 (([(v : Int), ((andI (v) (15)) : Int)]).getD k 0))) rfl)).cons (hF582.get (t := 65) (v := (.bool (decide (((k : Nat) : Int) < (2 : Int))))) rfl)).cons (hF582.get (t := 64) (v := (.int .i64 (k : Nat))) rfl)).cons (hF582.get (t := 63) (v := (.int .i64 2)) rfl)).cons (hF582.get (t := 62) (v := (.slice (some ⟨g42, 0, none⟩) 2 2)) rfl)).cons (hF582.get (t := 45) (v := (.bool (decide ((a : Int) < (n : Int))))) rfl)).cons (hF582.get (t := 9) (v := (.int .i64 er63)) rfl)).cons (hF582.get (t := 8) (v := (.slice A59 m60 c61)) rfl)).cons (hF582.get (t := 7) (v := (.slice (some ⟨g42, 0, none⟩) 2 2)) rfl)).cons (hF582.get (t := 24) (v := (.bool (!(few n l)))) rfl)).cons (hF582.get (t := 21) (v := (.bool false)) rfl)).cons (hF582.get (t := 6) (v := (.bool false)) rfl)).cons (hF582.get (t := 3) (v := (.pointer (some ⟨g2, 0, none⟩))) rfl)).cons (hF582.get (t := 2) (v := (.int .i64 v)) rfl)).cons (hF582.get (t := 1) (v := (.int .i64 a)) rfl)).cons (hF582.get (t := 0) (v := (.agg #[(.int .i64 n), (.slice A l.length c)])) rfl))
            clear hF582
            refine wp_seq_k (fun K584 hK584 => ?_)
            refine wp_region_lit ?_
            have b585 : Blk w567 g2 24 [(.int .i64 n), (.slice A l.length c)] := (b551.ext hx568)
            refine wpl_op (i := 0) rfl (o_val (v := (.agg #[(.int .i64 n), (.slice A l.length c)])) hF583 rfl rfl rfl rfl (rn_loadBlk (hF583.get rfl) b585 Try.underlying24 rfl (by kernel_rfl : (Try.prog.info? 24).map (·.size) = some 2)) ?_)
            intro a586 hF587; clear hF583
            refine wpl_op (i := 1) rfl (o_val (v := (.int .i64 a)) hF587 rfl rfl rfl rfl (rn_move (hF587.get rfl)) ?_)
            intro a588 hF589; clear hF587
            refine wpl_op (i := 2) rfl (o_val (v := (.int .i64 (([(v : Int), ((andI (v) (15)) : Int)]).getD k 0))) hF589 rfl rfl rfl rfl (rn_move (hF589.get rfl)) ?_)
            intro a590 hF591; clear hF589
            have d592 := (((hc.ext hx493).ext hx534).ext hx568)
            refine wpl_op (i := 3) rfl (o_call hF591 rfl rfl rfl rfl (rn_call (args3 (hF591.get rfl) (hF591.get rfl) (hF591.get rfl)) rfl (by kernel_rfl)) (bleast_at (v := (.slice A l.length c)) n l a (([(v : Int), ((andI (v) (15)) : Int)]).getD k 0) _ d592 (fun _ => ⟨by omega, by omega⟩)) ?_)
            rintro _ w601 ⟨A593, m594, c595, r596, e597, rfl, hf598, hs599, hx602⟩
            have z600 := Fl.ilen hf598
            refine ⟨_, rfl, ?_⟩; intro a603 hF604; clear hF591; have z605 := hx602.size
            have hf606 : Fl (Clip (fun b => w567.heap.size ≤ b) w601) w601 1 (.slice A593 m594 c595) m594 (intVals r596) := hf598.clip
            refine wpl_op (i := 4) rfl (o_val (v := (.tuple #[(.slice A593 m594 c595), (.int .i64 e597)])) hF604 rfl rfl rfl rfl (rn_move (hF604.get rfl)) ?_)
            intro a607 hF608; clear hF604
            refine wpl_op (i := 5) rfl (o_val (v := (.slice A593 m594 c595)) hF608 rfl rfl rfl rfl (rn_extract (hF608.get rfl) rfl) ?_)
            intro a609 hF610; clear hF608
            refine wpl_op (i := 6) rfl (o_val (v := (.int .i64 e597)) hF610 rfl rfl rfl rfl (rn_extract (hF610.get rfl) rfl) ?_)
            intro a611 hF612; clear hF610
            refine wpl_op (i := 7) rfl (o_val (v := (.slice A593 m594 c595)) hF612 rfl rfl rfl rfl (rn_assign (hF612.get rfl)) ?_)
            intro a613 hF614; clear hF612
            refine wpl_op (i := 8) rfl (o_val (v := (.int .i64 e597)) hF614 rfl rfl rfl rfl (rn_assign (hF614.get rfl)) ?_)
            intro a615 hF616; clear hF614
            refine wpList_nil ?_
            refine hK584 _ _ ?_
            clear hK584
            have hF617 := ((((((((((((((((((((((hF616.nil.cons (hF616.get (t := 17) (v := (.int .i64 e597)) rfl)).cons (hF616.get (t := 16) (v := (.slice A593 m594 c595)) rfl)).cons (hF616.get (t := 15) (v := (.int .i64 e563)) rfl)).cons (hF616.get (t := 14) (v := (.slice A559 m560 c561)) rfl)).cons (hF616.get (t := 13) (v := (.int .i64 e529)) rfl)).cons (hF616.get (t := 12) (v := (.slice A525 m526 c527)) rfl)).cons (hF616.get (t := 11) (v := (.int .i64 (([(v : Int), ((andI (v) (15)) : Int)]).getD k 0))) rfl)).cons (hF616.get (t := 65) (v := (.bool (decide (((k : Nat) : Int) < (2 : Int))))) rfl)).cons (hF616.get (t := 64) (v := (.int .i64 (k : Nat))) rfl)).cons (hF616.get (t := 63) (v := (.int .i64 2)) rfl)).cons (hF616.get (t := 62) (v := (.slice (some ⟨g42, 0, none⟩) 2 2)) rfl)).cons (hF616.get (t := 45) (v := (.bool (decide ((a : Int) < (n : Int))))) rfl)).cons (hF616.get (t := 9) (v := (.int .i64 er63)) rfl)).cons (hF616.get (t := 8) (v := (.slice A59 m60 c61)) rfl)).cons (hF616.get (t := 7) (v := (.slice (some ⟨g42, 0, none⟩) 2 2)) rfl)).cons (hF616.get (t := 24) (v := (.bool (!(few n l)))) rfl)).cons (hF616.get (t := 21) (v := (.bool false)) rfl)).cons (hF616.get (t := 6) (v := (.bool false)) rfl)).cons (hF616.get (t := 3) (v := (.pointer (some ⟨g2, 0, none⟩))) rfl)).cons (hF616.get (t := 2) (v := (.int .i64 v)) rfl)).cons (hF616.get (t := 1) (v := (.int .i64 a)) rfl)).cons (hF616.get (t := 0) (v := (.agg #[(.int .i64 n), (.slice A l.length c)])) rfl))
            clear hF616
            refine wp_seq_k (fun K618 hK618 => ?_)
            refine wp_region_lit ?_
            have b619 : Blk w601 g2 24 [(.int .i64 n), (.slice A l.length c)] := (b585.ext hx602)
            refine wpl_op (i := 0) rfl (o_val (v := (.agg #[(.int .i64 n), (.slice A l.length c)])) hF617 rfl rfl rfl rfl (rn_loadBlk (hF617.get rfl) b619 Try.underlying24 rfl (by kernel_rfl : (Try.prog.info? 24).map (·.size) = some 2)) ?_)
            intro a620 hF621; clear hF617
            refine wpl_op (i := 1) rfl (o_val (v := (.int .i64 a)) hF621 rfl rfl rfl rfl (rn_move (hF621.get rfl)) ?_)
            intro a622 hF623; clear hF621
            refine wpl_op (i := 2) rfl (o_val (v := (.int .i64 (([(v : Int), ((andI (v) (15)) : Int)]).getD k 0))) hF623 rfl rfl rfl rfl (rn_move (hF623.get rfl)) ?_)
            intro a624 hF625; clear hF623
            have d626 := ((((hc.ext hx493).ext hx534).ext hx568).ext hx602)
            refine wpl_op (i := 3) rfl (o_call hF625 rfl rfl rfl rfl (rn_call (args3 (hF625.get rfl) (hF625.get rfl) (hF625.get rfl)) rfl (by kernel_rfl)) (rleast_at (v := (.slice A l.length c)) n l a (([(v : Int), ((andI (v) (15)) : Int)]).getD k 0) _ d626 (fun _ => ⟨by omega, by omega⟩)) ?_)
            rintro _ w635 ⟨A627, m628, c629, r630, e631, rfl, hf632, hs633, hx636⟩
            have z634 := Fl.ilen hf632
            refine ⟨_, rfl, ?_⟩; intro a637 hF638; clear hF625; have z639 := hx636.size
            have hf640 : Fl (Clip (fun b => w601.heap.size ≤ b) w635) w635 1 (.slice A627 m628 c629) m628 (intVals r630) := hf632.clip
            refine wpl_op (i := 4) rfl (o_val (v := (.tuple #[(.slice A627 m628 c629), (.int .i64 e631)])) hF638 rfl rfl rfl rfl (rn_move (hF638.get rfl)) ?_)
            intro a641 hF642; clear hF638
            refine wpl_op (i := 5) rfl (o_val (v := (.slice A627 m628 c629)) hF642 rfl rfl rfl rfl (rn_extract (hF642.get rfl) rfl) ?_)
            intro a643 hF644; clear hF642
            refine wpl_op (i := 6) rfl (o_val (v := (.int .i64 e631)) hF644 rfl rfl rfl rfl (rn_extract (hF644.get rfl) rfl) ?_)
            intro a645 hF646; clear hF644
            refine wpl_op (i := 7) rfl (o_val (v := (.slice A627 m628 c629)) hF646 rfl rfl rfl rfl (rn_assign (hF646.get rfl)) ?_)
            intro a647 hF648; clear hF646
            refine wpl_op (i := 8) rfl (o_val (v := (.int .i64 e631)) hF648 rfl rfl rfl rfl (rn_assign (hF648.get rfl)) ?_)
            intro a649 hF650; clear hF648
            refine wpList_nil ?_
            refine hK618 _ _ ?_
            clear hK618
            have hF651 := ((((((((((((((((((((((((hF650.nil.cons (hF650.get (t := 19) (v := (.int .i64 e631)) rfl)).cons (hF650.get (t := 18) (v := (.slice A627 m628 c629)) rfl)).cons (hF650.get (t := 17) (v := (.int .i64 e597)) rfl)).cons (hF650.get (t := 16) (v := (.slice A593 m594 c595)) rfl)).cons (hF650.get (t := 15) (v := (.int .i64 e563)) rfl)).cons (hF650.get (t := 14) (v := (.slice A559 m560 c561)) rfl)).cons (hF650.get (t := 13) (v := (.int .i64 e529)) rfl)).cons (hF650.get (t := 12) (v := (.slice A525 m526 c527)) rfl)).cons (hF650.get (t := 11) (v := (.int .i64 (([(v : Int), ((andI (v) (15)) : Int)]).getD k 0))) rfl)).cons (hF650.get (t := 65) (v := (.bool (decide (((k : Nat) : Int) < (2 : Int))))) rfl)).cons (hF650.get (t := 64) (v := (.int .i64 (k : Nat))) rfl)).cons (hF650.get (t := 63) (v := (.int .i64 2)) rfl)).cons (hF650.get (t := 62) (v := (.slice (some ⟨g42, 0, none⟩) 2 2)) rfl)).cons (hF650.get (t := 45) (v := (.bool (decide ((a : Int) < (n : Int))))) rfl)).cons (hF650.get (t := 9) (v := (.int .i64 er63)) rfl)).cons (hF650.get (t := 8) (v := (.slice A59 m60 c61)) rfl)).cons (hF650.get (t := 7) (v := (.slice (some ⟨g42, 0, none⟩) 2 2)) rfl)).cons (hF650.get (t := 24) (v := (.bool (!(few n l)))) rfl)).cons (hF650.get (t := 21) (v := (.bool false)) rfl)).cons (hF650.get (t := 6) (v := (.bool false)) rfl)).cons (hF650.get (t := 3) (v := (.pointer (some ⟨g2, 0, none⟩))) rfl)).cons (hF650.get (t := 2) (v := (.int .i64 v)) rfl)).cons (hF650.get (t := 1) (v := (.int .i64 a)) rfl)).cons (hF650.get (t := 0) (v := (.agg #[(.int .i64 n), (.slice A l.length c)])) rfl))
            clear hF650
            refine wp_seq_k (fun K652 hK652 => ?_)
            have hu1 := hs531.unique hs565; have hu2 := hs599.unique hs633
            have hu3 := hu1.2; have hu4 := hu2.2
            refine wp_region_lit ?_
            refine wpl_op (i := 0) rfl (o_val (v := (.slice A525 m526 c527)) hF651 rfl rfl rfl rfl (rn_move (hF651.get rfl)) ?_)
            intro a653 hF654; clear hF651
            refine wpl_op (i := 1) rfl (o_val (v := (.slice A559 m560 c561)) hF654 rfl rfl rfl rfl (rn_move (hF654.get rfl)) ?_)
            intro a655 hF656; clear hF654
            have d657 := (((hf538.ext hx568).ext hx602).ext hx636)
            have d658 := ((hf572.ext hx602).ext hx636)
            refine wpl_op (i := 2) rfl (o_call hF656 rfl rfl rfl rfl (rn_call (args2 (hF656.get rfl) (hF656.get rfl)) rfl (by kernel_rfl)) (same_at (u := (.slice A525 m526 c527)) (v := (.slice A559 m560 c561)) r528 r562 _ d657 d658) ?_)
            rintro _ w659 ⟨rfl, hx660⟩
            refine ⟨_, rfl, ?_⟩; intro a661 hF662; clear hF656; have z663 := hx660.size
            refine wpl_op (i := 3) rfl (o_val (v := (.bool (!(decide (r528 = r562))))) hF662 rfl rfl rfl rfl (rn_not' (hF662.get rfl) rfl) ?_)
            intro a664 hF665; clear hF662
            refine wpl_op (i := 4) rfl (o_val (v := (.bool (!(decide (r528 = r562))))) hF665 rfl rfl rfl rfl (rn_move (hF665.get rfl)) ?_)
            intro a666 hF667; clear hF665
            refine wpl_op (i := 5) rfl (o_val (v := (.int .i64 e529)) hF667 rfl (wanted_guard rfl rfl rfl hF667 rfl (not_t (decide_eq_true hu1.1 : decide (r528 = r562) = true)) rfl) rfl rfl (rn_move (hF667.get rfl)) ?_)
            intro a669 hF670; clear hF667
            refine wpl_op (i := 6) rfl (o_val (v := (.int .i64 e563)) hF670 rfl (wanted_guard rfl rfl rfl hF670 rfl (not_t (decide_eq_true hu1.1 : decide (r528 = r562) = true)) rfl) rfl rfl (rn_move (hF670.get rfl)) ?_)
            intro a671 hF672; clear hF670
            refine wpl_op (i := 7) rfl (o_val (v := (.bool (decide ((e529 : Int) ≠ (e563 : Int))))) hF672 rfl (wanted_guard rfl rfl rfl hF672 rfl (not_t (decide_eq_true hu1.1 : decide (r528 = r562) = true)) rfl) rfl rfl (rn_neq (hF672.get rfl) (hF672.get rfl)) ?_)
            intro a673 hF674; clear hF672
            refine wpl_op (i := 8) rfl (o_val (v := (.bool (decide ((e529 : Int) ≠ (e563 : Int))))) hF674 rfl rfl rfl rfl (rn_pickF (c_false hF674 rfl (not_t (decide_eq_true hu1.1 : decide (r528 = r562) = true))) (hF674.get rfl)) ?_)
            intro a675 hF676; clear hF674
            refine wpl_op (i := 9) rfl (o_val (v := (.bool (decide ((e529 : Int) ≠ (e563 : Int))))) hF676 rfl rfl rfl rfl (rn_move (hF676.get rfl)) ?_)
            intro a677 hF678; clear hF676
            by_cases hc679 : (e529 : Int) ≠ (e563 : Int)
            · skip
              refine wpl_op (i := 10) rfl (o_skip hF678 rfl (unwanted_guard rfl rfl rfl hF678 rfl (decide_eq_true hc679) rfl) rfl rfl ?_)
              intro a680 hF681; clear hF678
              refine wpl_op (i := 11) rfl (o_skip hF681 rfl (unwanted_guard rfl rfl rfl hF681 rfl (decide_eq_true hc679) rfl) rfl rfl ?_)
              intro a682 hF683; clear hF681
              refine wpl_op (i := 12) rfl (o_skip hF683 rfl (unwanted_guard rfl rfl rfl hF683 rfl (decide_eq_true hc679) rfl) rfl rfl ?_)
              intro a684 hF685; clear hF683
              refine wpl_op (i := 13) rfl (o_skip hF685 rfl (unwanted_guard rfl rfl rfl hF685 rfl (decide_eq_true hc679) rfl) rfl rfl ?_)
              intro a686 hF687; clear hF685
              refine wpl_op (i := 14) rfl (o_val (v := (.bool true)) hF687 rfl rfl rfl rfl (rn_pickT (c_true hF687 rfl (decide_eq_true hc679)) rfl) ?_)
              intro a688 hF689; clear hF687
              refine wpl_op (i := 15) rfl (o_val (v := (.bool true)) hF689 rfl rfl rfl rfl (rn_move (hF689.get rfl)) ?_)
              intro a690 hF691; clear hF689
              refine wpl_op (i := 16) rfl (o_skip hF691 rfl (unwanted_guard rfl rfl rfl hF691 rfl rfl rfl) rfl rfl ?_)
              intro a692 hF693; clear hF691
              refine wpl_op (i := 17) rfl (o_skip hF693 rfl (unwanted_guard rfl rfl rfl hF693 rfl rfl rfl) rfl rfl ?_)
              intro a694 hF695; clear hF693
              refine wpl_op (i := 18) rfl (o_skip hF695 rfl (unwanted_guard rfl rfl rfl hF695 rfl rfl rfl) rfl rfl ?_)
              intro a696 hF697; clear hF695
              refine wpl_op (i := 19) rfl (o_val (v := (.bool true)) hF697 rfl rfl rfl rfl (rn_pickT (c_true hF697 rfl rfl) rfl) ?_)
              intro a698 hF699; clear hF697
              refine wpList_nil ?_
              refine hK652 _ _ ?_
              clear hK652
              have hF700 := (((((((((((((((((((((((((hF699.nil.cons (hF699.get (t := 115) (v := (.bool true)) rfl)).cons (hF699.get (t := 19) (v := (.int .i64 e631)) rfl)).cons (hF699.get (t := 18) (v := (.slice A627 m628 c629)) rfl)).cons (hF699.get (t := 17) (v := (.int .i64 e597)) rfl)).cons (hF699.get (t := 16) (v := (.slice A593 m594 c595)) rfl)).cons (hF699.get (t := 15) (v := (.int .i64 e563)) rfl)).cons (hF699.get (t := 14) (v := (.slice A559 m560 c561)) rfl)).cons (hF699.get (t := 13) (v := (.int .i64 e529)) rfl)).cons (hF699.get (t := 12) (v := (.slice A525 m526 c527)) rfl)).cons (hF699.get (t := 11) (v := (.int .i64 (([(v : Int), ((andI (v) (15)) : Int)]).getD k 0))) rfl)).cons (hF699.get (t := 65) (v := (.bool (decide (((k : Nat) : Int) < (2 : Int))))) rfl)).cons (hF699.get (t := 64) (v := (.int .i64 (k : Nat))) rfl)).cons (hF699.get (t := 63) (v := (.int .i64 2)) rfl)).cons (hF699.get (t := 62) (v := (.slice (some ⟨g42, 0, none⟩) 2 2)) rfl)).cons (hF699.get (t := 45) (v := (.bool (decide ((a : Int) < (n : Int))))) rfl)).cons (hF699.get (t := 9) (v := (.int .i64 er63)) rfl)).cons (hF699.get (t := 8) (v := (.slice A59 m60 c61)) rfl)).cons (hF699.get (t := 7) (v := (.slice (some ⟨g42, 0, none⟩) 2 2)) rfl)).cons (hF699.get (t := 24) (v := (.bool (!(few n l)))) rfl)).cons (hF699.get (t := 21) (v := (.bool false)) rfl)).cons (hF699.get (t := 6) (v := (.bool false)) rfl)).cons (hF699.get (t := 3) (v := (.pointer (some ⟨g2, 0, none⟩))) rfl)).cons (hF699.get (t := 2) (v := (.int .i64 v)) rfl)).cons (hF699.get (t := 1) (v := (.int .i64 a)) rfl)).cons (hF699.get (t := 0) (v := (.agg #[(.int .i64 n), (.slice A l.length c)])) rfl))
              clear hF699
              refine wp_cond_true (c_true hF700 rfl rfl) ?_
              refine wp_seq_k (fun K701 hK701 => ?_)
              refine wp_region_lit ?_
              refine wpl_op (i := 0) rfl (o_val (v := (.bool false)) hF700 rfl rfl rfl rfl (rn_assign rfl) ?_)
              intro a702 hF703; clear hF700
              refine wpList_nil ?_
              refine hK701 _ _ ?_
              clear hK701
              refine wp_ret ?_
              refine ret_block ?_
              refine ret_then ?_
              refine ret_then ?_
              refine ret_block ?_
              refine ret_then ?_
              refine ret1 hF703 rfl rfl ?_
              exfalso; omega
            · skip
              refine wpl_op (i := 10) rfl (o_val (v := (.slice A593 m594 c595)) hF678 rfl (wanted_guard rfl rfl rfl hF678 rfl (decide_eq_false hc679) rfl) rfl rfl (rn_move (hF678.get rfl)) ?_)
              intro a704 hF705; clear hF678
              refine wpl_op (i := 11) rfl (o_val (v := (.slice A627 m628 c629)) hF705 rfl (wanted_guard rfl rfl rfl hF705 rfl (decide_eq_false hc679) rfl) rfl rfl (rn_move (hF705.get rfl)) ?_)
              intro a706 hF707; clear hF705
              have d708 := ((hf606.ext hx636).ext hx660)
              have d709 := (hf640.ext hx660)
              refine wpl_op (i := 12) rfl (o_call hF707 rfl (wanted_guard rfl rfl rfl hF707 rfl (decide_eq_false hc679) rfl) rfl rfl (rn_call (args2 (hF707.get rfl) (hF707.get rfl)) rfl (by kernel_rfl)) (same_at (u := (.slice A593 m594 c595)) (v := (.slice A627 m628 c629)) r596 r630 _ d708 d709) ?_)
              rintro _ w710 ⟨rfl, hx711⟩
              refine ⟨_, rfl, ?_⟩; intro a712 hF713; clear hF707; have z714 := hx711.size
              refine wpl_op (i := 13) rfl (o_val (v := (.bool (!(decide (r596 = r630))))) hF713 rfl (wanted_guard rfl rfl rfl hF713 rfl (decide_eq_false hc679) rfl) rfl rfl (rn_not' (hF713.get rfl) rfl) ?_)
              intro a715 hF716; clear hF713
              refine wpl_op (i := 14) rfl (o_val (v := (.bool (!(decide (r596 = r630))))) hF716 rfl rfl rfl rfl (rn_pickF (c_false hF716 rfl (decide_eq_false hc679)) (hF716.get rfl)) ?_)
              intro a717 hF718; clear hF716
              refine wpl_op (i := 15) rfl (o_val (v := (.bool (!(decide (r596 = r630))))) hF718 rfl rfl rfl rfl (rn_move (hF718.get rfl)) ?_)
              intro a719 hF720; clear hF718
              refine wpl_op (i := 16) rfl (o_val (v := (.int .i64 e597)) hF720 rfl (wanted_guard rfl rfl rfl hF720 rfl (not_t (decide_eq_true hu2.1 : decide (r596 = r630) = true)) rfl) rfl rfl (rn_move (hF720.get rfl)) ?_)
              intro a722 hF723; clear hF720
              refine wpl_op (i := 17) rfl (o_val (v := (.int .i64 e631)) hF723 rfl (wanted_guard rfl rfl rfl hF723 rfl (not_t (decide_eq_true hu2.1 : decide (r596 = r630) = true)) rfl) rfl rfl (rn_move (hF723.get rfl)) ?_)
              intro a724 hF725; clear hF723
              refine wpl_op (i := 18) rfl (o_val (v := (.bool (decide ((e597 : Int) ≠ (e631 : Int))))) hF725 rfl (wanted_guard rfl rfl rfl hF725 rfl (not_t (decide_eq_true hu2.1 : decide (r596 = r630) = true)) rfl) rfl rfl (rn_neq (hF725.get rfl) (hF725.get rfl)) ?_)
              intro a726 hF727; clear hF725
              refine wpl_op (i := 19) rfl (o_val (v := (.bool (decide ((e597 : Int) ≠ (e631 : Int))))) hF727 rfl rfl rfl rfl (rn_pickF (c_false hF727 rfl (not_t (decide_eq_true hu2.1 : decide (r596 = r630) = true))) (hF727.get rfl)) ?_)
              intro a728 hF729; clear hF727
              refine wpList_nil ?_
              refine hK652 _ _ ?_
              clear hK652
              have hF730 := (((((((((((((((((((((((((hF729.nil.cons (hF729.get (t := 115) (v := (.bool (decide ((e597 : Int) ≠ (e631 : Int))))) rfl)).cons (hF729.get (t := 19) (v := (.int .i64 e631)) rfl)).cons (hF729.get (t := 18) (v := (.slice A627 m628 c629)) rfl)).cons (hF729.get (t := 17) (v := (.int .i64 e597)) rfl)).cons (hF729.get (t := 16) (v := (.slice A593 m594 c595)) rfl)).cons (hF729.get (t := 15) (v := (.int .i64 e563)) rfl)).cons (hF729.get (t := 14) (v := (.slice A559 m560 c561)) rfl)).cons (hF729.get (t := 13) (v := (.int .i64 e529)) rfl)).cons (hF729.get (t := 12) (v := (.slice A525 m526 c527)) rfl)).cons (hF729.get (t := 11) (v := (.int .i64 (([(v : Int), ((andI (v) (15)) : Int)]).getD k 0))) rfl)).cons (hF729.get (t := 65) (v := (.bool (decide (((k : Nat) : Int) < (2 : Int))))) rfl)).cons (hF729.get (t := 64) (v := (.int .i64 (k : Nat))) rfl)).cons (hF729.get (t := 63) (v := (.int .i64 2)) rfl)).cons (hF729.get (t := 62) (v := (.slice (some ⟨g42, 0, none⟩) 2 2)) rfl)).cons (hF729.get (t := 45) (v := (.bool (decide ((a : Int) < (n : Int))))) rfl)).cons (hF729.get (t := 9) (v := (.int .i64 er63)) rfl)).cons (hF729.get (t := 8) (v := (.slice A59 m60 c61)) rfl)).cons (hF729.get (t := 7) (v := (.slice (some ⟨g42, 0, none⟩) 2 2)) rfl)).cons (hF729.get (t := 24) (v := (.bool (!(few n l)))) rfl)).cons (hF729.get (t := 21) (v := (.bool false)) rfl)).cons (hF729.get (t := 6) (v := (.bool false)) rfl)).cons (hF729.get (t := 3) (v := (.pointer (some ⟨g2, 0, none⟩))) rfl)).cons (hF729.get (t := 2) (v := (.int .i64 v)) rfl)).cons (hF729.get (t := 1) (v := (.int .i64 a)) rfl)).cons (hF729.get (t := 0) (v := (.agg #[(.int .i64 n), (.slice A l.length c)])) rfl))
              clear hF729
              by_cases hc731 : (e597 : Int) ≠ (e631 : Int)
              · skip
                refine wp_cond_true (c_true hF730 rfl (decide_eq_true hc731)) ?_
                refine wp_seq_k (fun K732 hK732 => ?_)
                refine wp_region_lit ?_
                refine wpl_op (i := 0) rfl (o_val (v := (.bool false)) hF730 rfl rfl rfl rfl (rn_assign rfl) ?_)
                intro a733 hF734; clear hF730
                refine wpList_nil ?_
                refine hK732 _ _ ?_
                clear hK732
                refine wp_ret ?_
                refine ret_block ?_
                refine ret_then ?_
                refine ret_then ?_
                refine ret_block ?_
                refine ret_then ?_
                refine ret1 hF734 rfl rfl ?_
                exfalso; omega
              · skip
                refine wp_cond_false (c_false hF730 rfl (decide_eq_false hc731)) ?_
                refine wp_skip ?_
                refine hK509 _ _ ?_
                clear hK509
                refine wp_region_lit ?_
                refine wpl_op (i := 0) rfl (o_val (v := (.int .i64 (k + 1 : Nat))) hF730 rfl rfl rfl rfl (rn_addN (a := k) (b := 1) (hF730.get rfl) rfl (by omega)) ?_)
                intro a735 hF736; clear hF730
                refine wpl_op (i := 1) rfl (o_val (v := (.int .i64 (k + 1 : Nat))) hF736 rfl rfl rfl rfl (rn_move (hF736.get rfl)) ?_)
                intro a737 hF738; clear hF736
                refine wpList_nil ?_
                have d739 := ((((((hf497.ext hx534).ext hx568).ext hx602).ext hx636).ext hx660).ext hx711)
                have d740 := ((((((hf498.ext hx534).ext hx568).ext hx602).ext hx636).ext hx660).ext hx711)
                have b741 : Blk w710 g2 24 [(.int .i64 n), (.slice A l.length c)] := (((b619.ext hx636).ext hx660).ext hx711)
                have b742 : Blk w710 g42 3 (intVals [(v : Int), ((andI (v) (15)) : Int)]) := ((((((b496.ext hx534).ext hx568).ext hx602).ext hx636).ext hx660).ext hx711)
                refine ⟨⟨(k + 1), ((((((((((((((hF738.nil.cons (q_get hF738 (t := 64) rfl (by first | rfl | (congr 1; omega) | (congr 1; done)))).cons (q_get hF738 (t := 63) rfl rfl)).cons (q_get hF738 (t := 62) rfl rfl)).cons (q_get hF738 (t := 45) rfl rfl)).cons (q_get hF738 (t := 9) rfl rfl)).cons (q_get hF738 (t := 8) rfl rfl)).cons (q_get hF738 (t := 7) rfl rfl)).cons (q_get hF738 (t := 24) rfl rfl)).cons (q_get hF738 (t := 21) rfl rfl)).cons (q_get hF738 (t := 6) rfl rfl)).cons (q_get hF738 (t := 3) rfl rfl)).cons (q_get hF738 (t := 2) rfl rfl)).cons (q_get hF738 (t := 1) rfl rfl)).cons (q_get hF738 (t := 0) rfl rfl)), (by omega), ((((((((Ext.refl w).trans hx493).trans hx534).trans hx568).trans hx602).trans hx636).trans hx660).trans hx711), b741, b742, d739, d740, (by omega)⟩, ?_⟩
                rw [hF738.get (t := 64) rfl, hL500.get (t := 64) rfl]; simp [intOf] <;> omega
          · skip
            refine wp_cond_false (c_false hF506 rfl (decide_eq_false hc508)) ?_
            refine wp_exit ?_
            refine exit_then ?_
            refine exit_then ?_
            refine exit_here ?_
            refine hK479 _ _ ?_
            clear hK479
            refine wp_seq_k (fun K743 hK743 => ?_)
            refine wp_region_lit ?_
            refine wpl_op (i := 0) rfl (o_val (v := (.bool true)) hF506 rfl rfl rfl rfl (rn_assign rfl) ?_)
            intro a744 hF745; clear hF506
            refine wpList_nil ?_
            refine hK743 _ _ ?_
            clear hK743
            refine wp_ret ?_
            refine ret1 hF745 rfl rfl ?_
            exact ⟨rfl, ((Ext.refl w).trans hx493)⟩
      · skip
        refine wpl_op (i := 7) rfl (o_skip hF99 rfl (unwanted_guard rfl rfl rfl hF99 rfl (decide_eq_false hc100) rfl) rfl rfl ?_)
        intro a746 hF747; clear hF99
        refine wpl_op (i := 8) rfl (o_skip hF747 rfl (unwanted_guard rfl rfl rfl hF747 rfl (decide_eq_false hc100) rfl) rfl rfl ?_)
        intro a748 hF749; clear hF747
        refine wpl_op (i := 9) rfl (o_skip hF749 rfl (unwanted_guard rfl rfl rfl hF749 rfl (decide_eq_false hc100) rfl) rfl rfl ?_)
        intro a750 hF751; clear hF749
        refine wpl_op (i := 10) rfl (o_skip hF751 rfl (unwanted_guard rfl rfl rfl hF751 rfl (decide_eq_false hc100) rfl) rfl rfl ?_)
        intro a752 hF753; clear hF751
        refine wpl_op (i := 11) rfl (o_val (v := (.bool false)) hF753 rfl rfl rfl rfl (rn_pickF (c_false hF753 rfl (decide_eq_false hc100)) rfl) ?_)
        intro a754 hF755; clear hF753
        refine wpList_nil ?_
        refine hK84 _ _ ?_
        clear hK84
        have hF756 := (((((((((((hF755.nil.cons (hF755.get (t := 45) (v := (.bool false)) rfl)).cons (hF755.get (t := 9) (v := (.int .i64 er63)) rfl)).cons (hF755.get (t := 8) (v := (.slice A59 m60 c61)) rfl)).cons (hF755.get (t := 7) (v := (.slice (some ⟨g42, 0, none⟩) 2 2)) rfl)).cons (hF755.get (t := 24) (v := (.bool (!(few n l)))) rfl)).cons (hF755.get (t := 21) (v := (.bool false)) rfl)).cons (hF755.get (t := 6) (v := (.bool false)) rfl)).cons (hF755.get (t := 3) (v := (.pointer (some ⟨g2, 0, none⟩))) rfl)).cons (hF755.get (t := 2) (v := (.int .i64 v)) rfl)).cons (hF755.get (t := 1) (v := (.int .i64 a)) rfl)).cons (hF755.get (t := 0) (v := (.agg #[(.int .i64 n), (.slice A l.length c)])) rfl))
        clear hF755
        refine wp_cond_false (c_false hF756 rfl rfl) ?_
        refine wp_skip ?_
        refine hK53 _ _ ?_
        clear hK53
        refine wp_seq_k (fun K757 hK757 => ?_)
        refine wp_seq_k (fun K758 hK758 => ?_)
        refine wp_region_lit ?_
        refine wpl_op (i := 0) rfl (o_val (v := (.slice (some ⟨g42, 0, none⟩) 2 2)) hF756 rfl rfl rfl rfl (rn_move (hF756.get rfl)) ?_)
        intro a759 hF760; clear hF756
        refine wpl_op (i := 1) rfl (o_val (v := (.int .i64 2)) hF760 rfl rfl rfl rfl (rn_len_slice Try.underlying25 (hF760.get rfl)) ?_)
        intro a761 hF762; clear hF760
        refine wpl_op (i := 2) rfl (o_val (v := (.int .i64 0)) hF762 rfl rfl rfl rfl (rn_move rfl) ?_)
        intro a763 hF764; clear hF762
        refine wpList_nil ?_
        refine hK758 _ _ ?_
        clear hK758
        refine wp_block ?_
        have b765 : Blk w67 g42 3 (intVals [(v : Int), ((andI (v) (15)) : Int)]) := (b44.ext hx68)
        have hf766 := (Fl.blk (S := fun b => b = g42) (k := 1) (n := 2) (c := 2) b765 (by rw [intVals_len (show List.length [(v : Int), ((andI (v) (15)) : Int)] = 2 from rfl), Nat.mul_one]) (intVals_one _) (by omega) rfl)
        have hf767 : Fl (Clip (fun b => b = g42) w67) w67 1 (.slice (some ⟨g42, 0, none⟩) 2 2) 2 (intVals ([(v : Int), ((andI (v) (15)) : Int)])) := hf766.clip
        have hvl : List.length ([(v : Int), ((andI (v) (15)) : Int)]) = 2 := rfl
        have b768 : Blk w67 g2 24 [(.int .i64 n), (.slice A l.length c)] := (b55.ext hx68)
        refine wp_loop (fun a' W => ∃ (k : Nat), Sl 117 [(0, (.agg #[(.int .i64 n), (.slice A l.length c)])), (1, (.int .i64 a)), (2, (.int .i64 v)), (3, (.pointer (some ⟨g2, 0, none⟩))), (6, (.bool false)), (21, (.bool false)), (24, (.bool (!(few n l)))), (7, (.slice (some ⟨g42, 0, none⟩) 2 2)), (8, (.slice A59 m60 c61)), (9, (.int .i64 er63)), (45, (.bool false)), (62, (.slice (some ⟨g42, 0, none⟩) 2 2)), (63, (.int .i64 2)), (64, (.int .i64 (k : Nat)))] a' ∧ k ≤ 2 ∧ Ext w W ∧ Blk W g2 24 [(.int .i64 n), (.slice A l.length c)] ∧ Blk W g42 3 (intVals [(v : Int), ((andI (v) (15)) : Int)]) ∧ RIss (Clip (fun b => w43.heap.size ≤ b) w67) W (.slice A59 m60 c61) t62 ∧ Fl (Clip (fun b => b = g42) w67) W 1 (.slice (some ⟨g42, 0, none⟩) 2 2) 2 (intVals ([(v : Int), ((andI (v) (15)) : Int)])) ∧ w67.heap.size ≤ W.heap.size) (fun a' _ => 2 - (intOf (a'.eval (.tmp 64))).toNat) ⟨0, ((((((((((((((hF764.nil.cons (q_get hF764 (t := 64) rfl (by first | rfl | (congr 1; omega) | (congr 1; done)))).cons (q_get hF764 (t := 63) rfl rfl)).cons (q_get hF764 (t := 62) rfl rfl)).cons (q_get hF764 (t := 45) rfl rfl)).cons (q_get hF764 (t := 9) rfl rfl)).cons (q_get hF764 (t := 8) rfl rfl)).cons (q_get hF764 (t := 7) rfl rfl)).cons (q_get hF764 (t := 24) rfl rfl)).cons (q_get hF764 (t := 21) rfl rfl)).cons (q_get hF764 (t := 6) rfl rfl)).cons (q_get hF764 (t := 3) rfl rfl)).cons (q_get hF764 (t := 2) rfl rfl)).cons (q_get hF764 (t := 1) rfl rfl)).cons (q_get hF764 (t := 0) rfl rfl)), (by omega), ((((((Ext.refl w).trans hx5).trans hx15).trans hx28).trans hx45).trans hx68), b768, b765, hf72, hf767, (Nat.le_refl _)⟩ ?_
        clear hF764
        rintro a769 w770 ⟨k, hF771, hp773, hx772, b774, b775, hf776, hf777, hf778⟩
        have hL779 := hF771
        have z780 := hx772.size
        have z781 := b774.lt
        have z782 := b775.lt
        refine wp_seq_k (fun K783 hK783 => ?_)
        refine wp_region_lit ?_
        refine wpl_op (i := 0) rfl (o_val (v := (.bool (decide (((k : Nat) : Int) < (2 : Int))))) hF771 rfl rfl rfl rfl (rn_lss (hF771.get rfl) (hF771.get rfl)) ?_)
        intro a784 hF785; clear hF771
        refine wpList_nil ?_
        refine hK783 _ _ ?_
        clear hK783
        refine wp_seq_k (fun K786 hK786 => ?_)
        by_cases hc787 : ((k : Nat) : Int) < (2 : Int)
        · skip
          refine wp_cond_true (c_true hF785 rfl (decide_eq_true hc787)) ?_
          refine wp_skip ?_
          refine hK786 _ _ ?_
          clear hK786
          refine wp_seq_k (fun K788 hK788 => ?_)
          refine wp_block ?_
          refine wp_seq_k (fun K789 hK789 => ?_)
          refine wp_region_lit ?_
          refine wpl_op (i := 0) rfl (o_val (v := (.pointer (some ⟨g42, 0 + k, none⟩))) hF785 rfl rfl rfl rfl (rn_index1 Try.underlying25 (by kernel_rfl : (Try.prog.info? 3).map (·.size) = some 1) (hF785.get rfl) (hF785.get rfl) (by omega : (0 : Int) ≤ (k : Nat)) (by omega : ((k : Nat) : Int) < ((2 : Nat) : Int))) ?_)
          intro a790 hF791; clear hF785
          refine wpl_op (i := 1) rfl (o_val (v := (.int .i64 (([(v : Int), ((andI (v) (15)) : Int)]).getD k 0))) hF791 rfl rfl rfl rfl (rn_load (isAgg_no Try.underlying3 rfl) (hF791.get rfl) (blk_intVals b775 (by omega) (by have := (show List.length ([(v : Int), ((andI (v) (15)) : Int)]) = _ from (show List.length [(v : Int), ((andI (v) (15)) : Int)] = 2 from rfl)); omega))) ?_)
          intro a792 hF793; clear hF791
          refine wpl_op (i := 2) rfl (o_val (v := (.int .i64 (([(v : Int), ((andI (v) (15)) : Int)]).getD k 0))) hF793 rfl rfl rfl rfl (rn_assign (hF793.get rfl)) ?_)
          intro a794 hF795; clear hF793
          refine wpList_nil ?_
          refine hK789 _ _ ?_
          clear hK789
          refine wp_seq_k (fun K796 hK796 => ?_)
          refine wp_region_lit ?_
          refine wpl_op (i := 0) rfl (o_val (v := (.agg #[(.int .i64 n), (.slice A l.length c)])) hF795 rfl rfl rfl rfl (rn_loadBlk (hF795.get rfl) b774 Try.underlying24 rfl (by kernel_rfl : (Try.prog.info? 24).map (·.size) = some 2)) ?_)
          intro a797 hF798; clear hF795
          refine wpl_op (i := 1) rfl (o_val (v := (.int .i64 a)) hF798 rfl rfl rfl rfl (rn_move (hF798.get rfl)) ?_)
          intro a799 hF800; clear hF798
          refine wpl_op (i := 2) rfl (o_val (v := (.int .i64 (([(v : Int), ((andI (v) (15)) : Int)]).getD k 0))) hF800 rfl rfl rfl rfl (rn_move (hF800.get rfl)) ?_)
          intro a801 hF802; clear hF800
          have d803 := (hc.ext hx772)
          refine wpl_op (i := 3) rfl (o_call hF802 rfl rfl rfl rfl (rn_call (args3 (hF802.get rfl) (hF802.get rfl) (hF802.get rfl)) rfl (by kernel_rfl)) (bgreat_at (v := (.slice A l.length c)) n l a (([(v : Int), ((andI (v) (15)) : Int)]).getD k 0) _ d803 (fun _ => ⟨by omega, by omega⟩)) ?_)
          rintro _ w812 ⟨A804, m805, c806, r807, e808, rfl, hf809, hs810, hx813⟩
          have z811 := Fl.ilen hf809
          refine ⟨_, rfl, ?_⟩; intro a814 hF815; clear hF802; have z816 := hx813.size
          have hf817 : Fl (Clip (fun b => w770.heap.size ≤ b) w812) w812 1 (.slice A804 m805 c806) m805 (intVals r807) := hf809.clip
          refine wpl_op (i := 4) rfl (o_val (v := (.tuple #[(.slice A804 m805 c806), (.int .i64 e808)])) hF815 rfl rfl rfl rfl (rn_move (hF815.get rfl)) ?_)
          intro a818 hF819; clear hF815
          refine wpl_op (i := 5) rfl (o_val (v := (.slice A804 m805 c806)) hF819 rfl rfl rfl rfl (rn_extract (hF819.get rfl) rfl) ?_)
          intro a820 hF821; clear hF819
          refine wpl_op (i := 6) rfl (o_val (v := (.int .i64 e808)) hF821 rfl rfl rfl rfl (rn_extract (hF821.get rfl) rfl) ?_)
          intro a822 hF823; clear hF821
          refine wpl_op (i := 7) rfl (o_val (v := (.slice A804 m805 c806)) hF823 rfl rfl rfl rfl (rn_assign (hF823.get rfl)) ?_)
          intro a824 hF825; clear hF823
          refine wpl_op (i := 8) rfl (o_val (v := (.int .i64 e808)) hF825 rfl rfl rfl rfl (rn_assign (hF825.get rfl)) ?_)
          intro a826 hF827; clear hF825
          refine wpList_nil ?_
          refine hK796 _ _ ?_
          clear hK796
          have hF828 := ((((((((((((((((((hF827.nil.cons (hF827.get (t := 13) (v := (.int .i64 e808)) rfl)).cons (hF827.get (t := 12) (v := (.slice A804 m805 c806)) rfl)).cons (hF827.get (t := 11) (v := (.int .i64 (([(v : Int), ((andI (v) (15)) : Int)]).getD k 0))) rfl)).cons (hF827.get (t := 65) (v := (.bool (decide (((k : Nat) : Int) < (2 : Int))))) rfl)).cons (hF827.get (t := 64) (v := (.int .i64 (k : Nat))) rfl)).cons (hF827.get (t := 63) (v := (.int .i64 2)) rfl)).cons (hF827.get (t := 62) (v := (.slice (some ⟨g42, 0, none⟩) 2 2)) rfl)).cons (hF827.get (t := 45) (v := (.bool false)) rfl)).cons (hF827.get (t := 9) (v := (.int .i64 er63)) rfl)).cons (hF827.get (t := 8) (v := (.slice A59 m60 c61)) rfl)).cons (hF827.get (t := 7) (v := (.slice (some ⟨g42, 0, none⟩) 2 2)) rfl)).cons (hF827.get (t := 24) (v := (.bool (!(few n l)))) rfl)).cons (hF827.get (t := 21) (v := (.bool false)) rfl)).cons (hF827.get (t := 6) (v := (.bool false)) rfl)).cons (hF827.get (t := 3) (v := (.pointer (some ⟨g2, 0, none⟩))) rfl)).cons (hF827.get (t := 2) (v := (.int .i64 v)) rfl)).cons (hF827.get (t := 1) (v := (.int .i64 a)) rfl)).cons (hF827.get (t := 0) (v := (.agg #[(.int .i64 n), (.slice A l.length c)])) rfl))
          clear hF827
          refine wp_seq_k (fun K829 hK829 => ?_)
          refine wp_region_lit ?_
          have b830 : Blk w812 g2 24 [(.int .i64 n), (.slice A l.length c)] := (b774.ext hx813)
          refine wpl_op (i := 0) rfl (o_val (v := (.agg #[(.int .i64 n), (.slice A l.length c)])) hF828 rfl rfl rfl rfl (rn_loadBlk (hF828.get rfl) b830 Try.underlying24 rfl (by kernel_rfl : (Try.prog.info? 24).map (·.size) = some 2)) ?_)
          intro a831 hF832; clear hF828
          refine wpl_op (i := 1) rfl (o_val (v := (.int .i64 a)) hF832 rfl rfl rfl rfl (rn_move (hF832.get rfl)) ?_)
          intro a833 hF834; clear hF832
          refine wpl_op (i := 2) rfl (o_val (v := (.int .i64 (([(v : Int), ((andI (v) (15)) : Int)]).getD k 0))) hF834 rfl rfl rfl rfl (rn_move (hF834.get rfl)) ?_)
          intro a835 hF836; clear hF834
          have d837 := ((hc.ext hx772).ext hx813)
          refine wpl_op (i := 3) rfl (o_call hF836 rfl rfl rfl rfl (rn_call (args3 (hF836.get rfl) (hF836.get rfl) (hF836.get rfl)) rfl (by kernel_rfl)) (rgreat_at (v := (.slice A l.length c)) n l a (([(v : Int), ((andI (v) (15)) : Int)]).getD k 0) _ d837 (fun _ => ⟨by omega, by omega⟩)) ?_)
          rintro _ w846 ⟨A838, m839, c840, r841, e842, rfl, hf843, hs844, hx847⟩
          have z845 := Fl.ilen hf843
          refine ⟨_, rfl, ?_⟩; intro a848 hF849; clear hF836; have z850 := hx847.size
          have hf851 : Fl (Clip (fun b => w812.heap.size ≤ b) w846) w846 1 (.slice A838 m839 c840) m839 (intVals r841) := hf843.clip
          refine wpl_op (i := 4) rfl (o_val (v := (.tuple #[(.slice A838 m839 c840), (.int .i64 e842)])) hF849 rfl rfl rfl rfl (rn_move (hF849.get rfl)) ?_)
          intro a852 hF853; clear hF849
          refine wpl_op (i := 5) rfl (o_val (v := (.slice A838 m839 c840)) hF853 rfl rfl rfl rfl (rn_extract (hF853.get rfl) rfl) ?_)
          intro a854 hF855; clear hF853
          refine wpl_op (i := 6) rfl (o_val (v := (.int .i64 e842)) hF855 rfl rfl rfl rfl (rn_extract (hF855.get rfl) rfl) ?_)
          intro a856 hF857; clear hF855
          refine wpl_op (i := 7) rfl (o_val (v := (.slice A838 m839 c840)) hF857 rfl rfl rfl rfl (rn_assign (hF857.get rfl)) ?_)
          intro a858 hF859; clear hF857
          refine wpl_op (i := 8) rfl (o_val (v := (.int .i64 e842)) hF859 rfl rfl rfl rfl (rn_assign (hF859.get rfl)) ?_)
          intro a860 hF861; clear hF859
          refine wpList_nil ?_
          refine hK829 _ _ ?_
          clear hK829
          have hF862 := ((((((((((((((((((((hF861.nil.cons (hF861.get (t := 15) (v := (.int .i64 e842)) rfl)).cons (hF861.get (t := 14) (v := (.slice A838 m839 c840)) rfl)).cons (hF861.get (t := 13) (v := (.int .i64 e808)) rfl)).cons (hF861.get (t := 12) (v := (.slice A804 m805 c806)) rfl)).cons (hF861.get (t := 11) (v := (.int .i64 (([(v : Int), ((andI (v) (15)) : Int)]).getD k 0))) rfl)).cons (hF861.get (t := 65) (v := (.bool (decide (((k : Nat) : Int) < (2 : Int))))) rfl)).cons (hF861.get (t := 64) (v := (.int .i64 (k : Nat))) rfl)).cons (hF861.get (t := 63) (v := (.int .i64 2)) rfl)).cons (hF861.get (t := 62) (v := (.slice (some ⟨g42, 0, none⟩) 2 2)) rfl)).cons (hF861.get (t := 45) (v := (.bool false)) rfl)).cons (hF861.get (t := 9) (v := (.int .i64 er63)) rfl)).cons (hF861.get (t := 8) (v := (.slice A59 m60 c61)) rfl)).cons (hF861.get (t := 7) (v := (.slice (some ⟨g42, 0, none⟩) 2 2)) rfl)).cons (hF861.get (t := 24) (v := (.bool (!(few n l)))) rfl)).cons (hF861.get (t := 21) (v := (.bool false)) rfl)).cons (hF861.get (t := 6) (v := (.bool false)) rfl)).cons (hF861.get (t := 3) (v := (.pointer (some ⟨g2, 0, none⟩))) rfl)).cons (hF861.get (t := 2) (v := (.int .i64 v)) rfl)).cons (hF861.get (t := 1) (v := (.int .i64 a)) rfl)).cons (hF861.get (t := 0) (v := (.agg #[(.int .i64 n), (.slice A l.length c)])) rfl))
          clear hF861
          refine wp_seq_k (fun K863 hK863 => ?_)
          refine wp_region_lit ?_
          have b864 : Blk w846 g2 24 [(.int .i64 n), (.slice A l.length c)] := (b830.ext hx847)
          refine wpl_op (i := 0) rfl (o_val (v := (.agg #[(.int .i64 n), (.slice A l.length c)])) hF862 rfl rfl rfl rfl (rn_loadBlk (hF862.get rfl) b864 Try.underlying24 rfl (by kernel_rfl : (Try.prog.info? 24).map (·.size) = some 2)) ?_)
          intro a865 hF866; clear hF862
          refine wpl_op (i := 1) rfl (o_val (v := (.int .i64 a)) hF866 rfl rfl rfl rfl (rn_move (hF866.get rfl)) ?_)
          intro a867 hF868; clear hF866
          refine wpl_op (i := 2) rfl (o_val (v := (.int .i64 (([(v : Int), ((andI (v) (15)) : Int)]).getD k 0))) hF868 rfl rfl rfl rfl (rn_move (hF868.get rfl)) ?_)
          intro a869 hF870; clear hF868
          have d871 := (((hc.ext hx772).ext hx813).ext hx847)
          refine wpl_op (i := 3) rfl (o_call hF870 rfl rfl rfl rfl (rn_call (args3 (hF870.get rfl) (hF870.get rfl) (hF870.get rfl)) rfl (by kernel_rfl)) (bleast_at (v := (.slice A l.length c)) n l a (([(v : Int), ((andI (v) (15)) : Int)]).getD k 0) _ d871 (fun _ => ⟨by omega, by omega⟩)) ?_)
          rintro _ w880 ⟨A872, m873, c874, r875, e876, rfl, hf877, hs878, hx881⟩
          have z879 := Fl.ilen hf877
          refine ⟨_, rfl, ?_⟩; intro a882 hF883; clear hF870; have z884 := hx881.size
          have hf885 : Fl (Clip (fun b => w846.heap.size ≤ b) w880) w880 1 (.slice A872 m873 c874) m873 (intVals r875) := hf877.clip
          refine wpl_op (i := 4) rfl (o_val (v := (.tuple #[(.slice A872 m873 c874), (.int .i64 e876)])) hF883 rfl rfl rfl rfl (rn_move (hF883.get rfl)) ?_)
          intro a886 hF887; clear hF883
          refine wpl_op (i := 5) rfl (o_val (v := (.slice A872 m873 c874)) hF887 rfl rfl rfl rfl (rn_extract (hF887.get rfl) rfl) ?_)
          intro a888 hF889; clear hF887
          refine wpl_op (i := 6) rfl (o_val (v := (.int .i64 e876)) hF889 rfl rfl rfl rfl (rn_extract (hF889.get rfl) rfl) ?_)
          intro a890 hF891; clear hF889
          refine wpl_op (i := 7) rfl (o_val (v := (.slice A872 m873 c874)) hF891 rfl rfl rfl rfl (rn_assign (hF891.get rfl)) ?_)
          intro a892 hF893; clear hF891
          refine wpl_op (i := 8) rfl (o_val (v := (.int .i64 e876)) hF893 rfl rfl rfl rfl (rn_assign (hF893.get rfl)) ?_)
          intro a894 hF895; clear hF893
          refine wpList_nil ?_
          refine hK863 _ _ ?_
          clear hK863
          have hF896 := ((((((((((((((((((((((hF895.nil.cons (hF895.get (t := 17) (v := (.int .i64 e876)) rfl)).cons (hF895.get (t := 16) (v := (.slice A872 m873 c874)) rfl)).cons (hF895.get (t := 15) (v := (.int .i64 e842)) rfl)).cons (hF895.get (t := 14) (v := (.slice A838 m839 c840)) rfl)).cons (hF895.get (t := 13) (v := (.int .i64 e808)) rfl)).cons (hF895.get (t := 12) (v := (.slice A804 m805 c806)) rfl)).cons (hF895.get (t := 11) (v := (.int .i64 (([(v : Int), ((andI (v) (15)) : Int)]).getD k 0))) rfl)).cons (hF895.get (t := 65) (v := (.bool (decide (((k : Nat) : Int) < (2 : Int))))) rfl)).cons (hF895.get (t := 64) (v := (.int .i64 (k : Nat))) rfl)).cons (hF895.get (t := 63) (v := (.int .i64 2)) rfl)).cons (hF895.get (t := 62) (v := (.slice (some ⟨g42, 0, none⟩) 2 2)) rfl)).cons (hF895.get (t := 45) (v := (.bool false)) rfl)).cons (hF895.get (t := 9) (v := (.int .i64 er63)) rfl)).cons (hF895.get (t := 8) (v := (.slice A59 m60 c61)) rfl)).cons (hF895.get (t := 7) (v := (.slice (some ⟨g42, 0, none⟩) 2 2)) rfl)).cons (hF895.get (t := 24) (v := (.bool (!(few n l)))) rfl)).cons (hF895.get (t := 21) (v := (.bool false)) rfl)).cons (hF895.get (t := 6) (v := (.bool false)) rfl)).cons (hF895.get (t := 3) (v := (.pointer (some ⟨g2, 0, none⟩))) rfl)).cons (hF895.get (t := 2) (v := (.int .i64 v)) rfl)).cons (hF895.get (t := 1) (v := (.int .i64 a)) rfl)).cons (hF895.get (t := 0) (v := (.agg #[(.int .i64 n), (.slice A l.length c)])) rfl))
          clear hF895
          refine wp_seq_k (fun K897 hK897 => ?_)
          refine wp_region_lit ?_
          have b898 : Blk w880 g2 24 [(.int .i64 n), (.slice A l.length c)] := (b864.ext hx881)
          refine wpl_op (i := 0) rfl (o_val (v := (.agg #[(.int .i64 n), (.slice A l.length c)])) hF896 rfl rfl rfl rfl (rn_loadBlk (hF896.get rfl) b898 Try.underlying24 rfl (by kernel_rfl : (Try.prog.info? 24).map (·.size) = some 2)) ?_)
          intro a899 hF900; clear hF896
          refine wpl_op (i := 1) rfl (o_val (v := (.int .i64 a)) hF900 rfl rfl rfl rfl (rn_move (hF900.get rfl)) ?_)
          intro a901 hF902; clear hF900
          refine wpl_op (i := 2) rfl (o_val (v := (.int .i64 (([(v : Int), ((andI (v) (15)) : Int)]).getD k 0))) hF902 rfl rfl rfl rfl (rn_move (hF902.get rfl)) ?_)
          intro a903 hF904; clear hF902
          have d905 := ((((hc.ext hx772).ext hx813).ext hx847).ext hx881)
          refine wpl_op (i := 3) rfl (o_call hF904 rfl rfl rfl rfl (rn_call (args3 (hF904.get rfl) (hF904.get rfl) (hF904.get rfl)) rfl (by kernel_rfl)) (rleast_at (v := (.slice A l.length c)) n l a (([(v : Int), ((andI (v) (15)) : Int)]).getD k 0) _ d905 (fun _ => ⟨by omega, by omega⟩)) ?_)
          rintro _ w914 ⟨A906, m907, c908, r909, e910, rfl, hf911, hs912, hx915⟩
          have z913 := Fl.ilen hf911
          refine ⟨_, rfl, ?_⟩; intro a916 hF917; clear hF904; have z918 := hx915.size
          have hf919 : Fl (Clip (fun b => w880.heap.size ≤ b) w914) w914 1 (.slice A906 m907 c908) m907 (intVals r909) := hf911.clip
          refine wpl_op (i := 4) rfl (o_val (v := (.tuple #[(.slice A906 m907 c908), (.int .i64 e910)])) hF917 rfl rfl rfl rfl (rn_move (hF917.get rfl)) ?_)
          intro a920 hF921; clear hF917
          refine wpl_op (i := 5) rfl (o_val (v := (.slice A906 m907 c908)) hF921 rfl rfl rfl rfl (rn_extract (hF921.get rfl) rfl) ?_)
          intro a922 hF923; clear hF921
          refine wpl_op (i := 6) rfl (o_val (v := (.int .i64 e910)) hF923 rfl rfl rfl rfl (rn_extract (hF923.get rfl) rfl) ?_)
          intro a924 hF925; clear hF923
          refine wpl_op (i := 7) rfl (o_val (v := (.slice A906 m907 c908)) hF925 rfl rfl rfl rfl (rn_assign (hF925.get rfl)) ?_)
          intro a926 hF927; clear hF925
          refine wpl_op (i := 8) rfl (o_val (v := (.int .i64 e910)) hF927 rfl rfl rfl rfl (rn_assign (hF927.get rfl)) ?_)
          intro a928 hF929; clear hF927
          refine wpList_nil ?_
          refine hK897 _ _ ?_
          clear hK897
          have hF930 := ((((((((((((((((((((((((hF929.nil.cons (hF929.get (t := 19) (v := (.int .i64 e910)) rfl)).cons (hF929.get (t := 18) (v := (.slice A906 m907 c908)) rfl)).cons (hF929.get (t := 17) (v := (.int .i64 e876)) rfl)).cons (hF929.get (t := 16) (v := (.slice A872 m873 c874)) rfl)).cons (hF929.get (t := 15) (v := (.int .i64 e842)) rfl)).cons (hF929.get (t := 14) (v := (.slice A838 m839 c840)) rfl)).cons (hF929.get (t := 13) (v := (.int .i64 e808)) rfl)).cons (hF929.get (t := 12) (v := (.slice A804 m805 c806)) rfl)).cons (hF929.get (t := 11) (v := (.int .i64 (([(v : Int), ((andI (v) (15)) : Int)]).getD k 0))) rfl)).cons (hF929.get (t := 65) (v := (.bool (decide (((k : Nat) : Int) < (2 : Int))))) rfl)).cons (hF929.get (t := 64) (v := (.int .i64 (k : Nat))) rfl)).cons (hF929.get (t := 63) (v := (.int .i64 2)) rfl)).cons (hF929.get (t := 62) (v := (.slice (some ⟨g42, 0, none⟩) 2 2)) rfl)).cons (hF929.get (t := 45) (v := (.bool false)) rfl)).cons (hF929.get (t := 9) (v := (.int .i64 er63)) rfl)).cons (hF929.get (t := 8) (v := (.slice A59 m60 c61)) rfl)).cons (hF929.get (t := 7) (v := (.slice (some ⟨g42, 0, none⟩) 2 2)) rfl)).cons (hF929.get (t := 24) (v := (.bool (!(few n l)))) rfl)).cons (hF929.get (t := 21) (v := (.bool false)) rfl)).cons (hF929.get (t := 6) (v := (.bool false)) rfl)).cons (hF929.get (t := 3) (v := (.pointer (some ⟨g2, 0, none⟩))) rfl)).cons (hF929.get (t := 2) (v := (.int .i64 v)) rfl)).cons (hF929.get (t := 1) (v := (.int .i64 a)) rfl)).cons (hF929.get (t := 0) (v := (.agg #[(.int .i64 n), (.slice A l.length c)])) rfl))
          clear hF929
          refine wp_seq_k (fun K931 hK931 => ?_)
          have hu1 := hs810.unique hs844; have hu2 := hs878.unique hs912
          have hu3 := hu1.2; have hu4 := hu2.2
          refine wp_region_lit ?_
          refine wpl_op (i := 0) rfl (o_val (v := (.slice A804 m805 c806)) hF930 rfl rfl rfl rfl (rn_move (hF930.get rfl)) ?_)
          intro a932 hF933; clear hF930
          refine wpl_op (i := 1) rfl (o_val (v := (.slice A838 m839 c840)) hF933 rfl rfl rfl rfl (rn_move (hF933.get rfl)) ?_)
          intro a934 hF935; clear hF933
          have d936 := (((hf817.ext hx847).ext hx881).ext hx915)
          have d937 := ((hf851.ext hx881).ext hx915)
          refine wpl_op (i := 2) rfl (o_call hF935 rfl rfl rfl rfl (rn_call (args2 (hF935.get rfl) (hF935.get rfl)) rfl (by kernel_rfl)) (same_at (u := (.slice A804 m805 c806)) (v := (.slice A838 m839 c840)) r807 r841 _ d936 d937) ?_)
          rintro _ w938 ⟨rfl, hx939⟩
          refine ⟨_, rfl, ?_⟩; intro a940 hF941; clear hF935; have z942 := hx939.size
          refine wpl_op (i := 3) rfl (o_val (v := (.bool (!(decide (r807 = r841))))) hF941 rfl rfl rfl rfl (rn_not' (hF941.get rfl) rfl) ?_)
          intro a943 hF944; clear hF941
          refine wpl_op (i := 4) rfl (o_val (v := (.bool (!(decide (r807 = r841))))) hF944 rfl rfl rfl rfl (rn_move (hF944.get rfl)) ?_)
          intro a945 hF946; clear hF944
          refine wpl_op (i := 5) rfl (o_val (v := (.int .i64 e808)) hF946 rfl (wanted_guard rfl rfl rfl hF946 rfl (not_t (decide_eq_true hu1.1 : decide (r807 = r841) = true)) rfl) rfl rfl (rn_move (hF946.get rfl)) ?_)
          intro a948 hF949; clear hF946
          refine wpl_op (i := 6) rfl (o_val (v := (.int .i64 e842)) hF949 rfl (wanted_guard rfl rfl rfl hF949 rfl (not_t (decide_eq_true hu1.1 : decide (r807 = r841) = true)) rfl) rfl rfl (rn_move (hF949.get rfl)) ?_)
          intro a950 hF951; clear hF949
          refine wpl_op (i := 7) rfl (o_val (v := (.bool (decide ((e808 : Int) ≠ (e842 : Int))))) hF951 rfl (wanted_guard rfl rfl rfl hF951 rfl (not_t (decide_eq_true hu1.1 : decide (r807 = r841) = true)) rfl) rfl rfl (rn_neq (hF951.get rfl) (hF951.get rfl)) ?_)
          intro a952 hF953; clear hF951
          refine wpl_op (i := 8) rfl (o_val (v := (.bool (decide ((e808 : Int) ≠ (e842 : Int))))) hF953 rfl rfl rfl rfl (rn_pickF (c_false hF953 rfl (not_t (decide_eq_true hu1.1 : decide (r807 = r841) = true))) (hF953.get rfl)) ?_)
          intro a954 hF955; clear hF953
          refine wpl_op (i := 9) rfl (o_val (v := (.bool (decide ((e808 : Int) ≠ (e842 : Int))))) hF955 rfl rfl rfl rfl (rn_move (hF955.get rfl)) ?_)
          intro a956 hF957; clear hF955
          by_cases hc958 : (e808 : Int) ≠ (e842 : Int)
          · skip
            refine wpl_op (i := 10) rfl (o_skip hF957 rfl (unwanted_guard rfl rfl rfl hF957 rfl (decide_eq_true hc958) rfl) rfl rfl ?_)
            intro a959 hF960; clear hF957
            refine wpl_op (i := 11) rfl (o_skip hF960 rfl (unwanted_guard rfl rfl rfl hF960 rfl (decide_eq_true hc958) rfl) rfl rfl ?_)
            intro a961 hF962; clear hF960
            refine wpl_op (i := 12) rfl (o_skip hF962 rfl (unwanted_guard rfl rfl rfl hF962 rfl (decide_eq_true hc958) rfl) rfl rfl ?_)
            intro a963 hF964; clear hF962
            refine wpl_op (i := 13) rfl (o_skip hF964 rfl (unwanted_guard rfl rfl rfl hF964 rfl (decide_eq_true hc958) rfl) rfl rfl ?_)
            intro a965 hF966; clear hF964
            refine wpl_op (i := 14) rfl (o_val (v := (.bool true)) hF966 rfl rfl rfl rfl (rn_pickT (c_true hF966 rfl (decide_eq_true hc958)) rfl) ?_)
            intro a967 hF968; clear hF966
            refine wpl_op (i := 15) rfl (o_val (v := (.bool true)) hF968 rfl rfl rfl rfl (rn_move (hF968.get rfl)) ?_)
            intro a969 hF970; clear hF968
            refine wpl_op (i := 16) rfl (o_skip hF970 rfl (unwanted_guard rfl rfl rfl hF970 rfl rfl rfl) rfl rfl ?_)
            intro a971 hF972; clear hF970
            refine wpl_op (i := 17) rfl (o_skip hF972 rfl (unwanted_guard rfl rfl rfl hF972 rfl rfl rfl) rfl rfl ?_)
            intro a973 hF974; clear hF972
            refine wpl_op (i := 18) rfl (o_skip hF974 rfl (unwanted_guard rfl rfl rfl hF974 rfl rfl rfl) rfl rfl ?_)
            intro a975 hF976; clear hF974
            refine wpl_op (i := 19) rfl (o_val (v := (.bool true)) hF976 rfl rfl rfl rfl (rn_pickT (c_true hF976 rfl rfl) rfl) ?_)
            intro a977 hF978; clear hF976
            refine wpList_nil ?_
            refine hK931 _ _ ?_
            clear hK931
            have hF979 := (((((((((((((((((((((((((hF978.nil.cons (hF978.get (t := 115) (v := (.bool true)) rfl)).cons (hF978.get (t := 19) (v := (.int .i64 e910)) rfl)).cons (hF978.get (t := 18) (v := (.slice A906 m907 c908)) rfl)).cons (hF978.get (t := 17) (v := (.int .i64 e876)) rfl)).cons (hF978.get (t := 16) (v := (.slice A872 m873 c874)) rfl)).cons (hF978.get (t := 15) (v := (.int .i64 e842)) rfl)).cons (hF978.get (t := 14) (v := (.slice A838 m839 c840)) rfl)).cons (hF978.get (t := 13) (v := (.int .i64 e808)) rfl)).cons (hF978.get (t := 12) (v := (.slice A804 m805 c806)) rfl)).cons (hF978.get (t := 11) (v := (.int .i64 (([(v : Int), ((andI (v) (15)) : Int)]).getD k 0))) rfl)).cons (hF978.get (t := 65) (v := (.bool (decide (((k : Nat) : Int) < (2 : Int))))) rfl)).cons (hF978.get (t := 64) (v := (.int .i64 (k : Nat))) rfl)).cons (hF978.get (t := 63) (v := (.int .i64 2)) rfl)).cons (hF978.get (t := 62) (v := (.slice (some ⟨g42, 0, none⟩) 2 2)) rfl)).cons (hF978.get (t := 45) (v := (.bool false)) rfl)).cons (hF978.get (t := 9) (v := (.int .i64 er63)) rfl)).cons (hF978.get (t := 8) (v := (.slice A59 m60 c61)) rfl)).cons (hF978.get (t := 7) (v := (.slice (some ⟨g42, 0, none⟩) 2 2)) rfl)).cons (hF978.get (t := 24) (v := (.bool (!(few n l)))) rfl)).cons (hF978.get (t := 21) (v := (.bool false)) rfl)).cons (hF978.get (t := 6) (v := (.bool false)) rfl)).cons (hF978.get (t := 3) (v := (.pointer (some ⟨g2, 0, none⟩))) rfl)).cons (hF978.get (t := 2) (v := (.int .i64 v)) rfl)).cons (hF978.get (t := 1) (v := (.int .i64 a)) rfl)).cons (hF978.get (t := 0) (v := (.agg #[(.int .i64 n), (.slice A l.length c)])) rfl))
            clear hF978
            refine wp_cond_true (c_true hF979 rfl rfl) ?_
            refine wp_seq_k (fun K980 hK980 => ?_)
            refine wp_region_lit ?_
            refine wpl_op (i := 0) rfl (o_val (v := (.bool false)) hF979 rfl rfl rfl rfl (rn_assign rfl) ?_)
            intro a981 hF982; clear hF979
            refine wpList_nil ?_
            refine hK980 _ _ ?_
            clear hK980
            refine wp_ret ?_
            refine ret_block ?_
            refine ret_then ?_
            refine ret_then ?_
            refine ret_block ?_
            refine ret_then ?_
            refine ret1 hF982 rfl rfl ?_
            exfalso; omega
          · skip
            refine wpl_op (i := 10) rfl (o_val (v := (.slice A872 m873 c874)) hF957 rfl (wanted_guard rfl rfl rfl hF957 rfl (decide_eq_false hc958) rfl) rfl rfl (rn_move (hF957.get rfl)) ?_)
            intro a983 hF984; clear hF957
            refine wpl_op (i := 11) rfl (o_val (v := (.slice A906 m907 c908)) hF984 rfl (wanted_guard rfl rfl rfl hF984 rfl (decide_eq_false hc958) rfl) rfl rfl (rn_move (hF984.get rfl)) ?_)
            intro a985 hF986; clear hF984
            have d987 := ((hf885.ext hx915).ext hx939)
            have d988 := (hf919.ext hx939)
            refine wpl_op (i := 12) rfl (o_call hF986 rfl (wanted_guard rfl rfl rfl hF986 rfl (decide_eq_false hc958) rfl) rfl rfl (rn_call (args2 (hF986.get rfl) (hF986.get rfl)) rfl (by kernel_rfl)) (same_at (u := (.slice A872 m873 c874)) (v := (.slice A906 m907 c908)) r875 r909 _ d987 d988) ?_)
            rintro _ w989 ⟨rfl, hx990⟩
            refine ⟨_, rfl, ?_⟩; intro a991 hF992; clear hF986; have z993 := hx990.size
            refine wpl_op (i := 13) rfl (o_val (v := (.bool (!(decide (r875 = r909))))) hF992 rfl (wanted_guard rfl rfl rfl hF992 rfl (decide_eq_false hc958) rfl) rfl rfl (rn_not' (hF992.get rfl) rfl) ?_)
            intro a994 hF995; clear hF992
            refine wpl_op (i := 14) rfl (o_val (v := (.bool (!(decide (r875 = r909))))) hF995 rfl rfl rfl rfl (rn_pickF (c_false hF995 rfl (decide_eq_false hc958)) (hF995.get rfl)) ?_)
            intro a996 hF997; clear hF995
            refine wpl_op (i := 15) rfl (o_val (v := (.bool (!(decide (r875 = r909))))) hF997 rfl rfl rfl rfl (rn_move (hF997.get rfl)) ?_)
            intro a998 hF999; clear hF997
            refine wpl_op (i := 16) rfl (o_val (v := (.int .i64 e876)) hF999 rfl (wanted_guard rfl rfl rfl hF999 rfl (not_t (decide_eq_true hu2.1 : decide (r875 = r909) = true)) rfl) rfl rfl (rn_move (hF999.get rfl)) ?_)
            intro a1001 hF1002; clear hF999
            refine wpl_op (i := 17) rfl (o_val (v := (.int .i64 e910)) hF1002 rfl (wanted_guard rfl rfl rfl hF1002 rfl (not_t (decide_eq_true hu2.1 : decide (r875 = r909) = true)) rfl) rfl rfl (rn_move (hF1002.get rfl)) ?_)
            intro a1003 hF1004; clear hF1002
            refine wpl_op (i := 18) rfl (o_val (v := (.bool (decide ((e876 : Int) ≠ (e910 : Int))))) hF1004 rfl (wanted_guard rfl rfl rfl hF1004 rfl (not_t (decide_eq_true hu2.1 : decide (r875 = r909) = true)) rfl) rfl rfl (rn_neq (hF1004.get rfl) (hF1004.get rfl)) ?_)
            intro a1005 hF1006; clear hF1004
            refine wpl_op (i := 19) rfl (o_val (v := (.bool (decide ((e876 : Int) ≠ (e910 : Int))))) hF1006 rfl rfl rfl rfl (rn_pickF (c_false hF1006 rfl (not_t (decide_eq_true hu2.1 : decide (r875 = r909) = true))) (hF1006.get rfl)) ?_)
            intro a1007 hF1008; clear hF1006
            refine wpList_nil ?_
            refine hK931 _ _ ?_
            clear hK931
            have hF1009 := (((((((((((((((((((((((((hF1008.nil.cons (hF1008.get (t := 115) (v := (.bool (decide ((e876 : Int) ≠ (e910 : Int))))) rfl)).cons (hF1008.get (t := 19) (v := (.int .i64 e910)) rfl)).cons (hF1008.get (t := 18) (v := (.slice A906 m907 c908)) rfl)).cons (hF1008.get (t := 17) (v := (.int .i64 e876)) rfl)).cons (hF1008.get (t := 16) (v := (.slice A872 m873 c874)) rfl)).cons (hF1008.get (t := 15) (v := (.int .i64 e842)) rfl)).cons (hF1008.get (t := 14) (v := (.slice A838 m839 c840)) rfl)).cons (hF1008.get (t := 13) (v := (.int .i64 e808)) rfl)).cons (hF1008.get (t := 12) (v := (.slice A804 m805 c806)) rfl)).cons (hF1008.get (t := 11) (v := (.int .i64 (([(v : Int), ((andI (v) (15)) : Int)]).getD k 0))) rfl)).cons (hF1008.get (t := 65) (v := (.bool (decide (((k : Nat) : Int) < (2 : Int))))) rfl)).cons (hF1008.get (t := 64) (v := (.int .i64 (k : Nat))) rfl)).cons (hF1008.get (t := 63) (v := (.int .i64 2)) rfl)).cons (hF1008.get (t := 62) (v := (.slice (some ⟨g42, 0, none⟩) 2 2)) rfl)).cons (hF1008.get (t := 45) (v := (.bool false)) rfl)).cons (hF1008.get (t := 9) (v := (.int .i64 er63)) rfl)).cons (hF1008.get (t := 8) (v := (.slice A59 m60 c61)) rfl)).cons (hF1008.get (t := 7) (v := (.slice (some ⟨g42, 0, none⟩) 2 2)) rfl)).cons (hF1008.get (t := 24) (v := (.bool (!(few n l)))) rfl)).cons (hF1008.get (t := 21) (v := (.bool false)) rfl)).cons (hF1008.get (t := 6) (v := (.bool false)) rfl)).cons (hF1008.get (t := 3) (v := (.pointer (some ⟨g2, 0, none⟩))) rfl)).cons (hF1008.get (t := 2) (v := (.int .i64 v)) rfl)).cons (hF1008.get (t := 1) (v := (.int .i64 a)) rfl)).cons (hF1008.get (t := 0) (v := (.agg #[(.int .i64 n), (.slice A l.length c)])) rfl))
            clear hF1008
            by_cases hc1010 : (e876 : Int) ≠ (e910 : Int)
            · skip
              refine wp_cond_true (c_true hF1009 rfl (decide_eq_true hc1010)) ?_
              refine wp_seq_k (fun K1011 hK1011 => ?_)
              refine wp_region_lit ?_
              refine wpl_op (i := 0) rfl (o_val (v := (.bool false)) hF1009 rfl rfl rfl rfl (rn_assign rfl) ?_)
              intro a1012 hF1013; clear hF1009
              refine wpList_nil ?_
              refine hK1011 _ _ ?_
              clear hK1011
              refine wp_ret ?_
              refine ret_block ?_
              refine ret_then ?_
              refine ret_then ?_
              refine ret_block ?_
              refine ret_then ?_
              refine ret1 hF1013 rfl rfl ?_
              exfalso; omega
            · skip
              refine wp_cond_false (c_false hF1009 rfl (decide_eq_false hc1010)) ?_
              refine wp_skip ?_
              refine hK788 _ _ ?_
              clear hK788
              refine wp_region_lit ?_
              refine wpl_op (i := 0) rfl (o_val (v := (.int .i64 (k + 1 : Nat))) hF1009 rfl rfl rfl rfl (rn_addN (a := k) (b := 1) (hF1009.get rfl) rfl (by omega)) ?_)
              intro a1014 hF1015; clear hF1009
              refine wpl_op (i := 1) rfl (o_val (v := (.int .i64 (k + 1 : Nat))) hF1015 rfl rfl rfl rfl (rn_move (hF1015.get rfl)) ?_)
              intro a1016 hF1017; clear hF1015
              refine wpList_nil ?_
              have d1018 := ((((((hf776.ext hx813).ext hx847).ext hx881).ext hx915).ext hx939).ext hx990)
              have d1019 := ((((((hf777.ext hx813).ext hx847).ext hx881).ext hx915).ext hx939).ext hx990)
              have b1020 : Blk w989 g2 24 [(.int .i64 n), (.slice A l.length c)] := (((b898.ext hx915).ext hx939).ext hx990)
              have b1021 : Blk w989 g42 3 (intVals [(v : Int), ((andI (v) (15)) : Int)]) := ((((((b775.ext hx813).ext hx847).ext hx881).ext hx915).ext hx939).ext hx990)
              refine ⟨⟨(k + 1), ((((((((((((((hF1017.nil.cons (q_get hF1017 (t := 64) rfl (by first | rfl | (congr 1; omega) | (congr 1; done)))).cons (q_get hF1017 (t := 63) rfl rfl)).cons (q_get hF1017 (t := 62) rfl rfl)).cons (q_get hF1017 (t := 45) rfl rfl)).cons (q_get hF1017 (t := 9) rfl rfl)).cons (q_get hF1017 (t := 8) rfl rfl)).cons (q_get hF1017 (t := 7) rfl rfl)).cons (q_get hF1017 (t := 24) rfl rfl)).cons (q_get hF1017 (t := 21) rfl rfl)).cons (q_get hF1017 (t := 6) rfl rfl)).cons (q_get hF1017 (t := 3) rfl rfl)).cons (q_get hF1017 (t := 2) rfl rfl)).cons (q_get hF1017 (t := 1) rfl rfl)).cons (q_get hF1017 (t := 0) rfl rfl)), (by omega), ((((((((Ext.refl w).trans hx772).trans hx813).trans hx847).trans hx881).trans hx915).trans hx939).trans hx990), b1020, b1021, d1018, d1019, (by omega)⟩, ?_⟩
              rw [hF1017.get (t := 64) rfl, hL779.get (t := 64) rfl]; simp [intOf] <;> omega
        · skip
          refine wp_cond_false (c_false hF785 rfl (decide_eq_false hc787)) ?_
          refine wp_exit ?_
          refine exit_then ?_
          refine exit_then ?_
          refine exit_here ?_
          refine hK757 _ _ ?_
          clear hK757
          refine wp_seq_k (fun K1022 hK1022 => ?_)
          refine wp_region_lit ?_
          refine wpl_op (i := 0) rfl (o_val (v := (.bool true)) hF785 rfl rfl rfl rfl (rn_assign rfl) ?_)
          intro a1023 hF1024; clear hF785
          refine wpList_nil ?_
          refine hK1022 _ _ ?_
          clear hK1022
          refine wp_ret ?_
          refine ret1 hF1024 rfl rfl ?_
          exact ⟨rfl, ((Ext.refl w).trans hx772)⟩
    · skip
      refine wpl_op (i := 3) rfl (o_skip hF90 rfl (unwanted_guard rfl rfl rfl hF90 rfl (decide_eq_false hc91) rfl) rfl rfl ?_)
      intro a1025 hF1026; clear hF90
      refine wpl_op (i := 4) rfl (o_skip hF1026 rfl (unwanted_guard rfl rfl rfl hF1026 rfl (decide_eq_false hc91) rfl) rfl rfl ?_)
      intro a1027 hF1028; clear hF1026
      refine wpl_op (i := 5) rfl (o_val (v := (.bool false)) hF1028 rfl rfl rfl rfl (rn_pickF (c_false hF1028 rfl (decide_eq_false hc91)) rfl) ?_)
      intro a1029 hF1030; clear hF1028
      refine wpl_op (i := 6) rfl (o_val (v := (.bool false)) hF1030 rfl rfl rfl rfl (rn_move (hF1030.get rfl)) ?_)
      intro a1031 hF1032; clear hF1030
      refine wpl_op (i := 7) rfl (o_skip hF1032 rfl (unwanted_guard rfl rfl rfl hF1032 rfl rfl rfl) rfl rfl ?_)
      intro a1033 hF1034; clear hF1032
      refine wpl_op (i := 8) rfl (o_skip hF1034 rfl (unwanted_guard rfl rfl rfl hF1034 rfl rfl rfl) rfl rfl ?_)
      intro a1035 hF1036; clear hF1034
      refine wpl_op (i := 9) rfl (o_skip hF1036 rfl (unwanted_guard rfl rfl rfl hF1036 rfl rfl rfl) rfl rfl ?_)
      intro a1037 hF1038; clear hF1036
      refine wpl_op (i := 10) rfl (o_skip hF1038 rfl (unwanted_guard rfl rfl rfl hF1038 rfl rfl rfl) rfl rfl ?_)
      intro a1039 hF1040; clear hF1038
      refine wpl_op (i := 11) rfl (o_val (v := (.bool false)) hF1040 rfl rfl rfl rfl (rn_pickF (c_false hF1040 rfl rfl) rfl) ?_)
      intro a1041 hF1042; clear hF1040
      refine wpList_nil ?_
      refine hK84 _ _ ?_
      clear hK84
      have hF1043 := (((((((((((hF1042.nil.cons (hF1042.get (t := 45) (v := (.bool false)) rfl)).cons (hF1042.get (t := 9) (v := (.int .i64 er63)) rfl)).cons (hF1042.get (t := 8) (v := (.slice A59 m60 c61)) rfl)).cons (hF1042.get (t := 7) (v := (.slice (some ⟨g42, 0, none⟩) 2 2)) rfl)).cons (hF1042.get (t := 24) (v := (.bool (!(few n l)))) rfl)).cons (hF1042.get (t := 21) (v := (.bool false)) rfl)).cons (hF1042.get (t := 6) (v := (.bool false)) rfl)).cons (hF1042.get (t := 3) (v := (.pointer (some ⟨g2, 0, none⟩))) rfl)).cons (hF1042.get (t := 2) (v := (.int .i64 v)) rfl)).cons (hF1042.get (t := 1) (v := (.int .i64 a)) rfl)).cons (hF1042.get (t := 0) (v := (.agg #[(.int .i64 n), (.slice A l.length c)])) rfl))
      clear hF1042
      refine wp_cond_false (c_false hF1043 rfl rfl) ?_
      refine wp_skip ?_
      refine hK53 _ _ ?_
      clear hK53
      refine wp_seq_k (fun K1044 hK1044 => ?_)
      refine wp_seq_k (fun K1045 hK1045 => ?_)
      refine wp_region_lit ?_
      refine wpl_op (i := 0) rfl (o_val (v := (.slice (some ⟨g42, 0, none⟩) 2 2)) hF1043 rfl rfl rfl rfl (rn_move (hF1043.get rfl)) ?_)
      intro a1046 hF1047; clear hF1043
      refine wpl_op (i := 1) rfl (o_val (v := (.int .i64 2)) hF1047 rfl rfl rfl rfl (rn_len_slice Try.underlying25 (hF1047.get rfl)) ?_)
      intro a1048 hF1049; clear hF1047
      refine wpl_op (i := 2) rfl (o_val (v := (.int .i64 0)) hF1049 rfl rfl rfl rfl (rn_move rfl) ?_)
      intro a1050 hF1051; clear hF1049
      refine wpList_nil ?_
      refine hK1045 _ _ ?_
      clear hK1045
      refine wp_block ?_
      have b1052 : Blk w67 g42 3 (intVals [(v : Int), ((andI (v) (15)) : Int)]) := (b44.ext hx68)
      have hf1053 := (Fl.blk (S := fun b => b = g42) (k := 1) (n := 2) (c := 2) b1052 (by rw [intVals_len (show List.length [(v : Int), ((andI (v) (15)) : Int)] = 2 from rfl), Nat.mul_one]) (intVals_one _) (by omega) rfl)
      have hf1054 : Fl (Clip (fun b => b = g42) w67) w67 1 (.slice (some ⟨g42, 0, none⟩) 2 2) 2 (intVals ([(v : Int), ((andI (v) (15)) : Int)])) := hf1053.clip
      have hvl : List.length ([(v : Int), ((andI (v) (15)) : Int)]) = 2 := rfl
      have b1055 : Blk w67 g2 24 [(.int .i64 n), (.slice A l.length c)] := (b55.ext hx68)
      refine wp_loop (fun a' W => ∃ (k : Nat), Sl 117 [(0, (.agg #[(.int .i64 n), (.slice A l.length c)])), (1, (.int .i64 a)), (2, (.int .i64 v)), (3, (.pointer (some ⟨g2, 0, none⟩))), (6, (.bool false)), (21, (.bool false)), (24, (.bool (!(few n l)))), (7, (.slice (some ⟨g42, 0, none⟩) 2 2)), (8, (.slice A59 m60 c61)), (9, (.int .i64 er63)), (45, (.bool false)), (62, (.slice (some ⟨g42, 0, none⟩) 2 2)), (63, (.int .i64 2)), (64, (.int .i64 (k : Nat)))] a' ∧ k ≤ 2 ∧ Ext w W ∧ Blk W g2 24 [(.int .i64 n), (.slice A l.length c)] ∧ Blk W g42 3 (intVals [(v : Int), ((andI (v) (15)) : Int)]) ∧ RIss (Clip (fun b => w43.heap.size ≤ b) w67) W (.slice A59 m60 c61) t62 ∧ Fl (Clip (fun b => b = g42) w67) W 1 (.slice (some ⟨g42, 0, none⟩) 2 2) 2 (intVals ([(v : Int), ((andI (v) (15)) : Int)])) ∧ w67.heap.size ≤ W.heap.size) (fun a' _ => 2 - (intOf (a'.eval (.tmp 64))).toNat) ⟨0, ((((((((((((((hF1051.nil.cons (q_get hF1051 (t := 64) rfl (by first | rfl | (congr 1; omega) | (congr 1; done)))).cons (q_get hF1051 (t := 63) rfl rfl)).cons (q_get hF1051 (t := 62) rfl rfl)).cons (q_get hF1051 (t := 45) rfl rfl)).cons (q_get hF1051 (t := 9) rfl rfl)).cons (q_get hF1051 (t := 8) rfl rfl)).cons (q_get hF1051 (t := 7) rfl rfl)).cons (q_get hF1051 (t := 24) rfl rfl)).cons (q_get hF1051 (t := 21) rfl rfl)).cons (q_get hF1051 (t := 6) rfl rfl)).cons (q_get hF1051 (t := 3) rfl rfl)).cons (q_get hF1051 (t := 2) rfl rfl)).cons (q_get hF1051 (t := 1) rfl rfl)).cons (q_get hF1051 (t := 0) rfl rfl)), (by omega), ((((((Ext.refl w).trans hx5).trans hx15).trans hx28).trans hx45).trans hx68), b1055, b1052, hf72, hf1054, (Nat.le_refl _)⟩ ?_
      clear hF1051
      rintro a1056 w1057 ⟨k, hF1058, hp1060, hx1059, b1061, b1062, hf1063, hf1064, hf1065⟩
      have hL1066 := hF1058
      have z1067 := hx1059.size
      have z1068 := b1061.lt
      have z1069 := b1062.lt
      refine wp_seq_k (fun K1070 hK1070 => ?_)
      refine wp_region_lit ?_
      refine wpl_op (i := 0) rfl (o_val (v := (.bool (decide (((k : Nat) : Int) < (2 : Int))))) hF1058 rfl rfl rfl rfl (rn_lss (hF1058.get rfl) (hF1058.get rfl)) ?_)
      intro a1071 hF1072; clear hF1058
      refine wpList_nil ?_
      refine hK1070 _ _ ?_
      clear hK1070
      refine wp_seq_k (fun K1073 hK1073 => ?_)
      by_cases hc1074 : ((k : Nat) : Int) < (2 : Int)
      · skip
        refine wp_cond_true (c_true hF1072 rfl (decide_eq_true hc1074)) ?_
        refine wp_skip ?_
        refine hK1073 _ _ ?_
        clear hK1073
        refine wp_seq_k (fun K1075 hK1075 => ?_)
        refine wp_block ?_
        refine wp_seq_k (fun K1076 hK1076 => ?_)
        refine wp_region_lit ?_
        refine wpl_op (i := 0) rfl (o_val (v := (.pointer (some ⟨g42, 0 + k, none⟩))) hF1072 rfl rfl rfl rfl (rn_index1 Try.underlying25 (by kernel_rfl : (Try.prog.info? 3).map (·.size) = some 1) (hF1072.get rfl) (hF1072.get rfl) (by omega : (0 : Int) ≤ (k : Nat)) (by omega : ((k : Nat) : Int) < ((2 : Nat) : Int))) ?_)
        intro a1077 hF1078; clear hF1072
        refine wpl_op (i := 1) rfl (o_val (v := (.int .i64 (([(v : Int), ((andI (v) (15)) : Int)]).getD k 0))) hF1078 rfl rfl rfl rfl (rn_load (isAgg_no Try.underlying3 rfl) (hF1078.get rfl) (blk_intVals b1062 (by omega) (by have := (show List.length ([(v : Int), ((andI (v) (15)) : Int)]) = _ from (show List.length [(v : Int), ((andI (v) (15)) : Int)] = 2 from rfl)); omega))) ?_)
        intro a1079 hF1080; clear hF1078
        refine wpl_op (i := 2) rfl (o_val (v := (.int .i64 (([(v : Int), ((andI (v) (15)) : Int)]).getD k 0))) hF1080 rfl rfl rfl rfl (rn_assign (hF1080.get rfl)) ?_)
        intro a1081 hF1082; clear hF1080
        refine wpList_nil ?_
        refine hK1076 _ _ ?_
        clear hK1076
        refine wp_seq_k (fun K1083 hK1083 => ?_)
        refine wp_region_lit ?_
        refine wpl_op (i := 0) rfl (o_val (v := (.agg #[(.int .i64 n), (.slice A l.length c)])) hF1082 rfl rfl rfl rfl (rn_loadBlk (hF1082.get rfl) b1061 Try.underlying24 rfl (by kernel_rfl : (Try.prog.info? 24).map (·.size) = some 2)) ?_)
        intro a1084 hF1085; clear hF1082
        refine wpl_op (i := 1) rfl (o_val (v := (.int .i64 a)) hF1085 rfl rfl rfl rfl (rn_move (hF1085.get rfl)) ?_)
        intro a1086 hF1087; clear hF1085
        refine wpl_op (i := 2) rfl (o_val (v := (.int .i64 (([(v : Int), ((andI (v) (15)) : Int)]).getD k 0))) hF1087 rfl rfl rfl rfl (rn_move (hF1087.get rfl)) ?_)
        intro a1088 hF1089; clear hF1087
        have d1090 := (hc.ext hx1059)
        refine wpl_op (i := 3) rfl (o_call hF1089 rfl rfl rfl rfl (rn_call (args3 (hF1089.get rfl) (hF1089.get rfl) (hF1089.get rfl)) rfl (by kernel_rfl)) (bgreat_at (v := (.slice A l.length c)) n l a (([(v : Int), ((andI (v) (15)) : Int)]).getD k 0) _ d1090 (fun _ => ⟨by omega, by omega⟩)) ?_)
        rintro _ w1099 ⟨A1091, m1092, c1093, r1094, e1095, rfl, hf1096, hs1097, hx1100⟩
        have z1098 := Fl.ilen hf1096
        refine ⟨_, rfl, ?_⟩; intro a1101 hF1102; clear hF1089; have z1103 := hx1100.size
        have hf1104 : Fl (Clip (fun b => w1057.heap.size ≤ b) w1099) w1099 1 (.slice A1091 m1092 c1093) m1092 (intVals r1094) := hf1096.clip
        refine wpl_op (i := 4) rfl (o_val (v := (.tuple #[(.slice A1091 m1092 c1093), (.int .i64 e1095)])) hF1102 rfl rfl rfl rfl (rn_move (hF1102.get rfl)) ?_)
        intro a1105 hF1106; clear hF1102
        refine wpl_op (i := 5) rfl (o_val (v := (.slice A1091 m1092 c1093)) hF1106 rfl rfl rfl rfl (rn_extract (hF1106.get rfl) rfl) ?_)
        intro a1107 hF1108; clear hF1106
        refine wpl_op (i := 6) rfl (o_val (v := (.int .i64 e1095)) hF1108 rfl rfl rfl rfl (rn_extract (hF1108.get rfl) rfl) ?_)
        intro a1109 hF1110; clear hF1108
        refine wpl_op (i := 7) rfl (o_val (v := (.slice A1091 m1092 c1093)) hF1110 rfl rfl rfl rfl (rn_assign (hF1110.get rfl)) ?_)
        intro a1111 hF1112; clear hF1110
        refine wpl_op (i := 8) rfl (o_val (v := (.int .i64 e1095)) hF1112 rfl rfl rfl rfl (rn_assign (hF1112.get rfl)) ?_)
        intro a1113 hF1114; clear hF1112
        refine wpList_nil ?_
        refine hK1083 _ _ ?_
        clear hK1083
        have hF1115 := ((((((((((((((((((hF1114.nil.cons (hF1114.get (t := 13) (v := (.int .i64 e1095)) rfl)).cons (hF1114.get (t := 12) (v := (.slice A1091 m1092 c1093)) rfl)).cons (hF1114.get (t := 11) (v := (.int .i64 (([(v : Int), ((andI (v) (15)) : Int)]).getD k 0))) rfl)).cons (hF1114.get (t := 65) (v := (.bool (decide (((k : Nat) : Int) < (2 : Int))))) rfl)).cons (hF1114.get (t := 64) (v := (.int .i64 (k : Nat))) rfl)).cons (hF1114.get (t := 63) (v := (.int .i64 2)) rfl)).cons (hF1114.get (t := 62) (v := (.slice (some ⟨g42, 0, none⟩) 2 2)) rfl)).cons (hF1114.get (t := 45) (v := (.bool false)) rfl)).cons (hF1114.get (t := 9) (v := (.int .i64 er63)) rfl)).cons (hF1114.get (t := 8) (v := (.slice A59 m60 c61)) rfl)).cons (hF1114.get (t := 7) (v := (.slice (some ⟨g42, 0, none⟩) 2 2)) rfl)).cons (hF1114.get (t := 24) (v := (.bool (!(few n l)))) rfl)).cons (hF1114.get (t := 21) (v := (.bool false)) rfl)).cons (hF1114.get (t := 6) (v := (.bool false)) rfl)).cons (hF1114.get (t := 3) (v := (.pointer (some ⟨g2, 0, none⟩))) rfl)).cons (hF1114.get (t := 2) (v := (.int .i64 v)) rfl)).cons (hF1114.get (t := 1) (v := (.int .i64 a)) rfl)).cons (hF1114.get (t := 0) (v := (.agg #[(.int .i64 n), (.slice A l.length c)])) rfl))
        clear hF1114
        refine wp_seq_k (fun K1116 hK1116 => ?_)
        refine wp_region_lit ?_
        have b1117 : Blk w1099 g2 24 [(.int .i64 n), (.slice A l.length c)] := (b1061.ext hx1100)
        refine wpl_op (i := 0) rfl (o_val (v := (.agg #[(.int .i64 n), (.slice A l.length c)])) hF1115 rfl rfl rfl rfl (rn_loadBlk (hF1115.get rfl) b1117 Try.underlying24 rfl (by kernel_rfl : (Try.prog.info? 24).map (·.size) = some 2)) ?_)
        intro a1118 hF1119; clear hF1115
        refine wpl_op (i := 1) rfl (o_val (v := (.int .i64 a)) hF1119 rfl rfl rfl rfl (rn_move (hF1119.get rfl)) ?_)
        intro a1120 hF1121; clear hF1119
        refine wpl_op (i := 2) rfl (o_val (v := (.int .i64 (([(v : Int), ((andI (v) (15)) : Int)]).getD k 0))) hF1121 rfl rfl rfl rfl (rn_move (hF1121.get rfl)) ?_)
        intro a1122 hF1123; clear hF1121
        have d1124 := ((hc.ext hx1059).ext hx1100)
        refine wpl_op (i := 3) rfl (o_call hF1123 rfl rfl rfl rfl (rn_call (args3 (hF1123.get rfl) (hF1123.get rfl) (hF1123.get rfl)) rfl (by kernel_rfl)) (rgreat_at (v := (.slice A l.length c)) n l a (([(v : Int), ((andI (v) (15)) : Int)]).getD k 0) _ d1124 (fun _ => ⟨by omega, by omega⟩)) ?_)
        rintro _ w1133 ⟨A1125, m1126, c1127, r1128, e1129, rfl, hf1130, hs1131, hx1134⟩
        have z1132 := Fl.ilen hf1130
        refine ⟨_, rfl, ?_⟩; intro a1135 hF1136; clear hF1123; have z1137 := hx1134.size
        have hf1138 : Fl (Clip (fun b => w1099.heap.size ≤ b) w1133) w1133 1 (.slice A1125 m1126 c1127) m1126 (intVals r1128) := hf1130.clip
        refine wpl_op (i := 4) rfl (o_val (v := (.tuple #[(.slice A1125 m1126 c1127), (.int .i64 e1129)])) hF1136 rfl rfl rfl rfl (rn_move (hF1136.get rfl)) ?_)
        intro a1139 hF1140; clear hF1136
        refine wpl_op (i := 5) rfl (o_val (v := (.slice A1125 m1126 c1127)) hF1140 rfl rfl rfl rfl (rn_extract (hF1140.get rfl) rfl) ?_)
        intro a1141 hF1142; clear hF1140
        refine wpl_op (i := 6) rfl (o_val (v := (.int .i64 e1129)) hF1142 rfl rfl rfl rfl (rn_extract (hF1142.get rfl) rfl) ?_)
        intro a1143 hF1144; clear hF1142
        refine wpl_op (i := 7) rfl (o_val (v := (.slice A1125 m1126 c1127)) hF1144 rfl rfl rfl rfl (rn_assign (hF1144.get rfl)) ?_)
        intro a1145 hF1146; clear hF1144
        refine wpl_op (i := 8) rfl (o_val (v := (.int .i64 e1129)) hF1146 rfl rfl rfl rfl (rn_assign (hF1146.get rfl)) ?_)
        intro a1147 hF1148; clear hF1146
        refine wpList_nil ?_
        refine hK1116 _ _ ?_
        clear hK1116
        have hF1149 := ((((((((((((((((((((hF1148.nil.cons (hF1148.get (t := 15) (v := (.int .i64 e1129)) rfl)).cons (hF1148.get (t := 14) (v := (.slice A1125 m1126 c1127)) rfl)).cons (hF1148.get (t := 13) (v := (.int .i64 e1095)) rfl)).cons (hF1148.get (t := 12) (v := (.slice A1091 m1092 c1093)) rfl)).cons (hF1148.get (t := 11) (v := (.int .i64 (([(v : Int), ((andI (v) (15)) : Int)]).getD k 0))) rfl)).cons (hF1148.get (t := 65) (v := (.bool (decide (((k : Nat) : Int) < (2 : Int))))) rfl)).cons (hF1148.get (t := 64) (v := (.int .i64 (k : Nat))) rfl)).cons (hF1148.get (t := 63) (v := (.int .i64 2)) rfl)).cons (hF1148.get (t := 62) (v := (.slice (some ⟨g42, 0, none⟩) 2 2)) rfl)).cons (hF1148.get (t := 45) (v := (.bool false)) rfl)).cons (hF1148.get (t := 9) (v := (.int .i64 er63)) rfl)).cons (hF1148.get (t := 8) (v := (.slice A59 m60 c61)) rfl)).cons (hF1148.get (t := 7) (v := (.slice (some ⟨g42, 0, none⟩) 2 2)) rfl)).cons (hF1148.get (t := 24) (v := (.bool (!(few n l)))) rfl)).cons (hF1148.get (t := 21) (v := (.bool false)) rfl)).cons (hF1148.get (t := 6) (v := (.bool false)) rfl)).cons (hF1148.get (t := 3) (v := (.pointer (some ⟨g2, 0, none⟩))) rfl)).cons (hF1148.get (t := 2) (v := (.int .i64 v)) rfl)).cons (hF1148.get (t := 1) (v := (.int .i64 a)) rfl)).cons (hF1148.get (t := 0) (v := (.agg #[(.int .i64 n), (.slice A l.length c)])) rfl))
        clear hF1148
        refine wp_seq_k (fun K1150 hK1150 => ?_)
        refine wp_region_lit ?_
        have b1151 : Blk w1133 g2 24 [(.int .i64 n), (.slice A l.length c)] := (b1117.ext hx1134)
        refine wpl_op (i := 0) rfl (o_val (v := (.agg #[(.int .i64 n), (.slice A l.length c)])) hF1149 rfl rfl rfl rfl (rn_loadBlk (hF1149.get rfl) b1151 Try.underlying24 rfl (by kernel_rfl : (Try.prog.info? 24).map (·.size) = some 2)) ?_)
        intro a1152 hF1153; clear hF1149
        refine wpl_op (i := 1) rfl (o_val (v := (.int .i64 a)) hF1153 rfl rfl rfl rfl (rn_move (hF1153.get rfl)) ?_)
        intro a1154 hF1155; clear hF1153
        refine wpl_op (i := 2) rfl (o_val (v := (.int .i64 (([(v : Int), ((andI (v) (15)) : Int)]).getD k 0))) hF1155 rfl rfl rfl rfl (rn_move (hF1155.get rfl)) ?_)
        intro a1156 hF1157; clear hF1155
        have d1158 := (((hc.ext hx1059).ext hx1100).ext hx1134)
        refine wpl_op (i := 3) rfl (o_call hF1157 rfl rfl rfl rfl (rn_call (args3 (hF1157.get rfl) (hF1157.get rfl) (hF1157.get rfl)) rfl (by kernel_rfl)) (bleast_at (v := (.slice A l.length c)) n l a (([(v : Int), ((andI (v) (15)) : Int)]).getD k 0) _ d1158 (fun _ => ⟨by omega, by omega⟩)) ?_)
        rintro _ w1167 ⟨A1159, m1160, c1161, r1162, e1163, rfl, hf1164, hs1165, hx1168⟩
        have z1166 := Fl.ilen hf1164
        refine ⟨_, rfl, ?_⟩; intro a1169 hF1170; clear hF1157; have z1171 := hx1168.size
        have hf1172 : Fl (Clip (fun b => w1133.heap.size ≤ b) w1167) w1167 1 (.slice A1159 m1160 c1161) m1160 (intVals r1162) := hf1164.clip
        refine wpl_op (i := 4) rfl (o_val (v := (.tuple #[(.slice A1159 m1160 c1161), (.int .i64 e1163)])) hF1170 rfl rfl rfl rfl (rn_move (hF1170.get rfl)) ?_)
        intro a1173 hF1174; clear hF1170
        refine wpl_op (i := 5) rfl (o_val (v := (.slice A1159 m1160 c1161)) hF1174 rfl rfl rfl rfl (rn_extract (hF1174.get rfl) rfl) ?_)
        intro a1175 hF1176; clear hF1174
        refine wpl_op (i := 6) rfl (o_val (v := (.int .i64 e1163)) hF1176 rfl rfl rfl rfl (rn_extract (hF1176.get rfl) rfl) ?_)
        intro a1177 hF1178; clear hF1176
        refine wpl_op (i := 7) rfl (o_val (v := (.slice A1159 m1160 c1161)) hF1178 rfl rfl rfl rfl (rn_assign (hF1178.get rfl)) ?_)
        intro a1179 hF1180; clear hF1178
        refine wpl_op (i := 8) rfl (o_val (v := (.int .i64 e1163)) hF1180 rfl rfl rfl rfl (rn_assign (hF1180.get rfl)) ?_)
        intro a1181 hF1182; clear hF1180
        refine wpList_nil ?_
        refine hK1150 _ _ ?_
        clear hK1150
        have hF1183 := ((((((((((((((((((((((hF1182.nil.cons (hF1182.get (t := 17) (v := (.int .i64 e1163)) rfl)).cons (hF1182.get (t := 16) (v := (.slice A1159 m1160 c1161)) rfl)).cons (hF1182.get (t := 15) (v := (.int .i64 e1129)) rfl)).cons (hF1182.get (t := 14) (v := (.slice A1125 m1126 c1127)) rfl)).cons (hF1182.get (t := 13) (v := (.int .i64 e1095)) rfl)).cons (hF1182.get (t := 12) (v := (.slice A1091 m1092 c1093)) rfl)).cons (hF1182.get (t := 11) (v := (.int .i64 (([(v : Int), ((andI (v) (15)) : Int)]).getD k 0))) rfl)).cons (hF1182.get (t := 65) (v := (.bool (decide (((k : Nat) : Int) < (2 : Int))))) rfl)).cons (hF1182.get (t := 64) (v := (.int .i64 (k : Nat))) rfl)).cons (hF1182.get (t := 63) (v := (.int .i64 2)) rfl)).cons (hF1182.get (t := 62) (v := (.slice (some ⟨g42, 0, none⟩) 2 2)) rfl)).cons (hF1182.get (t := 45) (v := (.bool false)) rfl)).cons (hF1182.get (t := 9) (v := (.int .i64 er63)) rfl)).cons (hF1182.get (t := 8) (v := (.slice A59 m60 c61)) rfl)).cons (hF1182.get (t := 7) (v := (.slice (some ⟨g42, 0, none⟩) 2 2)) rfl)).cons (hF1182.get (t := 24) (v := (.bool (!(few n l)))) rfl)).cons (hF1182.get (t := 21) (v := (.bool false)) rfl)).cons (hF1182.get (t := 6) (v := (.bool false)) rfl)).cons (hF1182.get (t := 3) (v := (.pointer (some ⟨g2, 0, none⟩))) rfl)).cons (hF1182.get (t := 2) (v := (.int .i64 v)) rfl)).cons (hF1182.get (t := 1) (v := (.int .i64 a)) rfl)).cons (hF1182.get (t := 0) (v := (.agg #[(.int .i64 n), (.slice A l.length c)])) rfl))
        clear hF1182
        refine wp_seq_k (fun K1184 hK1184 => ?_)
        refine wp_region_lit ?_
        have b1185 : Blk w1167 g2 24 [(.int .i64 n), (.slice A l.length c)] := (b1151.ext hx1168)
        refine wpl_op (i := 0) rfl (o_val (v := (.agg #[(.int .i64 n), (.slice A l.length c)])) hF1183 rfl rfl rfl rfl (rn_loadBlk (hF1183.get rfl) b1185 Try.underlying24 rfl (by kernel_rfl : (Try.prog.info? 24).map (·.size) = some 2)) ?_)
        intro a1186 hF1187; clear hF1183
        refine wpl_op (i := 1) rfl (o_val (v := (.int .i64 a)) hF1187 rfl rfl rfl rfl (rn_move (hF1187.get rfl)) ?_)
        intro a1188 hF1189; clear hF1187
        refine wpl_op (i := 2) rfl (o_val (v := (.int .i64 (([(v : Int), ((andI (v) (15)) : Int)]).getD k 0))) hF1189 rfl rfl rfl rfl (rn_move (hF1189.get rfl)) ?_)
        intro a1190 hF1191; clear hF1189
        have d1192 := ((((hc.ext hx1059).ext hx1100).ext hx1134).ext hx1168)
        refine wpl_op (i := 3) rfl (o_call hF1191 rfl rfl rfl rfl (rn_call (args3 (hF1191.get rfl) (hF1191.get rfl) (hF1191.get rfl)) rfl (by kernel_rfl)) (rleast_at (v := (.slice A l.length c)) n l a (([(v : Int), ((andI (v) (15)) : Int)]).getD k 0) _ d1192 (fun _ => ⟨by omega, by omega⟩)) ?_)
        rintro _ w1201 ⟨A1193, m1194, c1195, r1196, e1197, rfl, hf1198, hs1199, hx1202⟩
        have z1200 := Fl.ilen hf1198
        refine ⟨_, rfl, ?_⟩; intro a1203 hF1204; clear hF1191; have z1205 := hx1202.size
        have hf1206 : Fl (Clip (fun b => w1167.heap.size ≤ b) w1201) w1201 1 (.slice A1193 m1194 c1195) m1194 (intVals r1196) := hf1198.clip
        refine wpl_op (i := 4) rfl (o_val (v := (.tuple #[(.slice A1193 m1194 c1195), (.int .i64 e1197)])) hF1204 rfl rfl rfl rfl (rn_move (hF1204.get rfl)) ?_)
        intro a1207 hF1208; clear hF1204
        refine wpl_op (i := 5) rfl (o_val (v := (.slice A1193 m1194 c1195)) hF1208 rfl rfl rfl rfl (rn_extract (hF1208.get rfl) rfl) ?_)
        intro a1209 hF1210; clear hF1208
        refine wpl_op (i := 6) rfl (o_val (v := (.int .i64 e1197)) hF1210 rfl rfl rfl rfl (rn_extract (hF1210.get rfl) rfl) ?_)
        intro a1211 hF1212; clear hF1210
        refine wpl_op (i := 7) rfl (o_val (v := (.slice A1193 m1194 c1195)) hF1212 rfl rfl rfl rfl (rn_assign (hF1212.get rfl)) ?_)
        intro a1213 hF1214; clear hF1212
        refine wpl_op (i := 8) rfl (o_val (v := (.int .i64 e1197)) hF1214 rfl rfl rfl rfl (rn_assign (hF1214.get rfl)) ?_)
        intro a1215 hF1216; clear hF1214
        refine wpList_nil ?_
        refine hK1184 _ _ ?_
        clear hK1184
        have hF1217 := ((((((((((((((((((((((((hF1216.nil.cons (hF1216.get (t := 19) (v := (.int .i64 e1197)) rfl)).cons (hF1216.get (t := 18) (v := (.slice A1193 m1194 c1195)) rfl)).cons (hF1216.get (t := 17) (v := (.int .i64 e1163)) rfl)).cons (hF1216.get (t := 16) (v := (.slice A1159 m1160 c1161)) rfl)).cons (hF1216.get (t := 15) (v := (.int .i64 e1129)) rfl)).cons (hF1216.get (t := 14) (v := (.slice A1125 m1126 c1127)) rfl)).cons (hF1216.get (t := 13) (v := (.int .i64 e1095)) rfl)).cons (hF1216.get (t := 12) (v := (.slice A1091 m1092 c1093)) rfl)).cons (hF1216.get (t := 11) (v := (.int .i64 (([(v : Int), ((andI (v) (15)) : Int)]).getD k 0))) rfl)).cons (hF1216.get (t := 65) (v := (.bool (decide (((k : Nat) : Int) < (2 : Int))))) rfl)).cons (hF1216.get (t := 64) (v := (.int .i64 (k : Nat))) rfl)).cons (hF1216.get (t := 63) (v := (.int .i64 2)) rfl)).cons (hF1216.get (t := 62) (v := (.slice (some ⟨g42, 0, none⟩) 2 2)) rfl)).cons (hF1216.get (t := 45) (v := (.bool false)) rfl)).cons (hF1216.get (t := 9) (v := (.int .i64 er63)) rfl)).cons (hF1216.get (t := 8) (v := (.slice A59 m60 c61)) rfl)).cons (hF1216.get (t := 7) (v := (.slice (some ⟨g42, 0, none⟩) 2 2)) rfl)).cons (hF1216.get (t := 24) (v := (.bool (!(few n l)))) rfl)).cons (hF1216.get (t := 21) (v := (.bool false)) rfl)).cons (hF1216.get (t := 6) (v := (.bool false)) rfl)).cons (hF1216.get (t := 3) (v := (.pointer (some ⟨g2, 0, none⟩))) rfl)).cons (hF1216.get (t := 2) (v := (.int .i64 v)) rfl)).cons (hF1216.get (t := 1) (v := (.int .i64 a)) rfl)).cons (hF1216.get (t := 0) (v := (.agg #[(.int .i64 n), (.slice A l.length c)])) rfl))
        clear hF1216
        refine wp_seq_k (fun K1218 hK1218 => ?_)
        have hu1 := hs1097.unique hs1131; have hu2 := hs1165.unique hs1199
        have hu3 := hu1.2; have hu4 := hu2.2
        refine wp_region_lit ?_
        refine wpl_op (i := 0) rfl (o_val (v := (.slice A1091 m1092 c1093)) hF1217 rfl rfl rfl rfl (rn_move (hF1217.get rfl)) ?_)
        intro a1219 hF1220; clear hF1217
        refine wpl_op (i := 1) rfl (o_val (v := (.slice A1125 m1126 c1127)) hF1220 rfl rfl rfl rfl (rn_move (hF1220.get rfl)) ?_)
        intro a1221 hF1222; clear hF1220
        have d1223 := (((hf1104.ext hx1134).ext hx1168).ext hx1202)
        have d1224 := ((hf1138.ext hx1168).ext hx1202)
        refine wpl_op (i := 2) rfl (o_call hF1222 rfl rfl rfl rfl (rn_call (args2 (hF1222.get rfl) (hF1222.get rfl)) rfl (by kernel_rfl)) (same_at (u := (.slice A1091 m1092 c1093)) (v := (.slice A1125 m1126 c1127)) r1094 r1128 _ d1223 d1224) ?_)
        rintro _ w1225 ⟨rfl, hx1226⟩
        refine ⟨_, rfl, ?_⟩; intro a1227 hF1228; clear hF1222; have z1229 := hx1226.size
        refine wpl_op (i := 3) rfl (o_val (v := (.bool (!(decide (r1094 = r1128))))) hF1228 rfl rfl rfl rfl (rn_not' (hF1228.get rfl) rfl) ?_)
        intro a1230 hF1231; clear hF1228
        refine wpl_op (i := 4) rfl (o_val (v := (.bool (!(decide (r1094 = r1128))))) hF1231 rfl rfl rfl rfl (rn_move (hF1231.get rfl)) ?_)
        intro a1232 hF1233; clear hF1231
        refine wpl_op (i := 5) rfl (o_val (v := (.int .i64 e1095)) hF1233 rfl (wanted_guard rfl rfl rfl hF1233 rfl (not_t (decide_eq_true hu1.1 : decide (r1094 = r1128) = true)) rfl) rfl rfl (rn_move (hF1233.get rfl)) ?_)
        intro a1235 hF1236; clear hF1233
        refine wpl_op (i := 6) rfl (o_val (v := (.int .i64 e1129)) hF1236 rfl (wanted_guard rfl rfl rfl hF1236 rfl (not_t (decide_eq_true hu1.1 : decide (r1094 = r1128) = true)) rfl) rfl rfl (rn_move (hF1236.get rfl)) ?_)
        intro a1237 hF1238; clear hF1236
        refine wpl_op (i := 7) rfl (o_val (v := (.bool (decide ((e1095 : Int) ≠ (e1129 : Int))))) hF1238 rfl (wanted_guard rfl rfl rfl hF1238 rfl (not_t (decide_eq_true hu1.1 : decide (r1094 = r1128) = true)) rfl) rfl rfl (rn_neq (hF1238.get rfl) (hF1238.get rfl)) ?_)
        intro a1239 hF1240; clear hF1238
        refine wpl_op (i := 8) rfl (o_val (v := (.bool (decide ((e1095 : Int) ≠ (e1129 : Int))))) hF1240 rfl rfl rfl rfl (rn_pickF (c_false hF1240 rfl (not_t (decide_eq_true hu1.1 : decide (r1094 = r1128) = true))) (hF1240.get rfl)) ?_)
        intro a1241 hF1242; clear hF1240
        refine wpl_op (i := 9) rfl (o_val (v := (.bool (decide ((e1095 : Int) ≠ (e1129 : Int))))) hF1242 rfl rfl rfl rfl (rn_move (hF1242.get rfl)) ?_)
        intro a1243 hF1244; clear hF1242
        by_cases hc1245 : (e1095 : Int) ≠ (e1129 : Int)
        · skip
          refine wpl_op (i := 10) rfl (o_skip hF1244 rfl (unwanted_guard rfl rfl rfl hF1244 rfl (decide_eq_true hc1245) rfl) rfl rfl ?_)
          intro a1246 hF1247; clear hF1244
          refine wpl_op (i := 11) rfl (o_skip hF1247 rfl (unwanted_guard rfl rfl rfl hF1247 rfl (decide_eq_true hc1245) rfl) rfl rfl ?_)
          intro a1248 hF1249; clear hF1247
          refine wpl_op (i := 12) rfl (o_skip hF1249 rfl (unwanted_guard rfl rfl rfl hF1249 rfl (decide_eq_true hc1245) rfl) rfl rfl ?_)
          intro a1250 hF1251; clear hF1249
          refine wpl_op (i := 13) rfl (o_skip hF1251 rfl (unwanted_guard rfl rfl rfl hF1251 rfl (decide_eq_true hc1245) rfl) rfl rfl ?_)
          intro a1252 hF1253; clear hF1251
          refine wpl_op (i := 14) rfl (o_val (v := (.bool true)) hF1253 rfl rfl rfl rfl (rn_pickT (c_true hF1253 rfl (decide_eq_true hc1245)) rfl) ?_)
          intro a1254 hF1255; clear hF1253
          refine wpl_op (i := 15) rfl (o_val (v := (.bool true)) hF1255 rfl rfl rfl rfl (rn_move (hF1255.get rfl)) ?_)
          intro a1256 hF1257; clear hF1255
          refine wpl_op (i := 16) rfl (o_skip hF1257 rfl (unwanted_guard rfl rfl rfl hF1257 rfl rfl rfl) rfl rfl ?_)
          intro a1258 hF1259; clear hF1257
          refine wpl_op (i := 17) rfl (o_skip hF1259 rfl (unwanted_guard rfl rfl rfl hF1259 rfl rfl rfl) rfl rfl ?_)
          intro a1260 hF1261; clear hF1259
          refine wpl_op (i := 18) rfl (o_skip hF1261 rfl (unwanted_guard rfl rfl rfl hF1261 rfl rfl rfl) rfl rfl ?_)
          intro a1262 hF1263; clear hF1261
          refine wpl_op (i := 19) rfl (o_val (v := (.bool true)) hF1263 rfl rfl rfl rfl (rn_pickT (c_true hF1263 rfl rfl) rfl) ?_)
          intro a1264 hF1265; clear hF1263
          refine wpList_nil ?_
          refine hK1218 _ _ ?_
          clear hK1218
          have hF1266 := (((((((((((((((((((((((((hF1265.nil.cons (hF1265.get (t := 115) (v := (.bool true)) rfl)).cons (hF1265.get (t := 19) (v := (.int .i64 e1197)) rfl)).cons (hF1265.get (t := 18) (v := (.slice A1193 m1194 c1195)) rfl)).cons (hF1265.get (t := 17) (v := (.int .i64 e1163)) rfl)).cons (hF1265.get (t := 16) (v := (.slice A1159 m1160 c1161)) rfl)).cons (hF1265.get (t := 15) (v := (.int .i64 e1129)) rfl)).cons (hF1265.get (t := 14) (v := (.slice A1125 m1126 c1127)) rfl)).cons (hF1265.get (t := 13) (v := (.int .i64 e1095)) rfl)).cons (hF1265.get (t := 12) (v := (.slice A1091 m1092 c1093)) rfl)).cons (hF1265.get (t := 11) (v := (.int .i64 (([(v : Int), ((andI (v) (15)) : Int)]).getD k 0))) rfl)).cons (hF1265.get (t := 65) (v := (.bool (decide (((k : Nat) : Int) < (2 : Int))))) rfl)).cons (hF1265.get (t := 64) (v := (.int .i64 (k : Nat))) rfl)).cons (hF1265.get (t := 63) (v := (.int .i64 2)) rfl)).cons (hF1265.get (t := 62) (v := (.slice (some ⟨g42, 0, none⟩) 2 2)) rfl)).cons (hF1265.get (t := 45) (v := (.bool false)) rfl)).cons (hF1265.get (t := 9) (v := (.int .i64 er63)) rfl)).cons (hF1265.get (t := 8) (v := (.slice A59 m60 c61)) rfl)).cons (hF1265.get (t := 7) (v := (.slice (some ⟨g42, 0, none⟩) 2 2)) rfl)).cons (hF1265.get (t := 24) (v := (.bool (!(few n l)))) rfl)).cons (hF1265.get (t := 21) (v := (.bool false)) rfl)).cons (hF1265.get (t := 6) (v := (.bool false)) rfl)).cons (hF1265.get (t := 3) (v := (.pointer (some ⟨g2, 0, none⟩))) rfl)).cons (hF1265.get (t := 2) (v := (.int .i64 v)) rfl)).cons (hF1265.get (t := 1) (v := (.int .i64 a)) rfl)).cons (hF1265.get (t := 0) (v := (.agg #[(.int .i64 n), (.slice A l.length c)])) rfl))
          clear hF1265
          refine wp_cond_true (c_true hF1266 rfl rfl) ?_
          refine wp_seq_k (fun K1267 hK1267 => ?_)
          refine wp_region_lit ?_
          refine wpl_op (i := 0) rfl (o_val (v := (.bool false)) hF1266 rfl rfl rfl rfl (rn_assign rfl) ?_)
          intro a1268 hF1269; clear hF1266
          refine wpList_nil ?_
          refine hK1267 _ _ ?_
          clear hK1267
          refine wp_ret ?_
          refine ret_block ?_
          refine ret_then ?_
          refine ret_then ?_
          refine ret_block ?_
          refine ret_then ?_
          refine ret1 hF1269 rfl rfl ?_
          exfalso; omega
        · skip
          refine wpl_op (i := 10) rfl (o_val (v := (.slice A1159 m1160 c1161)) hF1244 rfl (wanted_guard rfl rfl rfl hF1244 rfl (decide_eq_false hc1245) rfl) rfl rfl (rn_move (hF1244.get rfl)) ?_)
          intro a1270 hF1271; clear hF1244
          refine wpl_op (i := 11) rfl (o_val (v := (.slice A1193 m1194 c1195)) hF1271 rfl (wanted_guard rfl rfl rfl hF1271 rfl (decide_eq_false hc1245) rfl) rfl rfl (rn_move (hF1271.get rfl)) ?_)
          intro a1272 hF1273; clear hF1271
          have d1274 := ((hf1172.ext hx1202).ext hx1226)
          have d1275 := (hf1206.ext hx1226)
          refine wpl_op (i := 12) rfl (o_call hF1273 rfl (wanted_guard rfl rfl rfl hF1273 rfl (decide_eq_false hc1245) rfl) rfl rfl (rn_call (args2 (hF1273.get rfl) (hF1273.get rfl)) rfl (by kernel_rfl)) (same_at (u := (.slice A1159 m1160 c1161)) (v := (.slice A1193 m1194 c1195)) r1162 r1196 _ d1274 d1275) ?_)
          rintro _ w1276 ⟨rfl, hx1277⟩
          refine ⟨_, rfl, ?_⟩; intro a1278 hF1279; clear hF1273; have z1280 := hx1277.size
          refine wpl_op (i := 13) rfl (o_val (v := (.bool (!(decide (r1162 = r1196))))) hF1279 rfl (wanted_guard rfl rfl rfl hF1279 rfl (decide_eq_false hc1245) rfl) rfl rfl (rn_not' (hF1279.get rfl) rfl) ?_)
          intro a1281 hF1282; clear hF1279
          refine wpl_op (i := 14) rfl (o_val (v := (.bool (!(decide (r1162 = r1196))))) hF1282 rfl rfl rfl rfl (rn_pickF (c_false hF1282 rfl (decide_eq_false hc1245)) (hF1282.get rfl)) ?_)
          intro a1283 hF1284; clear hF1282
          refine wpl_op (i := 15) rfl (o_val (v := (.bool (!(decide (r1162 = r1196))))) hF1284 rfl rfl rfl rfl (rn_move (hF1284.get rfl)) ?_)
          intro a1285 hF1286; clear hF1284
          refine wpl_op (i := 16) rfl (o_val (v := (.int .i64 e1163)) hF1286 rfl (wanted_guard rfl rfl rfl hF1286 rfl (not_t (decide_eq_true hu2.1 : decide (r1162 = r1196) = true)) rfl) rfl rfl (rn_move (hF1286.get rfl)) ?_)
          intro a1288 hF1289; clear hF1286
          refine wpl_op (i := 17) rfl (o_val (v := (.int .i64 e1197)) hF1289 rfl (wanted_guard rfl rfl rfl hF1289 rfl (not_t (decide_eq_true hu2.1 : decide (r1162 = r1196) = true)) rfl) rfl rfl (rn_move (hF1289.get rfl)) ?_)
          intro a1290 hF1291; clear hF1289
          refine wpl_op (i := 18) rfl (o_val (v := (.bool (decide ((e1163 : Int) ≠ (e1197 : Int))))) hF1291 rfl (wanted_guard rfl rfl rfl hF1291 rfl (not_t (decide_eq_true hu2.1 : decide (r1162 = r1196) = true)) rfl) rfl rfl (rn_neq (hF1291.get rfl) (hF1291.get rfl)) ?_)
          intro a1292 hF1293; clear hF1291
          refine wpl_op (i := 19) rfl (o_val (v := (.bool (decide ((e1163 : Int) ≠ (e1197 : Int))))) hF1293 rfl rfl rfl rfl (rn_pickF (c_false hF1293 rfl (not_t (decide_eq_true hu2.1 : decide (r1162 = r1196) = true))) (hF1293.get rfl)) ?_)
          intro a1294 hF1295; clear hF1293
          refine wpList_nil ?_
          refine hK1218 _ _ ?_
          clear hK1218
          have hF1296 := (((((((((((((((((((((((((hF1295.nil.cons (hF1295.get (t := 115) (v := (.bool (decide ((e1163 : Int) ≠ (e1197 : Int))))) rfl)).cons (hF1295.get (t := 19) (v := (.int .i64 e1197)) rfl)).cons (hF1295.get (t := 18) (v := (.slice A1193 m1194 c1195)) rfl)).cons (hF1295.get (t := 17) (v := (.int .i64 e1163)) rfl)).cons (hF1295.get (t := 16) (v := (.slice A1159 m1160 c1161)) rfl)).cons (hF1295.get (t := 15) (v := (.int .i64 e1129)) rfl)).cons (hF1295.get (t := 14) (v := (.slice A1125 m1126 c1127)) rfl)).cons (hF1295.get (t := 13) (v := (.int .i64 e1095)) rfl)).cons (hF1295.get (t := 12) (v := (.slice A1091 m1092 c1093)) rfl)).cons (hF1295.get (t := 11) (v := (.int .i64 (([(v : Int), ((andI (v) (15)) : Int)]).getD k 0))) rfl)).cons (hF1295.get (t := 65) (v := (.bool (decide (((k : Nat) : Int) < (2 : Int))))) rfl)).cons (hF1295.get (t := 64) (v := (.int .i64 (k : Nat))) rfl)).cons (hF1295.get (t := 63) (v := (.int .i64 2)) rfl)).cons (hF1295.get (t := 62) (v := (.slice (some ⟨g42, 0, none⟩) 2 2)) rfl)).cons (hF1295.get (t := 45) (v := (.bool false)) rfl)).cons (hF1295.get (t := 9) (v := (.int .i64 er63)) rfl)).cons (hF1295.get (t := 8) (v := (.slice A59 m60 c61)) rfl)).cons (hF1295.get (t := 7) (v := (.slice (some ⟨g42, 0, none⟩) 2 2)) rfl)).cons (hF1295.get (t := 24) (v := (.bool (!(few n l)))) rfl)).cons (hF1295.get (t := 21) (v := (.bool false)) rfl)).cons (hF1295.get (t := 6) (v := (.bool false)) rfl)).cons (hF1295.get (t := 3) (v := (.pointer (some ⟨g2, 0, none⟩))) rfl)).cons (hF1295.get (t := 2) (v := (.int .i64 v)) rfl)).cons (hF1295.get (t := 1) (v := (.int .i64 a)) rfl)).cons (hF1295.get (t := 0) (v := (.agg #[(.int .i64 n), (.slice A l.length c)])) rfl))
          clear hF1295
          by_cases hc1297 : (e1163 : Int) ≠ (e1197 : Int)
          · skip
            refine wp_cond_true (c_true hF1296 rfl (decide_eq_true hc1297)) ?_
            refine wp_seq_k (fun K1298 hK1298 => ?_)
            refine wp_region_lit ?_
            refine wpl_op (i := 0) rfl (o_val (v := (.bool false)) hF1296 rfl rfl rfl rfl (rn_assign rfl) ?_)
            intro a1299 hF1300; clear hF1296
            refine wpList_nil ?_
            refine hK1298 _ _ ?_
            clear hK1298
            refine wp_ret ?_
            refine ret_block ?_
            refine ret_then ?_
            refine ret_then ?_
            refine ret_block ?_
            refine ret_then ?_
            refine ret1 hF1300 rfl rfl ?_
            exfalso; omega
          · skip
            refine wp_cond_false (c_false hF1296 rfl (decide_eq_false hc1297)) ?_
            refine wp_skip ?_
            refine hK1075 _ _ ?_
            clear hK1075
            refine wp_region_lit ?_
            refine wpl_op (i := 0) rfl (o_val (v := (.int .i64 (k + 1 : Nat))) hF1296 rfl rfl rfl rfl (rn_addN (a := k) (b := 1) (hF1296.get rfl) rfl (by omega)) ?_)
            intro a1301 hF1302; clear hF1296
            refine wpl_op (i := 1) rfl (o_val (v := (.int .i64 (k + 1 : Nat))) hF1302 rfl rfl rfl rfl (rn_move (hF1302.get rfl)) ?_)
            intro a1303 hF1304; clear hF1302
            refine wpList_nil ?_
            have d1305 := ((((((hf1063.ext hx1100).ext hx1134).ext hx1168).ext hx1202).ext hx1226).ext hx1277)
            have d1306 := ((((((hf1064.ext hx1100).ext hx1134).ext hx1168).ext hx1202).ext hx1226).ext hx1277)
            have b1307 : Blk w1276 g2 24 [(.int .i64 n), (.slice A l.length c)] := (((b1185.ext hx1202).ext hx1226).ext hx1277)
            have b1308 : Blk w1276 g42 3 (intVals [(v : Int), ((andI (v) (15)) : Int)]) := ((((((b1062.ext hx1100).ext hx1134).ext hx1168).ext hx1202).ext hx1226).ext hx1277)
            refine ⟨⟨(k + 1), ((((((((((((((hF1304.nil.cons (q_get hF1304 (t := 64) rfl (by first | rfl | (congr 1; omega) | (congr 1; done)))).cons (q_get hF1304 (t := 63) rfl rfl)).cons (q_get hF1304 (t := 62) rfl rfl)).cons (q_get hF1304 (t := 45) rfl rfl)).cons (q_get hF1304 (t := 9) rfl rfl)).cons (q_get hF1304 (t := 8) rfl rfl)).cons (q_get hF1304 (t := 7) rfl rfl)).cons (q_get hF1304 (t := 24) rfl rfl)).cons (q_get hF1304 (t := 21) rfl rfl)).cons (q_get hF1304 (t := 6) rfl rfl)).cons (q_get hF1304 (t := 3) rfl rfl)).cons (q_get hF1304 (t := 2) rfl rfl)).cons (q_get hF1304 (t := 1) rfl rfl)).cons (q_get hF1304 (t := 0) rfl rfl)), (by omega), ((((((((Ext.refl w).trans hx1059).trans hx1100).trans hx1134).trans hx1168).trans hx1202).trans hx1226).trans hx1277), b1307, b1308, d1305, d1306, (by omega)⟩, ?_⟩
            rw [hF1304.get (t := 64) rfl, hL1066.get (t := 64) rfl]; simp [intOf] <;> omega
      · skip
        refine wp_cond_false (c_false hF1072 rfl (decide_eq_false hc1074)) ?_
        refine wp_exit ?_
        refine exit_then ?_
        refine exit_then ?_
        refine exit_here ?_
        refine hK1044 _ _ ?_
        clear hK1044
        refine wp_seq_k (fun K1309 hK1309 => ?_)
        refine wp_region_lit ?_
        refine wpl_op (i := 0) rfl (o_val (v := (.bool true)) hF1072 rfl rfl rfl rfl (rn_assign rfl) ?_)
        intro a1310 hF1311; clear hF1072
        refine wpList_nil ?_
        refine hK1309 _ _ ?_
        clear hK1309
        refine wp_ret ?_
        refine ret1 hF1311 rfl rfl ?_
        exact ⟨rfl, ((Ext.refl w).trans hx1059)⟩
  · skip
    refine wp_cond_true (c_true hF33 rfl (not_f hc34)) ?_
    refine wp_seq_k (fun K1312 hK1312 => ?_)
    refine wp_region_lit ?_
    refine wpl_op (i := 0) rfl (o_val (v := (.bool true)) hF33 rfl rfl rfl rfl (rn_assign rfl) ?_)
    intro a1313 hF1314; clear hF33
    refine wpList_nil ?_
    refine hK1312 _ _ ?_
    clear hK1312
    refine wp_ret ?_
    refine ret_then ?_
    refine ret1 hF1314 rfl rfl ?_
    exact ⟨rfl, ((((Ext.refl w).trans hx5).trans hx15).trans hx28)⟩

end Go.Proofs.Ytjmdodgmoehfkaa
