/- The law BoundsFarSpec, walked. -/
import Derived.Test.YtjmdodgmoehfkaaProg
import Derived.Test.YtjmdodgmoehfkaaBndS
import Derived.KernelRfl
namespace Go.Proofs.Ytjmdodgmoehfkaa
open Go.RowKit

variable {S S' : Nat → Prop}

set_option maxRecDepth 100000 in
set_option maxHeartbeats 1000000 in
theorem farspec_any (A : Option Addr) (c : Nat) (n : Int) (l : List E3) (w : World) (hf : Fl S w 3 (.slice A l.length c) l.length (edVals l)) :
    Calls Try.prog 4 #[.agg #[.int .i64 n, .slice A l.length c]] w (fun e w' => e = .returned (.bool true) ∧ Ext w w') := by
  have hc : Fl (Clip S w) w 3 (.slice A l.length c) l.length (edVals l) := hf.clip
  have hcc := (Fl.cel hc).2.1
  refine calls_enter (l := [(.agg #[(.int .i64 n), (.slice A l.length c)])]) Try.func4 rfl rfl rfl (fun aA hF => ?_)
  refine wp_seq_k (fun K1 hK1 => ?_)
  refine wp_region_lit ?_
  refine wpl_op (i := 0) rfl (o_new (fun g => (.pointer (some ⟨g, 0, none⟩))) [(.int .i64 n), (.slice A l.length c)] 24 hF rfl rfl rfl rfl (rn_box (hF.get rfl) (by kernel_rfl)) ?_)
  intro g2 w3 a8 hF9 z6 z7 b4 hx5; clear hF
  refine wpl_op (i := 1) rfl (o_val (v := (.bool false)) hF9 rfl rfl rfl rfl (rn_assign rfl) ?_)
  intro a10 hF11; clear hF9
  refine wpList_nil ?_
  refine hK1 _ _ ?_
  clear hK1
  refine wp_seq_k (fun K12 hK12 => ?_)
  refine wp_seq_k (fun K13 hK13 => ?_)
  refine wp_region_lit ?_
  refine wpl_op (i := 0) rfl (o_call hF11 rfl rfl rfl rfl (rn_call (args0 ) rfl (by kernel_rfl)) (sane_any _) ?_)
  rintro _ w14 ⟨rfl, hx15⟩
  refine ⟨_, rfl, ?_⟩; intro a16 hF17; clear hF11; have z18 := hx15.size
  refine wpl_op (i := 1) rfl (o_val (v := (.bool false)) hF17 rfl rfl rfl rfl (rn_not' (hF17.get rfl) rfl) ?_)
  intro a19 hF20; clear hF17
  refine wpList_nil ?_
  refine hK13 _ _ ?_
  clear hK13
  refine wp_cond_false (c_false hF20 rfl rfl) ?_
  refine wp_skip ?_
  refine hK12 _ _ ?_
  clear hK12
  refine wp_seq_k (fun K21 hK21 => ?_)
  refine wp_seq_k (fun K22 hK22 => ?_)
  refine wp_region_lit ?_
  have b23 : Blk w14 g2 24 [(.int .i64 n), (.slice A l.length c)] := (b4.ext hx15)
  refine wpl_op (i := 0) rfl (o_val (v := (.agg #[(.int .i64 n), (.slice A l.length c)])) hF20 rfl rfl rfl rfl (rn_loadBlk (hF20.get rfl) b23 Try.underlying24 rfl (by kernel_rfl : (Try.prog.info? 24).map (·.size) = some 2)) ?_)
  intro a24 hF25; clear hF20
  have d26 := ((hc.ext hx5).ext hx15)
  refine wpl_op (i := 1) rfl (o_call hF25 rfl rfl rfl rfl (rn_call (args1 (hF25.get rfl)) rfl (by kernel_rfl)) (few_at (v := (.slice A l.length c)) n l _ d26) ?_)
  rintro _ w27 ⟨rfl, hx28⟩
  refine ⟨_, rfl, ?_⟩; intro a29 hF30; clear hF25; have z31 := hx28.size
  refine wpl_op (i := 2) rfl (o_val (v := (.bool (!(few n l)))) hF30 rfl rfl rfl rfl (rn_not' (hF30.get rfl) rfl) ?_)
  intro a32 hF33; clear hF30
  refine wpList_nil ?_
  refine hK22 _ _ ?_
  clear hK22
  rcases Bool.eq_false_or_eq_true (few n l) with hc34 | hc34
  · skip
    refine wp_cond_false (c_false hF33 rfl (not_t hc34)) ?_
    refine wp_skip ?_
    refine hK21 _ _ ?_
    clear hK21
    refine wp_seq_k (fun K35 hK35 => ?_)
    have hfw : n ≤ 8 ∧ l.length ≤ 30 := of_decide_eq_true (show decide _ = true from hc34)
    refine wp_region_lit ?_
    have b36 : Blk w27 g2 24 [(.int .i64 n), (.slice A l.length c)] := (b23.ext hx28)
    refine wpl_op (i := 0) rfl (o_val (v := (.agg #[(.int .i64 n), (.slice A l.length c)])) hF33 rfl rfl rfl rfl (rn_loadBlk (hF33.get rfl) b36 Try.underlying24 rfl (by kernel_rfl : (Try.prog.info? 24).map (·.size) = some 2)) ?_)
    intro a37 hF38; clear hF33
    have d39 := (((hc.ext hx5).ext hx15).ext hx28)
    refine wpl_op (i := 1) rfl (o_call hF38 rfl rfl rfl rfl (rn_call (args1 (hF38.get rfl)) rfl (by kernel_rfl)) (far_at (v := (.slice A l.length c)) n l _ d39 (fun _ => ⟨by omega, by omega⟩)) ?_)
    rintro _ w54 ⟨A40, m41, c42, t43, B44, k45, c46, cyc47, er48, rfl, ht49, hf50, hfar51, hx55⟩
    have z52 := RIss.len ht49
    have z53 := Fl.ilen hf50
    refine ⟨_, rfl, ?_⟩; intro a56 hF57; clear hF38; have z58 := hx55.size
    have hf59 : RIss (Clip (fun b => w27.heap.size ≤ b) w54) w54 (.slice A40 m41 c42) t43 := ht49.clip
    have hf60 : Fl (Clip (fun b => w27.heap.size ≤ b) w54) w54 1 (.slice B44 k45 c46) k45 (intVals cyc47) := hf50.clip
    refine wpl_op (i := 2) rfl (o_val (v := (.tuple #[(.slice A40 m41 c42), (.slice B44 k45 c46), (.int .i64 er48)])) hF57 rfl rfl rfl rfl (rn_move (hF57.get rfl)) ?_)
    intro a61 hF62; clear hF57
    refine wpl_op (i := 3) rfl (o_val (v := (.slice A40 m41 c42)) hF62 rfl rfl rfl rfl (rn_extract (hF62.get rfl) rfl) ?_)
    intro a63 hF64; clear hF62
    refine wpl_op (i := 4) rfl (o_val (v := (.slice B44 k45 c46)) hF64 rfl rfl rfl rfl (rn_extract (hF64.get rfl) rfl) ?_)
    intro a65 hF66; clear hF64
    refine wpl_op (i := 5) rfl (o_val (v := (.int .i64 er48)) hF66 rfl rfl rfl rfl (rn_extract (hF66.get rfl) rfl) ?_)
    intro a67 hF68; clear hF66
    refine wpl_op (i := 6) rfl (o_val (v := (.slice A40 m41 c42)) hF68 rfl rfl rfl rfl (rn_assign (hF68.get rfl)) ?_)
    intro a69 hF70; clear hF68
    refine wpl_op (i := 7) rfl (o_val (v := (.slice B44 k45 c46)) hF70 rfl rfl rfl rfl (rn_assign (hF70.get rfl)) ?_)
    intro a71 hF72; clear hF70
    refine wpl_op (i := 8) rfl (o_val (v := (.int .i64 er48)) hF72 rfl rfl rfl rfl (rn_assign (hF72.get rfl)) ?_)
    intro a73 hF74; clear hF72
    refine wpList_nil ?_
    refine hK35 _ _ ?_
    clear hK35
    have hF75 := ((((((((hF74.nil.cons (hF74.get (t := 5) (v := (.int .i64 er48)) rfl)).cons (hF74.get (t := 4) (v := (.slice B44 k45 c46)) rfl)).cons (hF74.get (t := 3) (v := (.slice A40 m41 c42)) rfl)).cons (hF74.get (t := 12) (v := (.bool (!(few n l)))) rfl)).cons (hF74.get (t := 9) (v := (.bool false)) rfl)).cons (hF74.get (t := 2) (v := (.bool false)) rfl)).cons (hF74.get (t := 1) (v := (.pointer (some ⟨g2, 0, none⟩))) rfl)).cons (hF74.get (t := 0) (v := (.agg #[(.int .i64 n), (.slice A l.length c)])) rfl))
    clear hF74
    refine wp_seq_k (fun K76 hK76 => ?_)
    refine wp_region_lit ?_
    have b77 : Blk w54 g2 24 [(.int .i64 n), (.slice A l.length c)] := (b36.ext hx55)
    refine wpl_op (i := 0) rfl (o_val (v := (.agg #[(.int .i64 n), (.slice A l.length c)])) hF75 rfl rfl rfl rfl (rn_loadBlk (hF75.get rfl) b77 Try.underlying24 rfl (by kernel_rfl : (Try.prog.info? 24).map (·.size) = some 2)) ?_)
    intro a78 hF79; clear hF75
    have d80 := ((((hc.ext hx5).ext hx15).ext hx28).ext hx55)
    refine wpl_op (i := 1) rfl (o_call hF79 rfl rfl rfl rfl (rn_call (args1 (hF79.get rfl)) rfl (by kernel_rfl)) (rfar_at (v := (.slice A l.length c)) n l _ d80 (fun _ => ⟨by omega, by omega⟩)) ?_)
    rintro _ w89 ⟨A81, m82, c83, t84, er85, rfl, ht86, hfar87, hx90⟩
    have z88 := RIss.len ht86
    refine ⟨_, rfl, ?_⟩; intro a91 hF92; clear hF79; have z93 := hx90.size
    have hf94 : RIss (Clip (fun b => w54.heap.size ≤ b) w89) w89 (.slice A81 m82 c83) t84 := ht86.clip
    refine wpl_op (i := 2) rfl (o_val (v := (.tuple #[(.slice A81 m82 c83), (.int .i64 er85)])) hF92 rfl rfl rfl rfl (rn_move (hF92.get rfl)) ?_)
    intro a95 hF96; clear hF92
    refine wpl_op (i := 3) rfl (o_val (v := (.slice A81 m82 c83)) hF96 rfl rfl rfl rfl (rn_extract (hF96.get rfl) rfl) ?_)
    intro a97 hF98; clear hF96
    refine wpl_op (i := 4) rfl (o_val (v := (.int .i64 er85)) hF98 rfl rfl rfl rfl (rn_extract (hF98.get rfl) rfl) ?_)
    intro a99 hF100; clear hF98
    refine wpl_op (i := 5) rfl (o_val (v := (.slice A81 m82 c83)) hF100 rfl rfl rfl rfl (rn_assign (hF100.get rfl)) ?_)
    intro a101 hF102; clear hF100
    refine wpl_op (i := 6) rfl (o_val (v := (.int .i64 er85)) hF102 rfl rfl rfl rfl (rn_assign (hF102.get rfl)) ?_)
    intro a103 hF104; clear hF102
    refine wpList_nil ?_
    refine hK76 _ _ ?_
    clear hK76
    have hF105 := ((((((((((hF104.nil.cons (hF104.get (t := 7) (v := (.int .i64 er85)) rfl)).cons (hF104.get (t := 6) (v := (.slice A81 m82 c83)) rfl)).cons (hF104.get (t := 5) (v := (.int .i64 er48)) rfl)).cons (hF104.get (t := 4) (v := (.slice B44 k45 c46)) rfl)).cons (hF104.get (t := 3) (v := (.slice A40 m41 c42)) rfl)).cons (hF104.get (t := 12) (v := (.bool (!(few n l)))) rfl)).cons (hF104.get (t := 9) (v := (.bool false)) rfl)).cons (hF104.get (t := 2) (v := (.bool false)) rfl)).cons (hF104.get (t := 1) (v := (.pointer (some ⟨g2, 0, none⟩))) rfl)).cons (hF104.get (t := 0) (v := (.agg #[(.int .i64 n), (.slice A l.length c)])) rfl))
    clear hF104
    refine wp_seq_k (fun K106 hK106 => ?_)
    refine wp_seq_k (fun K107 hK107 => ?_)
    have hun := hfar51.1.unique hfar87
    have hun1 := hun.1
    refine wp_region_lit ?_
    refine wpl_op (i := 0) rfl (o_val (v := (.slice A40 m41 c42)) hF105 rfl rfl rfl rfl (rn_move (hF105.get rfl)) ?_)
    intro a108 hF109; clear hF105
    refine wpl_op (i := 1) rfl (o_val (v := (.slice A81 m82 c83)) hF109 rfl rfl rfl rfl (rn_move (hF109.get rfl)) ?_)
    intro a110 hF111; clear hF109
    have d112 := (hf59.ext hx90)
    refine wpl_op (i := 2) rfl (o_call hF111 rfl rfl rfl rfl (rn_call (args2 (hF111.get rfl) (hF111.get rfl)) rfl (by kernel_rfl)) (samefar_at (u := (.slice A40 m41 c42)) (v := (.slice A81 m82 c83)) t43 t84 _ d112 hf94) ?_)
    rintro _ w113 ⟨rfl, hx114⟩
    refine ⟨_, rfl, ?_⟩; intro a115 hF116; clear hF111; have z117 := hx114.size
    refine wpl_op (i := 3) rfl (o_val (v := (.bool (!(decide (t43 = t84))))) hF116 rfl rfl rfl rfl (rn_not' (hF116.get rfl) rfl) ?_)
    intro a118 hF119; clear hF116
    refine wpl_op (i := 4) rfl (o_val (v := (.bool (!(decide (t43 = t84))))) hF119 rfl rfl rfl rfl (rn_move (hF119.get rfl)) ?_)
    intro a120 hF121; clear hF119
    refine wpl_op (i := 5) rfl (o_val (v := (.int .i64 er48)) hF121 rfl (wanted_guard rfl rfl rfl hF121 rfl (not_t (decide_eq_true hun.2 : decide (t43 = t84) = true)) rfl) rfl rfl (rn_move (hF121.get rfl)) ?_)
    intro a123 hF124; clear hF121
    refine wpl_op (i := 6) rfl (o_val (v := (.int .i64 er85)) hF124 rfl (wanted_guard rfl rfl rfl hF124 rfl (not_t (decide_eq_true hun.2 : decide (t43 = t84) = true)) rfl) rfl rfl (rn_move (hF124.get rfl)) ?_)
    intro a125 hF126; clear hF124
    refine wpl_op (i := 7) rfl (o_val (v := (.bool (decide ((er48 : Int) ≠ (er85 : Int))))) hF126 rfl (wanted_guard rfl rfl rfl hF126 rfl (not_t (decide_eq_true hun.2 : decide (t43 = t84) = true)) rfl) rfl rfl (rn_neq (hF126.get rfl) (hF126.get rfl)) ?_)
    intro a127 hF128; clear hF126
    refine wpl_op (i := 8) rfl (o_val (v := (.bool (decide ((er48 : Int) ≠ (er85 : Int))))) hF128 rfl rfl rfl rfl (rn_pickF (c_false hF128 rfl (not_t (decide_eq_true hun.2 : decide (t43 = t84) = true))) (hF128.get rfl)) ?_)
    intro a129 hF130; clear hF128
    refine wpList_nil ?_
    refine hK107 _ _ ?_
    clear hK107
    have hF131 := (((((((((((hF130.nil.cons (hF130.get (t := 32) (v := (.bool (decide ((er48 : Int) ≠ (er85 : Int))))) rfl)).cons (hF130.get (t := 7) (v := (.int .i64 er85)) rfl)).cons (hF130.get (t := 6) (v := (.slice A81 m82 c83)) rfl)).cons (hF130.get (t := 5) (v := (.int .i64 er48)) rfl)).cons (hF130.get (t := 4) (v := (.slice B44 k45 c46)) rfl)).cons (hF130.get (t := 3) (v := (.slice A40 m41 c42)) rfl)).cons (hF130.get (t := 12) (v := (.bool (!(few n l)))) rfl)).cons (hF130.get (t := 9) (v := (.bool false)) rfl)).cons (hF130.get (t := 2) (v := (.bool false)) rfl)).cons (hF130.get (t := 1) (v := (.pointer (some ⟨g2, 0, none⟩))) rfl)).cons (hF130.get (t := 0) (v := (.agg #[(.int .i64 n), (.slice A l.length c)])) rfl))
    clear hF130
    by_cases hc132 : (er48 : Int) ≠ (er85 : Int)
    · skip
      refine wp_cond_true (c_true hF131 rfl (decide_eq_true hc132)) ?_
      refine wp_seq_k (fun K133 hK133 => ?_)
      refine wp_region_lit ?_
      refine wpl_op (i := 0) rfl (o_val (v := (.bool false)) hF131 rfl rfl rfl rfl (rn_assign rfl) ?_)
      intro a134 hF135; clear hF131
      refine wpList_nil ?_
      refine hK133 _ _ ?_
      clear hK133
      refine wp_ret ?_
      refine ret_then ?_
      refine ret1 hF135 rfl rfl ?_
      exfalso; omega
    · skip
      refine wp_cond_false (c_false hF131 rfl (decide_eq_false hc132)) ?_
      refine wp_skip ?_
      refine hK106 _ _ ?_
      clear hK106
      refine wp_seq_k (fun K136 hK136 => ?_)
      refine wp_seq_k (fun K137 hK137 => ?_)
      refine wp_region_lit ?_
      refine wpl_op (i := 0) rfl (o_val (v := (.int .i64 er48)) hF131 rfl rfl rfl rfl (rn_move (hF131.get rfl)) ?_)
      intro a138 hF139; clear hF131
      refine wpl_op (i := 1) rfl (o_val (v := (.bool (decide ((er48 : Int) = (151 : Int))))) hF139 rfl rfl rfl rfl (rn_eql (hF139.get rfl) rfl) ?_)
      intro a140 hF141; clear hF139
      refine wpList_nil ?_
      refine hK137 _ _ ?_
      clear hK137
      by_cases hc142 : (er48 : Int) = (151 : Int)
      · skip
        refine wp_cond_true (c_true hF141 rfl (decide_eq_true hc142)) ?_
        refine wp_seq_k (fun K143 hK143 => ?_)
        refine wp_region_lit ?_
        have b144 : Blk w113 g2 24 [(.int .i64 n), (.slice A l.length c)] := ((b77.ext hx90).ext hx114)
        refine wpl_op (i := 0) rfl (o_val (v := (.agg #[(.int .i64 n), (.slice A l.length c)])) hF141 rfl rfl rfl rfl (rn_loadBlk (hF141.get rfl) b144 Try.underlying24 rfl (by kernel_rfl : (Try.prog.info? 24).map (·.size) = some 2)) ?_)
        intro a145 hF146; clear hF141
        refine wpl_op (i := 1) rfl (o_val (v := (.slice B44 k45 c46)) hF146 rfl rfl rfl rfl (rn_move (hF146.get rfl)) ?_)
        intro a147 hF148; clear hF146
        have d149 := ((((((hc.ext hx5).ext hx15).ext hx28).ext hx55).ext hx90).ext hx114)
        have d150 := ((hf60.ext hx90).ext hx114)
        refine wpl_op (i := 2) rfl (o_call hF148 rfl rfl rfl rfl (rn_call (args2 (hF148.get rfl) (hF148.get rfl)) rfl (by kernel_rfl)) (cycle_at (u := (.slice A l.length c)) (v := (.slice B44 k45 c46)) n l cyc47 _ d149 d150 (hfar51.cycP (by omega)) (hfar51.1.v151 (by omega)).1) ?_)
        rintro _ w151 ⟨rfl, hx152⟩
        refine ⟨_, rfl, ?_⟩; intro a153 hF154; clear hF148; have z155 := hx152.size
        refine wpl_op (i := 3) rfl (o_val (v := (.bool true)) hF154 rfl rfl rfl rfl (rn_assign (hF154.get rfl)) ?_)
        intro a156 hF157; clear hF154
        refine wpList_nil ?_
        refine hK143 _ _ ?_
        clear hK143
        have hF158 := ((((((((((((hF157.nil.cons (hF157.get (t := 34) (v := (.bool (decide ((er48 : Int) = (151 : Int))))) rfl)).cons (hF157.get (t := 32) (v := (.bool (decide ((er48 : Int) ≠ (er85 : Int))))) rfl)).cons (hF157.get (t := 7) (v := (.int .i64 er85)) rfl)).cons (hF157.get (t := 6) (v := (.slice A81 m82 c83)) rfl)).cons (hF157.get (t := 5) (v := (.int .i64 er48)) rfl)).cons (hF157.get (t := 4) (v := (.slice B44 k45 c46)) rfl)).cons (hF157.get (t := 3) (v := (.slice A40 m41 c42)) rfl)).cons (hF157.get (t := 12) (v := (.bool (!(few n l)))) rfl)).cons (hF157.get (t := 9) (v := (.bool false)) rfl)).cons (hF157.get (t := 2) (v := (.bool true)) rfl)).cons (hF157.get (t := 1) (v := (.pointer (some ⟨g2, 0, none⟩))) rfl)).cons (hF157.get (t := 0) (v := (.agg #[(.int .i64 n), (.slice A l.length c)])) rfl))
        clear hF157
        refine wp_ret ?_
        refine ret_then ?_
        refine ret1 hF158 rfl rfl ?_
        exact ⟨rfl, ((((((((Ext.refl w).trans hx5).trans hx15).trans hx28).trans hx55).trans hx90).trans hx114).trans hx152)⟩
      · skip
        refine wp_cond_false (c_false hF141 rfl (decide_eq_false hc142)) ?_
        refine wp_skip ?_
        refine hK136 _ _ ?_
        clear hK136
        refine wp_seq_k (fun K159 hK159 => ?_)
        have hc0 := hfar51.cyc0 (by omega)
        have hcl : cyc47.length = 0 := by rw [hc0]; rfl
        refine wp_region_lit ?_
        refine wpl_op (i := 0) rfl (o_val (v := (.slice B44 k45 c46)) hF141 rfl rfl rfl rfl (rn_move (hF141.get rfl)) ?_)
        intro a160 hF161; clear hF141
        refine wpl_op (i := 1) rfl (o_val (v := (.int .i64 (k45 : Nat))) hF161 rfl rfl rfl rfl (rn_len_slice Try.underlying25 (hF161.get rfl)) ?_)
        intro a162 hF163; clear hF161
        refine wpl_op (i := 2) rfl (o_val (v := (.bool (decide (((k45 : Nat) : Int) = (0 : Int))))) hF163 rfl rfl rfl rfl (rn_eql (hF163.get rfl) rfl) ?_)
        intro a164 hF165; clear hF163
        refine wpl_op (i := 3) rfl (o_val (v := (.bool (decide (((k45 : Nat) : Int) = (0 : Int))))) hF165 rfl rfl rfl rfl (rn_assign (hF165.get rfl)) ?_)
        intro a166 hF167; clear hF165
        refine wpList_nil ?_
        refine hK159 _ _ ?_
        clear hK159
        have hF168 := ((((((((((((hF167.nil.cons (hF167.get (t := 34) (v := (.bool (decide ((er48 : Int) = (151 : Int))))) rfl)).cons (hF167.get (t := 32) (v := (.bool (decide ((er48 : Int) ≠ (er85 : Int))))) rfl)).cons (hF167.get (t := 7) (v := (.int .i64 er85)) rfl)).cons (hF167.get (t := 6) (v := (.slice A81 m82 c83)) rfl)).cons (hF167.get (t := 5) (v := (.int .i64 er48)) rfl)).cons (hF167.get (t := 4) (v := (.slice B44 k45 c46)) rfl)).cons (hF167.get (t := 3) (v := (.slice A40 m41 c42)) rfl)).cons (hF167.get (t := 12) (v := (.bool (!(few n l)))) rfl)).cons (hF167.get (t := 9) (v := (.bool false)) rfl)).cons (hF167.get (t := 2) (v := (.bool (decide (((k45 : Nat) : Int) = (0 : Int))))) rfl)).cons (hF167.get (t := 1) (v := (.pointer (some ⟨g2, 0, none⟩))) rfl)).cons (hF167.get (t := 0) (v := (.agg #[(.int .i64 n), (.slice A l.length c)])) rfl))
        clear hF167
        refine wp_ret ?_
        refine ret1 hF168 rfl rfl ?_
        exact ⟨by rw [show (decide (((k45 : Nat) : Int) = (0 : Int))) = true from decide_eq_true (by omega)], (((((((Ext.refl w).trans hx5).trans hx15).trans hx28).trans hx55).trans hx90).trans hx114)⟩
  · skip
    refine wp_cond_true (c_true hF33 rfl (not_f hc34)) ?_
    refine wp_seq_k (fun K169 hK169 => ?_)
    refine wp_region_lit ?_
    refine wpl_op (i := 0) rfl (o_val (v := (.bool true)) hF33 rfl rfl rfl rfl (rn_assign rfl) ?_)
    intro a170 hF171; clear hF33
    refine wpList_nil ?_
    refine hK169 _ _ ?_
    clear hK169
    refine wp_ret ?_
    refine ret_then ?_
    refine ret1 hF171 rfl rfl ?_
    exact ⟨rfl, ((((Ext.refl w).trans hx5).trans hx15).trans hx28)⟩

end Go.Proofs.Ytjmdodgmoehfkaa
