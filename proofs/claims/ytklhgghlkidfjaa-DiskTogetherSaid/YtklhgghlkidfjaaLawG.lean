/- The law DiskTogether, walked. -/
import Derived.Test.YtklhgghlkidfjaaLawA
import Derived.Test.YtklhgghlkidfjaaSane
import Derived.Test.YtklhgghlkidfjaaPlainB
namespace Go.Proofs.Ytklhgghlkidfjaa
open Go.RowKit

variable {S S' : Nat → Prop}

set_option maxRecDepth 100000 in
set_option maxHeartbeats 4000000 in
theorem together_any (A : Option Addr) (c : Nat) (B : Option Addr) (e : Nat) (d : Dk) (C : Option Addr) (f : Nat) (l : List Ac) (w : World) (hd : RDk (Old w) w (.agg #[.slice A d.sectors.length c, .slice B d.pending.length e, .int .i64 d.left, .bool d.stopped]) d) (s1 : ∀ x ∈ d.sectors, x.length ≤ 140737488355328) (s2 : ∀ x ∈ d.pending, x.2.length ≤ 140737488355328) (ha : RAcs (Old w) w (.slice C l.length f) l) :
    Calls Try.prog 8 #[(.agg #[(.slice A d.sectors.length c), (.slice B d.pending.length e), (.int .i64 d.left), (.bool d.stopped)]), (.slice C l.length f)] w (RB w true) := by
  obtain ⟨hq1, hq2⟩ := (RDk.len hd).1.at.2.1
  obtain ⟨-, hq3, hq4⟩ := RSl.elem ha
  refine calls_enter (l := [(.agg #[(.slice A d.sectors.length c), (.slice B d.pending.length e), (.int .i64 d.left), (.bool d.stopped)]), (.slice C l.length f)]) Try.func8 rfl rfl rfl (fun a hF => ?_)
  refine wp_seq_k (fun K1 hK1 => ?_)
  refine wp_region_lit ?_
  refine wpl_op (i := 0) rfl (o_new (fun g => (.pointer (some ⟨g, 0, none⟩))) [(.slice A d.sectors.length c), (.slice B d.pending.length e), (.int .i64 d.left), (.bool d.stopped)] 25 hF rfl rfl rfl rfl (rn_box (hF.get rfl) (by kernel_rfl)) ?_)
  intro g2 w3 a8 hF9 z6 z7 b4 hx5; clear hF
  refine wpl_op (i := 1) rfl (o_val (v := (.bool false)) hF9 rfl rfl rfl rfl (rn_assign rfl) ?_)
  intro a10 hF11; clear hF9
  refine wpList_nil ?_
  refine hK1 _ _ ?_
  clear hK1
  refine wp_seq_k (fun K12 hK12 => ?_)
  refine wp_seq_k (fun K13 hK13 => ?_)
  refine wp_region_lit ?_
  refine wpl_op (i := 0) rfl (o_call hF11 rfl rfl rfl rfl (rn_call (args0 ) rfl (by kernel_rfl)) (sane_any _) ?_)
  rintro _ w14 ⟨rfl, hx15⟩
  refine ⟨_, rfl, ?_⟩; intro a16 hF17; clear hF11; have z18 := hx15.size
  refine wpl_op (i := 1) rfl (o_val (v := (.bool false)) hF17 rfl rfl rfl rfl (rn_not' (hF17.get rfl) rfl) ?_)
  intro a19 hF20; clear hF17
  refine wpList_nil ?_
  refine hK13 _ _ ?_
  clear hK13
  refine wp_cond_false (c_false hF20 rfl rfl) ?_
  refine wp_skip ?_
  refine hK12 _ _ ?_
  clear hK12
  refine wp_seq_k (fun K21 hK21 => ?_)
  refine wp_seq_k (fun K22 hK22 => ?_)
  refine wp_region_lit ?_
  have b23 : Blk w14 g2 25 [(.slice A d.sectors.length c), (.slice B d.pending.length e), (.int .i64 d.left), (.bool d.stopped)] := (b4.ext hx15)
  refine wpl_op (i := 0) rfl (o_val (v := (.agg #[(.slice A d.sectors.length c), (.slice B d.pending.length e), (.int .i64 d.left), (.bool d.stopped)])) hF20 rfl rfl rfl rfl (rn_loadBlk (hF20.get rfl) b23 Try.underlying25 rfl (by kernel_rfl : (Try.prog.info? 25).map (·.size) = some 4)) ?_)
  intro a24 hF25; clear hF20
  have d26 := ((hd.ext hx5).ext hx15)
  refine wpl_op (i := 1) rfl (o_call hF25 rfl rfl rfl rfl (rn_call (args1 (hF25.get rfl)) rfl (by kernel_rfl)) (few_any (S := (Old w)) _ d _ d26 s1 s2) ?_)
  rintro _ w27 ⟨rfl, hx28⟩
  refine ⟨_, rfl, ?_⟩; intro a29 hF30; clear hF25; have z31 := hx28.size
  refine wpl_op (i := 2) rfl (o_val (v := (.bool (!d.few))) hF30 rfl rfl rfl rfl (rn_not' (hF30.get rfl) rfl) ?_)
  intro a32 hF33; clear hF30
  refine wpl_op (i := 3) rfl (o_val (v := (.bool (!d.few))) hF33 rfl rfl rfl rfl (rn_move (hF33.get rfl)) ?_)
  intro a34 hF35; clear hF33
  rcases Bool.eq_false_or_eq_true d.few with hc36 | hc36
  · skip
    refine wpl_op (i := 4) rfl (o_val (v := (.slice C l.length f)) hF35 rfl (wanted_guard rfl rfl rfl hF35 rfl (not_t hc36) rfl) rfl rfl (rn_move (hF35.get rfl)) ?_)
    intro a37 hF38; clear hF35
    refine wpl_op (i := 5) rfl (o_val (v := (.int .i64 (l.length : Nat))) hF38 rfl (wanted_guard rfl rfl rfl hF38 rfl (not_t hc36) rfl) rfl rfl (rn_len_slice Try.underlying43 (hF38.get rfl)) ?_)
    intro a39 hF40; clear hF38
    refine wpl_op (i := 6) rfl (o_val (v := (.bool (decide ((20 : Int) < ((l.length : Nat) : Int))))) hF40 rfl (wanted_guard rfl rfl rfl hF40 rfl (not_t hc36) rfl) rfl rfl (rn_gtr (hF40.get rfl) rfl) ?_)
    intro a41 hF42; clear hF40
    refine wpl_op (i := 7) rfl (o_val (v := (.bool (decide ((20 : Int) < ((l.length : Nat) : Int))))) hF42 rfl rfl rfl rfl (rn_pickF (c_false hF42 rfl (not_t hc36)) (hF42.get rfl)) ?_)
    intro a43 hF44; clear hF42
    refine wpl_op (i := 8) rfl (o_val (v := (.bool (decide ((20 : Int) < ((l.length : Nat) : Int))))) hF44 rfl rfl rfl rfl (rn_move (hF44.get rfl)) ?_)
    intro a45 hF46; clear hF44
    by_cases hc47 : (20 : Int) < ((l.length : Nat) : Int)
    · skip
      refine wpl_op (i := 9) rfl (o_skip hF46 rfl (unwanted_guard rfl rfl rfl hF46 rfl (decide_eq_true hc47) rfl) rfl rfl ?_)
      intro a48 hF49; clear hF46
      refine wpl_op (i := 10) rfl (o_skip hF49 rfl (unwanted_guard rfl rfl rfl hF49 rfl (decide_eq_true hc47) rfl) rfl rfl ?_)
      intro a50 hF51; clear hF49
      refine wpl_op (i := 11) rfl (o_skip hF51 rfl (unwanted_guard rfl rfl rfl hF51 rfl (decide_eq_true hc47) rfl) rfl rfl ?_)
      intro a52 hF53; clear hF51
      refine wpl_op (i := 12) rfl (o_skip hF53 rfl (unwanted_guard rfl rfl rfl hF53 rfl (decide_eq_true hc47) rfl) rfl rfl ?_)
      intro a54 hF55; clear hF53
      refine wpl_op (i := 13) rfl (o_val (v := (.bool true)) hF55 rfl rfl rfl rfl (rn_pickT (c_true hF55 rfl (decide_eq_true hc47)) rfl) ?_)
      intro a56 hF57; clear hF55
      refine wpl_op (i := 14) rfl (o_val (v := (.bool true)) hF57 rfl rfl rfl rfl (rn_move (hF57.get rfl)) ?_)
      intro a58 hF59; clear hF57
      refine wpl_op (i := 15) rfl (o_skip hF59 rfl (unwanted_guard rfl rfl rfl hF59 rfl rfl rfl) rfl rfl ?_)
      intro a60 hF61; clear hF59
      refine wpl_op (i := 16) rfl (o_skip hF61 rfl (unwanted_guard rfl rfl rfl hF61 rfl rfl rfl) rfl rfl ?_)
      intro a62 hF63; clear hF61
      refine wpl_op (i := 17) rfl (o_skip hF63 rfl (unwanted_guard rfl rfl rfl hF63 rfl rfl rfl) rfl rfl ?_)
      intro a64 hF65; clear hF63
      refine wpl_op (i := 18) rfl (o_skip hF65 rfl (unwanted_guard rfl rfl rfl hF65 rfl rfl rfl) rfl rfl ?_)
      intro a66 hF67; clear hF65
      refine wpl_op (i := 19) rfl (o_val (v := (.bool true)) hF67 rfl rfl rfl rfl (rn_pickT (c_true hF67 rfl rfl) rfl) ?_)
      intro a68 hF69; clear hF67
      refine wpl_op (i := 20) rfl (o_val (v := (.bool true)) hF69 rfl rfl rfl rfl (rn_move (hF69.get rfl)) ?_)
      intro a70 hF71; clear hF69
      refine wpl_op (i := 21) rfl (o_skip hF71 rfl (unwanted_guard rfl rfl rfl hF71 rfl rfl rfl) rfl rfl ?_)
      intro a72 hF73; clear hF71
      refine wpl_op (i := 22) rfl (o_skip hF73 rfl (unwanted_guard rfl rfl rfl hF73 rfl rfl rfl) rfl rfl ?_)
      intro a74 hF75; clear hF73
      refine wpl_op (i := 23) rfl (o_skip hF75 rfl (unwanted_guard rfl rfl rfl hF75 rfl rfl rfl) rfl rfl ?_)
      intro a76 hF77; clear hF75
      refine wpl_op (i := 24) rfl (o_val (v := (.bool true)) hF77 rfl rfl rfl rfl (rn_pickT (c_true hF77 rfl rfl) rfl) ?_)
      intro a78 hF79; clear hF77
      refine wpl_op (i := 25) rfl (o_val (v := (.bool true)) hF79 rfl rfl rfl rfl (rn_move (hF79.get rfl)) ?_)
      intro a80 hF81; clear hF79
      refine wpl_op (i := 26) rfl (o_skip hF81 rfl (unwanted_guard rfl rfl rfl hF81 rfl rfl rfl) rfl rfl ?_)
      intro a82 hF83; clear hF81
      refine wpl_op (i := 27) rfl (o_skip hF83 rfl (unwanted_guard rfl rfl rfl hF83 rfl rfl rfl) rfl rfl ?_)
      intro a84 hF85; clear hF83
      refine wpl_op (i := 28) rfl (o_val (v := (.bool true)) hF85 rfl rfl rfl rfl (rn_pickT (c_true hF85 rfl rfl) rfl) ?_)
      intro a86 hF87; clear hF85
      refine wpList_nil ?_
      refine hK22 _ _ ?_
      clear hK22
      have hF88 := ((((((hF87.nil.cons (hF87.get (t := 46) (v := (.bool true)) rfl)).cons (hF87.get (t := 17) (v := (.bool false)) rfl)).cons (hF87.get (t := 4) (v := (.bool false)) rfl)).cons (hF87.get (t := 2) (v := (.pointer (some ⟨g2, 0, none⟩))) rfl)).cons (hF87.get (t := 1) (v := (.slice C l.length f)) rfl)).cons (hF87.get (t := 0) (v := (.agg #[(.slice A d.sectors.length c), (.slice B d.pending.length e), (.int .i64 d.left), (.bool d.stopped)])) rfl))
      clear hF87
      refine wp_cond_true (c_true hF88 rfl rfl) ?_
      refine wp_seq_k (fun K89 hK89 => ?_)
      refine wp_region_lit ?_
      refine wpl_op (i := 0) rfl (o_val (v := (.bool true)) hF88 rfl rfl rfl rfl (rn_assign rfl) ?_)
      intro a90 hF91; clear hF88
      refine wpList_nil ?_
      refine hK89 _ _ ?_
      clear hK89
      refine wp_ret ?_
      refine ret1 hF91 rfl rfl ?_
      exact ⟨congrArg (fun b => Ending.returned (.bool b)) (rfl : true = true), ((((Ext.refl w).trans hx5).trans hx15).trans hx28)⟩
    · skip
      refine wpl_op (i := 9) rfl (o_val (v := (.pointer (some ⟨g2, 1, none⟩))) hF46 rfl (wanted_guard rfl rfl rfl hF46 rfl (decide_eq_false hc47) rfl) rfl rfl (rn_field Try.underlying25 rfl (by kernel_rfl) (hF46.get rfl) rfl) ?_)
      intro a92 hF93; clear hF46
      have b94 : Blk w27 g2 25 [(.slice A d.sectors.length c), (.slice B d.pending.length e), (.int .i64 d.left), (.bool d.stopped)] := (b23.ext hx28)
      refine wpl_op (i := 10) rfl (o_val (v := (.slice B d.pending.length e)) hF93 rfl (wanted_guard rfl rfl rfl hF93 rfl (decide_eq_false hc47) rfl) rfl rfl (rn_load (isAgg_no Try.underlying23 rfl) (hF93.get rfl) (b94.rule.1 1)) ?_)
      intro a95 hF96; clear hF93
      refine wpl_op (i := 11) rfl (o_val (v := (.int .i64 (d.pending.length : Nat))) hF96 rfl (wanted_guard rfl rfl rfl hF96 rfl (decide_eq_false hc47) rfl) rfl rfl (rn_len_slice Try.underlying23 (hF96.get rfl)) ?_)
      intro a97 hF98; clear hF96
      refine wpl_op (i := 12) rfl (o_val (v := (.bool (decide ((0 : Int) < ((d.pending.length : Nat) : Int))))) hF98 rfl (wanted_guard rfl rfl rfl hF98 rfl (decide_eq_false hc47) rfl) rfl rfl (rn_gtr (hF98.get rfl) rfl) ?_)
      intro a99 hF100; clear hF98
      refine wpl_op (i := 13) rfl (o_val (v := (.bool (decide ((0 : Int) < ((d.pending.length : Nat) : Int))))) hF100 rfl rfl rfl rfl (rn_pickF (c_false hF100 rfl (decide_eq_false hc47)) (hF100.get rfl)) ?_)
      intro a101 hF102; clear hF100
      refine wpl_op (i := 14) rfl (o_val (v := (.bool (decide ((0 : Int) < ((d.pending.length : Nat) : Int))))) hF102 rfl rfl rfl rfl (rn_move (hF102.get rfl)) ?_)
      intro a103 hF104; clear hF102
      by_cases hc105 : (0 : Int) < ((d.pending.length : Nat) : Int)
      · skip
        refine wpl_op (i := 15) rfl (o_skip hF104 rfl (unwanted_guard rfl rfl rfl hF104 rfl (decide_eq_true hc105) rfl) rfl rfl ?_)
        intro a106 hF107; clear hF104
        refine wpl_op (i := 16) rfl (o_skip hF107 rfl (unwanted_guard rfl rfl rfl hF107 rfl (decide_eq_true hc105) rfl) rfl rfl ?_)
        intro a108 hF109; clear hF107
        refine wpl_op (i := 17) rfl (o_skip hF109 rfl (unwanted_guard rfl rfl rfl hF109 rfl (decide_eq_true hc105) rfl) rfl rfl ?_)
        intro a110 hF111; clear hF109
        refine wpl_op (i := 18) rfl (o_skip hF111 rfl (unwanted_guard rfl rfl rfl hF111 rfl (decide_eq_true hc105) rfl) rfl rfl ?_)
        intro a112 hF113; clear hF111
        refine wpl_op (i := 19) rfl (o_val (v := (.bool true)) hF113 rfl rfl rfl rfl (rn_pickT (c_true hF113 rfl (decide_eq_true hc105)) rfl) ?_)
        intro a114 hF115; clear hF113
        refine wpl_op (i := 20) rfl (o_val (v := (.bool true)) hF115 rfl rfl rfl rfl (rn_move (hF115.get rfl)) ?_)
        intro a116 hF117; clear hF115
        refine wpl_op (i := 21) rfl (o_skip hF117 rfl (unwanted_guard rfl rfl rfl hF117 rfl rfl rfl) rfl rfl ?_)
        intro a118 hF119; clear hF117
        refine wpl_op (i := 22) rfl (o_skip hF119 rfl (unwanted_guard rfl rfl rfl hF119 rfl rfl rfl) rfl rfl ?_)
        intro a120 hF121; clear hF119
        refine wpl_op (i := 23) rfl (o_skip hF121 rfl (unwanted_guard rfl rfl rfl hF121 rfl rfl rfl) rfl rfl ?_)
        intro a122 hF123; clear hF121
        refine wpl_op (i := 24) rfl (o_val (v := (.bool true)) hF123 rfl rfl rfl rfl (rn_pickT (c_true hF123 rfl rfl) rfl) ?_)
        intro a124 hF125; clear hF123
        refine wpl_op (i := 25) rfl (o_val (v := (.bool true)) hF125 rfl rfl rfl rfl (rn_move (hF125.get rfl)) ?_)
        intro a126 hF127; clear hF125
        refine wpl_op (i := 26) rfl (o_skip hF127 rfl (unwanted_guard rfl rfl rfl hF127 rfl rfl rfl) rfl rfl ?_)
        intro a128 hF129; clear hF127
        refine wpl_op (i := 27) rfl (o_skip hF129 rfl (unwanted_guard rfl rfl rfl hF129 rfl rfl rfl) rfl rfl ?_)
        intro a130 hF131; clear hF129
        refine wpl_op (i := 28) rfl (o_val (v := (.bool true)) hF131 rfl rfl rfl rfl (rn_pickT (c_true hF131 rfl rfl) rfl) ?_)
        intro a132 hF133; clear hF131
        refine wpList_nil ?_
        refine hK22 _ _ ?_
        clear hK22
        have hF134 := ((((((hF133.nil.cons (hF133.get (t := 46) (v := (.bool true)) rfl)).cons (hF133.get (t := 17) (v := (.bool false)) rfl)).cons (hF133.get (t := 4) (v := (.bool false)) rfl)).cons (hF133.get (t := 2) (v := (.pointer (some ⟨g2, 0, none⟩))) rfl)).cons (hF133.get (t := 1) (v := (.slice C l.length f)) rfl)).cons (hF133.get (t := 0) (v := (.agg #[(.slice A d.sectors.length c), (.slice B d.pending.length e), (.int .i64 d.left), (.bool d.stopped)])) rfl))
        clear hF133
        refine wp_cond_true (c_true hF134 rfl rfl) ?_
        refine wp_seq_k (fun K135 hK135 => ?_)
        refine wp_region_lit ?_
        refine wpl_op (i := 0) rfl (o_val (v := (.bool true)) hF134 rfl rfl rfl rfl (rn_assign rfl) ?_)
        intro a136 hF137; clear hF134
        refine wpList_nil ?_
        refine hK135 _ _ ?_
        clear hK135
        refine wp_ret ?_
        refine ret1 hF137 rfl rfl ?_
        exact ⟨congrArg (fun b => Ending.returned (.bool b)) (rfl : true = true), ((((Ext.refl w).trans hx5).trans hx15).trans hx28)⟩
      · skip
        refine wpl_op (i := 15) rfl (o_val (v := (.pointer (some ⟨g2, 0, none⟩))) hF104 rfl (wanted_guard rfl rfl rfl hF104 rfl (decide_eq_false hc105) rfl) rfl rfl (rn_field Try.underlying25 rfl (by kernel_rfl) (hF104.get rfl) rfl) ?_)
        intro a138 hF139; clear hF104
        refine wpl_op (i := 16) rfl (o_val (v := (.slice A d.sectors.length c)) hF139 rfl (wanted_guard rfl rfl rfl hF139 rfl (decide_eq_false hc105) rfl) rfl rfl (rn_load (isAgg_no Try.underlying22 rfl) (hF139.get rfl) (b94.rule.1 0)) ?_)
        intro a140 hF141; clear hF139
        refine wpl_op (i := 17) rfl (o_val (v := (.int .i64 (d.sectors.length : Nat))) hF141 rfl (wanted_guard rfl rfl rfl hF141 rfl (decide_eq_false hc105) rfl) rfl rfl (rn_len_slice Try.underlying22 (hF141.get rfl)) ?_)
        intro a142 hF143; clear hF141
        refine wpl_op (i := 18) rfl (o_val (v := (.bool (decide (((d.sectors.length : Nat) : Int) = (0 : Int))))) hF143 rfl (wanted_guard rfl rfl rfl hF143 rfl (decide_eq_false hc105) rfl) rfl rfl (rn_eql (hF143.get rfl) rfl) ?_)
        intro a144 hF145; clear hF143
        refine wpl_op (i := 19) rfl (o_val (v := (.bool (decide (((d.sectors.length : Nat) : Int) = (0 : Int))))) hF145 rfl rfl rfl rfl (rn_pickF (c_false hF145 rfl (decide_eq_false hc105)) (hF145.get rfl)) ?_)
        intro a146 hF147; clear hF145
        refine wpl_op (i := 20) rfl (o_val (v := (.bool (decide (((d.sectors.length : Nat) : Int) = (0 : Int))))) hF147 rfl rfl rfl rfl (rn_move (hF147.get rfl)) ?_)
        intro a148 hF149; clear hF147
        by_cases hc150 : ((d.sectors.length : Nat) : Int) = (0 : Int)
        · skip
          refine wpl_op (i := 21) rfl (o_skip hF149 rfl (unwanted_guard rfl rfl rfl hF149 rfl (decide_eq_true hc150) rfl) rfl rfl ?_)
          intro a151 hF152; clear hF149
          refine wpl_op (i := 22) rfl (o_skip hF152 rfl (unwanted_guard rfl rfl rfl hF152 rfl (decide_eq_true hc150) rfl) rfl rfl ?_)
          intro a153 hF154; clear hF152
          refine wpl_op (i := 23) rfl (o_skip hF154 rfl (unwanted_guard rfl rfl rfl hF154 rfl (decide_eq_true hc150) rfl) rfl rfl ?_)
          intro a155 hF156; clear hF154
          refine wpl_op (i := 24) rfl (o_val (v := (.bool true)) hF156 rfl rfl rfl rfl (rn_pickT (c_true hF156 rfl (decide_eq_true hc150)) rfl) ?_)
          intro a157 hF158; clear hF156
          refine wpl_op (i := 25) rfl (o_val (v := (.bool true)) hF158 rfl rfl rfl rfl (rn_move (hF158.get rfl)) ?_)
          intro a159 hF160; clear hF158
          refine wpl_op (i := 26) rfl (o_skip hF160 rfl (unwanted_guard rfl rfl rfl hF160 rfl rfl rfl) rfl rfl ?_)
          intro a161 hF162; clear hF160
          refine wpl_op (i := 27) rfl (o_skip hF162 rfl (unwanted_guard rfl rfl rfl hF162 rfl rfl rfl) rfl rfl ?_)
          intro a163 hF164; clear hF162
          refine wpl_op (i := 28) rfl (o_val (v := (.bool true)) hF164 rfl rfl rfl rfl (rn_pickT (c_true hF164 rfl rfl) rfl) ?_)
          intro a165 hF166; clear hF164
          refine wpList_nil ?_
          refine hK22 _ _ ?_
          clear hK22
          have hF167 := ((((((hF166.nil.cons (hF166.get (t := 46) (v := (.bool true)) rfl)).cons (hF166.get (t := 17) (v := (.bool false)) rfl)).cons (hF166.get (t := 4) (v := (.bool false)) rfl)).cons (hF166.get (t := 2) (v := (.pointer (some ⟨g2, 0, none⟩))) rfl)).cons (hF166.get (t := 1) (v := (.slice C l.length f)) rfl)).cons (hF166.get (t := 0) (v := (.agg #[(.slice A d.sectors.length c), (.slice B d.pending.length e), (.int .i64 d.left), (.bool d.stopped)])) rfl))
          clear hF166
          refine wp_cond_true (c_true hF167 rfl rfl) ?_
          refine wp_seq_k (fun K168 hK168 => ?_)
          refine wp_region_lit ?_
          refine wpl_op (i := 0) rfl (o_val (v := (.bool true)) hF167 rfl rfl rfl rfl (rn_assign rfl) ?_)
          intro a169 hF170; clear hF167
          refine wpList_nil ?_
          refine hK168 _ _ ?_
          clear hK168
          refine wp_ret ?_
          refine ret1 hF170 rfl rfl ?_
          exact ⟨congrArg (fun b => Ending.returned (.bool b)) (rfl : true = true), ((((Ext.refl w).trans hx5).trans hx15).trans hx28)⟩
        · skip
          refine wpl_op (i := 21) rfl (o_val (v := (.agg #[(.slice A d.sectors.length c), (.slice B d.pending.length e), (.int .i64 d.left), (.bool d.stopped)])) hF149 rfl (wanted_guard rfl rfl rfl hF149 rfl (decide_eq_false hc150) rfl) rfl rfl (rn_loadBlk (hF149.get rfl) b94 Try.underlying25 rfl (by kernel_rfl : (Try.prog.info? 25).map (·.size) = some 4)) ?_)
          intro a171 hF172; clear hF149
          have d173 := (((hd.ext hx5).ext hx15).ext hx28)
          refine wpl_op (i := 22) rfl (o_call hF172 rfl (wanted_guard rfl rfl rfl hF172 rfl (decide_eq_false hc150) rfl) rfl rfl (rn_call (args1 (hF172.get rfl)) rfl (by kernel_rfl)) (check_any (S := (Old w)) _ d _ d173) ?_)
          rintro _ w174 ⟨rfl, hx175⟩
          refine ⟨_, rfl, ?_⟩; intro a176 hF177; clear hF172; have z178 := hx175.size
          refine wpl_op (i := 23) rfl (o_val (v := (.bool (decide ((d.check : Int) ≠ (0 : Int))))) hF177 rfl (wanted_guard rfl rfl rfl hF177 rfl (decide_eq_false hc150) rfl) rfl rfl (rn_neq (hF177.get rfl) rfl) ?_)
          intro a179 hF180; clear hF177
          refine wpl_op (i := 24) rfl (o_val (v := (.bool (decide ((d.check : Int) ≠ (0 : Int))))) hF180 rfl rfl rfl rfl (rn_pickF (c_false hF180 rfl (decide_eq_false hc150)) (hF180.get rfl)) ?_)
          intro a181 hF182; clear hF180
          refine wpl_op (i := 25) rfl (o_val (v := (.bool (decide ((d.check : Int) ≠ (0 : Int))))) hF182 rfl rfl rfl rfl (rn_move (hF182.get rfl)) ?_)
          intro a183 hF184; clear hF182
          by_cases hc185 : (d.check : Int) ≠ (0 : Int)
          · skip
            refine wpl_op (i := 26) rfl (o_skip hF184 rfl (unwanted_guard rfl rfl rfl hF184 rfl (decide_eq_true hc185) rfl) rfl rfl ?_)
            intro a186 hF187; clear hF184
            refine wpl_op (i := 27) rfl (o_skip hF187 rfl (unwanted_guard rfl rfl rfl hF187 rfl (decide_eq_true hc185) rfl) rfl rfl ?_)
            intro a188 hF189; clear hF187
            refine wpl_op (i := 28) rfl (o_val (v := (.bool true)) hF189 rfl rfl rfl rfl (rn_pickT (c_true hF189 rfl (decide_eq_true hc185)) rfl) ?_)
            intro a190 hF191; clear hF189
            refine wpList_nil ?_
            refine hK22 _ _ ?_
            clear hK22
            have hF192 := ((((((hF191.nil.cons (hF191.get (t := 46) (v := (.bool true)) rfl)).cons (hF191.get (t := 17) (v := (.bool false)) rfl)).cons (hF191.get (t := 4) (v := (.bool false)) rfl)).cons (hF191.get (t := 2) (v := (.pointer (some ⟨g2, 0, none⟩))) rfl)).cons (hF191.get (t := 1) (v := (.slice C l.length f)) rfl)).cons (hF191.get (t := 0) (v := (.agg #[(.slice A d.sectors.length c), (.slice B d.pending.length e), (.int .i64 d.left), (.bool d.stopped)])) rfl))
            clear hF191
            refine wp_cond_true (c_true hF192 rfl rfl) ?_
            refine wp_seq_k (fun K193 hK193 => ?_)
            refine wp_region_lit ?_
            refine wpl_op (i := 0) rfl (o_val (v := (.bool true)) hF192 rfl rfl rfl rfl (rn_assign rfl) ?_)
            intro a194 hF195; clear hF192
            refine wpList_nil ?_
            refine hK193 _ _ ?_
            clear hK193
            refine wp_ret ?_
            refine ret1 hF195 rfl rfl ?_
            exact ⟨congrArg (fun b => Ending.returned (.bool b)) (rfl : true = true), (((((Ext.refl w).trans hx5).trans hx15).trans hx28).trans hx175)⟩
          · skip
            have hck := Decidable.not_not.1 hc185
            refine wpl_op (i := 26) rfl (o_val (v := (.pointer (some ⟨g2, 3, none⟩))) hF184 rfl (wanted_guard rfl rfl rfl hF184 rfl (decide_eq_false hc185) rfl) rfl rfl (rn_field Try.underlying25 rfl (by kernel_rfl) (hF184.get rfl) rfl) ?_)
            intro a196 hF197; clear hF184
            have b198 : Blk w174 g2 25 [(.slice A d.sectors.length c), (.slice B d.pending.length e), (.int .i64 d.left), (.bool d.stopped)] := (b94.ext hx175)
            refine wpl_op (i := 27) rfl (o_val (v := (.bool d.stopped)) hF197 rfl (wanted_guard rfl rfl rfl hF197 rfl (decide_eq_false hc185) rfl) rfl rfl (rn_load (isAgg_no Try.underlying4 rfl) (hF197.get rfl) (b198.rule.1 3)) ?_)
            intro a199 hF200; clear hF197
            refine wpl_op (i := 28) rfl (o_val (v := (.bool d.stopped)) hF200 rfl rfl rfl rfl (rn_pickF (c_false hF200 rfl (decide_eq_false hc185)) (hF200.get rfl)) ?_)
            intro a201 hF202; clear hF200
            refine wpList_nil ?_
            refine hK22 _ _ ?_
            clear hK22
            have hF203 := ((((((hF202.nil.cons (hF202.get (t := 46) (v := (.bool d.stopped)) rfl)).cons (hF202.get (t := 17) (v := (.bool false)) rfl)).cons (hF202.get (t := 4) (v := (.bool false)) rfl)).cons (hF202.get (t := 2) (v := (.pointer (some ⟨g2, 0, none⟩))) rfl)).cons (hF202.get (t := 1) (v := (.slice C l.length f)) rfl)).cons (hF202.get (t := 0) (v := (.agg #[(.slice A d.sectors.length c), (.slice B d.pending.length e), (.int .i64 d.left), (.bool d.stopped)])) rfl))
            clear hF202
            rcases Bool.eq_false_or_eq_true d.stopped with hc204 | hc204
            · skip
              refine wp_cond_true (c_true hF203 rfl hc204) ?_
              refine wp_seq_k (fun K205 hK205 => ?_)
              refine wp_region_lit ?_
              refine wpl_op (i := 0) rfl (o_val (v := (.bool true)) hF203 rfl rfl rfl rfl (rn_assign rfl) ?_)
              intro a206 hF207; clear hF203
              refine wpList_nil ?_
              refine hK205 _ _ ?_
              clear hK205
              refine wp_ret ?_
              refine ret1 hF207 rfl rfl ?_
              exact ⟨congrArg (fun b => Ending.returned (.bool b)) (rfl : true = true), (((((Ext.refl w).trans hx5).trans hx15).trans hx28).trans hx175)⟩
            · skip
              have hrun : d.runs = true := by unfold Dk.runs; rw [hck, hc204]; rfl
              refine wp_cond_false (c_false hF203 rfl hc204) ?_
              refine wp_skip ?_
              refine hK21 _ _ ?_
              clear hK21
              refine wp_meet (fun a' W => ∃ (xg218 : Nat) (xg227 : Nat), Sl 131 [(0, (.agg #[(.slice A d.sectors.length c), (.slice B d.pending.length e), (.int .i64 d.left), (.bool d.stopped)])), (1, (.slice C l.length f)), (2, (.pointer (some ⟨g2, 0, none⟩))), (4, (.bool false)), (17, (.bool false)), (46, (.bool d.stopped)), (5, (.pointer (some ⟨xg218, 0, none⟩))), (6, (.pointer (some ⟨xg227, 0, none⟩)))] a' ∧ Ext w174 W ∧ Blk W xg218 25 [(.slice A d.sectors.length c), (.slice B d.pending.length e), (.int .i64 d.left), (.bool d.stopped)] ∧ Blk W xg227 25 [(.slice A d.sectors.length c), (.slice B d.pending.length e), (.int .i64 d.left), (.bool d.stopped)] ∧ w174.heap.size ≤ xg218 ∧ w174.heap.size ≤ xg227 ∧ xg218 ≠ xg227) ?_ ?_
              · skip
                have hx209 : ∃ W, w174.drew = W ∧ Ext w174 W := ⟨_, rfl, (Ext.refl _).drew⟩
                obtain ⟨w208, e210, hx209⟩ := hx209
                have z211 := hx209.size
                refine any_start (fun W => Ext w208 W ∧ Blk W g2 25 [(.slice A d.sectors.length c), (.slice B d.pending.length e), (.int .i64 d.left), (.bool d.stopped)]) (fun i => i == 5) 6 #[false, false, false, false, false, false] rfl rfl rfl ?_
                rw [e210]; clear e210
                have b213 : Blk w208 g2 25 [(.slice A d.sectors.length c), (.slice B d.pending.length e), (.int .i64 d.left), (.bool d.stopped)] := (b198.ext hx209)
                have hS212 : Ext w208 w208 ∧ Blk w208 g2 25 [(.slice A d.sectors.length c), (.slice B d.pending.length e), (.int .i64 d.left), (.bool d.stopped)] := ⟨(Ext.refl w208), b213⟩
                refine any_val (i := 0) (v := (.agg #[(.slice A d.sectors.length c), (.slice B d.pending.length e), (.int .i64 d.left), (.bool d.stopped)])) hF203 (by decide +kernel) (by decide +kernel) rfl rfl rfl rfl (fun _ _ _ _ h => h) rfl hS212 (fun W hW => (rn_loadBlk (hF203.get rfl) hW.2 Try.underlying25 rfl (by kernel_rfl : (Try.prog.info? 25).map (·.size) = some 4))) ?_
                intro a214 hF215; clear hF203
                refine any_val (i := 1) (v := (.agg #[(.slice A d.sectors.length c), (.slice B d.pending.length e), (.int .i64 d.left), (.bool d.stopped)])) hF215 (by decide +kernel) (by decide +kernel) rfl rfl rfl rfl (fun _ _ _ _ h => h) rfl hS212 (fun W hW => (rn_loadBlk (hF215.get rfl) hW.2 Try.underlying25 rfl (by kernel_rfl : (Try.prog.info? 25).map (·.size) = some 4))) ?_
                intro a216 hF217; clear hF215
                refine any_two (i := 2) (k := 3) (by decide +kernel) rfl rfl ?_ ?_
                · skip
                  refine o_new (fun g => (.pointer (some ⟨g, 0, none⟩))) [(.slice none 0 0), (.slice none 0 0), (.int .i64 0), (.bool false)] 25 hF217 rfl rfl rfl rfl (by kernel_rfl) ?_
                  intro g218 w219 a224 hF225 z222 z223 b220 hx221; clear hF217
                  have b226 : Blk w219 g2 25 [(.slice A d.sectors.length c), (.slice B d.pending.length e), (.int .i64 d.left), (.bool d.stopped)] := (b213.ext hx221)
                  refine ⟨fun _ _ => ⟨((Ext.refl w208).trans hx221), b226⟩, ?_⟩
                  refine any_one (i := 3) (by decide +kernel) rfl ?_
                  refine o_new (fun g => (.pointer (some ⟨g, 0, none⟩))) [(.slice none 0 0), (.slice none 0 0), (.int .i64 0), (.bool false)] 25 hF225 rfl rfl rfl rfl (by kernel_rfl) ?_
                  intro g227 w228 a233 hF234 z231 z232 b229 hx230; clear hF225
                  have b235 : Blk w228 g2 25 [(.slice A d.sectors.length c), (.slice B d.pending.length e), (.int .i64 d.left), (.bool d.stopped)] := (b226.ext hx230)
                  refine ⟨fun _ _ => ⟨(((Ext.refl w208).trans hx221).trans hx230), b235⟩, ?_⟩
                  refine any_one (i := 4) (by decide +kernel) rfl ?_
                  have b239 : Blk w228 g218 25 [(.slice none 0 0), (.slice none 0 0), (.int .i64 0), (.bool false)] := (b220.ext hx230)
                  refine o_store (cells := [(.slice A d.sectors.length c), (.slice B d.pending.length e), (.int .i64 d.left), (.bool d.stopped)]) hF234 rfl rfl rfl rfl (hF234.get rfl) (hF234.get rfl) b239 (by kernel_rfl : (Try.prog.info? 25).map (·.size) = some 4) rfl (by simp [Value.oneCell']) ?_
                  intro w236 b237 hg238; have z240 := hg238.size
                  have b241 : Blk w236 g2 25 [(.slice A d.sectors.length c), (.slice B d.pending.length e), (.int .i64 d.left), (.bool d.stopped)] := (b235.grownN hg238 (by omega))
                  refine ⟨fun _ _ => ⟨((((Ext.refl w208).trans hx221).trans hx230).grownN hg238 (by omega)), b241⟩, ?_⟩
                  refine any_one (i := 5) (by decide +kernel) rfl ?_
                  have b245 : Blk w236 g227 25 [(.slice none 0 0), (.slice none 0 0), (.int .i64 0), (.bool false)] := (b229.grownN hg238 (by omega))
                  refine o_store (cells := [(.slice A d.sectors.length c), (.slice B d.pending.length e), (.int .i64 d.left), (.bool d.stopped)]) hF234 rfl rfl rfl rfl (hF234.get rfl) (hF234.get rfl) b245 (by kernel_rfl : (Try.prog.info? 25).map (·.size) = some 4) rfl (by simp [Value.oneCell']) ?_
                  intro w242 b243 hg244; have z246 := hg244.size
                  refine ⟨fun h => absurd h (by decide), ?_⟩
                  refine any_nil (by decide +kernel) ?_
                  have b247 : Blk w242 g218 25 [(.slice A d.sectors.length c), (.slice B d.pending.length e), (.int .i64 d.left), (.bool d.stopped)] := (b237.grownN hg244 (by omega))
                  exact ⟨g218, g227, ((((((((hF234.nil.cons (hF234.get (t := 6) (v := (.pointer (some ⟨g227, 0, none⟩))) rfl)).cons (hF234.get (t := 5) (v := (.pointer (some ⟨g218, 0, none⟩))) rfl)).cons (hF234.get (t := 46) (v := (.bool d.stopped)) rfl)).cons (hF234.get (t := 17) (v := (.bool false)) rfl)).cons (hF234.get (t := 4) (v := (.bool false)) rfl)).cons (hF234.get (t := 2) (v := (.pointer (some ⟨g2, 0, none⟩))) rfl)).cons (hF234.get (t := 1) (v := (.slice C l.length f)) rfl)).cons (hF234.get (t := 0) (v := (.agg #[(.slice A d.sectors.length c), (.slice B d.pending.length e), (.int .i64 d.left), (.bool d.stopped)])) rfl)), ((((((Ext.refl w174).trans hx209).trans hx221).trans hx230).grownN hg238 (by omega)).grownN hg244 (by omega)), b247, b243, (by omega), (by omega), (by omega)⟩
                · skip
                  refine o_new (fun g => (.pointer (some ⟨g, 0, none⟩))) [(.slice none 0 0), (.slice none 0 0), (.int .i64 0), (.bool false)] 25 hF217 rfl rfl rfl rfl (by kernel_rfl) ?_
                  intro g247 w248 a253 hF254 z251 z252 b249 hx250; clear hF217
                  have b255 : Blk w248 g2 25 [(.slice A d.sectors.length c), (.slice B d.pending.length e), (.int .i64 d.left), (.bool d.stopped)] := (b213.ext hx250)
                  refine ⟨fun _ _ => ⟨((Ext.refl w208).trans hx250), b255⟩, ?_⟩
                  refine any_one (i := 2) (by decide +kernel) rfl ?_
                  refine o_new (fun g => (.pointer (some ⟨g, 0, none⟩))) [(.slice none 0 0), (.slice none 0 0), (.int .i64 0), (.bool false)] 25 hF254 rfl rfl rfl rfl (by kernel_rfl) ?_
                  intro g256 w257 a262 hF263 z260 z261 b258 hx259; clear hF254
                  have b264 : Blk w257 g2 25 [(.slice A d.sectors.length c), (.slice B d.pending.length e), (.int .i64 d.left), (.bool d.stopped)] := (b255.ext hx259)
                  refine ⟨fun _ _ => ⟨(((Ext.refl w208).trans hx250).trans hx259), b264⟩, ?_⟩
                  refine any_one (i := 4) (by decide +kernel) rfl ?_
                  refine o_store (cells := [(.slice A d.sectors.length c), (.slice B d.pending.length e), (.int .i64 d.left), (.bool d.stopped)]) hF263 rfl rfl rfl rfl (hF263.get rfl) (hF263.get rfl) b258 (by kernel_rfl : (Try.prog.info? 25).map (·.size) = some 4) rfl (by simp [Value.oneCell']) ?_
                  intro w265 b266 hg267; have z268 := hg267.size
                  have b269 : Blk w265 g2 25 [(.slice A d.sectors.length c), (.slice B d.pending.length e), (.int .i64 d.left), (.bool d.stopped)] := (b264.grownN hg267 (by omega))
                  refine ⟨fun _ _ => ⟨((((Ext.refl w208).trans hx250).trans hx259).grownN hg267 (by omega)), b269⟩, ?_⟩
                  refine any_one (i := 5) (by decide +kernel) rfl ?_
                  have b273 : Blk w265 g247 25 [(.slice none 0 0), (.slice none 0 0), (.int .i64 0), (.bool false)] := ((b249.ext hx259).grownN hg267 (by omega))
                  refine o_store (cells := [(.slice A d.sectors.length c), (.slice B d.pending.length e), (.int .i64 d.left), (.bool d.stopped)]) hF263 rfl rfl rfl rfl (hF263.get rfl) (hF263.get rfl) b273 (by kernel_rfl : (Try.prog.info? 25).map (·.size) = some 4) rfl (by simp [Value.oneCell']) ?_
                  intro w270 b271 hg272; have z274 := hg272.size
                  refine ⟨fun h => absurd h (by decide), ?_⟩
                  refine any_nil (by decide +kernel) ?_
                  have b275 : Blk w270 g256 25 [(.slice A d.sectors.length c), (.slice B d.pending.length e), (.int .i64 d.left), (.bool d.stopped)] := (b266.grownN hg272 (by omega))
                  exact ⟨g256, g247, ((((((((hF263.nil.cons (hF263.get (t := 6) (v := (.pointer (some ⟨g247, 0, none⟩))) rfl)).cons (hF263.get (t := 5) (v := (.pointer (some ⟨g256, 0, none⟩))) rfl)).cons (hF263.get (t := 46) (v := (.bool d.stopped)) rfl)).cons (hF263.get (t := 17) (v := (.bool false)) rfl)).cons (hF263.get (t := 4) (v := (.bool false)) rfl)).cons (hF263.get (t := 2) (v := (.pointer (some ⟨g2, 0, none⟩))) rfl)).cons (hF263.get (t := 1) (v := (.slice C l.length f)) rfl)).cons (hF263.get (t := 0) (v := (.agg #[(.slice A d.sectors.length c), (.slice B d.pending.length e), (.int .i64 d.left), (.bool d.stopped)])) rfl)), ((((((Ext.refl w174).trans hx209).trans hx250).trans hx259).grownN hg267 (by omega)).grownN hg272 (by omega)), b275, b271, (by omega), (by omega), (by omega)⟩
              · rintro a276 w277 ⟨xg218, xg227, hF278, hx279, b280, b281, z282, z283, z284⟩
                have z285 := hx279.size
                clear hF203
                have z286 := b280.lt
                have z287 := b281.lt
                refine wp_seq_k (fun K288 hK288 => ?_)
                refine wp_region_lit ?_
                refine wpl_op (i := 0) rfl (o_val (v := (.int .i64 0)) hF278 rfl rfl rfl rfl (rn_assign rfl) ?_)
                intro a289 hF290; clear hF278
                refine wpList_nil ?_
                refine hK288 _ _ ?_
                clear hK288
                refine wp_seq_k (fun K291 hK291 => ?_)
                refine wp_seq_k (fun K292 hK292 => ?_)
                refine wp_region_lit ?_
                refine wpl_op (i := 0) rfl (o_val (v := (.int .i64 0)) hF290 rfl rfl rfl rfl (rn_assign rfl) ?_)
                intro a293 hF294; clear hF290
                refine wpList_nil ?_
                refine hK292 _ _ ?_
                clear hK292
                refine wp_block ?_
                have d295 := (((((hd.ext hx5).ext hx15).ext hx28).ext hx175).ext hx279)
                have b296 : Blk w277 g2 25 [(.slice A d.sectors.length c), (.slice B d.pending.length e), (.int .i64 d.left), (.bool d.stopped)] := (b198.ext hx279)
                refine wp_loop (fun a' W => ∃ (k : Nat) (xd : Dk) (ev : Int) (xA : Option Addr) (xc : Nat) (xB : Option Addr) (xe : Nat), Sl 131 [(0, (.agg #[(.slice A d.sectors.length c), (.slice B d.pending.length e), (.int .i64 d.left), (.bool d.stopped)])), (1, (.slice C l.length f)), (2, (.pointer (some ⟨g2, 0, none⟩))), (4, (.bool false)), (17, (.bool false)), (46, (.bool d.stopped)), (5, (.pointer (some ⟨xg218, 0, none⟩))), (6, (.pointer (some ⟨xg227, 0, none⟩))), (7, (.int .i64 ev)), (8, (.int .i64 (k : Nat)))] a' ∧ k ≤ l.length ∧ TogI d l k xd ev ∧ Ext w W ∧ Blk W g2 25 [(.slice A d.sectors.length c), (.slice B d.pending.length e), (.int .i64 d.left), (.bool d.stopped)] ∧ Blk W xg218 25 [(.slice xA xd.sectors.length xc), (.slice xB xd.pending.length xe), (.int .i64 xd.left), (.bool xd.stopped)] ∧ Blk W xg227 25 [(.slice A d.sectors.length c), (.slice B d.pending.length e), (.int .i64 d.left), (.bool d.stopped)] ∧ RDk (Clip (fun b => b ≠ g2 ∧ b ≠ xg218 ∧ b ≠ xg227) W) W (.agg #[(.slice xA xd.sectors.length xc), (.slice xB xd.pending.length xe), (.int .i64 xd.left), (.bool xd.stopped)]) xd) (fun a' _ => l.length - (intOf (a'.eval (.tmp 8))).toNat) ⟨0, d, 0, A, c, B, e, ((((((((((hF294.nil.cons (q_get hF294 (t := 8) rfl (by first | rfl | (congr 1; omega)))).cons (q_get hF294 (t := 7) rfl (by first | rfl | (congr 1; omega)))).cons (q_get hF294 (t := 6) rfl rfl)).cons (q_get hF294 (t := 5) rfl rfl)).cons (q_get hF294 (t := 46) rfl rfl)).cons (q_get hF294 (t := 17) rfl rfl)).cons (q_get hF294 (t := 4) rfl rfl)).cons (q_get hF294 (t := 2) rfl rfl)).cons (q_get hF294 (t := 1) rfl rfl)).cons (q_get hF294 (t := 0) rfl rfl)), (by omega), (tog_init hrun (by omega) l), ((((((Ext.refl w).trans hx5).trans hx15).trans hx28).trans hx175).trans hx279), b296, b280, b281, (RDk.sub (S := (Old w)) d295 (fun b hb => by simp only [Clip, Fr, Old] at hb ⊢; omega))⟩ ?_
                clear hF294
                rintro a297 w298 ⟨k, xd, ev, xA, xc, xB, xe, hF299, hp301, hp302, hx300, b303, b304, b305, hf306⟩
                have hL307 := hF299
                have z308 := hx300.size
                have z309 := b303.lt
                have z310 := b304.lt
                have z311 := b305.lt
                refine wp_seq_k (fun K312 hK312 => ?_)
                refine wp_seq_k (fun K313 hK313 => ?_)
                refine wp_region_lit ?_
                refine wpl_op (i := 0) rfl (o_val (v := (.int .i64 (k : Nat))) hF299 rfl rfl rfl rfl (rn_move (hF299.get rfl)) ?_)
                intro a314 hF315; clear hF299
                refine wpl_op (i := 1) rfl (o_val (v := (.slice C l.length f)) hF315 rfl rfl rfl rfl (rn_move (hF315.get rfl)) ?_)
                intro a316 hF317; clear hF315
                refine wpl_op (i := 2) rfl (o_val (v := (.int .i64 (l.length : Nat))) hF317 rfl rfl rfl rfl (rn_len_slice Try.underlying43 (hF317.get rfl)) ?_)
                intro a318 hF319; clear hF317
                refine wpl_op (i := 3) rfl (o_val (v := (.bool (decide (((k : Nat) : Int) < ((l.length : Nat) : Int))))) hF319 rfl rfl rfl rfl (rn_lss (hF319.get rfl) (hF319.get rfl)) ?_)
                intro a320 hF321; clear hF319
                refine wpl_op (i := 4) rfl (o_val (v := (.bool (decide (((k : Nat) : Int) < ((l.length : Nat) : Int))))) hF321 rfl rfl rfl rfl (rn_move (hF321.get rfl)) ?_)
                intro a322 hF323; clear hF321
                by_cases hc324 : ((k : Nat) : Int) < ((l.length : Nat) : Int)
                · skip
                  refine wpl_op (i := 5) rfl (o_val (v := (.int .i64 ev)) hF323 rfl (wanted_guard rfl rfl rfl hF323 rfl (decide_eq_true hc324) rfl) rfl rfl (rn_move (hF323.get rfl)) ?_)
                  intro a325 hF326; clear hF323
                  refine wpl_op (i := 6) rfl (o_val (v := (.bool (decide ((ev : Int) = (0 : Int))))) hF326 rfl (wanted_guard rfl rfl rfl hF326 rfl (decide_eq_true hc324) rfl) rfl rfl (rn_eql (hF326.get rfl) rfl) ?_)
                  intro a327 hF328; clear hF326
                  refine wpl_op (i := 7) rfl (o_val (v := (.bool (decide ((ev : Int) = (0 : Int))))) hF328 rfl rfl rfl rfl (rn_pickT (c_true hF328 rfl (decide_eq_true hc324)) (hF328.get rfl)) ?_)
                  intro a329 hF330; clear hF328
                  refine wpList_nil ?_
                  refine hK313 _ _ ?_
                  clear hK313
                  have hF331 := (((((((((((hF330.nil.cons (hF330.get (t := 56) (v := (.bool (decide ((ev : Int) = (0 : Int))))) rfl)).cons (hF330.get (t := 8) (v := (.int .i64 (k : Nat))) rfl)).cons (hF330.get (t := 7) (v := (.int .i64 ev)) rfl)).cons (hF330.get (t := 6) (v := (.pointer (some ⟨xg227, 0, none⟩))) rfl)).cons (hF330.get (t := 5) (v := (.pointer (some ⟨xg218, 0, none⟩))) rfl)).cons (hF330.get (t := 46) (v := (.bool d.stopped)) rfl)).cons (hF330.get (t := 17) (v := (.bool false)) rfl)).cons (hF330.get (t := 4) (v := (.bool false)) rfl)).cons (hF330.get (t := 2) (v := (.pointer (some ⟨g2, 0, none⟩))) rfl)).cons (hF330.get (t := 1) (v := (.slice C l.length f)) rfl)).cons (hF330.get (t := 0) (v := (.agg #[(.slice A d.sectors.length c), (.slice B d.pending.length e), (.int .i64 d.left), (.bool d.stopped)])) rfl))
                  clear hF330
                  by_cases hc332 : (ev : Int) = (0 : Int)
                  · skip
                    have hev : ev = 0 := hc332
                    have htg : TogI d l k xd 0 := hev ▸ hp302
                    refine wp_cond_true (c_true hF331 rfl (decide_eq_true hc332)) ?_
                    refine wp_skip ?_
                    refine hK312 _ _ ?_
                    clear hK312
                    refine wp_seq_k (fun K333 hK333 => ?_)
                    refine wp_block ?_
                    refine wp_seq_k (fun K334 hK334 => ?_)
                    have hx336 : ∃ W, w298.drew = W ∧ Ext w298 W := ⟨_, rfl, (Ext.refl _).drew⟩
                    obtain ⟨w335, e337, hx336⟩ := hx336
                    have z338 := hx336.size
                    refine any_start (fun W => Ext w335 W ∧ Blk W g2 25 [(.slice A d.sectors.length c), (.slice B d.pending.length e), (.int .i64 d.left), (.bool d.stopped)]) (fun i => false) 11 #[false, false, false, false, false, false, false, false, false, false, false] rfl rfl rfl ?_
                    rw [e337]; clear e337
                    refine any_pure (i := 0) (v := (.slice C l.length f)) hF331 (by decide +kernel) (by decide +kernel) rfl rfl rfl rfl (fun _ _ _ _ h => h) rfl (fun W => (rn_move (hF331.get rfl))) ?_
                    intro a339 hF340; clear hF331
                    refine any_pure (i := 1) (v := (.int .i64 (k : Nat))) hF340 (by decide +kernel) (by decide +kernel) rfl rfl rfl rfl (fun _ _ _ _ h => h) rfl (fun W => (rn_move (hF340.get rfl))) ?_
                    intro a341 hF342; clear hF340
                    obtain ⟨x343, hi344, hm345⟩ := get_of_lt l k (by omega)
                    have z346 := x343.at_.toNat_lt; have z347 := x343.byte.toNat_lt
                    obtain ⟨b348, o349, hA350, hl351, hc352, hc353, hc354⟩ := RAcs.get ha hi344
                    refine any_pure (i := 2) (v := (.pointer (some ⟨b348, o349 + k * 3, none⟩))) hF342 (by decide +kernel) (by decide +kernel) rfl rfl rfl rfl (fun _ _ _ _ h => h) rfl (fun W => (rn_index Try.underlying43 (by kernel_rfl : (Try.prog.info? 46).map (·.size) = some 3) ((hF342.get rfl).trans (by rw [hA350])) (hF342.get rfl) (by omega : (0 : Int) ≤ (k : Nat)) (by omega : ((k : Nat) : Int) < ((l.length : Nat) : Int)))) ?_
                    intro a355 hF356; clear hF342
                    refine any_pure (i := 3) (v := (.pointer (some ⟨b348, o349 + k * 3 + 1, none⟩))) hF356 (by decide +kernel) (by decide +kernel) rfl rfl rfl rfl (fun _ _ _ _ h => h) rfl (fun W => (rn_field Try.underlying46 rfl (by kernel_rfl) (hF356.get rfl) rfl)) ?_
                    intro a357 hF358; clear hF356
                    have b360 : Blk w335 g2 25 [(.slice A d.sectors.length c), (.slice B d.pending.length e), (.int .i64 d.left), (.bool d.stopped)] := (b303.ext hx336)
                    have hS359 : Ext w335 w335 ∧ Blk w335 g2 25 [(.slice A d.sectors.length c), (.slice B d.pending.length e), (.int .i64 d.left), (.bool d.stopped)] := ⟨(Ext.refl w335), b360⟩
                    refine any_val (i := 4) (v := (.int .u8 (x343.at_.toNat : Nat))) hF358 (by decide +kernel) (by decide +kernel) rfl rfl rfl rfl (fun _ _ _ _ h => h) rfl hS359 (fun W hW => (rn_load (isAgg_no Try.underlying5 rfl) (hF358.get rfl) (Ext.keep ((((Ext.refl w).trans hx300).trans hx336).trans hW.1) hc353))) ?_
                    intro a361 hF362; clear hF358
                    refine any_val (i := 5) (v := (.int .i64 (x343.at_.toNat : Nat))) hF362 (by decide +kernel) (by decide +kernel) rfl rfl rfl rfl (fun _ _ _ _ h => h) rfl hS359 (fun W hW => (rn_conv Try.underlying5 Try.underlying3 (hF362.get rfl) (IntWalk.i64_in _ (by omega)))) ?_
                    intro a363 hF364; clear hF362
                    refine any_pure (i := 6) (v := (.pointer (some ⟨g2, 0, none⟩))) hF364 (by decide +kernel) (by decide +kernel) rfl rfl rfl rfl (fun _ _ _ _ h => h) rfl (fun W => (rn_field Try.underlying25 rfl (by kernel_rfl) (hF364.get rfl) rfl)) ?_
                    intro a365 hF366; clear hF364
                    refine any_val (i := 7) (v := (.slice A d.sectors.length c)) hF366 (by decide +kernel) (by decide +kernel) rfl rfl rfl rfl (fun _ _ _ _ h => h) rfl hS359 (fun W hW => (rn_load (isAgg_no Try.underlying22 rfl) (hF366.get rfl) (hW.2.rule.1 0))) ?_
                    intro a367 hF368; clear hF366
                    refine any_pure (i := 8) (v := (.int .i64 (d.sectors.length : Nat))) hF368 (by decide +kernel) (by decide +kernel) rfl rfl rfl rfl (fun _ _ _ _ h => h) rfl (fun W => (rn_len_slice Try.underlying22 (hF368.get rfl))) ?_
                    intro a369 hF370; clear hF368
                    refine any_pure (i := 9) (v := (.int .i64 (((x343.at_.toNat : Nat) : Int) % ((d.sectors.length : Nat) : Int)))) hF370 (by decide +kernel) (by decide +kernel) rfl rfl rfl rfl (fun _ _ _ _ h => h) rfl (fun W => (rn_rem (hF370.get rfl) (hF370.get rfl) (by omega : (0 : Int) ≤ (x343.at_.toNat : Nat)) (by omega : (0 : Int) < (d.sectors.length : Nat)))) ?_
                    intro a371 hF372; clear hF370
                    refine any_pure (i := 10) (v := (.int .i64 (((x343.at_.toNat : Nat) : Int) % ((d.sectors.length : Nat) : Int)))) hF372 (by decide +kernel) (by decide +kernel) rfl rfl rfl rfl (fun _ _ _ _ h => h) rfl (fun W => (rn_assign (hF372.get rfl))) ?_
                    intro a373 hF374; clear hF372
                    refine any_nil (by decide +kernel) ?_
                    refine hK334 _ _ ?_
                    clear hK334
                    have hF375 := ((((((((((((hF374.nil.cons (hF374.get (t := 9) (v := (.int .i64 (((x343.at_.toNat : Nat) : Int) % ((d.sectors.length : Nat) : Int)))) rfl)).cons (hF374.get (t := 56) (v := (.bool (decide ((ev : Int) = (0 : Int))))) rfl)).cons (hF374.get (t := 8) (v := (.int .i64 (k : Nat))) rfl)).cons (hF374.get (t := 7) (v := (.int .i64 ev)) rfl)).cons (hF374.get (t := 6) (v := (.pointer (some ⟨xg227, 0, none⟩))) rfl)).cons (hF374.get (t := 5) (v := (.pointer (some ⟨xg218, 0, none⟩))) rfl)).cons (hF374.get (t := 46) (v := (.bool d.stopped)) rfl)).cons (hF374.get (t := 17) (v := (.bool false)) rfl)).cons (hF374.get (t := 4) (v := (.bool false)) rfl)).cons (hF374.get (t := 2) (v := (.pointer (some ⟨g2, 0, none⟩))) rfl)).cons (hF374.get (t := 1) (v := (.slice C l.length f)) rfl)).cons (hF374.get (t := 0) (v := (.agg #[(.slice A d.sectors.length c), (.slice B d.pending.length e), (.int .i64 d.left), (.bool d.stopped)])) rfl))
                    clear hF374
                    refine wp_meet (fun a' W => ∃ (xg431 : Nat) (xA413 : Option Addr) (xc414 : Nat) (xB415 : Option Addr) (xe416 : Nat), Sl 131 [(0, (.agg #[(.slice A d.sectors.length c), (.slice B d.pending.length e), (.int .i64 d.left), (.bool d.stopped)])), (1, (.slice C l.length f)), (2, (.pointer (some ⟨g2, 0, none⟩))), (4, (.bool false)), (17, (.bool false)), (46, (.bool d.stopped)), (5, (.pointer (some ⟨xg218, 0, none⟩))), (6, (.pointer (some ⟨xg227, 0, none⟩))), (7, (.int .i64 ev)), (8, (.int .i64 (k : Nat))), (56, (.bool (decide ((ev : Int) = (0 : Int))))), (9, (.int .i64 (((x343.at_.toNat : Nat) : Int) % ((d.sectors.length : Nat) : Int)))), (10, (.pointer (some ⟨xg431, 0, none⟩))), (11, (.int .i64 ((xd.write (((x343.at_.toNat : Nat) : Int) % ((d.sectors.length : Nat) : Int)) ([x343.byte])).2)))] a' ∧ Ext w335 W ∧ Blk W xg431 25 [(.slice xA413 (((xd.write (((x343.at_.toNat : Nat) : Int) % ((d.sectors.length : Nat) : Int)) ([x343.byte])).1).sectors.length) xc414), (.slice xB415 (((xd.write (((x343.at_.toNat : Nat) : Int) % ((d.sectors.length : Nat) : Int)) ([x343.byte])).1).pending.length) xe416), (.int .i64 (((xd.write (((x343.at_.toNat : Nat) : Int) % ((d.sectors.length : Nat) : Int)) ([x343.byte])).1).left)), (.bool (((xd.write (((x343.at_.toNat : Nat) : Int) % ((d.sectors.length : Nat) : Int)) ([x343.byte])).1).stopped))] ∧ w335.heap.size ≤ xg431 ∧ RDk (Clip (fun b => b ≠ g2 ∧ b ≠ xg218 ∧ b ≠ xg227 ∧ b ≠ xg431) W) W (.agg #[(.slice xA413 (((xd.write (((x343.at_.toNat : Nat) : Int) % ((d.sectors.length : Nat) : Int)) ([x343.byte])).1).sectors.length) xc414), (.slice xB415 (((xd.write (((x343.at_.toNat : Nat) : Int) % ((d.sectors.length : Nat) : Int)) ([x343.byte])).1).pending.length) xe416), (.int .i64 (((xd.write (((x343.at_.toNat : Nat) : Int) % ((d.sectors.length : Nat) : Int)) ([x343.byte])).1).left)), (.bool (((xd.write (((x343.at_.toNat : Nat) : Int) % ((d.sectors.length : Nat) : Int)) ([x343.byte])).1).stopped))]) ((xd.write (((x343.at_.toNat : Nat) : Int) % ((d.sectors.length : Nat) : Int)) ([x343.byte])).1)) ?_ ?_
                    · skip
                      have hx377 : ∃ W, w335.drew = W ∧ Ext w335 W := ⟨_, rfl, (Ext.refl _).drew⟩
                      obtain ⟨w376, e378, hx377⟩ := hx377
                      have z379 := hx377.size
                      refine any_start (fun W => Ext w376 W ∧ Blk W xg218 25 [(.slice xA xd.sectors.length xc), (.slice xB xd.pending.length xe), (.int .i64 xd.left), (.bool xd.stopped)]) (fun i => i == 13) 15 #[false, false, false, false, false, false, false, false, false, false, false, false, false, false, false] rfl rfl rfl ?_
                      rw [e378]; clear e378
                      have b381 : Blk w376 xg218 25 [(.slice xA xd.sectors.length xc), (.slice xB xd.pending.length xe), (.int .i64 xd.left), (.bool xd.stopped)] := ((b304.ext hx336).ext hx377)
                      have hS380 : Ext w376 w376 ∧ Blk w376 xg218 25 [(.slice xA xd.sectors.length xc), (.slice xB xd.pending.length xe), (.int .i64 xd.left), (.bool xd.stopped)] := ⟨(Ext.refl w376), b381⟩
                      refine any_val (i := 0) (v := (.agg #[(.slice xA xd.sectors.length xc), (.slice xB xd.pending.length xe), (.int .i64 xd.left), (.bool xd.stopped)])) hF375 (by decide +kernel) (by decide +kernel) rfl rfl rfl rfl (fun _ _ _ _ h => h) rfl hS380 (fun W hW => (rn_loadBlk (hF375.get rfl) hW.2 Try.underlying25 rfl (by kernel_rfl : (Try.prog.info? 25).map (·.size) = some 4))) ?_
                      intro a382 hF383; clear hF375
                      refine any_pure (i := 1) (v := (.int .i64 (((x343.at_.toNat : Nat) : Int) % ((d.sectors.length : Nat) : Int)))) hF383 (by decide +kernel) (by decide +kernel) rfl rfl rfl rfl (fun _ _ _ _ h => h) rfl (fun W => (rn_move (hF383.get rfl))) ?_
                      intro a384 hF385; clear hF383
                      refine any_pure (i := 2) (v := (.slice C l.length f)) hF385 (by decide +kernel) (by decide +kernel) rfl rfl rfl rfl (fun _ _ _ _ h => h) rfl (fun W => (rn_move (hF385.get rfl))) ?_
                      intro a386 hF387; clear hF385
                      refine any_pure (i := 3) (v := (.int .i64 (k : Nat))) hF387 (by decide +kernel) (by decide +kernel) rfl rfl rfl rfl (fun _ _ _ _ h => h) rfl (fun W => (rn_move (hF387.get rfl))) ?_
                      intro a388 hF389; clear hF387
                      obtain ⟨b390, o391, hA392, hl393, hc394, hc395, hc396⟩ := RAcs.get ha hi344
                      refine any_pure (i := 4) (v := (.pointer (some ⟨b390, o391 + k * 3, none⟩))) hF389 (by decide +kernel) (by decide +kernel) rfl rfl rfl rfl (fun _ _ _ _ h => h) rfl (fun W => (rn_index Try.underlying43 (by kernel_rfl : (Try.prog.info? 46).map (·.size) = some 3) ((hF389.get rfl).trans (by rw [hA392])) (hF389.get rfl) (by omega : (0 : Int) ≤ (k : Nat)) (by omega : ((k : Nat) : Int) < ((l.length : Nat) : Int)))) ?_
                      intro a397 hF398; clear hF389
                      refine any_pure (i := 5) (v := (.pointer (some ⟨b390, o391 + k * 3 + 2, none⟩))) hF398 (by decide +kernel) (by decide +kernel) rfl rfl rfl rfl (fun _ _ _ _ h => h) rfl (fun W => (rn_field Try.underlying46 rfl (by kernel_rfl) (hF398.get rfl) rfl)) ?_
                      intro a399 hF400; clear hF398
                      refine any_val (i := 6) (v := (.int .u8 (x343.byte.toNat : Nat))) hF400 (by decide +kernel) (by decide +kernel) rfl rfl rfl rfl (fun _ _ _ _ h => h) rfl hS380 (fun W hW => (rn_load (isAgg_no Try.underlying5 rfl) (hF400.get rfl) (Ext.keep (((((Ext.refl w).trans hx300).trans hx336).trans hx377).trans hW.1) hc396))) ?_
                      intro a401 hF402; clear hF400
                      refine any_two (i := 7) (k := 12) (by decide +kernel) rfl rfl ?_ ?_
                      · skip
                        refine o_new (fun g => (.slice (some ⟨g, 0, none⟩) 1 1)) [(.int .u8 (x343.byte.toNat : Nat))] 5 hF402 rfl rfl rfl rfl (rn_buildSlice (parts1 (hF402.get rfl)) (by kernel_rfl)) ?_
                        intro g403 w404 a409 hF410 z407 z408 b405 hx406; clear hF402
                        have b411 : Blk w404 xg218 25 [(.slice xA xd.sectors.length xc), (.slice xB xd.pending.length xe), (.int .i64 xd.left), (.bool xd.stopped)] := (b381.ext hx406)
                        refine ⟨fun _ _ => ⟨((Ext.refl w376).trans hx406), b411⟩, ?_⟩
                        refine any_two (i := 8) (k := 12) (by decide +kernel) rfl rfl ?_ ?_
                        · skip
                          have d412 := (((hf306.ext hx336).ext hx377).ext hx406)
                          refine o_call hF410 rfl rfl rfl rfl (rn_call (args3 (hF410.get rfl) (hF410.get rfl) (hF410.get rfl)) rfl (by kernel_rfl)) (write_any (S := (fun b => (Clip (fun b => b ≠ g2 ∧ b ≠ xg218 ∧ b ≠ xg227) w298) b ∨ (fun b => b = g403) b)) _ _ xd _ ([x343.byte]) _ (d412.sub (fun _ => Or.inl)) ((rbs_blk (S := fun b => b = g403) (n := 1) (l := [x343.byte]) b405 rfl rfl rfl (by omega)).sub (fun _ => Or.inr))) ?_
                          rintro _ w419 ⟨v418, rfl, hd417, hx420⟩
                          obtain ⟨A413, c414, B415, e416, rfl, -, -⟩ := hd417.form
                          have hd417 := hd417.clip
                          refine ⟨_, rfl, ?_⟩; intro a421 hF422; clear hF410; have z423 := hx420.size
                          have b424 : Blk w419 xg218 25 [(.slice xA xd.sectors.length xc), (.slice xB xd.pending.length xe), (.int .i64 xd.left), (.bool xd.stopped)] := (b411.ext hx420)
                          refine ⟨fun _ _ => ⟨(((Ext.refl w376).trans hx406).trans hx420), b424⟩, ?_⟩
                          refine any_pure (i := 9) (v := (.tuple #[(.agg #[(.slice A413 (((xd.write (((x343.at_.toNat : Nat) : Int) % ((d.sectors.length : Nat) : Int)) ([x343.byte])).1).sectors.length) c414), (.slice B415 (((xd.write (((x343.at_.toNat : Nat) : Int) % ((d.sectors.length : Nat) : Int)) ([x343.byte])).1).pending.length) e416), (.int .i64 (((xd.write (((x343.at_.toNat : Nat) : Int) % ((d.sectors.length : Nat) : Int)) ([x343.byte])).1).left)), (.bool (((xd.write (((x343.at_.toNat : Nat) : Int) % ((d.sectors.length : Nat) : Int)) ([x343.byte])).1).stopped))]), (.int .i64 ((xd.write (((x343.at_.toNat : Nat) : Int) % ((d.sectors.length : Nat) : Int)) ([x343.byte])).2))])) hF422 (by decide +kernel) (by decide +kernel) rfl rfl rfl rfl (fun _ _ _ _ h => h) rfl (fun W => (rn_move (hF422.get rfl))) ?_
                          intro a425 hF426; clear hF422
                          refine any_pure (i := 10) (v := (.agg #[(.slice A413 (((xd.write (((x343.at_.toNat : Nat) : Int) % ((d.sectors.length : Nat) : Int)) ([x343.byte])).1).sectors.length) c414), (.slice B415 (((xd.write (((x343.at_.toNat : Nat) : Int) % ((d.sectors.length : Nat) : Int)) ([x343.byte])).1).pending.length) e416), (.int .i64 (((xd.write (((x343.at_.toNat : Nat) : Int) % ((d.sectors.length : Nat) : Int)) ([x343.byte])).1).left)), (.bool (((xd.write (((x343.at_.toNat : Nat) : Int) % ((d.sectors.length : Nat) : Int)) ([x343.byte])).1).stopped))])) hF426 (by decide +kernel) (by decide +kernel) rfl rfl rfl rfl (fun _ _ _ _ h => h) rfl (fun W => (rn_extract (hF426.get rfl) rfl)) ?_
                          intro a427 hF428; clear hF426
                          refine any_pure (i := 11) (v := (.int .i64 ((xd.write (((x343.at_.toNat : Nat) : Int) % ((d.sectors.length : Nat) : Int)) ([x343.byte])).2))) hF428 (by decide +kernel) (by decide +kernel) rfl rfl rfl rfl (fun _ _ _ _ h => h) rfl (fun W => (rn_extract (hF428.get rfl) rfl)) ?_
                          intro a429 hF430; clear hF428
                          refine any_one (i := 12) (by decide +kernel) rfl ?_
                          refine o_new (fun g => (.pointer (some ⟨g, 0, none⟩))) [(.slice none 0 0), (.slice none 0 0), (.int .i64 0), (.bool false)] 25 hF430 rfl rfl rfl rfl (by kernel_rfl) ?_
                          intro g431 w432 a437 hF438 z435 z436 b433 hx434; clear hF430
                          have b439 : Blk w432 xg218 25 [(.slice xA xd.sectors.length xc), (.slice xB xd.pending.length xe), (.int .i64 xd.left), (.bool xd.stopped)] := (b424.ext hx434)
                          refine ⟨fun _ _ => ⟨((((Ext.refl w376).trans hx406).trans hx420).trans hx434), b439⟩, ?_⟩
                          refine any_one (i := 13) (by decide +kernel) rfl ?_
                          refine o_store (cells := [(.slice A413 (((xd.write (((x343.at_.toNat : Nat) : Int) % ((d.sectors.length : Nat) : Int)) ([x343.byte])).1).sectors.length) c414), (.slice B415 (((xd.write (((x343.at_.toNat : Nat) : Int) % ((d.sectors.length : Nat) : Int)) ([x343.byte])).1).pending.length) e416), (.int .i64 (((xd.write (((x343.at_.toNat : Nat) : Int) % ((d.sectors.length : Nat) : Int)) ([x343.byte])).1).left)), (.bool (((xd.write (((x343.at_.toNat : Nat) : Int) % ((d.sectors.length : Nat) : Int)) ([x343.byte])).1).stopped))]) hF438 rfl rfl rfl rfl (hF438.get rfl) (hF438.get rfl) b433 (by kernel_rfl : (Try.prog.info? 25).map (·.size) = some 4) rfl (by simp [Value.oneCell']) ?_
                          intro w440 b441 hg442; have z443 := hg442.size
                          refine ⟨fun h => absurd h (by decide), ?_⟩
                          refine any_pure (i := 14) (v := (.int .i64 ((xd.write (((x343.at_.toNat : Nat) : Int) % ((d.sectors.length : Nat) : Int)) ([x343.byte])).2))) hF438 (by decide +kernel) (by decide +kernel) rfl rfl rfl rfl (fun _ _ _ _ h => h) rfl (fun W => (rn_assign (hF438.get rfl))) ?_
                          intro a444 hF445; clear hF438
                          refine any_nil (by decide +kernel) ?_
                          have d446 := (hd417.pres (((Pres.refl w419).ext hx434).grownN hg442 (fun h => by simp only [Clip, Fr, Old] at h; omega)))
                          exact ⟨g431, A413, c414, B415, e416, ((((((((((((((hF445.nil.cons (hF445.get (t := 11) (v := (.int .i64 ((xd.write (((x343.at_.toNat : Nat) : Int) % ((d.sectors.length : Nat) : Int)) ([x343.byte])).2))) rfl)).cons (hF445.get (t := 10) (v := (.pointer (some ⟨g431, 0, none⟩))) rfl)).cons (hF445.get (t := 9) (v := (.int .i64 (((x343.at_.toNat : Nat) : Int) % ((d.sectors.length : Nat) : Int)))) rfl)).cons (hF445.get (t := 56) (v := (.bool (decide ((ev : Int) = (0 : Int))))) rfl)).cons (hF445.get (t := 8) (v := (.int .i64 (k : Nat))) rfl)).cons (hF445.get (t := 7) (v := (.int .i64 ev)) rfl)).cons (hF445.get (t := 6) (v := (.pointer (some ⟨xg227, 0, none⟩))) rfl)).cons (hF445.get (t := 5) (v := (.pointer (some ⟨xg218, 0, none⟩))) rfl)).cons (hF445.get (t := 46) (v := (.bool d.stopped)) rfl)).cons (hF445.get (t := 17) (v := (.bool false)) rfl)).cons (hF445.get (t := 4) (v := (.bool false)) rfl)).cons (hF445.get (t := 2) (v := (.pointer (some ⟨g2, 0, none⟩))) rfl)).cons (hF445.get (t := 1) (v := (.slice C l.length f)) rfl)).cons (hF445.get (t := 0) (v := (.agg #[(.slice A d.sectors.length c), (.slice B d.pending.length e), (.int .i64 d.left), (.bool d.stopped)])) rfl)), ((((((Ext.refl w335).trans hx377).trans hx406).trans hx420).trans hx434).grownN hg442 (by omega)), b441, (by omega), (RDk.sub (S := (Clip (Fr (fun b => (Clip (fun b => b ≠ g2 ∧ b ≠ xg218 ∧ b ≠ xg227) w298) b ∨ (fun b => b = g403) b) w404) w419)) d446 (fun b hb => by simp only [Clip, Fr, Old] at hb ⊢; omega))⟩
                        · skip
                          refine o_new (fun g => (.pointer (some ⟨g, 0, none⟩))) [(.slice none 0 0), (.slice none 0 0), (.int .i64 0), (.bool false)] 25 hF410 rfl rfl rfl rfl (by kernel_rfl) ?_
                          intro g446 w447 a452 hF453 z450 z451 b448 hx449; clear hF410
                          have b454 : Blk w447 xg218 25 [(.slice xA xd.sectors.length xc), (.slice xB xd.pending.length xe), (.int .i64 xd.left), (.bool xd.stopped)] := (b411.ext hx449)
                          refine ⟨fun _ _ => ⟨(((Ext.refl w376).trans hx406).trans hx449), b454⟩, ?_⟩
                          refine any_one (i := 8) (by decide +kernel) rfl ?_
                          have d455 := ((((hf306.ext hx336).ext hx377).ext hx406).ext hx449)
                          have b456 : Blk w447 g403 5 [(.int .u8 (x343.byte.toNat : Nat))] := (b405.ext hx449)
                          refine o_call hF453 rfl rfl rfl rfl (rn_call (args3 (hF453.get rfl) (hF453.get rfl) (hF453.get rfl)) rfl (by kernel_rfl)) (write_any (S := (fun b => (Clip (fun b => b ≠ g2 ∧ b ≠ xg218 ∧ b ≠ xg227) w298) b ∨ (fun b => b = g403) b)) _ _ xd _ ([x343.byte]) _ (d455.sub (fun _ => Or.inl)) ((rbs_blk (S := fun b => b = g403) (n := 1) (l := [x343.byte]) b456 rfl rfl rfl (by omega)).sub (fun _ => Or.inr))) ?_
                          rintro _ w463 ⟨v462, rfl, hd461, hx464⟩
                          obtain ⟨A457, c458, B459, e460, rfl, -, -⟩ := hd461.form
                          have hd461 := hd461.clip
                          refine ⟨_, rfl, ?_⟩; intro a465 hF466; clear hF453; have z467 := hx464.size
                          have b468 : Blk w463 xg218 25 [(.slice xA xd.sectors.length xc), (.slice xB xd.pending.length xe), (.int .i64 xd.left), (.bool xd.stopped)] := (b454.ext hx464)
                          refine ⟨fun _ _ => ⟨((((Ext.refl w376).trans hx406).trans hx449).trans hx464), b468⟩, ?_⟩
                          refine any_pure (i := 9) (v := (.tuple #[(.agg #[(.slice A457 (((xd.write (((x343.at_.toNat : Nat) : Int) % ((d.sectors.length : Nat) : Int)) ([x343.byte])).1).sectors.length) c458), (.slice B459 (((xd.write (((x343.at_.toNat : Nat) : Int) % ((d.sectors.length : Nat) : Int)) ([x343.byte])).1).pending.length) e460), (.int .i64 (((xd.write (((x343.at_.toNat : Nat) : Int) % ((d.sectors.length : Nat) : Int)) ([x343.byte])).1).left)), (.bool (((xd.write (((x343.at_.toNat : Nat) : Int) % ((d.sectors.length : Nat) : Int)) ([x343.byte])).1).stopped))]), (.int .i64 ((xd.write (((x343.at_.toNat : Nat) : Int) % ((d.sectors.length : Nat) : Int)) ([x343.byte])).2))])) hF466 (by decide +kernel) (by decide +kernel) rfl rfl rfl rfl (fun _ _ _ _ h => h) rfl (fun W => (rn_move (hF466.get rfl))) ?_
                          intro a469 hF470; clear hF466
                          refine any_pure (i := 10) (v := (.agg #[(.slice A457 (((xd.write (((x343.at_.toNat : Nat) : Int) % ((d.sectors.length : Nat) : Int)) ([x343.byte])).1).sectors.length) c458), (.slice B459 (((xd.write (((x343.at_.toNat : Nat) : Int) % ((d.sectors.length : Nat) : Int)) ([x343.byte])).1).pending.length) e460), (.int .i64 (((xd.write (((x343.at_.toNat : Nat) : Int) % ((d.sectors.length : Nat) : Int)) ([x343.byte])).1).left)), (.bool (((xd.write (((x343.at_.toNat : Nat) : Int) % ((d.sectors.length : Nat) : Int)) ([x343.byte])).1).stopped))])) hF470 (by decide +kernel) (by decide +kernel) rfl rfl rfl rfl (fun _ _ _ _ h => h) rfl (fun W => (rn_extract (hF470.get rfl) rfl)) ?_
                          intro a471 hF472; clear hF470
                          refine any_pure (i := 11) (v := (.int .i64 ((xd.write (((x343.at_.toNat : Nat) : Int) % ((d.sectors.length : Nat) : Int)) ([x343.byte])).2))) hF472 (by decide +kernel) (by decide +kernel) rfl rfl rfl rfl (fun _ _ _ _ h => h) rfl (fun W => (rn_extract (hF472.get rfl) rfl)) ?_
                          intro a473 hF474; clear hF472
                          refine any_one (i := 13) (by decide +kernel) rfl ?_
                          have b478 : Blk w463 g446 25 [(.slice none 0 0), (.slice none 0 0), (.int .i64 0), (.bool false)] := (b448.ext hx464)
                          refine o_store (cells := [(.slice A457 (((xd.write (((x343.at_.toNat : Nat) : Int) % ((d.sectors.length : Nat) : Int)) ([x343.byte])).1).sectors.length) c458), (.slice B459 (((xd.write (((x343.at_.toNat : Nat) : Int) % ((d.sectors.length : Nat) : Int)) ([x343.byte])).1).pending.length) e460), (.int .i64 (((xd.write (((x343.at_.toNat : Nat) : Int) % ((d.sectors.length : Nat) : Int)) ([x343.byte])).1).left)), (.bool (((xd.write (((x343.at_.toNat : Nat) : Int) % ((d.sectors.length : Nat) : Int)) ([x343.byte])).1).stopped))]) hF474 rfl rfl rfl rfl (hF474.get rfl) (hF474.get rfl) b478 (by kernel_rfl : (Try.prog.info? 25).map (·.size) = some 4) rfl (by simp [Value.oneCell']) ?_
                          intro w475 b476 hg477; have z479 := hg477.size
                          refine ⟨fun h => absurd h (by decide), ?_⟩
                          refine any_pure (i := 14) (v := (.int .i64 ((xd.write (((x343.at_.toNat : Nat) : Int) % ((d.sectors.length : Nat) : Int)) ([x343.byte])).2))) hF474 (by decide +kernel) (by decide +kernel) rfl rfl rfl rfl (fun _ _ _ _ h => h) rfl (fun W => (rn_assign (hF474.get rfl))) ?_
                          intro a480 hF481; clear hF474
                          refine any_nil (by decide +kernel) ?_
                          have d482 := (hd461.pres ((Pres.refl w463).grownN hg477 (fun h => by simp only [Clip, Fr, Old] at h; omega)))
                          exact ⟨g446, A457, c458, B459, e460, ((((((((((((((hF481.nil.cons (hF481.get (t := 11) (v := (.int .i64 ((xd.write (((x343.at_.toNat : Nat) : Int) % ((d.sectors.length : Nat) : Int)) ([x343.byte])).2))) rfl)).cons (hF481.get (t := 10) (v := (.pointer (some ⟨g446, 0, none⟩))) rfl)).cons (hF481.get (t := 9) (v := (.int .i64 (((x343.at_.toNat : Nat) : Int) % ((d.sectors.length : Nat) : Int)))) rfl)).cons (hF481.get (t := 56) (v := (.bool (decide ((ev : Int) = (0 : Int))))) rfl)).cons (hF481.get (t := 8) (v := (.int .i64 (k : Nat))) rfl)).cons (hF481.get (t := 7) (v := (.int .i64 ev)) rfl)).cons (hF481.get (t := 6) (v := (.pointer (some ⟨xg227, 0, none⟩))) rfl)).cons (hF481.get (t := 5) (v := (.pointer (some ⟨xg218, 0, none⟩))) rfl)).cons (hF481.get (t := 46) (v := (.bool d.stopped)) rfl)).cons (hF481.get (t := 17) (v := (.bool false)) rfl)).cons (hF481.get (t := 4) (v := (.bool false)) rfl)).cons (hF481.get (t := 2) (v := (.pointer (some ⟨g2, 0, none⟩))) rfl)).cons (hF481.get (t := 1) (v := (.slice C l.length f)) rfl)).cons (hF481.get (t := 0) (v := (.agg #[(.slice A d.sectors.length c), (.slice B d.pending.length e), (.int .i64 d.left), (.bool d.stopped)])) rfl)), ((((((Ext.refl w335).trans hx377).trans hx406).trans hx449).trans hx464).grownN hg477 (by omega)), b476, (by omega), (RDk.sub (S := (Clip (Fr (fun b => (Clip (fun b => b ≠ g2 ∧ b ≠ xg218 ∧ b ≠ xg227) w298) b ∨ (fun b => b = g403) b) w447) w463)) d482 (fun b hb => by simp only [Clip, Fr, Old] at hb ⊢; omega))⟩
                      · skip
                        refine o_new (fun g => (.pointer (some ⟨g, 0, none⟩))) [(.slice none 0 0), (.slice none 0 0), (.int .i64 0), (.bool false)] 25 hF402 rfl rfl rfl rfl (by kernel_rfl) ?_
                        intro g482 w483 a488 hF489 z486 z487 b484 hx485; clear hF402
                        have b490 : Blk w483 xg218 25 [(.slice xA xd.sectors.length xc), (.slice xB xd.pending.length xe), (.int .i64 xd.left), (.bool xd.stopped)] := (b381.ext hx485)
                        refine ⟨fun _ _ => ⟨((Ext.refl w376).trans hx485), b490⟩, ?_⟩
                        refine any_one (i := 7) (by decide +kernel) rfl ?_
                        refine o_new (fun g => (.slice (some ⟨g, 0, none⟩) 1 1)) [(.int .u8 (x343.byte.toNat : Nat))] 5 hF489 rfl rfl rfl rfl (rn_buildSlice (parts1 (hF489.get rfl)) (by kernel_rfl)) ?_
                        intro g491 w492 a497 hF498 z495 z496 b493 hx494; clear hF489
                        have b499 : Blk w492 xg218 25 [(.slice xA xd.sectors.length xc), (.slice xB xd.pending.length xe), (.int .i64 xd.left), (.bool xd.stopped)] := (b490.ext hx494)
                        refine ⟨fun _ _ => ⟨(((Ext.refl w376).trans hx485).trans hx494), b499⟩, ?_⟩
                        refine any_one (i := 8) (by decide +kernel) rfl ?_
                        have d500 := ((((hf306.ext hx336).ext hx377).ext hx485).ext hx494)
                        refine o_call hF498 rfl rfl rfl rfl (rn_call (args3 (hF498.get rfl) (hF498.get rfl) (hF498.get rfl)) rfl (by kernel_rfl)) (write_any (S := (fun b => (Clip (fun b => b ≠ g2 ∧ b ≠ xg218 ∧ b ≠ xg227) w298) b ∨ (fun b => b = g491) b)) _ _ xd _ ([x343.byte]) _ (d500.sub (fun _ => Or.inl)) ((rbs_blk (S := fun b => b = g491) (n := 1) (l := [x343.byte]) b493 rfl rfl rfl (by omega)).sub (fun _ => Or.inr))) ?_
                        rintro _ w507 ⟨v506, rfl, hd505, hx508⟩
                        obtain ⟨A501, c502, B503, e504, rfl, -, -⟩ := hd505.form
                        have hd505 := hd505.clip
                        refine ⟨_, rfl, ?_⟩; intro a509 hF510; clear hF498; have z511 := hx508.size
                        have b512 : Blk w507 xg218 25 [(.slice xA xd.sectors.length xc), (.slice xB xd.pending.length xe), (.int .i64 xd.left), (.bool xd.stopped)] := (b499.ext hx508)
                        refine ⟨fun _ _ => ⟨((((Ext.refl w376).trans hx485).trans hx494).trans hx508), b512⟩, ?_⟩
                        refine any_pure (i := 9) (v := (.tuple #[(.agg #[(.slice A501 (((xd.write (((x343.at_.toNat : Nat) : Int) % ((d.sectors.length : Nat) : Int)) ([x343.byte])).1).sectors.length) c502), (.slice B503 (((xd.write (((x343.at_.toNat : Nat) : Int) % ((d.sectors.length : Nat) : Int)) ([x343.byte])).1).pending.length) e504), (.int .i64 (((xd.write (((x343.at_.toNat : Nat) : Int) % ((d.sectors.length : Nat) : Int)) ([x343.byte])).1).left)), (.bool (((xd.write (((x343.at_.toNat : Nat) : Int) % ((d.sectors.length : Nat) : Int)) ([x343.byte])).1).stopped))]), (.int .i64 ((xd.write (((x343.at_.toNat : Nat) : Int) % ((d.sectors.length : Nat) : Int)) ([x343.byte])).2))])) hF510 (by decide +kernel) (by decide +kernel) rfl rfl rfl rfl (fun _ _ _ _ h => h) rfl (fun W => (rn_move (hF510.get rfl))) ?_
                        intro a513 hF514; clear hF510
                        refine any_pure (i := 10) (v := (.agg #[(.slice A501 (((xd.write (((x343.at_.toNat : Nat) : Int) % ((d.sectors.length : Nat) : Int)) ([x343.byte])).1).sectors.length) c502), (.slice B503 (((xd.write (((x343.at_.toNat : Nat) : Int) % ((d.sectors.length : Nat) : Int)) ([x343.byte])).1).pending.length) e504), (.int .i64 (((xd.write (((x343.at_.toNat : Nat) : Int) % ((d.sectors.length : Nat) : Int)) ([x343.byte])).1).left)), (.bool (((xd.write (((x343.at_.toNat : Nat) : Int) % ((d.sectors.length : Nat) : Int)) ([x343.byte])).1).stopped))])) hF514 (by decide +kernel) (by decide +kernel) rfl rfl rfl rfl (fun _ _ _ _ h => h) rfl (fun W => (rn_extract (hF514.get rfl) rfl)) ?_
                        intro a515 hF516; clear hF514
                        refine any_pure (i := 11) (v := (.int .i64 ((xd.write (((x343.at_.toNat : Nat) : Int) % ((d.sectors.length : Nat) : Int)) ([x343.byte])).2))) hF516 (by decide +kernel) (by decide +kernel) rfl rfl rfl rfl (fun _ _ _ _ h => h) rfl (fun W => (rn_extract (hF516.get rfl) rfl)) ?_
                        intro a517 hF518; clear hF516
                        refine any_one (i := 13) (by decide +kernel) rfl ?_
                        have b522 : Blk w507 g482 25 [(.slice none 0 0), (.slice none 0 0), (.int .i64 0), (.bool false)] := ((b484.ext hx494).ext hx508)
                        refine o_store (cells := [(.slice A501 (((xd.write (((x343.at_.toNat : Nat) : Int) % ((d.sectors.length : Nat) : Int)) ([x343.byte])).1).sectors.length) c502), (.slice B503 (((xd.write (((x343.at_.toNat : Nat) : Int) % ((d.sectors.length : Nat) : Int)) ([x343.byte])).1).pending.length) e504), (.int .i64 (((xd.write (((x343.at_.toNat : Nat) : Int) % ((d.sectors.length : Nat) : Int)) ([x343.byte])).1).left)), (.bool (((xd.write (((x343.at_.toNat : Nat) : Int) % ((d.sectors.length : Nat) : Int)) ([x343.byte])).1).stopped))]) hF518 rfl rfl rfl rfl (hF518.get rfl) (hF518.get rfl) b522 (by kernel_rfl : (Try.prog.info? 25).map (·.size) = some 4) rfl (by simp [Value.oneCell']) ?_
                        intro w519 b520 hg521; have z523 := hg521.size
                        refine ⟨fun h => absurd h (by decide), ?_⟩
                        refine any_pure (i := 14) (v := (.int .i64 ((xd.write (((x343.at_.toNat : Nat) : Int) % ((d.sectors.length : Nat) : Int)) ([x343.byte])).2))) hF518 (by decide +kernel) (by decide +kernel) rfl rfl rfl rfl (fun _ _ _ _ h => h) rfl (fun W => (rn_assign (hF518.get rfl))) ?_
                        intro a524 hF525; clear hF518
                        refine any_nil (by decide +kernel) ?_
                        have d526 := (hd505.pres ((Pres.refl w507).grownN hg521 (fun h => by simp only [Clip, Fr, Old] at h; omega)))
                        exact ⟨g482, A501, c502, B503, e504, ((((((((((((((hF525.nil.cons (hF525.get (t := 11) (v := (.int .i64 ((xd.write (((x343.at_.toNat : Nat) : Int) % ((d.sectors.length : Nat) : Int)) ([x343.byte])).2))) rfl)).cons (hF525.get (t := 10) (v := (.pointer (some ⟨g482, 0, none⟩))) rfl)).cons (hF525.get (t := 9) (v := (.int .i64 (((x343.at_.toNat : Nat) : Int) % ((d.sectors.length : Nat) : Int)))) rfl)).cons (hF525.get (t := 56) (v := (.bool (decide ((ev : Int) = (0 : Int))))) rfl)).cons (hF525.get (t := 8) (v := (.int .i64 (k : Nat))) rfl)).cons (hF525.get (t := 7) (v := (.int .i64 ev)) rfl)).cons (hF525.get (t := 6) (v := (.pointer (some ⟨xg227, 0, none⟩))) rfl)).cons (hF525.get (t := 5) (v := (.pointer (some ⟨xg218, 0, none⟩))) rfl)).cons (hF525.get (t := 46) (v := (.bool d.stopped)) rfl)).cons (hF525.get (t := 17) (v := (.bool false)) rfl)).cons (hF525.get (t := 4) (v := (.bool false)) rfl)).cons (hF525.get (t := 2) (v := (.pointer (some ⟨g2, 0, none⟩))) rfl)).cons (hF525.get (t := 1) (v := (.slice C l.length f)) rfl)).cons (hF525.get (t := 0) (v := (.agg #[(.slice A d.sectors.length c), (.slice B d.pending.length e), (.int .i64 d.left), (.bool d.stopped)])) rfl)), ((((((Ext.refl w335).trans hx377).trans hx485).trans hx494).trans hx508).grownN hg521 (by omega)), b520, (by omega), (RDk.sub (S := (Clip (Fr (fun b => (Clip (fun b => b ≠ g2 ∧ b ≠ xg218 ∧ b ≠ xg227) w298) b ∨ (fun b => b = g491) b) w492) w507)) d526 (fun b hb => by simp only [Clip, Fr, Old] at hb ⊢; omega))⟩
                    · rintro a527 w528 ⟨xg431, xA413, xc414, xB415, xe416, hF529, hx530, b531, z533, f532⟩
                      have z534 := hx530.size
                      clear hF375
                      have z535 := b531.lt
                      refine wp_seq_k (fun K536 hK536 => ?_)
                      refine wp_seq_k (fun K537 hK537 => ?_)
                      refine wp_region_lit ?_
                      refine wpl_op (i := 0) rfl (o_val (v := (.int .i64 ((xd.write (((x343.at_.toNat : Nat) : Int) % ((d.sectors.length : Nat) : Int)) ([x343.byte])).2))) hF529 rfl rfl rfl rfl (rn_move (hF529.get rfl)) ?_)
                      intro a538 hF539; clear hF529
                      refine wpl_op (i := 1) rfl (o_val (v := (.bool (decide (((xd.write (((x343.at_.toNat : Nat) : Int) % ((d.sectors.length : Nat) : Int)) ([x343.byte])).2 : Int) ≠ (0 : Int))))) hF539 rfl rfl rfl rfl (rn_neq (hF539.get rfl) rfl) ?_)
                      intro a540 hF541; clear hF539
                      refine wpList_nil ?_
                      refine hK537 _ _ ?_
                      clear hK537
                      refine wp_cond_false (c_false hF541 rfl ((decide_eq_false (by rw [show (xd.write ((((x343.at_.toNat : Nat) : Int) % ((d.sectors.length : Nat) : Int))) [x343.byte]).2 = 0 from tog_w0 hrun htg hi344]; simp)) : decide (((xd.write (((x343.at_.toNat : Nat) : Int) % ((d.sectors.length : Nat) : Int)) ([x343.byte])).2 : Int) ≠ (0 : Int)) = false)) ?_
                      refine wp_skip ?_
                      refine hK536 _ _ ?_
                      clear hK536
                      refine wp_region_lit ?_
                      refine wpl_op (i := 0) rfl (o_val (v := (.agg #[(.slice xA413 (((xd.write (((x343.at_.toNat : Nat) : Int) % ((d.sectors.length : Nat) : Int)) ([x343.byte])).1).sectors.length) xc414), (.slice xB415 (((xd.write (((x343.at_.toNat : Nat) : Int) % ((d.sectors.length : Nat) : Int)) ([x343.byte])).1).pending.length) xe416), (.int .i64 (((xd.write (((x343.at_.toNat : Nat) : Int) % ((d.sectors.length : Nat) : Int)) ([x343.byte])).1).left)), (.bool (((xd.write (((x343.at_.toNat : Nat) : Int) % ((d.sectors.length : Nat) : Int)) ([x343.byte])).1).stopped))])) hF541 rfl rfl rfl rfl (rn_loadBlk (hF541.get rfl) b531 Try.underlying25 rfl (by kernel_rfl : (Try.prog.info? 25).map (·.size) = some 4)) ?_)
                      intro a543 hF544; clear hF541
                      refine wpl_op (i := 1) rfl (o_call hF544 rfl rfl rfl rfl (rn_call (args1 (hF544.get rfl)) rfl (by kernel_rfl)) (sync_any (S := (Clip (fun b => b ≠ g2 ∧ b ≠ xg218 ∧ b ≠ xg227 ∧ b ≠ xg431) w528)) _ ((xd.write (((x343.at_.toNat : Nat) : Int) % ((d.sectors.length : Nat) : Int)) ([x343.byte])).1) _ f532) ?_)
                      rintro _ w551 ⟨v550, rfl, hd549, hx552⟩
                      obtain ⟨A545, c546, B547, e548, rfl, -, -⟩ := hd549.form
                      have hd549 := hd549.clip
                      refine ⟨_, rfl, ?_⟩; intro a553 hF554; clear hF544; have z555 := hx552.size
                      refine wpl_op (i := 2) rfl (o_val (v := (.tuple #[(.agg #[(.slice A545 ((((xd.write (((x343.at_.toNat : Nat) : Int) % ((d.sectors.length : Nat) : Int)) ([x343.byte])).1).sync.1).sectors.length) c546), (.slice B547 ((((xd.write (((x343.at_.toNat : Nat) : Int) % ((d.sectors.length : Nat) : Int)) ([x343.byte])).1).sync.1).pending.length) e548), (.int .i64 ((((xd.write (((x343.at_.toNat : Nat) : Int) % ((d.sectors.length : Nat) : Int)) ([x343.byte])).1).sync.1).left)), (.bool ((((xd.write (((x343.at_.toNat : Nat) : Int) % ((d.sectors.length : Nat) : Int)) ([x343.byte])).1).sync.1).stopped))]), (.int .i64 (((xd.write (((x343.at_.toNat : Nat) : Int) % ((d.sectors.length : Nat) : Int)) ([x343.byte])).1).sync.2))])) hF554 rfl rfl rfl rfl (rn_move (hF554.get rfl)) ?_)
                      intro a556 hF557; clear hF554
                      refine wpl_op (i := 3) rfl (o_val (v := (.agg #[(.slice A545 ((((xd.write (((x343.at_.toNat : Nat) : Int) % ((d.sectors.length : Nat) : Int)) ([x343.byte])).1).sync.1).sectors.length) c546), (.slice B547 ((((xd.write (((x343.at_.toNat : Nat) : Int) % ((d.sectors.length : Nat) : Int)) ([x343.byte])).1).sync.1).pending.length) e548), (.int .i64 ((((xd.write (((x343.at_.toNat : Nat) : Int) % ((d.sectors.length : Nat) : Int)) ([x343.byte])).1).sync.1).left)), (.bool ((((xd.write (((x343.at_.toNat : Nat) : Int) % ((d.sectors.length : Nat) : Int)) ([x343.byte])).1).sync.1).stopped))])) hF557 rfl rfl rfl rfl (rn_extract (hF557.get rfl) rfl) ?_)
                      intro a558 hF559; clear hF557
                      refine wpl_op (i := 4) rfl (o_val (v := (.int .i64 (((xd.write (((x343.at_.toNat : Nat) : Int) % ((d.sectors.length : Nat) : Int)) ([x343.byte])).1).sync.2))) hF559 rfl rfl rfl rfl (rn_extract (hF559.get rfl) rfl) ?_)
                      intro a560 hF561; clear hF559
                      have b565 : Blk w551 xg218 25 [(.slice xA xd.sectors.length xc), (.slice xB xd.pending.length xe), (.int .i64 xd.left), (.bool xd.stopped)] := (((b304.ext hx336).ext hx530).ext hx552)
                      refine wpl_op (i := 5) rfl (o_store (cells := [(.slice A545 ((((xd.write (((x343.at_.toNat : Nat) : Int) % ((d.sectors.length : Nat) : Int)) ([x343.byte])).1).sync.1).sectors.length) c546), (.slice B547 ((((xd.write (((x343.at_.toNat : Nat) : Int) % ((d.sectors.length : Nat) : Int)) ([x343.byte])).1).sync.1).pending.length) e548), (.int .i64 ((((xd.write (((x343.at_.toNat : Nat) : Int) % ((d.sectors.length : Nat) : Int)) ([x343.byte])).1).sync.1).left)), (.bool ((((xd.write (((x343.at_.toNat : Nat) : Int) % ((d.sectors.length : Nat) : Int)) ([x343.byte])).1).sync.1).stopped))]) hF561 rfl rfl rfl rfl (hF561.get rfl) (hF561.get rfl) b565 (by kernel_rfl : (Try.prog.info? 25).map (·.size) = some 4) rfl (by simp [Value.oneCell']) ?_)
                      intro w562 b563 hg564; have z566 := hg564.size
                      refine wpl_op (i := 6) rfl (o_val (v := (.int .i64 (((xd.write (((x343.at_.toNat : Nat) : Int) % ((d.sectors.length : Nat) : Int)) ([x343.byte])).1).sync.2))) hF561 rfl rfl rfl rfl (rn_assign (hF561.get rfl)) ?_)
                      intro a567 hF568; clear hF561
                      refine wpList_nil ?_
                      refine hK333 _ _ ?_
                      clear hK333
                      have hF569 := (((((((((((((((hF568.nil.cons (hF568.get (t := 82) (v := (.bool (decide (((xd.write (((x343.at_.toNat : Nat) : Int) % ((d.sectors.length : Nat) : Int)) ([x343.byte])).2 : Int) ≠ (0 : Int))))) rfl)).cons (hF568.get (t := 11) (v := (.int .i64 ((xd.write (((x343.at_.toNat : Nat) : Int) % ((d.sectors.length : Nat) : Int)) ([x343.byte])).2))) rfl)).cons (hF568.get (t := 10) (v := (.pointer (some ⟨xg431, 0, none⟩))) rfl)).cons (hF568.get (t := 9) (v := (.int .i64 (((x343.at_.toNat : Nat) : Int) % ((d.sectors.length : Nat) : Int)))) rfl)).cons (hF568.get (t := 56) (v := (.bool (decide ((ev : Int) = (0 : Int))))) rfl)).cons (hF568.get (t := 8) (v := (.int .i64 (k : Nat))) rfl)).cons (hF568.get (t := 7) (v := (.int .i64 (((xd.write (((x343.at_.toNat : Nat) : Int) % ((d.sectors.length : Nat) : Int)) ([x343.byte])).1).sync.2))) rfl)).cons (hF568.get (t := 6) (v := (.pointer (some ⟨xg227, 0, none⟩))) rfl)).cons (hF568.get (t := 5) (v := (.pointer (some ⟨xg218, 0, none⟩))) rfl)).cons (hF568.get (t := 46) (v := (.bool d.stopped)) rfl)).cons (hF568.get (t := 17) (v := (.bool false)) rfl)).cons (hF568.get (t := 4) (v := (.bool false)) rfl)).cons (hF568.get (t := 2) (v := (.pointer (some ⟨g2, 0, none⟩))) rfl)).cons (hF568.get (t := 1) (v := (.slice C l.length f)) rfl)).cons (hF568.get (t := 0) (v := (.agg #[(.slice A d.sectors.length c), (.slice B d.pending.length e), (.int .i64 d.left), (.bool d.stopped)])) rfl))
                      clear hF568
                      refine wp_region_lit ?_
                      refine wpl_op (i := 0) rfl (o_val (v := (.int .i64 (k : Nat))) hF569 rfl rfl rfl rfl (rn_move (hF569.get rfl)) ?_)
                      intro a570 hF571; clear hF569
                      refine wpl_op (i := 1) rfl (o_val (v := (.int .i64 ((k : Nat) + 1))) hF571 rfl rfl rfl rfl (rn_add (hF571.get rfl) rfl (by omega) (by omega)) ?_)
                      intro a572 hF573; clear hF571
                      refine wpl_op (i := 2) rfl (o_val (v := (.int .i64 ((k : Nat) + 1))) hF573 rfl rfl rfl rfl (rn_assign (hF573.get rfl)) ?_)
                      intro a574 hF575; clear hF573
                      refine wpList_nil ?_
                      have d576 := (hd549.pres ((Pres.refl w551).grownN hg564 (fun h => by simp only [Clip, Fr, Old] at h; omega)))
                      have b577 : Blk w562 g2 25 [(.slice A d.sectors.length c), (.slice B d.pending.length e), (.int .i64 d.left), (.bool d.stopped)] := (((b360.ext hx530).ext hx552).grownN hg564 (by omega))
                      have b578 : Blk w562 xg227 25 [(.slice A d.sectors.length c), (.slice B d.pending.length e), (.int .i64 d.left), (.bool d.stopped)] := ((((b305.ext hx336).ext hx530).ext hx552).grownN hg564 (by omega))
                      refine ⟨⟨k + 1, ((xd.write (((x343.at_.toNat : Nat) : Int) % ((d.sectors.length : Nat) : Int)) ([x343.byte])).1).sync.1, ((xd.write (((x343.at_.toNat : Nat) : Int) % ((d.sectors.length : Nat) : Int)) ([x343.byte])).1).sync.2, A545, c546, B547, e548, ((((((((((hF575.nil.cons (q_get hF575 (t := 8) rfl (by first | rfl | (congr 1; omega)))).cons (q_get hF575 (t := 7) rfl (by first | rfl | (congr 1; omega)))).cons (q_get hF575 (t := 6) rfl rfl)).cons (q_get hF575 (t := 5) rfl rfl)).cons (q_get hF575 (t := 46) rfl rfl)).cons (q_get hF575 (t := 17) rfl rfl)).cons (q_get hF575 (t := 4) rfl rfl)).cons (q_get hF575 (t := 2) rfl rfl)).cons (q_get hF575 (t := 1) rfl rfl)).cons (q_get hF575 (t := 0) rfl rfl)), (by omega), (tog_step hrun htg hi344 (by omega)), ((((((Ext.refl w).trans hx300).trans hx336).trans hx530).trans hx552).grownN hg564 (by omega)), b577, b563, b578, (RDk.sub (S := (Clip (Fr (Clip (fun b => b ≠ g2 ∧ b ≠ xg218 ∧ b ≠ xg227 ∧ b ≠ xg431) w528) w528) w551)) d576 (fun b hb => by simp only [Clip, Fr, Old] at hb ⊢; omega))⟩, ?_⟩
                      rw [hF575.get (t := 8) rfl, hL307.get (t := 8) rfl]; simp [intOf]; omega
                  · skip
                    have hev : ev ≠ 0 := hc332
                    refine wp_cond_false (c_false hF331 rfl (decide_eq_false hc332)) ?_
                    refine wp_exit ?_
                    refine exit_then ?_
                    refine exit_then ?_
                    refine exit_here ?_
                    refine hK291 _ _ ?_
                    clear hK291
                    refine wp_seq_k (fun K579 hK579 => ?_)
                    refine wp_seq_k (fun K580 hK580 => ?_)
                    refine wp_region_lit ?_
                    refine wpl_op (i := 0) rfl (o_val (v := (.int .i64 0)) hF331 rfl rfl rfl rfl (rn_assign rfl) ?_)
                    intro a581 hF582; clear hF331
                    refine wpList_nil ?_
                    refine hK580 _ _ ?_
                    clear hK580
                    refine wp_block ?_
                    have hend := tog_end hrun hp302 (fun h0 => by omega) (by omega)
                    have d583 := (hd.ext hx300)
                    refine wp_loop (fun a' W => ∃ (k2 : Nat) (yd : Dk) (yA : Option Addr) (yc : Nat) (yB : Option Addr) (ye : Nat), Sl 131 [(0, (.agg #[(.slice A d.sectors.length c), (.slice B d.pending.length e), (.int .i64 d.left), (.bool d.stopped)])), (1, (.slice C l.length f)), (2, (.pointer (some ⟨g2, 0, none⟩))), (4, (.bool false)), (17, (.bool false)), (46, (.bool d.stopped)), (5, (.pointer (some ⟨xg218, 0, none⟩))), (6, (.pointer (some ⟨xg227, 0, none⟩))), (7, (.int .i64 ev)), (8, (.int .i64 (k : Nat))), (56, (.bool (decide ((ev : Int) = (0 : Int))))), (12, (.int .i64 (k2 : Nat)))] a' ∧ k2 ≤ l.length ∧ yd = d.wi (wsOf d.sectors.length l) k2 ∧ Ext w W ∧ Blk W g2 25 [(.slice A d.sectors.length c), (.slice B d.pending.length e), (.int .i64 d.left), (.bool d.stopped)] ∧ Blk W xg218 25 [(.slice xA xd.sectors.length xc), (.slice xB xd.pending.length xe), (.int .i64 xd.left), (.bool xd.stopped)] ∧ Blk W xg227 25 [(.slice yA yd.sectors.length yc), (.slice yB yd.pending.length ye), (.int .i64 yd.left), (.bool yd.stopped)] ∧ RDk (Clip (fun b => b ≠ g2 ∧ b ≠ xg218 ∧ b ≠ xg227) W) W (.agg #[(.slice xA xd.sectors.length xc), (.slice xB xd.pending.length xe), (.int .i64 xd.left), (.bool xd.stopped)]) xd ∧ RDk (Clip (fun b => b ≠ g2 ∧ b ≠ xg218 ∧ b ≠ xg227) W) W (.agg #[(.slice yA yd.sectors.length yc), (.slice yB yd.pending.length ye), (.int .i64 yd.left), (.bool yd.stopped)]) yd) (fun a' _ => l.length - (intOf (a'.eval (.tmp 12))).toNat) ⟨0, d, A, c, B, e, ((((((((((((hF582.nil.cons (q_get hF582 (t := 12) rfl (by first | rfl | (congr 1; omega)))).cons (q_get hF582 (t := 56) rfl rfl)).cons (q_get hF582 (t := 8) rfl rfl)).cons (q_get hF582 (t := 7) rfl rfl)).cons (q_get hF582 (t := 6) rfl rfl)).cons (q_get hF582 (t := 5) rfl rfl)).cons (q_get hF582 (t := 46) rfl rfl)).cons (q_get hF582 (t := 17) rfl rfl)).cons (q_get hF582 (t := 4) rfl rfl)).cons (q_get hF582 (t := 2) rfl rfl)).cons (q_get hF582 (t := 1) rfl rfl)).cons (q_get hF582 (t := 0) rfl rfl)), (by omega), (wi_zero (by omega)), ((Ext.refl w).trans hx300), b303, b304, b305, (RDk.sub (S := (Clip (fun b => b ≠ g2 ∧ b ≠ xg218 ∧ b ≠ xg227) w298)) hf306 (fun b hb => by simp only [Clip, Fr, Old] at hb ⊢; omega)), (RDk.sub (S := (Old w)) d583 (fun b hb => by simp only [Clip, Fr, Old] at hb ⊢; omega))⟩ ?_
                    clear hF582
                    rintro a584 w585 ⟨k2, yd, yA, yc, yB, ye, hF586, hp588, hp589, hx587, b590, b591, b592, hf593, hf594⟩
                    have hL595 := hF586
                    have z596 := hx587.size
                    have z597 := b590.lt
                    have z598 := b591.lt
                    have z599 := b592.lt
                    refine wp_seq_k (fun K600 hK600 => ?_)
                    refine wp_seq_k (fun K601 hK601 => ?_)
                    refine wp_region_lit ?_
                    refine wpl_op (i := 0) rfl (o_val (v := (.int .i64 (k2 : Nat))) hF586 rfl rfl rfl rfl (rn_move (hF586.get rfl)) ?_)
                    intro a602 hF603; clear hF586
                    refine wpl_op (i := 1) rfl (o_val (v := (.slice C l.length f)) hF603 rfl rfl rfl rfl (rn_move (hF603.get rfl)) ?_)
                    intro a604 hF605; clear hF603
                    refine wpl_op (i := 2) rfl (o_val (v := (.int .i64 (l.length : Nat))) hF605 rfl rfl rfl rfl (rn_len_slice Try.underlying43 (hF605.get rfl)) ?_)
                    intro a606 hF607; clear hF605
                    refine wpl_op (i := 3) rfl (o_val (v := (.bool (decide (((k2 : Nat) : Int) < ((l.length : Nat) : Int))))) hF607 rfl rfl rfl rfl (rn_lss (hF607.get rfl) (hF607.get rfl)) ?_)
                    intro a608 hF609; clear hF607
                    refine wpList_nil ?_
                    refine hK601 _ _ ?_
                    clear hK601
                    by_cases hc610 : ((k2 : Nat) : Int) < ((l.length : Nat) : Int)
                    · skip
                      refine wp_cond_true (c_true hF609 rfl (decide_eq_true hc610)) ?_
                      refine wp_skip ?_
                      refine hK600 _ _ ?_
                      clear hK600
                      refine wp_seq_k (fun K611 hK611 => ?_)
                      refine wp_block ?_
                      obtain ⟨x612, hi613, hm614⟩ := get_of_lt l k2 (by omega)
                      have z615 := x612.at_.toNat_lt; have z616 := x612.byte.toNat_lt
                      refine wp_meet (fun a' W => ∃ (xg693 : Nat) (xA674 : Option Addr) (xc675 : Nat) (xB676 : Option Addr) (xe677 : Nat), Sl 131 [(0, (.agg #[(.slice A d.sectors.length c), (.slice B d.pending.length e), (.int .i64 d.left), (.bool d.stopped)])), (1, (.slice C l.length f)), (2, (.pointer (some ⟨g2, 0, none⟩))), (4, (.bool false)), (17, (.bool false)), (46, (.bool d.stopped)), (5, (.pointer (some ⟨xg218, 0, none⟩))), (6, (.pointer (some ⟨xg227, 0, none⟩))), (7, (.int .i64 ev)), (8, (.int .i64 (k : Nat))), (56, (.bool (decide ((ev : Int) = (0 : Int))))), (12, (.int .i64 (k2 : Nat))), (91, (.bool (decide (((k2 : Nat) : Int) < ((l.length : Nat) : Int))))), (13, (.pointer (some ⟨xg693, 0, none⟩))), (14, (.int .i64 ((yd.write (((x612.at_.toNat : Nat) : Int) % ((d.sectors.length : Nat) : Int)) ([x612.byte])).2)))] a' ∧ Ext w585 W ∧ Blk W xg693 25 [(.slice xA674 (((yd.write (((x612.at_.toNat : Nat) : Int) % ((d.sectors.length : Nat) : Int)) ([x612.byte])).1).sectors.length) xc675), (.slice xB676 (((yd.write (((x612.at_.toNat : Nat) : Int) % ((d.sectors.length : Nat) : Int)) ([x612.byte])).1).pending.length) xe677), (.int .i64 (((yd.write (((x612.at_.toNat : Nat) : Int) % ((d.sectors.length : Nat) : Int)) ([x612.byte])).1).left)), (.bool (((yd.write (((x612.at_.toNat : Nat) : Int) % ((d.sectors.length : Nat) : Int)) ([x612.byte])).1).stopped))] ∧ w585.heap.size ≤ xg693 ∧ RDk (Clip (fun b => b ≠ g2 ∧ b ≠ xg218 ∧ b ≠ xg227 ∧ b ≠ xg693) W) W (.agg #[(.slice xA674 (((yd.write (((x612.at_.toNat : Nat) : Int) % ((d.sectors.length : Nat) : Int)) ([x612.byte])).1).sectors.length) xc675), (.slice xB676 (((yd.write (((x612.at_.toNat : Nat) : Int) % ((d.sectors.length : Nat) : Int)) ([x612.byte])).1).pending.length) xe677), (.int .i64 (((yd.write (((x612.at_.toNat : Nat) : Int) % ((d.sectors.length : Nat) : Int)) ([x612.byte])).1).left)), (.bool (((yd.write (((x612.at_.toNat : Nat) : Int) % ((d.sectors.length : Nat) : Int)) ([x612.byte])).1).stopped))]) ((yd.write (((x612.at_.toNat : Nat) : Int) % ((d.sectors.length : Nat) : Int)) ([x612.byte])).1)) ?_ ?_
                      · skip
                        have hx618 : ∃ W, w585.drew = W ∧ Ext w585 W := ⟨_, rfl, (Ext.refl _).drew⟩
                        obtain ⟨w617, e619, hx618⟩ := hx618
                        have z620 := hx618.size
                        refine any_start (fun W => Ext w617 W ∧ Blk W xg227 25 [(.slice yA yd.sectors.length yc), (.slice yB yd.pending.length ye), (.int .i64 yd.left), (.bool yd.stopped)] ∧ Blk W g2 25 [(.slice A d.sectors.length c), (.slice B d.pending.length e), (.int .i64 d.left), (.bool d.stopped)]) (fun i => i == 22) 24 #[false, false, false, false, false, false, false, false, false, false, false, false, false, false, false, false, false, false, false, false, false, false, false, false] rfl rfl rfl ?_
                        rw [e619]; clear e619
                        have b622 : Blk w617 xg227 25 [(.slice yA yd.sectors.length yc), (.slice yB yd.pending.length ye), (.int .i64 yd.left), (.bool yd.stopped)] := (b592.ext hx618)
                        have b623 : Blk w617 g2 25 [(.slice A d.sectors.length c), (.slice B d.pending.length e), (.int .i64 d.left), (.bool d.stopped)] := (b590.ext hx618)
                        have hS621 : Ext w617 w617 ∧ Blk w617 xg227 25 [(.slice yA yd.sectors.length yc), (.slice yB yd.pending.length ye), (.int .i64 yd.left), (.bool yd.stopped)] ∧ Blk w617 g2 25 [(.slice A d.sectors.length c), (.slice B d.pending.length e), (.int .i64 d.left), (.bool d.stopped)] := ⟨(Ext.refl w617), b622, b623⟩
                        refine any_val (i := 0) (v := (.agg #[(.slice yA yd.sectors.length yc), (.slice yB yd.pending.length ye), (.int .i64 yd.left), (.bool yd.stopped)])) hF609 (by decide +kernel) (by decide +kernel) rfl rfl rfl rfl (fun _ _ _ _ h => h) rfl hS621 (fun W hW => (rn_loadBlk (hF609.get rfl) hW.2.1 Try.underlying25 rfl (by kernel_rfl : (Try.prog.info? 25).map (·.size) = some 4))) ?_
                        intro a624 hF625; clear hF609
                        refine any_pure (i := 1) (v := (.slice C l.length f)) hF625 (by decide +kernel) (by decide +kernel) rfl rfl rfl rfl (fun _ _ _ _ h => h) rfl (fun W => (rn_move (hF625.get rfl))) ?_
                        intro a626 hF627; clear hF625
                        refine any_pure (i := 2) (v := (.int .i64 (k2 : Nat))) hF627 (by decide +kernel) (by decide +kernel) rfl rfl rfl rfl (fun _ _ _ _ h => h) rfl (fun W => (rn_move (hF627.get rfl))) ?_
                        intro a628 hF629; clear hF627
                        obtain ⟨b630, o631, hA632, hl633, hc634, hc635, hc636⟩ := RAcs.get ha hi613
                        refine any_pure (i := 3) (v := (.pointer (some ⟨b630, o631 + k2 * 3, none⟩))) hF629 (by decide +kernel) (by decide +kernel) rfl rfl rfl rfl (fun _ _ _ _ h => h) rfl (fun W => (rn_index Try.underlying43 (by kernel_rfl : (Try.prog.info? 46).map (·.size) = some 3) ((hF629.get rfl).trans (by rw [hA632])) (hF629.get rfl) (by omega : (0 : Int) ≤ (k2 : Nat)) (by omega : ((k2 : Nat) : Int) < ((l.length : Nat) : Int)))) ?_
                        intro a637 hF638; clear hF629
                        refine any_pure (i := 4) (v := (.pointer (some ⟨b630, o631 + k2 * 3 + 1, none⟩))) hF638 (by decide +kernel) (by decide +kernel) rfl rfl rfl rfl (fun _ _ _ _ h => h) rfl (fun W => (rn_field Try.underlying46 rfl (by kernel_rfl) (hF638.get rfl) rfl)) ?_
                        intro a639 hF640; clear hF638
                        refine any_val (i := 5) (v := (.int .u8 (x612.at_.toNat : Nat))) hF640 (by decide +kernel) (by decide +kernel) rfl rfl rfl rfl (fun _ _ _ _ h => h) rfl hS621 (fun W hW => (rn_load (isAgg_no Try.underlying5 rfl) (hF640.get rfl) (Ext.keep ((((Ext.refl w).trans hx587).trans hx618).trans hW.1) hc635))) ?_
                        intro a641 hF642; clear hF640
                        refine any_val (i := 6) (v := (.int .i64 (x612.at_.toNat : Nat))) hF642 (by decide +kernel) (by decide +kernel) rfl rfl rfl rfl (fun _ _ _ _ h => h) rfl hS621 (fun W hW => (rn_conv Try.underlying5 Try.underlying3 (hF642.get rfl) (IntWalk.i64_in _ (by omega)))) ?_
                        intro a643 hF644; clear hF642
                        refine any_pure (i := 7) (v := (.pointer (some ⟨g2, 0, none⟩))) hF644 (by decide +kernel) (by decide +kernel) rfl rfl rfl rfl (fun _ _ _ _ h => h) rfl (fun W => (rn_field Try.underlying25 rfl (by kernel_rfl) (hF644.get rfl) rfl)) ?_
                        intro a645 hF646; clear hF644
                        refine any_val (i := 8) (v := (.slice A d.sectors.length c)) hF646 (by decide +kernel) (by decide +kernel) rfl rfl rfl rfl (fun _ _ _ _ h => h) rfl hS621 (fun W hW => (rn_load (isAgg_no Try.underlying22 rfl) (hF646.get rfl) (hW.2.2.rule.1 0))) ?_
                        intro a647 hF648; clear hF646
                        refine any_pure (i := 9) (v := (.int .i64 (d.sectors.length : Nat))) hF648 (by decide +kernel) (by decide +kernel) rfl rfl rfl rfl (fun _ _ _ _ h => h) rfl (fun W => (rn_len_slice Try.underlying22 (hF648.get rfl))) ?_
                        intro a649 hF650; clear hF648
                        refine any_pure (i := 10) (v := (.int .i64 (((x612.at_.toNat : Nat) : Int) % ((d.sectors.length : Nat) : Int)))) hF650 (by decide +kernel) (by decide +kernel) rfl rfl rfl rfl (fun _ _ _ _ h => h) rfl (fun W => (rn_rem (hF650.get rfl) (hF650.get rfl) (by omega : (0 : Int) ≤ (x612.at_.toNat : Nat)) (by omega : (0 : Int) < (d.sectors.length : Nat)))) ?_
                        intro a651 hF652; clear hF650
                        refine any_pure (i := 11) (v := (.slice C l.length f)) hF652 (by decide +kernel) (by decide +kernel) rfl rfl rfl rfl (fun _ _ _ _ h => h) rfl (fun W => (rn_move (hF652.get rfl))) ?_
                        intro a653 hF654; clear hF652
                        refine any_pure (i := 12) (v := (.int .i64 (k2 : Nat))) hF654 (by decide +kernel) (by decide +kernel) rfl rfl rfl rfl (fun _ _ _ _ h => h) rfl (fun W => (rn_move (hF654.get rfl))) ?_
                        intro a655 hF656; clear hF654
                        refine any_pure (i := 13) (v := (.pointer (some ⟨b630, o631 + k2 * 3, none⟩))) hF656 (by decide +kernel) (by decide +kernel) rfl rfl rfl rfl (fun _ _ _ _ h => h) rfl (fun W => (rn_index Try.underlying43 (by kernel_rfl : (Try.prog.info? 46).map (·.size) = some 3) ((hF656.get rfl).trans (by rw [hA632])) (hF656.get rfl) (by omega : (0 : Int) ≤ (k2 : Nat)) (by omega : ((k2 : Nat) : Int) < ((l.length : Nat) : Int)))) ?_
                        intro a657 hF658; clear hF656
                        refine any_pure (i := 14) (v := (.pointer (some ⟨b630, o631 + k2 * 3 + 2, none⟩))) hF658 (by decide +kernel) (by decide +kernel) rfl rfl rfl rfl (fun _ _ _ _ h => h) rfl (fun W => (rn_field Try.underlying46 rfl (by kernel_rfl) (hF658.get rfl) rfl)) ?_
                        intro a659 hF660; clear hF658
                        refine any_val (i := 15) (v := (.int .u8 (x612.byte.toNat : Nat))) hF660 (by decide +kernel) (by decide +kernel) rfl rfl rfl rfl (fun _ _ _ _ h => h) rfl hS621 (fun W hW => (rn_load (isAgg_no Try.underlying5 rfl) (hF660.get rfl) (Ext.keep ((((Ext.refl w).trans hx587).trans hx618).trans hW.1) hc636))) ?_
                        intro a661 hF662; clear hF660
                        refine any_two (i := 16) (k := 21) (by decide +kernel) rfl rfl ?_ ?_
                        · skip
                          refine o_new (fun g => (.slice (some ⟨g, 0, none⟩) 1 1)) [(.int .u8 (x612.byte.toNat : Nat))] 5 hF662 rfl rfl rfl rfl (rn_buildSlice (parts1 (hF662.get rfl)) (by kernel_rfl)) ?_
                          intro g663 w664 a669 hF670 z667 z668 b665 hx666; clear hF662
                          have b671 : Blk w664 xg227 25 [(.slice yA yd.sectors.length yc), (.slice yB yd.pending.length ye), (.int .i64 yd.left), (.bool yd.stopped)] := (b622.ext hx666)
                          have b672 : Blk w664 g2 25 [(.slice A d.sectors.length c), (.slice B d.pending.length e), (.int .i64 d.left), (.bool d.stopped)] := (b623.ext hx666)
                          refine ⟨fun _ _ => ⟨((Ext.refl w617).trans hx666), b671, b672⟩, ?_⟩
                          refine any_two (i := 17) (k := 21) (by decide +kernel) rfl rfl ?_ ?_
                          · skip
                            have d673 := ((hf594.ext hx618).ext hx666)
                            refine o_call hF670 rfl rfl rfl rfl (rn_call (args3 (hF670.get rfl) (hF670.get rfl) (hF670.get rfl)) rfl (by kernel_rfl)) (write_any (S := (fun b => (Clip (fun b => b ≠ g2 ∧ b ≠ xg218 ∧ b ≠ xg227) w585) b ∨ (fun b => b = g663) b)) _ _ yd _ ([x612.byte]) _ (d673.sub (fun _ => Or.inl)) ((rbs_blk (S := fun b => b = g663) (n := 1) (l := [x612.byte]) b665 rfl rfl rfl (by omega)).sub (fun _ => Or.inr))) ?_
                            rintro _ w680 ⟨v679, rfl, hd678, hx681⟩
                            obtain ⟨A674, c675, B676, e677, rfl, -, -⟩ := hd678.form
                            have hd678 := hd678.clip
                            refine ⟨_, rfl, ?_⟩; intro a682 hF683; clear hF670; have z684 := hx681.size
                            have b685 : Blk w680 xg227 25 [(.slice yA yd.sectors.length yc), (.slice yB yd.pending.length ye), (.int .i64 yd.left), (.bool yd.stopped)] := (b671.ext hx681)
                            have b686 : Blk w680 g2 25 [(.slice A d.sectors.length c), (.slice B d.pending.length e), (.int .i64 d.left), (.bool d.stopped)] := (b672.ext hx681)
                            refine ⟨fun _ _ => ⟨(((Ext.refl w617).trans hx666).trans hx681), b685, b686⟩, ?_⟩
                            refine any_pure (i := 18) (v := (.tuple #[(.agg #[(.slice A674 (((yd.write (((x612.at_.toNat : Nat) : Int) % ((d.sectors.length : Nat) : Int)) ([x612.byte])).1).sectors.length) c675), (.slice B676 (((yd.write (((x612.at_.toNat : Nat) : Int) % ((d.sectors.length : Nat) : Int)) ([x612.byte])).1).pending.length) e677), (.int .i64 (((yd.write (((x612.at_.toNat : Nat) : Int) % ((d.sectors.length : Nat) : Int)) ([x612.byte])).1).left)), (.bool (((yd.write (((x612.at_.toNat : Nat) : Int) % ((d.sectors.length : Nat) : Int)) ([x612.byte])).1).stopped))]), (.int .i64 ((yd.write (((x612.at_.toNat : Nat) : Int) % ((d.sectors.length : Nat) : Int)) ([x612.byte])).2))])) hF683 (by decide +kernel) (by decide +kernel) rfl rfl rfl rfl (fun _ _ _ _ h => h) rfl (fun W => (rn_move (hF683.get rfl))) ?_
                            intro a687 hF688; clear hF683
                            refine any_pure (i := 19) (v := (.agg #[(.slice A674 (((yd.write (((x612.at_.toNat : Nat) : Int) % ((d.sectors.length : Nat) : Int)) ([x612.byte])).1).sectors.length) c675), (.slice B676 (((yd.write (((x612.at_.toNat : Nat) : Int) % ((d.sectors.length : Nat) : Int)) ([x612.byte])).1).pending.length) e677), (.int .i64 (((yd.write (((x612.at_.toNat : Nat) : Int) % ((d.sectors.length : Nat) : Int)) ([x612.byte])).1).left)), (.bool (((yd.write (((x612.at_.toNat : Nat) : Int) % ((d.sectors.length : Nat) : Int)) ([x612.byte])).1).stopped))])) hF688 (by decide +kernel) (by decide +kernel) rfl rfl rfl rfl (fun _ _ _ _ h => h) rfl (fun W => (rn_extract (hF688.get rfl) rfl)) ?_
                            intro a689 hF690; clear hF688
                            refine any_pure (i := 20) (v := (.int .i64 ((yd.write (((x612.at_.toNat : Nat) : Int) % ((d.sectors.length : Nat) : Int)) ([x612.byte])).2))) hF690 (by decide +kernel) (by decide +kernel) rfl rfl rfl rfl (fun _ _ _ _ h => h) rfl (fun W => (rn_extract (hF690.get rfl) rfl)) ?_
                            intro a691 hF692; clear hF690
                            refine any_one (i := 21) (by decide +kernel) rfl ?_
                            refine o_new (fun g => (.pointer (some ⟨g, 0, none⟩))) [(.slice none 0 0), (.slice none 0 0), (.int .i64 0), (.bool false)] 25 hF692 rfl rfl rfl rfl (by kernel_rfl) ?_
                            intro g693 w694 a699 hF700 z697 z698 b695 hx696; clear hF692
                            have b701 : Blk w694 xg227 25 [(.slice yA yd.sectors.length yc), (.slice yB yd.pending.length ye), (.int .i64 yd.left), (.bool yd.stopped)] := (b685.ext hx696)
                            have b702 : Blk w694 g2 25 [(.slice A d.sectors.length c), (.slice B d.pending.length e), (.int .i64 d.left), (.bool d.stopped)] := (b686.ext hx696)
                            refine ⟨fun _ _ => ⟨((((Ext.refl w617).trans hx666).trans hx681).trans hx696), b701, b702⟩, ?_⟩
                            refine any_one (i := 22) (by decide +kernel) rfl ?_
                            refine o_store (cells := [(.slice A674 (((yd.write (((x612.at_.toNat : Nat) : Int) % ((d.sectors.length : Nat) : Int)) ([x612.byte])).1).sectors.length) c675), (.slice B676 (((yd.write (((x612.at_.toNat : Nat) : Int) % ((d.sectors.length : Nat) : Int)) ([x612.byte])).1).pending.length) e677), (.int .i64 (((yd.write (((x612.at_.toNat : Nat) : Int) % ((d.sectors.length : Nat) : Int)) ([x612.byte])).1).left)), (.bool (((yd.write (((x612.at_.toNat : Nat) : Int) % ((d.sectors.length : Nat) : Int)) ([x612.byte])).1).stopped))]) hF700 rfl rfl rfl rfl (hF700.get rfl) (hF700.get rfl) b695 (by kernel_rfl : (Try.prog.info? 25).map (·.size) = some 4) rfl (by simp [Value.oneCell']) ?_
                            intro w703 b704 hg705; have z706 := hg705.size
                            refine ⟨fun h => absurd h (by decide), ?_⟩
                            refine any_pure (i := 23) (v := (.int .i64 ((yd.write (((x612.at_.toNat : Nat) : Int) % ((d.sectors.length : Nat) : Int)) ([x612.byte])).2))) hF700 (by decide +kernel) (by decide +kernel) rfl rfl rfl rfl (fun _ _ _ _ h => h) rfl (fun W => (rn_assign (hF700.get rfl))) ?_
                            intro a707 hF708; clear hF700
                            refine any_nil (by decide +kernel) ?_
                            have d709 := (hd678.pres (((Pres.refl w680).ext hx696).grownN hg705 (fun h => by simp only [Clip, Fr, Old] at h; omega)))
                            exact ⟨g693, A674, c675, B676, e677, (((((((((((((((hF708.nil.cons (hF708.get (t := 14) (v := (.int .i64 ((yd.write (((x612.at_.toNat : Nat) : Int) % ((d.sectors.length : Nat) : Int)) ([x612.byte])).2))) rfl)).cons (hF708.get (t := 13) (v := (.pointer (some ⟨g693, 0, none⟩))) rfl)).cons (hF708.get (t := 91) (v := (.bool (decide (((k2 : Nat) : Int) < ((l.length : Nat) : Int))))) rfl)).cons (hF708.get (t := 12) (v := (.int .i64 (k2 : Nat))) rfl)).cons (hF708.get (t := 56) (v := (.bool (decide ((ev : Int) = (0 : Int))))) rfl)).cons (hF708.get (t := 8) (v := (.int .i64 (k : Nat))) rfl)).cons (hF708.get (t := 7) (v := (.int .i64 ev)) rfl)).cons (hF708.get (t := 6) (v := (.pointer (some ⟨xg227, 0, none⟩))) rfl)).cons (hF708.get (t := 5) (v := (.pointer (some ⟨xg218, 0, none⟩))) rfl)).cons (hF708.get (t := 46) (v := (.bool d.stopped)) rfl)).cons (hF708.get (t := 17) (v := (.bool false)) rfl)).cons (hF708.get (t := 4) (v := (.bool false)) rfl)).cons (hF708.get (t := 2) (v := (.pointer (some ⟨g2, 0, none⟩))) rfl)).cons (hF708.get (t := 1) (v := (.slice C l.length f)) rfl)).cons (hF708.get (t := 0) (v := (.agg #[(.slice A d.sectors.length c), (.slice B d.pending.length e), (.int .i64 d.left), (.bool d.stopped)])) rfl)), ((((((Ext.refl w585).trans hx618).trans hx666).trans hx681).trans hx696).grownN hg705 (by omega)), b704, (by omega), (RDk.sub (S := (Clip (Fr (fun b => (Clip (fun b => b ≠ g2 ∧ b ≠ xg218 ∧ b ≠ xg227) w585) b ∨ (fun b => b = g663) b) w664) w680)) d709 (fun b hb => by simp only [Clip, Fr, Old] at hb ⊢; omega))⟩
                          · skip
                            refine o_new (fun g => (.pointer (some ⟨g, 0, none⟩))) [(.slice none 0 0), (.slice none 0 0), (.int .i64 0), (.bool false)] 25 hF670 rfl rfl rfl rfl (by kernel_rfl) ?_
                            intro g709 w710 a715 hF716 z713 z714 b711 hx712; clear hF670
                            have b717 : Blk w710 xg227 25 [(.slice yA yd.sectors.length yc), (.slice yB yd.pending.length ye), (.int .i64 yd.left), (.bool yd.stopped)] := (b671.ext hx712)
                            have b718 : Blk w710 g2 25 [(.slice A d.sectors.length c), (.slice B d.pending.length e), (.int .i64 d.left), (.bool d.stopped)] := (b672.ext hx712)
                            refine ⟨fun _ _ => ⟨(((Ext.refl w617).trans hx666).trans hx712), b717, b718⟩, ?_⟩
                            refine any_one (i := 17) (by decide +kernel) rfl ?_
                            have d719 := (((hf594.ext hx618).ext hx666).ext hx712)
                            have b720 : Blk w710 g663 5 [(.int .u8 (x612.byte.toNat : Nat))] := (b665.ext hx712)
                            refine o_call hF716 rfl rfl rfl rfl (rn_call (args3 (hF716.get rfl) (hF716.get rfl) (hF716.get rfl)) rfl (by kernel_rfl)) (write_any (S := (fun b => (Clip (fun b => b ≠ g2 ∧ b ≠ xg218 ∧ b ≠ xg227) w585) b ∨ (fun b => b = g663) b)) _ _ yd _ ([x612.byte]) _ (d719.sub (fun _ => Or.inl)) ((rbs_blk (S := fun b => b = g663) (n := 1) (l := [x612.byte]) b720 rfl rfl rfl (by omega)).sub (fun _ => Or.inr))) ?_
                            rintro _ w727 ⟨v726, rfl, hd725, hx728⟩
                            obtain ⟨A721, c722, B723, e724, rfl, -, -⟩ := hd725.form
                            have hd725 := hd725.clip
                            refine ⟨_, rfl, ?_⟩; intro a729 hF730; clear hF716; have z731 := hx728.size
                            have b732 : Blk w727 xg227 25 [(.slice yA yd.sectors.length yc), (.slice yB yd.pending.length ye), (.int .i64 yd.left), (.bool yd.stopped)] := (b717.ext hx728)
                            have b733 : Blk w727 g2 25 [(.slice A d.sectors.length c), (.slice B d.pending.length e), (.int .i64 d.left), (.bool d.stopped)] := (b718.ext hx728)
                            refine ⟨fun _ _ => ⟨((((Ext.refl w617).trans hx666).trans hx712).trans hx728), b732, b733⟩, ?_⟩
                            refine any_pure (i := 18) (v := (.tuple #[(.agg #[(.slice A721 (((yd.write (((x612.at_.toNat : Nat) : Int) % ((d.sectors.length : Nat) : Int)) ([x612.byte])).1).sectors.length) c722), (.slice B723 (((yd.write (((x612.at_.toNat : Nat) : Int) % ((d.sectors.length : Nat) : Int)) ([x612.byte])).1).pending.length) e724), (.int .i64 (((yd.write (((x612.at_.toNat : Nat) : Int) % ((d.sectors.length : Nat) : Int)) ([x612.byte])).1).left)), (.bool (((yd.write (((x612.at_.toNat : Nat) : Int) % ((d.sectors.length : Nat) : Int)) ([x612.byte])).1).stopped))]), (.int .i64 ((yd.write (((x612.at_.toNat : Nat) : Int) % ((d.sectors.length : Nat) : Int)) ([x612.byte])).2))])) hF730 (by decide +kernel) (by decide +kernel) rfl rfl rfl rfl (fun _ _ _ _ h => h) rfl (fun W => (rn_move (hF730.get rfl))) ?_
                            intro a734 hF735; clear hF730
                            refine any_pure (i := 19) (v := (.agg #[(.slice A721 (((yd.write (((x612.at_.toNat : Nat) : Int) % ((d.sectors.length : Nat) : Int)) ([x612.byte])).1).sectors.length) c722), (.slice B723 (((yd.write (((x612.at_.toNat : Nat) : Int) % ((d.sectors.length : Nat) : Int)) ([x612.byte])).1).pending.length) e724), (.int .i64 (((yd.write (((x612.at_.toNat : Nat) : Int) % ((d.sectors.length : Nat) : Int)) ([x612.byte])).1).left)), (.bool (((yd.write (((x612.at_.toNat : Nat) : Int) % ((d.sectors.length : Nat) : Int)) ([x612.byte])).1).stopped))])) hF735 (by decide +kernel) (by decide +kernel) rfl rfl rfl rfl (fun _ _ _ _ h => h) rfl (fun W => (rn_extract (hF735.get rfl) rfl)) ?_
                            intro a736 hF737; clear hF735
                            refine any_pure (i := 20) (v := (.int .i64 ((yd.write (((x612.at_.toNat : Nat) : Int) % ((d.sectors.length : Nat) : Int)) ([x612.byte])).2))) hF737 (by decide +kernel) (by decide +kernel) rfl rfl rfl rfl (fun _ _ _ _ h => h) rfl (fun W => (rn_extract (hF737.get rfl) rfl)) ?_
                            intro a738 hF739; clear hF737
                            refine any_one (i := 22) (by decide +kernel) rfl ?_
                            have b743 : Blk w727 g709 25 [(.slice none 0 0), (.slice none 0 0), (.int .i64 0), (.bool false)] := (b711.ext hx728)
                            refine o_store (cells := [(.slice A721 (((yd.write (((x612.at_.toNat : Nat) : Int) % ((d.sectors.length : Nat) : Int)) ([x612.byte])).1).sectors.length) c722), (.slice B723 (((yd.write (((x612.at_.toNat : Nat) : Int) % ((d.sectors.length : Nat) : Int)) ([x612.byte])).1).pending.length) e724), (.int .i64 (((yd.write (((x612.at_.toNat : Nat) : Int) % ((d.sectors.length : Nat) : Int)) ([x612.byte])).1).left)), (.bool (((yd.write (((x612.at_.toNat : Nat) : Int) % ((d.sectors.length : Nat) : Int)) ([x612.byte])).1).stopped))]) hF739 rfl rfl rfl rfl (hF739.get rfl) (hF739.get rfl) b743 (by kernel_rfl : (Try.prog.info? 25).map (·.size) = some 4) rfl (by simp [Value.oneCell']) ?_
                            intro w740 b741 hg742; have z744 := hg742.size
                            refine ⟨fun h => absurd h (by decide), ?_⟩
                            refine any_pure (i := 23) (v := (.int .i64 ((yd.write (((x612.at_.toNat : Nat) : Int) % ((d.sectors.length : Nat) : Int)) ([x612.byte])).2))) hF739 (by decide +kernel) (by decide +kernel) rfl rfl rfl rfl (fun _ _ _ _ h => h) rfl (fun W => (rn_assign (hF739.get rfl))) ?_
                            intro a745 hF746; clear hF739
                            refine any_nil (by decide +kernel) ?_
                            have d747 := (hd725.pres ((Pres.refl w727).grownN hg742 (fun h => by simp only [Clip, Fr, Old] at h; omega)))
                            exact ⟨g709, A721, c722, B723, e724, (((((((((((((((hF746.nil.cons (hF746.get (t := 14) (v := (.int .i64 ((yd.write (((x612.at_.toNat : Nat) : Int) % ((d.sectors.length : Nat) : Int)) ([x612.byte])).2))) rfl)).cons (hF746.get (t := 13) (v := (.pointer (some ⟨g709, 0, none⟩))) rfl)).cons (hF746.get (t := 91) (v := (.bool (decide (((k2 : Nat) : Int) < ((l.length : Nat) : Int))))) rfl)).cons (hF746.get (t := 12) (v := (.int .i64 (k2 : Nat))) rfl)).cons (hF746.get (t := 56) (v := (.bool (decide ((ev : Int) = (0 : Int))))) rfl)).cons (hF746.get (t := 8) (v := (.int .i64 (k : Nat))) rfl)).cons (hF746.get (t := 7) (v := (.int .i64 ev)) rfl)).cons (hF746.get (t := 6) (v := (.pointer (some ⟨xg227, 0, none⟩))) rfl)).cons (hF746.get (t := 5) (v := (.pointer (some ⟨xg218, 0, none⟩))) rfl)).cons (hF746.get (t := 46) (v := (.bool d.stopped)) rfl)).cons (hF746.get (t := 17) (v := (.bool false)) rfl)).cons (hF746.get (t := 4) (v := (.bool false)) rfl)).cons (hF746.get (t := 2) (v := (.pointer (some ⟨g2, 0, none⟩))) rfl)).cons (hF746.get (t := 1) (v := (.slice C l.length f)) rfl)).cons (hF746.get (t := 0) (v := (.agg #[(.slice A d.sectors.length c), (.slice B d.pending.length e), (.int .i64 d.left), (.bool d.stopped)])) rfl)), ((((((Ext.refl w585).trans hx618).trans hx666).trans hx712).trans hx728).grownN hg742 (by omega)), b741, (by omega), (RDk.sub (S := (Clip (Fr (fun b => (Clip (fun b => b ≠ g2 ∧ b ≠ xg218 ∧ b ≠ xg227) w585) b ∨ (fun b => b = g663) b) w710) w727)) d747 (fun b hb => by simp only [Clip, Fr, Old] at hb ⊢; omega))⟩
                        · skip
                          refine o_new (fun g => (.pointer (some ⟨g, 0, none⟩))) [(.slice none 0 0), (.slice none 0 0), (.int .i64 0), (.bool false)] 25 hF662 rfl rfl rfl rfl (by kernel_rfl) ?_
                          intro g747 w748 a753 hF754 z751 z752 b749 hx750; clear hF662
                          have b755 : Blk w748 xg227 25 [(.slice yA yd.sectors.length yc), (.slice yB yd.pending.length ye), (.int .i64 yd.left), (.bool yd.stopped)] := (b622.ext hx750)
                          have b756 : Blk w748 g2 25 [(.slice A d.sectors.length c), (.slice B d.pending.length e), (.int .i64 d.left), (.bool d.stopped)] := (b623.ext hx750)
                          refine ⟨fun _ _ => ⟨((Ext.refl w617).trans hx750), b755, b756⟩, ?_⟩
                          refine any_one (i := 16) (by decide +kernel) rfl ?_
                          refine o_new (fun g => (.slice (some ⟨g, 0, none⟩) 1 1)) [(.int .u8 (x612.byte.toNat : Nat))] 5 hF754 rfl rfl rfl rfl (rn_buildSlice (parts1 (hF754.get rfl)) (by kernel_rfl)) ?_
                          intro g757 w758 a763 hF764 z761 z762 b759 hx760; clear hF754
                          have b765 : Blk w758 xg227 25 [(.slice yA yd.sectors.length yc), (.slice yB yd.pending.length ye), (.int .i64 yd.left), (.bool yd.stopped)] := (b755.ext hx760)
                          have b766 : Blk w758 g2 25 [(.slice A d.sectors.length c), (.slice B d.pending.length e), (.int .i64 d.left), (.bool d.stopped)] := (b756.ext hx760)
                          refine ⟨fun _ _ => ⟨(((Ext.refl w617).trans hx750).trans hx760), b765, b766⟩, ?_⟩
                          refine any_one (i := 17) (by decide +kernel) rfl ?_
                          have d767 := (((hf594.ext hx618).ext hx750).ext hx760)
                          refine o_call hF764 rfl rfl rfl rfl (rn_call (args3 (hF764.get rfl) (hF764.get rfl) (hF764.get rfl)) rfl (by kernel_rfl)) (write_any (S := (fun b => (Clip (fun b => b ≠ g2 ∧ b ≠ xg218 ∧ b ≠ xg227) w585) b ∨ (fun b => b = g757) b)) _ _ yd _ ([x612.byte]) _ (d767.sub (fun _ => Or.inl)) ((rbs_blk (S := fun b => b = g757) (n := 1) (l := [x612.byte]) b759 rfl rfl rfl (by omega)).sub (fun _ => Or.inr))) ?_
                          rintro _ w774 ⟨v773, rfl, hd772, hx775⟩
                          obtain ⟨A768, c769, B770, e771, rfl, -, -⟩ := hd772.form
                          have hd772 := hd772.clip
                          refine ⟨_, rfl, ?_⟩; intro a776 hF777; clear hF764; have z778 := hx775.size
                          have b779 : Blk w774 xg227 25 [(.slice yA yd.sectors.length yc), (.slice yB yd.pending.length ye), (.int .i64 yd.left), (.bool yd.stopped)] := (b765.ext hx775)
                          have b780 : Blk w774 g2 25 [(.slice A d.sectors.length c), (.slice B d.pending.length e), (.int .i64 d.left), (.bool d.stopped)] := (b766.ext hx775)
                          refine ⟨fun _ _ => ⟨((((Ext.refl w617).trans hx750).trans hx760).trans hx775), b779, b780⟩, ?_⟩
                          refine any_pure (i := 18) (v := (.tuple #[(.agg #[(.slice A768 (((yd.write (((x612.at_.toNat : Nat) : Int) % ((d.sectors.length : Nat) : Int)) ([x612.byte])).1).sectors.length) c769), (.slice B770 (((yd.write (((x612.at_.toNat : Nat) : Int) % ((d.sectors.length : Nat) : Int)) ([x612.byte])).1).pending.length) e771), (.int .i64 (((yd.write (((x612.at_.toNat : Nat) : Int) % ((d.sectors.length : Nat) : Int)) ([x612.byte])).1).left)), (.bool (((yd.write (((x612.at_.toNat : Nat) : Int) % ((d.sectors.length : Nat) : Int)) ([x612.byte])).1).stopped))]), (.int .i64 ((yd.write (((x612.at_.toNat : Nat) : Int) % ((d.sectors.length : Nat) : Int)) ([x612.byte])).2))])) hF777 (by decide +kernel) (by decide +kernel) rfl rfl rfl rfl (fun _ _ _ _ h => h) rfl (fun W => (rn_move (hF777.get rfl))) ?_
                          intro a781 hF782; clear hF777
                          refine any_pure (i := 19) (v := (.agg #[(.slice A768 (((yd.write (((x612.at_.toNat : Nat) : Int) % ((d.sectors.length : Nat) : Int)) ([x612.byte])).1).sectors.length) c769), (.slice B770 (((yd.write (((x612.at_.toNat : Nat) : Int) % ((d.sectors.length : Nat) : Int)) ([x612.byte])).1).pending.length) e771), (.int .i64 (((yd.write (((x612.at_.toNat : Nat) : Int) % ((d.sectors.length : Nat) : Int)) ([x612.byte])).1).left)), (.bool (((yd.write (((x612.at_.toNat : Nat) : Int) % ((d.sectors.length : Nat) : Int)) ([x612.byte])).1).stopped))])) hF782 (by decide +kernel) (by decide +kernel) rfl rfl rfl rfl (fun _ _ _ _ h => h) rfl (fun W => (rn_extract (hF782.get rfl) rfl)) ?_
                          intro a783 hF784; clear hF782
                          refine any_pure (i := 20) (v := (.int .i64 ((yd.write (((x612.at_.toNat : Nat) : Int) % ((d.sectors.length : Nat) : Int)) ([x612.byte])).2))) hF784 (by decide +kernel) (by decide +kernel) rfl rfl rfl rfl (fun _ _ _ _ h => h) rfl (fun W => (rn_extract (hF784.get rfl) rfl)) ?_
                          intro a785 hF786; clear hF784
                          refine any_one (i := 22) (by decide +kernel) rfl ?_
                          have b790 : Blk w774 g747 25 [(.slice none 0 0), (.slice none 0 0), (.int .i64 0), (.bool false)] := ((b749.ext hx760).ext hx775)
                          refine o_store (cells := [(.slice A768 (((yd.write (((x612.at_.toNat : Nat) : Int) % ((d.sectors.length : Nat) : Int)) ([x612.byte])).1).sectors.length) c769), (.slice B770 (((yd.write (((x612.at_.toNat : Nat) : Int) % ((d.sectors.length : Nat) : Int)) ([x612.byte])).1).pending.length) e771), (.int .i64 (((yd.write (((x612.at_.toNat : Nat) : Int) % ((d.sectors.length : Nat) : Int)) ([x612.byte])).1).left)), (.bool (((yd.write (((x612.at_.toNat : Nat) : Int) % ((d.sectors.length : Nat) : Int)) ([x612.byte])).1).stopped))]) hF786 rfl rfl rfl rfl (hF786.get rfl) (hF786.get rfl) b790 (by kernel_rfl : (Try.prog.info? 25).map (·.size) = some 4) rfl (by simp [Value.oneCell']) ?_
                          intro w787 b788 hg789; have z791 := hg789.size
                          refine ⟨fun h => absurd h (by decide), ?_⟩
                          refine any_pure (i := 23) (v := (.int .i64 ((yd.write (((x612.at_.toNat : Nat) : Int) % ((d.sectors.length : Nat) : Int)) ([x612.byte])).2))) hF786 (by decide +kernel) (by decide +kernel) rfl rfl rfl rfl (fun _ _ _ _ h => h) rfl (fun W => (rn_assign (hF786.get rfl))) ?_
                          intro a792 hF793; clear hF786
                          refine any_nil (by decide +kernel) ?_
                          have d794 := (hd772.pres ((Pres.refl w774).grownN hg789 (fun h => by simp only [Clip, Fr, Old] at h; omega)))
                          exact ⟨g747, A768, c769, B770, e771, (((((((((((((((hF793.nil.cons (hF793.get (t := 14) (v := (.int .i64 ((yd.write (((x612.at_.toNat : Nat) : Int) % ((d.sectors.length : Nat) : Int)) ([x612.byte])).2))) rfl)).cons (hF793.get (t := 13) (v := (.pointer (some ⟨g747, 0, none⟩))) rfl)).cons (hF793.get (t := 91) (v := (.bool (decide (((k2 : Nat) : Int) < ((l.length : Nat) : Int))))) rfl)).cons (hF793.get (t := 12) (v := (.int .i64 (k2 : Nat))) rfl)).cons (hF793.get (t := 56) (v := (.bool (decide ((ev : Int) = (0 : Int))))) rfl)).cons (hF793.get (t := 8) (v := (.int .i64 (k : Nat))) rfl)).cons (hF793.get (t := 7) (v := (.int .i64 ev)) rfl)).cons (hF793.get (t := 6) (v := (.pointer (some ⟨xg227, 0, none⟩))) rfl)).cons (hF793.get (t := 5) (v := (.pointer (some ⟨xg218, 0, none⟩))) rfl)).cons (hF793.get (t := 46) (v := (.bool d.stopped)) rfl)).cons (hF793.get (t := 17) (v := (.bool false)) rfl)).cons (hF793.get (t := 4) (v := (.bool false)) rfl)).cons (hF793.get (t := 2) (v := (.pointer (some ⟨g2, 0, none⟩))) rfl)).cons (hF793.get (t := 1) (v := (.slice C l.length f)) rfl)).cons (hF793.get (t := 0) (v := (.agg #[(.slice A d.sectors.length c), (.slice B d.pending.length e), (.int .i64 d.left), (.bool d.stopped)])) rfl)), ((((((Ext.refl w585).trans hx618).trans hx750).trans hx760).trans hx775).grownN hg789 (by omega)), b788, (by omega), (RDk.sub (S := (Clip (Fr (fun b => (Clip (fun b => b ≠ g2 ∧ b ≠ xg218 ∧ b ≠ xg227) w585) b ∨ (fun b => b = g757) b) w758) w774)) d794 (fun b hb => by simp only [Clip, Fr, Old] at hb ⊢; omega))⟩
                      · rintro a795 w796 ⟨xg693, xA674, xc675, xB676, xe677, hF797, hx798, b799, z801, f800⟩
                        have z802 := hx798.size
                        clear hF609
                        have z803 := b799.lt
                        refine wp_seq_k (fun K804 hK804 => ?_)
                        refine wp_seq_k (fun K805 hK805 => ?_)
                        refine wp_region_lit ?_
                        refine wpl_op (i := 0) rfl (o_val (v := (.int .i64 ((yd.write (((x612.at_.toNat : Nat) : Int) % ((d.sectors.length : Nat) : Int)) ([x612.byte])).2))) hF797 rfl rfl rfl rfl (rn_move (hF797.get rfl)) ?_)
                        intro a806 hF807; clear hF797
                        refine wpl_op (i := 1) rfl (o_val (v := (.bool (decide (((yd.write (((x612.at_.toNat : Nat) : Int) % ((d.sectors.length : Nat) : Int)) ([x612.byte])).2 : Int) ≠ (0 : Int))))) hF807 rfl rfl rfl rfl (rn_neq (hF807.get rfl) rfl) ?_)
                        intro a808 hF809; clear hF807
                        refine wpList_nil ?_
                        refine hK805 _ _ ?_
                        clear hK805
                        refine wp_cond_false (c_false hF809 rfl ((decide_eq_false (by rw [show (yd.write ((((x612.at_.toNat : Nat) : Int) % ((d.sectors.length : Nat) : Int))) [x612.byte]).2 = 0 from by rw [hp589]; exact congrArg Prod.snd (tog_next hrun hi613 (by omega))]; simp)) : decide (((yd.write (((x612.at_.toNat : Nat) : Int) % ((d.sectors.length : Nat) : Int)) ([x612.byte])).2 : Int) ≠ (0 : Int)) = false)) ?_
                        refine wp_skip ?_
                        refine hK804 _ _ ?_
                        clear hK804
                        refine wp_region_lit ?_
                        refine wpl_op (i := 0) rfl (o_val (v := (.agg #[(.slice xA674 (((yd.write (((x612.at_.toNat : Nat) : Int) % ((d.sectors.length : Nat) : Int)) ([x612.byte])).1).sectors.length) xc675), (.slice xB676 (((yd.write (((x612.at_.toNat : Nat) : Int) % ((d.sectors.length : Nat) : Int)) ([x612.byte])).1).pending.length) xe677), (.int .i64 (((yd.write (((x612.at_.toNat : Nat) : Int) % ((d.sectors.length : Nat) : Int)) ([x612.byte])).1).left)), (.bool (((yd.write (((x612.at_.toNat : Nat) : Int) % ((d.sectors.length : Nat) : Int)) ([x612.byte])).1).stopped))])) hF809 rfl rfl rfl rfl (rn_loadBlk (hF809.get rfl) b799 Try.underlying25 rfl (by kernel_rfl : (Try.prog.info? 25).map (·.size) = some 4)) ?_)
                        intro a811 hF812; clear hF809
                        have b816 : Blk w796 xg227 25 [(.slice yA yd.sectors.length yc), (.slice yB yd.pending.length ye), (.int .i64 yd.left), (.bool yd.stopped)] := (b592.ext hx798)
                        refine wpl_op (i := 1) rfl (o_store (cells := [(.slice xA674 (((yd.write (((x612.at_.toNat : Nat) : Int) % ((d.sectors.length : Nat) : Int)) ([x612.byte])).1).sectors.length) xc675), (.slice xB676 (((yd.write (((x612.at_.toNat : Nat) : Int) % ((d.sectors.length : Nat) : Int)) ([x612.byte])).1).pending.length) xe677), (.int .i64 (((yd.write (((x612.at_.toNat : Nat) : Int) % ((d.sectors.length : Nat) : Int)) ([x612.byte])).1).left)), (.bool (((yd.write (((x612.at_.toNat : Nat) : Int) % ((d.sectors.length : Nat) : Int)) ([x612.byte])).1).stopped))]) hF812 rfl rfl rfl rfl (hF812.get rfl) (hF812.get rfl) b816 (by kernel_rfl : (Try.prog.info? 25).map (·.size) = some 4) rfl (by simp [Value.oneCell']) ?_)
                        intro w813 b814 hg815; have z817 := hg815.size
                        refine wpList_nil ?_
                        refine hK611 _ _ ?_
                        clear hK611
                        refine wp_region_lit ?_
                        refine wpl_op (i := 0) rfl (o_val (v := (.int .i64 (k2 : Nat))) hF812 rfl rfl rfl rfl (rn_move (hF812.get rfl)) ?_)
                        intro a818 hF819; clear hF812
                        refine wpl_op (i := 1) rfl (o_val (v := (.int .i64 ((k2 : Nat) + 1))) hF819 rfl rfl rfl rfl (rn_add (hF819.get rfl) rfl (by omega) (by omega)) ?_)
                        intro a820 hF821; clear hF819
                        refine wpl_op (i := 2) rfl (o_val (v := (.int .i64 ((k2 : Nat) + 1))) hF821 rfl rfl rfl rfl (rn_assign (hF821.get rfl)) ?_)
                        intro a822 hF823; clear hF821
                        refine wpList_nil ?_
                        have d824 := (f800.pres ((Pres.refl w796).grownN hg815 (fun h => by simp only [Clip, Fr, Old] at h; omega)))
                        have d825 := (hf593.pres (((Pres.refl w585).ext hx798).grownN hg815 (fun h => by simp only [Clip, Fr, Old] at h; omega)))
                        have b826 : Blk w813 g2 25 [(.slice A d.sectors.length c), (.slice B d.pending.length e), (.int .i64 d.left), (.bool d.stopped)] := ((b590.ext hx798).grownN hg815 (by omega))
                        have b827 : Blk w813 xg218 25 [(.slice xA xd.sectors.length xc), (.slice xB xd.pending.length xe), (.int .i64 xd.left), (.bool xd.stopped)] := ((b591.ext hx798).grownN hg815 (by omega))
                        refine ⟨⟨k2 + 1, (yd.write (((x612.at_.toNat : Nat) : Int) % ((d.sectors.length : Nat) : Int)) ([x612.byte])).1, xA674, xc675, xB676, xe677, ((((((((((((hF823.nil.cons (q_get hF823 (t := 12) rfl (by first | rfl | (congr 1; omega)))).cons (q_get hF823 (t := 56) rfl rfl)).cons (q_get hF823 (t := 8) rfl rfl)).cons (q_get hF823 (t := 7) rfl rfl)).cons (q_get hF823 (t := 6) rfl rfl)).cons (q_get hF823 (t := 5) rfl rfl)).cons (q_get hF823 (t := 46) rfl rfl)).cons (q_get hF823 (t := 17) rfl rfl)).cons (q_get hF823 (t := 4) rfl rfl)).cons (q_get hF823 (t := 2) rfl rfl)).cons (q_get hF823 (t := 1) rfl rfl)).cons (q_get hF823 (t := 0) rfl rfl)), (by omega), (by rw [hp589]; exact congrArg Prod.fst (tog_next hrun hi613 (by omega))), ((((Ext.refl w).trans hx587).trans hx798).grownN hg815 (by omega)), b826, b827, b814, (RDk.sub (S := (Clip (fun b => b ≠ g2 ∧ b ≠ xg218 ∧ b ≠ xg227) w585)) d825 (fun b hb => by simp only [Clip, Fr, Old] at hb ⊢; omega)), (RDk.sub (S := (Clip (fun b => b ≠ g2 ∧ b ≠ xg218 ∧ b ≠ xg227 ∧ b ≠ xg693) w796)) d824 (fun b hb => by simp only [Clip, Fr, Old] at hb ⊢; omega))⟩, ?_⟩
                        rw [hF823.get (t := 12) rfl, hL595.get (t := 12) rfl]; simp [intOf]; omega
                    · skip
                      have hk2 : k2 = l.length := by omega
                      have hyd := hp589
                      rw [hk2] at hyd
                      refine wp_cond_false (c_false hF609 rfl (decide_eq_false hc610)) ?_
                      refine wp_exit ?_
                      refine exit_then ?_
                      refine exit_then ?_
                      refine exit_here ?_
                      refine hK579 _ _ ?_
                      clear hK579
                      refine wp_seq_k (fun K828 hK828 => ?_)
                      refine wp_region_lit ?_
                      refine wpl_op (i := 0) rfl (o_val (v := (.agg #[(.slice yA yd.sectors.length yc), (.slice yB yd.pending.length ye), (.int .i64 yd.left), (.bool yd.stopped)])) hF609 rfl rfl rfl rfl (rn_loadBlk (hF609.get rfl) b592 Try.underlying25 rfl (by kernel_rfl : (Try.prog.info? 25).map (·.size) = some 4)) ?_)
                      intro a829 hF830; clear hF609
                      refine wpl_op (i := 1) rfl (o_call hF830 rfl rfl rfl rfl (rn_call (args1 (hF830.get rfl)) rfl (by kernel_rfl)) (sync_any (S := (Clip (fun b => b ≠ g2 ∧ b ≠ xg218 ∧ b ≠ xg227) w585)) _ yd _ hf594) ?_)
                      rintro _ w837 ⟨v836, rfl, hd835, hx838⟩
                      obtain ⟨A831, c832, B833, e834, rfl, -, -⟩ := hd835.form
                      have hd835 := hd835.clip
                      refine ⟨_, rfl, ?_⟩; intro a839 hF840; clear hF830; have z841 := hx838.size
                      refine wpl_op (i := 2) rfl (o_val (v := (.tuple #[(.agg #[(.slice A831 yd.sync.1.sectors.length c832), (.slice B833 yd.sync.1.pending.length e834), (.int .i64 yd.sync.1.left), (.bool yd.sync.1.stopped)]), (.int .i64 yd.sync.2)])) hF840 rfl rfl rfl rfl (rn_move (hF840.get rfl)) ?_)
                      intro a842 hF843; clear hF840
                      refine wpl_op (i := 3) rfl (o_val (v := (.agg #[(.slice A831 yd.sync.1.sectors.length c832), (.slice B833 yd.sync.1.pending.length e834), (.int .i64 yd.sync.1.left), (.bool yd.sync.1.stopped)])) hF843 rfl rfl rfl rfl (rn_extract (hF843.get rfl) rfl) ?_)
                      intro a844 hF845; clear hF843
                      refine wpl_op (i := 4) rfl (o_val (v := (.int .i64 yd.sync.2)) hF845 rfl rfl rfl rfl (rn_extract (hF845.get rfl) rfl) ?_)
                      intro a846 hF847; clear hF845
                      have b851 : Blk w837 xg227 25 [(.slice yA yd.sectors.length yc), (.slice yB yd.pending.length ye), (.int .i64 yd.left), (.bool yd.stopped)] := (b592.ext hx838)
                      refine wpl_op (i := 5) rfl (o_store (cells := [(.slice A831 yd.sync.1.sectors.length c832), (.slice B833 yd.sync.1.pending.length e834), (.int .i64 yd.sync.1.left), (.bool yd.sync.1.stopped)]) hF847 rfl rfl rfl rfl (hF847.get rfl) (hF847.get rfl) b851 (by kernel_rfl : (Try.prog.info? 25).map (·.size) = some 4) rfl (by simp [Value.oneCell']) ?_)
                      intro w848 b849 hg850; have z852 := hg850.size
                      refine wpl_op (i := 6) rfl (o_val (v := (.int .i64 yd.sync.2)) hF847 rfl rfl rfl rfl (rn_assign (hF847.get rfl)) ?_)
                      intro a853 hF854; clear hF847
                      refine wpList_nil ?_
                      refine hK828 _ _ ?_
                      clear hK828
                      have hF855 := ((((((((((((((hF854.nil.cons (hF854.get (t := 15) (v := (.int .i64 yd.sync.2)) rfl)).cons (hF854.get (t := 91) (v := (.bool (decide (((k2 : Nat) : Int) < ((l.length : Nat) : Int))))) rfl)).cons (hF854.get (t := 12) (v := (.int .i64 (k2 : Nat))) rfl)).cons (hF854.get (t := 56) (v := (.bool (decide ((ev : Int) = (0 : Int))))) rfl)).cons (hF854.get (t := 8) (v := (.int .i64 (k : Nat))) rfl)).cons (hF854.get (t := 7) (v := (.int .i64 ev)) rfl)).cons (hF854.get (t := 6) (v := (.pointer (some ⟨xg227, 0, none⟩))) rfl)).cons (hF854.get (t := 5) (v := (.pointer (some ⟨xg218, 0, none⟩))) rfl)).cons (hF854.get (t := 46) (v := (.bool d.stopped)) rfl)).cons (hF854.get (t := 17) (v := (.bool false)) rfl)).cons (hF854.get (t := 4) (v := (.bool false)) rfl)).cons (hF854.get (t := 2) (v := (.pointer (some ⟨g2, 0, none⟩))) rfl)).cons (hF854.get (t := 1) (v := (.slice C l.length f)) rfl)).cons (hF854.get (t := 0) (v := (.agg #[(.slice A d.sectors.length c), (.slice B d.pending.length e), (.int .i64 d.left), (.bool d.stopped)])) rfl))
                      clear hF854
                      refine wp_seq_k (fun K856 hK856 => ?_)
                      refine wp_region_lit ?_
                      refine wpl_op (i := 0) rfl (o_val (v := (.int .i64 ev)) hF855 rfl rfl rfl rfl (rn_move (hF855.get rfl)) ?_)
                      intro a857 hF858; clear hF855
                      refine wpl_op (i := 1) rfl (o_val (v := (.int .i64 yd.sync.2)) hF858 rfl rfl rfl rfl (rn_move (hF858.get rfl)) ?_)
                      intro a859 hF860; clear hF858
                      refine wpl_op (i := 2) rfl (o_val (v := (.bool (decide ((ev : Int) = (yd.sync.2 : Int))))) hF860 rfl rfl rfl rfl (rn_eql (hF860.get rfl) (hF860.get rfl)) ?_)
                      intro a861 hF862; clear hF860
                      refine wpl_op (i := 3) rfl (o_val (v := (.bool (decide ((ev : Int) = (yd.sync.2 : Int))))) hF862 rfl rfl rfl rfl (rn_move (hF862.get rfl)) ?_)
                      intro a863 hF864; clear hF862
                      have b866 : Blk w848 xg218 25 [(.slice xA xd.sectors.length xc), (.slice xB xd.pending.length xe), (.int .i64 xd.left), (.bool xd.stopped)] := ((b591.ext hx838).grownN hg850 (by omega))
                      refine wpl_op (i := 4) rfl (o_val (v := (.agg #[(.slice xA xd.sectors.length xc), (.slice xB xd.pending.length xe), (.int .i64 xd.left), (.bool xd.stopped)])) hF864 rfl (wanted_guard rfl rfl rfl hF864 rfl ((decide_eq_true (by rw [hyd]; exact hend.1)) : decide ((ev : Int) = (yd.sync.2 : Int)) = true) rfl) rfl rfl (rn_loadBlk (hF864.get rfl) b866 Try.underlying25 rfl (by kernel_rfl : (Try.prog.info? 25).map (·.size) = some 4)) ?_)
                      intro a867 hF868; clear hF864
                      refine wpl_op (i := 5) rfl (o_val (v := (.agg #[(.slice A831 yd.sync.1.sectors.length c832), (.slice B833 yd.sync.1.pending.length e834), (.int .i64 yd.sync.1.left), (.bool yd.sync.1.stopped)])) hF868 rfl (wanted_guard rfl rfl rfl hF868 rfl ((decide_eq_true (by rw [hyd]; exact hend.1)) : decide ((ev : Int) = (yd.sync.2 : Int)) = true) rfl) rfl rfl (rn_loadBlk (hF868.get rfl) b849 Try.underlying25 rfl (by kernel_rfl : (Try.prog.info? 25).map (·.size) = some 4)) ?_)
                      intro a869 hF870; clear hF868
                      have d871 := (hf593.pres (((Pres.refl w585).ext hx838).grownN hg850 (fun h => by simp only [Clip, Fr, Old] at h; omega)))
                      have d872 := (hd835.pres ((Pres.refl w837).grownN hg850 (fun h => by simp only [Clip, Fr, Old] at h; omega)))
                      refine wpl_op (i := 6) rfl (o_call hF870 rfl (wanted_guard rfl rfl rfl hF870 rfl ((decide_eq_true (by rw [hyd]; exact hend.1)) : decide ((ev : Int) = (yd.sync.2 : Int)) = true) rfl) rfl rfl (rn_call (args2 (hF870.get rfl) (hF870.get rfl)) rfl (by kernel_rfl)) (same_any (S := fun _ => True) _ _ xd yd.sync.1 _ d871.all d872.all) ?_)
                      rintro _ w873 ⟨rfl, hx874⟩
                      refine ⟨_, rfl, ?_⟩; intro a875 hF876; clear hF870; have z877 := hx874.size
                      refine wpl_op (i := 7) rfl (o_val (v := (.bool (xd.same yd.sync.1))) hF876 rfl rfl rfl rfl (rn_pickT (c_true hF876 rfl ((decide_eq_true (by rw [hyd]; exact hend.1)) : decide ((ev : Int) = (yd.sync.2 : Int)) = true)) (hF876.get rfl)) ?_)
                      intro a878 hF879; clear hF876
                      refine wpl_op (i := 8) rfl (o_val (v := (.bool (xd.same yd.sync.1))) hF879 rfl rfl rfl rfl (rn_assign (hF879.get rfl)) ?_)
                      intro a880 hF881; clear hF879
                      refine wpList_nil ?_
                      refine hK856 _ _ ?_
                      clear hK856
                      have hF882 := ((((((((((((((hF881.nil.cons (hF881.get (t := 15) (v := (.int .i64 yd.sync.2)) rfl)).cons (hF881.get (t := 91) (v := (.bool (decide (((k2 : Nat) : Int) < ((l.length : Nat) : Int))))) rfl)).cons (hF881.get (t := 12) (v := (.int .i64 (k2 : Nat))) rfl)).cons (hF881.get (t := 56) (v := (.bool (decide ((ev : Int) = (0 : Int))))) rfl)).cons (hF881.get (t := 8) (v := (.int .i64 (k : Nat))) rfl)).cons (hF881.get (t := 7) (v := (.int .i64 ev)) rfl)).cons (hF881.get (t := 6) (v := (.pointer (some ⟨xg227, 0, none⟩))) rfl)).cons (hF881.get (t := 5) (v := (.pointer (some ⟨xg218, 0, none⟩))) rfl)).cons (hF881.get (t := 46) (v := (.bool d.stopped)) rfl)).cons (hF881.get (t := 17) (v := (.bool false)) rfl)).cons (hF881.get (t := 4) (v := (.bool (xd.same yd.sync.1))) rfl)).cons (hF881.get (t := 2) (v := (.pointer (some ⟨g2, 0, none⟩))) rfl)).cons (hF881.get (t := 1) (v := (.slice C l.length f)) rfl)).cons (hF881.get (t := 0) (v := (.agg #[(.slice A d.sectors.length c), (.slice B d.pending.length e), (.int .i64 d.left), (.bool d.stopped)])) rfl))
                      clear hF881
                      refine wp_ret ?_
                      refine ret1 hF882 rfl rfl ?_
                      exact ⟨congrArg (fun b => Ending.returned (.bool b)) ((same_of (by rw [hyd]; exact hend.2)) : xd.same yd.sync.1 = true), (((((Ext.refl w).trans hx587).trans hx838).grownN hg850 (by omega)).trans hx874)⟩
                · skip
                  refine wpl_op (i := 5) rfl (o_skip hF323 rfl (unwanted_guard rfl rfl rfl hF323 rfl (decide_eq_false hc324) rfl) rfl rfl ?_)
                  intro a883 hF884; clear hF323
                  refine wpl_op (i := 6) rfl (o_skip hF884 rfl (unwanted_guard rfl rfl rfl hF884 rfl (decide_eq_false hc324) rfl) rfl rfl ?_)
                  intro a885 hF886; clear hF884
                  refine wpl_op (i := 7) rfl (o_val (v := (.bool false)) hF886 rfl rfl rfl rfl (rn_pickF (c_false hF886 rfl (decide_eq_false hc324)) rfl) ?_)
                  intro a887 hF888; clear hF886
                  refine wpList_nil ?_
                  refine hK313 _ _ ?_
                  clear hK313
                  have hF889 := (((((((((((hF888.nil.cons (hF888.get (t := 56) (v := (.bool false)) rfl)).cons (hF888.get (t := 8) (v := (.int .i64 (k : Nat))) rfl)).cons (hF888.get (t := 7) (v := (.int .i64 ev)) rfl)).cons (hF888.get (t := 6) (v := (.pointer (some ⟨xg227, 0, none⟩))) rfl)).cons (hF888.get (t := 5) (v := (.pointer (some ⟨xg218, 0, none⟩))) rfl)).cons (hF888.get (t := 46) (v := (.bool d.stopped)) rfl)).cons (hF888.get (t := 17) (v := (.bool false)) rfl)).cons (hF888.get (t := 4) (v := (.bool false)) rfl)).cons (hF888.get (t := 2) (v := (.pointer (some ⟨g2, 0, none⟩))) rfl)).cons (hF888.get (t := 1) (v := (.slice C l.length f)) rfl)).cons (hF888.get (t := 0) (v := (.agg #[(.slice A d.sectors.length c), (.slice B d.pending.length e), (.int .i64 d.left), (.bool d.stopped)])) rfl))
                  clear hF888
                  refine wp_cond_false (c_false hF889 rfl rfl) ?_
                  refine wp_exit ?_
                  refine exit_then ?_
                  refine exit_then ?_
                  refine exit_here ?_
                  refine hK291 _ _ ?_
                  clear hK291
                  refine wp_seq_k (fun K890 hK890 => ?_)
                  refine wp_seq_k (fun K891 hK891 => ?_)
                  refine wp_region_lit ?_
                  refine wpl_op (i := 0) rfl (o_val (v := (.int .i64 0)) hF889 rfl rfl rfl rfl (rn_assign rfl) ?_)
                  intro a892 hF893; clear hF889
                  refine wpList_nil ?_
                  refine hK891 _ _ ?_
                  clear hK891
                  refine wp_block ?_
                  have hend := tog_end hrun hp302 (fun h0 => by omega) (by omega)
                  have d894 := (hd.ext hx300)
                  refine wp_loop (fun a' W => ∃ (k2 : Nat) (yd : Dk) (yA : Option Addr) (yc : Nat) (yB : Option Addr) (ye : Nat), Sl 131 [(0, (.agg #[(.slice A d.sectors.length c), (.slice B d.pending.length e), (.int .i64 d.left), (.bool d.stopped)])), (1, (.slice C l.length f)), (2, (.pointer (some ⟨g2, 0, none⟩))), (4, (.bool false)), (17, (.bool false)), (46, (.bool d.stopped)), (5, (.pointer (some ⟨xg218, 0, none⟩))), (6, (.pointer (some ⟨xg227, 0, none⟩))), (7, (.int .i64 ev)), (8, (.int .i64 (k : Nat))), (56, (.bool false)), (12, (.int .i64 (k2 : Nat)))] a' ∧ k2 ≤ l.length ∧ yd = d.wi (wsOf d.sectors.length l) k2 ∧ Ext w W ∧ Blk W g2 25 [(.slice A d.sectors.length c), (.slice B d.pending.length e), (.int .i64 d.left), (.bool d.stopped)] ∧ Blk W xg218 25 [(.slice xA xd.sectors.length xc), (.slice xB xd.pending.length xe), (.int .i64 xd.left), (.bool xd.stopped)] ∧ Blk W xg227 25 [(.slice yA yd.sectors.length yc), (.slice yB yd.pending.length ye), (.int .i64 yd.left), (.bool yd.stopped)] ∧ RDk (Clip (fun b => b ≠ g2 ∧ b ≠ xg218 ∧ b ≠ xg227) W) W (.agg #[(.slice xA xd.sectors.length xc), (.slice xB xd.pending.length xe), (.int .i64 xd.left), (.bool xd.stopped)]) xd ∧ RDk (Clip (fun b => b ≠ g2 ∧ b ≠ xg218 ∧ b ≠ xg227) W) W (.agg #[(.slice yA yd.sectors.length yc), (.slice yB yd.pending.length ye), (.int .i64 yd.left), (.bool yd.stopped)]) yd) (fun a' _ => l.length - (intOf (a'.eval (.tmp 12))).toNat) ⟨0, d, A, c, B, e, ((((((((((((hF893.nil.cons (q_get hF893 (t := 12) rfl (by first | rfl | (congr 1; omega)))).cons (q_get hF893 (t := 56) rfl rfl)).cons (q_get hF893 (t := 8) rfl rfl)).cons (q_get hF893 (t := 7) rfl rfl)).cons (q_get hF893 (t := 6) rfl rfl)).cons (q_get hF893 (t := 5) rfl rfl)).cons (q_get hF893 (t := 46) rfl rfl)).cons (q_get hF893 (t := 17) rfl rfl)).cons (q_get hF893 (t := 4) rfl rfl)).cons (q_get hF893 (t := 2) rfl rfl)).cons (q_get hF893 (t := 1) rfl rfl)).cons (q_get hF893 (t := 0) rfl rfl)), (by omega), (wi_zero (by omega)), ((Ext.refl w).trans hx300), b303, b304, b305, (RDk.sub (S := (Clip (fun b => b ≠ g2 ∧ b ≠ xg218 ∧ b ≠ xg227) w298)) hf306 (fun b hb => by simp only [Clip, Fr, Old] at hb ⊢; omega)), (RDk.sub (S := (Old w)) d894 (fun b hb => by simp only [Clip, Fr, Old] at hb ⊢; omega))⟩ ?_
                  clear hF893
                  rintro a895 w896 ⟨k2, yd, yA, yc, yB, ye, hF897, hp899, hp900, hx898, b901, b902, b903, hf904, hf905⟩
                  have hL906 := hF897
                  have z907 := hx898.size
                  have z908 := b901.lt
                  have z909 := b902.lt
                  have z910 := b903.lt
                  refine wp_seq_k (fun K911 hK911 => ?_)
                  refine wp_seq_k (fun K912 hK912 => ?_)
                  refine wp_region_lit ?_
                  refine wpl_op (i := 0) rfl (o_val (v := (.int .i64 (k2 : Nat))) hF897 rfl rfl rfl rfl (rn_move (hF897.get rfl)) ?_)
                  intro a913 hF914; clear hF897
                  refine wpl_op (i := 1) rfl (o_val (v := (.slice C l.length f)) hF914 rfl rfl rfl rfl (rn_move (hF914.get rfl)) ?_)
                  intro a915 hF916; clear hF914
                  refine wpl_op (i := 2) rfl (o_val (v := (.int .i64 (l.length : Nat))) hF916 rfl rfl rfl rfl (rn_len_slice Try.underlying43 (hF916.get rfl)) ?_)
                  intro a917 hF918; clear hF916
                  refine wpl_op (i := 3) rfl (o_val (v := (.bool (decide (((k2 : Nat) : Int) < ((l.length : Nat) : Int))))) hF918 rfl rfl rfl rfl (rn_lss (hF918.get rfl) (hF918.get rfl)) ?_)
                  intro a919 hF920; clear hF918
                  refine wpList_nil ?_
                  refine hK912 _ _ ?_
                  clear hK912
                  by_cases hc921 : ((k2 : Nat) : Int) < ((l.length : Nat) : Int)
                  · skip
                    refine wp_cond_true (c_true hF920 rfl (decide_eq_true hc921)) ?_
                    refine wp_skip ?_
                    refine hK911 _ _ ?_
                    clear hK911
                    refine wp_seq_k (fun K922 hK922 => ?_)
                    refine wp_block ?_
                    obtain ⟨x923, hi924, hm925⟩ := get_of_lt l k2 (by omega)
                    have z926 := x923.at_.toNat_lt; have z927 := x923.byte.toNat_lt
                    refine wp_meet (fun a' W => ∃ (xg1004 : Nat) (xA985 : Option Addr) (xc986 : Nat) (xB987 : Option Addr) (xe988 : Nat), Sl 131 [(0, (.agg #[(.slice A d.sectors.length c), (.slice B d.pending.length e), (.int .i64 d.left), (.bool d.stopped)])), (1, (.slice C l.length f)), (2, (.pointer (some ⟨g2, 0, none⟩))), (4, (.bool false)), (17, (.bool false)), (46, (.bool d.stopped)), (5, (.pointer (some ⟨xg218, 0, none⟩))), (6, (.pointer (some ⟨xg227, 0, none⟩))), (7, (.int .i64 ev)), (8, (.int .i64 (k : Nat))), (56, (.bool false)), (12, (.int .i64 (k2 : Nat))), (91, (.bool (decide (((k2 : Nat) : Int) < ((l.length : Nat) : Int))))), (13, (.pointer (some ⟨xg1004, 0, none⟩))), (14, (.int .i64 ((yd.write (((x923.at_.toNat : Nat) : Int) % ((d.sectors.length : Nat) : Int)) ([x923.byte])).2)))] a' ∧ Ext w896 W ∧ Blk W xg1004 25 [(.slice xA985 (((yd.write (((x923.at_.toNat : Nat) : Int) % ((d.sectors.length : Nat) : Int)) ([x923.byte])).1).sectors.length) xc986), (.slice xB987 (((yd.write (((x923.at_.toNat : Nat) : Int) % ((d.sectors.length : Nat) : Int)) ([x923.byte])).1).pending.length) xe988), (.int .i64 (((yd.write (((x923.at_.toNat : Nat) : Int) % ((d.sectors.length : Nat) : Int)) ([x923.byte])).1).left)), (.bool (((yd.write (((x923.at_.toNat : Nat) : Int) % ((d.sectors.length : Nat) : Int)) ([x923.byte])).1).stopped))] ∧ w896.heap.size ≤ xg1004 ∧ RDk (Clip (fun b => b ≠ g2 ∧ b ≠ xg218 ∧ b ≠ xg227 ∧ b ≠ xg1004) W) W (.agg #[(.slice xA985 (((yd.write (((x923.at_.toNat : Nat) : Int) % ((d.sectors.length : Nat) : Int)) ([x923.byte])).1).sectors.length) xc986), (.slice xB987 (((yd.write (((x923.at_.toNat : Nat) : Int) % ((d.sectors.length : Nat) : Int)) ([x923.byte])).1).pending.length) xe988), (.int .i64 (((yd.write (((x923.at_.toNat : Nat) : Int) % ((d.sectors.length : Nat) : Int)) ([x923.byte])).1).left)), (.bool (((yd.write (((x923.at_.toNat : Nat) : Int) % ((d.sectors.length : Nat) : Int)) ([x923.byte])).1).stopped))]) ((yd.write (((x923.at_.toNat : Nat) : Int) % ((d.sectors.length : Nat) : Int)) ([x923.byte])).1)) ?_ ?_
                    · skip
                      have hx929 : ∃ W, w896.drew = W ∧ Ext w896 W := ⟨_, rfl, (Ext.refl _).drew⟩
                      obtain ⟨w928, e930, hx929⟩ := hx929
                      have z931 := hx929.size
                      refine any_start (fun W => Ext w928 W ∧ Blk W xg227 25 [(.slice yA yd.sectors.length yc), (.slice yB yd.pending.length ye), (.int .i64 yd.left), (.bool yd.stopped)] ∧ Blk W g2 25 [(.slice A d.sectors.length c), (.slice B d.pending.length e), (.int .i64 d.left), (.bool d.stopped)]) (fun i => i == 22) 24 #[false, false, false, false, false, false, false, false, false, false, false, false, false, false, false, false, false, false, false, false, false, false, false, false] rfl rfl rfl ?_
                      rw [e930]; clear e930
                      have b933 : Blk w928 xg227 25 [(.slice yA yd.sectors.length yc), (.slice yB yd.pending.length ye), (.int .i64 yd.left), (.bool yd.stopped)] := (b903.ext hx929)
                      have b934 : Blk w928 g2 25 [(.slice A d.sectors.length c), (.slice B d.pending.length e), (.int .i64 d.left), (.bool d.stopped)] := (b901.ext hx929)
                      have hS932 : Ext w928 w928 ∧ Blk w928 xg227 25 [(.slice yA yd.sectors.length yc), (.slice yB yd.pending.length ye), (.int .i64 yd.left), (.bool yd.stopped)] ∧ Blk w928 g2 25 [(.slice A d.sectors.length c), (.slice B d.pending.length e), (.int .i64 d.left), (.bool d.stopped)] := ⟨(Ext.refl w928), b933, b934⟩
                      refine any_val (i := 0) (v := (.agg #[(.slice yA yd.sectors.length yc), (.slice yB yd.pending.length ye), (.int .i64 yd.left), (.bool yd.stopped)])) hF920 (by decide +kernel) (by decide +kernel) rfl rfl rfl rfl (fun _ _ _ _ h => h) rfl hS932 (fun W hW => (rn_loadBlk (hF920.get rfl) hW.2.1 Try.underlying25 rfl (by kernel_rfl : (Try.prog.info? 25).map (·.size) = some 4))) ?_
                      intro a935 hF936; clear hF920
                      refine any_pure (i := 1) (v := (.slice C l.length f)) hF936 (by decide +kernel) (by decide +kernel) rfl rfl rfl rfl (fun _ _ _ _ h => h) rfl (fun W => (rn_move (hF936.get rfl))) ?_
                      intro a937 hF938; clear hF936
                      refine any_pure (i := 2) (v := (.int .i64 (k2 : Nat))) hF938 (by decide +kernel) (by decide +kernel) rfl rfl rfl rfl (fun _ _ _ _ h => h) rfl (fun W => (rn_move (hF938.get rfl))) ?_
                      intro a939 hF940; clear hF938
                      obtain ⟨b941, o942, hA943, hl944, hc945, hc946, hc947⟩ := RAcs.get ha hi924
                      refine any_pure (i := 3) (v := (.pointer (some ⟨b941, o942 + k2 * 3, none⟩))) hF940 (by decide +kernel) (by decide +kernel) rfl rfl rfl rfl (fun _ _ _ _ h => h) rfl (fun W => (rn_index Try.underlying43 (by kernel_rfl : (Try.prog.info? 46).map (·.size) = some 3) ((hF940.get rfl).trans (by rw [hA943])) (hF940.get rfl) (by omega : (0 : Int) ≤ (k2 : Nat)) (by omega : ((k2 : Nat) : Int) < ((l.length : Nat) : Int)))) ?_
                      intro a948 hF949; clear hF940
                      refine any_pure (i := 4) (v := (.pointer (some ⟨b941, o942 + k2 * 3 + 1, none⟩))) hF949 (by decide +kernel) (by decide +kernel) rfl rfl rfl rfl (fun _ _ _ _ h => h) rfl (fun W => (rn_field Try.underlying46 rfl (by kernel_rfl) (hF949.get rfl) rfl)) ?_
                      intro a950 hF951; clear hF949
                      refine any_val (i := 5) (v := (.int .u8 (x923.at_.toNat : Nat))) hF951 (by decide +kernel) (by decide +kernel) rfl rfl rfl rfl (fun _ _ _ _ h => h) rfl hS932 (fun W hW => (rn_load (isAgg_no Try.underlying5 rfl) (hF951.get rfl) (Ext.keep ((((Ext.refl w).trans hx898).trans hx929).trans hW.1) hc946))) ?_
                      intro a952 hF953; clear hF951
                      refine any_val (i := 6) (v := (.int .i64 (x923.at_.toNat : Nat))) hF953 (by decide +kernel) (by decide +kernel) rfl rfl rfl rfl (fun _ _ _ _ h => h) rfl hS932 (fun W hW => (rn_conv Try.underlying5 Try.underlying3 (hF953.get rfl) (IntWalk.i64_in _ (by omega)))) ?_
                      intro a954 hF955; clear hF953
                      refine any_pure (i := 7) (v := (.pointer (some ⟨g2, 0, none⟩))) hF955 (by decide +kernel) (by decide +kernel) rfl rfl rfl rfl (fun _ _ _ _ h => h) rfl (fun W => (rn_field Try.underlying25 rfl (by kernel_rfl) (hF955.get rfl) rfl)) ?_
                      intro a956 hF957; clear hF955
                      refine any_val (i := 8) (v := (.slice A d.sectors.length c)) hF957 (by decide +kernel) (by decide +kernel) rfl rfl rfl rfl (fun _ _ _ _ h => h) rfl hS932 (fun W hW => (rn_load (isAgg_no Try.underlying22 rfl) (hF957.get rfl) (hW.2.2.rule.1 0))) ?_
                      intro a958 hF959; clear hF957
                      refine any_pure (i := 9) (v := (.int .i64 (d.sectors.length : Nat))) hF959 (by decide +kernel) (by decide +kernel) rfl rfl rfl rfl (fun _ _ _ _ h => h) rfl (fun W => (rn_len_slice Try.underlying22 (hF959.get rfl))) ?_
                      intro a960 hF961; clear hF959
                      refine any_pure (i := 10) (v := (.int .i64 (((x923.at_.toNat : Nat) : Int) % ((d.sectors.length : Nat) : Int)))) hF961 (by decide +kernel) (by decide +kernel) rfl rfl rfl rfl (fun _ _ _ _ h => h) rfl (fun W => (rn_rem (hF961.get rfl) (hF961.get rfl) (by omega : (0 : Int) ≤ (x923.at_.toNat : Nat)) (by omega : (0 : Int) < (d.sectors.length : Nat)))) ?_
                      intro a962 hF963; clear hF961
                      refine any_pure (i := 11) (v := (.slice C l.length f)) hF963 (by decide +kernel) (by decide +kernel) rfl rfl rfl rfl (fun _ _ _ _ h => h) rfl (fun W => (rn_move (hF963.get rfl))) ?_
                      intro a964 hF965; clear hF963
                      refine any_pure (i := 12) (v := (.int .i64 (k2 : Nat))) hF965 (by decide +kernel) (by decide +kernel) rfl rfl rfl rfl (fun _ _ _ _ h => h) rfl (fun W => (rn_move (hF965.get rfl))) ?_
                      intro a966 hF967; clear hF965
                      refine any_pure (i := 13) (v := (.pointer (some ⟨b941, o942 + k2 * 3, none⟩))) hF967 (by decide +kernel) (by decide +kernel) rfl rfl rfl rfl (fun _ _ _ _ h => h) rfl (fun W => (rn_index Try.underlying43 (by kernel_rfl : (Try.prog.info? 46).map (·.size) = some 3) ((hF967.get rfl).trans (by rw [hA943])) (hF967.get rfl) (by omega : (0 : Int) ≤ (k2 : Nat)) (by omega : ((k2 : Nat) : Int) < ((l.length : Nat) : Int)))) ?_
                      intro a968 hF969; clear hF967
                      refine any_pure (i := 14) (v := (.pointer (some ⟨b941, o942 + k2 * 3 + 2, none⟩))) hF969 (by decide +kernel) (by decide +kernel) rfl rfl rfl rfl (fun _ _ _ _ h => h) rfl (fun W => (rn_field Try.underlying46 rfl (by kernel_rfl) (hF969.get rfl) rfl)) ?_
                      intro a970 hF971; clear hF969
                      refine any_val (i := 15) (v := (.int .u8 (x923.byte.toNat : Nat))) hF971 (by decide +kernel) (by decide +kernel) rfl rfl rfl rfl (fun _ _ _ _ h => h) rfl hS932 (fun W hW => (rn_load (isAgg_no Try.underlying5 rfl) (hF971.get rfl) (Ext.keep ((((Ext.refl w).trans hx898).trans hx929).trans hW.1) hc947))) ?_
                      intro a972 hF973; clear hF971
                      refine any_two (i := 16) (k := 21) (by decide +kernel) rfl rfl ?_ ?_
                      · skip
                        refine o_new (fun g => (.slice (some ⟨g, 0, none⟩) 1 1)) [(.int .u8 (x923.byte.toNat : Nat))] 5 hF973 rfl rfl rfl rfl (rn_buildSlice (parts1 (hF973.get rfl)) (by kernel_rfl)) ?_
                        intro g974 w975 a980 hF981 z978 z979 b976 hx977; clear hF973
                        have b982 : Blk w975 xg227 25 [(.slice yA yd.sectors.length yc), (.slice yB yd.pending.length ye), (.int .i64 yd.left), (.bool yd.stopped)] := (b933.ext hx977)
                        have b983 : Blk w975 g2 25 [(.slice A d.sectors.length c), (.slice B d.pending.length e), (.int .i64 d.left), (.bool d.stopped)] := (b934.ext hx977)
                        refine ⟨fun _ _ => ⟨((Ext.refl w928).trans hx977), b982, b983⟩, ?_⟩
                        refine any_two (i := 17) (k := 21) (by decide +kernel) rfl rfl ?_ ?_
                        · skip
                          have d984 := ((hf905.ext hx929).ext hx977)
                          refine o_call hF981 rfl rfl rfl rfl (rn_call (args3 (hF981.get rfl) (hF981.get rfl) (hF981.get rfl)) rfl (by kernel_rfl)) (write_any (S := (fun b => (Clip (fun b => b ≠ g2 ∧ b ≠ xg218 ∧ b ≠ xg227) w896) b ∨ (fun b => b = g974) b)) _ _ yd _ ([x923.byte]) _ (d984.sub (fun _ => Or.inl)) ((rbs_blk (S := fun b => b = g974) (n := 1) (l := [x923.byte]) b976 rfl rfl rfl (by omega)).sub (fun _ => Or.inr))) ?_
                          rintro _ w991 ⟨v990, rfl, hd989, hx992⟩
                          obtain ⟨A985, c986, B987, e988, rfl, -, -⟩ := hd989.form
                          have hd989 := hd989.clip
                          refine ⟨_, rfl, ?_⟩; intro a993 hF994; clear hF981; have z995 := hx992.size
                          have b996 : Blk w991 xg227 25 [(.slice yA yd.sectors.length yc), (.slice yB yd.pending.length ye), (.int .i64 yd.left), (.bool yd.stopped)] := (b982.ext hx992)
                          have b997 : Blk w991 g2 25 [(.slice A d.sectors.length c), (.slice B d.pending.length e), (.int .i64 d.left), (.bool d.stopped)] := (b983.ext hx992)
                          refine ⟨fun _ _ => ⟨(((Ext.refl w928).trans hx977).trans hx992), b996, b997⟩, ?_⟩
                          refine any_pure (i := 18) (v := (.tuple #[(.agg #[(.slice A985 (((yd.write (((x923.at_.toNat : Nat) : Int) % ((d.sectors.length : Nat) : Int)) ([x923.byte])).1).sectors.length) c986), (.slice B987 (((yd.write (((x923.at_.toNat : Nat) : Int) % ((d.sectors.length : Nat) : Int)) ([x923.byte])).1).pending.length) e988), (.int .i64 (((yd.write (((x923.at_.toNat : Nat) : Int) % ((d.sectors.length : Nat) : Int)) ([x923.byte])).1).left)), (.bool (((yd.write (((x923.at_.toNat : Nat) : Int) % ((d.sectors.length : Nat) : Int)) ([x923.byte])).1).stopped))]), (.int .i64 ((yd.write (((x923.at_.toNat : Nat) : Int) % ((d.sectors.length : Nat) : Int)) ([x923.byte])).2))])) hF994 (by decide +kernel) (by decide +kernel) rfl rfl rfl rfl (fun _ _ _ _ h => h) rfl (fun W => (rn_move (hF994.get rfl))) ?_
                          intro a998 hF999; clear hF994
                          refine any_pure (i := 19) (v := (.agg #[(.slice A985 (((yd.write (((x923.at_.toNat : Nat) : Int) % ((d.sectors.length : Nat) : Int)) ([x923.byte])).1).sectors.length) c986), (.slice B987 (((yd.write (((x923.at_.toNat : Nat) : Int) % ((d.sectors.length : Nat) : Int)) ([x923.byte])).1).pending.length) e988), (.int .i64 (((yd.write (((x923.at_.toNat : Nat) : Int) % ((d.sectors.length : Nat) : Int)) ([x923.byte])).1).left)), (.bool (((yd.write (((x923.at_.toNat : Nat) : Int) % ((d.sectors.length : Nat) : Int)) ([x923.byte])).1).stopped))])) hF999 (by decide +kernel) (by decide +kernel) rfl rfl rfl rfl (fun _ _ _ _ h => h) rfl (fun W => (rn_extract (hF999.get rfl) rfl)) ?_
                          intro a1000 hF1001; clear hF999
                          refine any_pure (i := 20) (v := (.int .i64 ((yd.write (((x923.at_.toNat : Nat) : Int) % ((d.sectors.length : Nat) : Int)) ([x923.byte])).2))) hF1001 (by decide +kernel) (by decide +kernel) rfl rfl rfl rfl (fun _ _ _ _ h => h) rfl (fun W => (rn_extract (hF1001.get rfl) rfl)) ?_
                          intro a1002 hF1003; clear hF1001
                          refine any_one (i := 21) (by decide +kernel) rfl ?_
                          refine o_new (fun g => (.pointer (some ⟨g, 0, none⟩))) [(.slice none 0 0), (.slice none 0 0), (.int .i64 0), (.bool false)] 25 hF1003 rfl rfl rfl rfl (by kernel_rfl) ?_
                          intro g1004 w1005 a1010 hF1011 z1008 z1009 b1006 hx1007; clear hF1003
                          have b1012 : Blk w1005 xg227 25 [(.slice yA yd.sectors.length yc), (.slice yB yd.pending.length ye), (.int .i64 yd.left), (.bool yd.stopped)] := (b996.ext hx1007)
                          have b1013 : Blk w1005 g2 25 [(.slice A d.sectors.length c), (.slice B d.pending.length e), (.int .i64 d.left), (.bool d.stopped)] := (b997.ext hx1007)
                          refine ⟨fun _ _ => ⟨((((Ext.refl w928).trans hx977).trans hx992).trans hx1007), b1012, b1013⟩, ?_⟩
                          refine any_one (i := 22) (by decide +kernel) rfl ?_
                          refine o_store (cells := [(.slice A985 (((yd.write (((x923.at_.toNat : Nat) : Int) % ((d.sectors.length : Nat) : Int)) ([x923.byte])).1).sectors.length) c986), (.slice B987 (((yd.write (((x923.at_.toNat : Nat) : Int) % ((d.sectors.length : Nat) : Int)) ([x923.byte])).1).pending.length) e988), (.int .i64 (((yd.write (((x923.at_.toNat : Nat) : Int) % ((d.sectors.length : Nat) : Int)) ([x923.byte])).1).left)), (.bool (((yd.write (((x923.at_.toNat : Nat) : Int) % ((d.sectors.length : Nat) : Int)) ([x923.byte])).1).stopped))]) hF1011 rfl rfl rfl rfl (hF1011.get rfl) (hF1011.get rfl) b1006 (by kernel_rfl : (Try.prog.info? 25).map (·.size) = some 4) rfl (by simp [Value.oneCell']) ?_
                          intro w1014 b1015 hg1016; have z1017 := hg1016.size
                          refine ⟨fun h => absurd h (by decide), ?_⟩
                          refine any_pure (i := 23) (v := (.int .i64 ((yd.write (((x923.at_.toNat : Nat) : Int) % ((d.sectors.length : Nat) : Int)) ([x923.byte])).2))) hF1011 (by decide +kernel) (by decide +kernel) rfl rfl rfl rfl (fun _ _ _ _ h => h) rfl (fun W => (rn_assign (hF1011.get rfl))) ?_
                          intro a1018 hF1019; clear hF1011
                          refine any_nil (by decide +kernel) ?_
                          have d1020 := (hd989.pres (((Pres.refl w991).ext hx1007).grownN hg1016 (fun h => by simp only [Clip, Fr, Old] at h; omega)))
                          exact ⟨g1004, A985, c986, B987, e988, (((((((((((((((hF1019.nil.cons (hF1019.get (t := 14) (v := (.int .i64 ((yd.write (((x923.at_.toNat : Nat) : Int) % ((d.sectors.length : Nat) : Int)) ([x923.byte])).2))) rfl)).cons (hF1019.get (t := 13) (v := (.pointer (some ⟨g1004, 0, none⟩))) rfl)).cons (hF1019.get (t := 91) (v := (.bool (decide (((k2 : Nat) : Int) < ((l.length : Nat) : Int))))) rfl)).cons (hF1019.get (t := 12) (v := (.int .i64 (k2 : Nat))) rfl)).cons (hF1019.get (t := 56) (v := (.bool false)) rfl)).cons (hF1019.get (t := 8) (v := (.int .i64 (k : Nat))) rfl)).cons (hF1019.get (t := 7) (v := (.int .i64 ev)) rfl)).cons (hF1019.get (t := 6) (v := (.pointer (some ⟨xg227, 0, none⟩))) rfl)).cons (hF1019.get (t := 5) (v := (.pointer (some ⟨xg218, 0, none⟩))) rfl)).cons (hF1019.get (t := 46) (v := (.bool d.stopped)) rfl)).cons (hF1019.get (t := 17) (v := (.bool false)) rfl)).cons (hF1019.get (t := 4) (v := (.bool false)) rfl)).cons (hF1019.get (t := 2) (v := (.pointer (some ⟨g2, 0, none⟩))) rfl)).cons (hF1019.get (t := 1) (v := (.slice C l.length f)) rfl)).cons (hF1019.get (t := 0) (v := (.agg #[(.slice A d.sectors.length c), (.slice B d.pending.length e), (.int .i64 d.left), (.bool d.stopped)])) rfl)), ((((((Ext.refl w896).trans hx929).trans hx977).trans hx992).trans hx1007).grownN hg1016 (by omega)), b1015, (by omega), (RDk.sub (S := (Clip (Fr (fun b => (Clip (fun b => b ≠ g2 ∧ b ≠ xg218 ∧ b ≠ xg227) w896) b ∨ (fun b => b = g974) b) w975) w991)) d1020 (fun b hb => by simp only [Clip, Fr, Old] at hb ⊢; omega))⟩
                        · skip
                          refine o_new (fun g => (.pointer (some ⟨g, 0, none⟩))) [(.slice none 0 0), (.slice none 0 0), (.int .i64 0), (.bool false)] 25 hF981 rfl rfl rfl rfl (by kernel_rfl) ?_
                          intro g1020 w1021 a1026 hF1027 z1024 z1025 b1022 hx1023; clear hF981
                          have b1028 : Blk w1021 xg227 25 [(.slice yA yd.sectors.length yc), (.slice yB yd.pending.length ye), (.int .i64 yd.left), (.bool yd.stopped)] := (b982.ext hx1023)
                          have b1029 : Blk w1021 g2 25 [(.slice A d.sectors.length c), (.slice B d.pending.length e), (.int .i64 d.left), (.bool d.stopped)] := (b983.ext hx1023)
                          refine ⟨fun _ _ => ⟨(((Ext.refl w928).trans hx977).trans hx1023), b1028, b1029⟩, ?_⟩
                          refine any_one (i := 17) (by decide +kernel) rfl ?_
                          have d1030 := (((hf905.ext hx929).ext hx977).ext hx1023)
                          have b1031 : Blk w1021 g974 5 [(.int .u8 (x923.byte.toNat : Nat))] := (b976.ext hx1023)
                          refine o_call hF1027 rfl rfl rfl rfl (rn_call (args3 (hF1027.get rfl) (hF1027.get rfl) (hF1027.get rfl)) rfl (by kernel_rfl)) (write_any (S := (fun b => (Clip (fun b => b ≠ g2 ∧ b ≠ xg218 ∧ b ≠ xg227) w896) b ∨ (fun b => b = g974) b)) _ _ yd _ ([x923.byte]) _ (d1030.sub (fun _ => Or.inl)) ((rbs_blk (S := fun b => b = g974) (n := 1) (l := [x923.byte]) b1031 rfl rfl rfl (by omega)).sub (fun _ => Or.inr))) ?_
                          rintro _ w1038 ⟨v1037, rfl, hd1036, hx1039⟩
                          obtain ⟨A1032, c1033, B1034, e1035, rfl, -, -⟩ := hd1036.form
                          have hd1036 := hd1036.clip
                          refine ⟨_, rfl, ?_⟩; intro a1040 hF1041; clear hF1027; have z1042 := hx1039.size
                          have b1043 : Blk w1038 xg227 25 [(.slice yA yd.sectors.length yc), (.slice yB yd.pending.length ye), (.int .i64 yd.left), (.bool yd.stopped)] := (b1028.ext hx1039)
                          have b1044 : Blk w1038 g2 25 [(.slice A d.sectors.length c), (.slice B d.pending.length e), (.int .i64 d.left), (.bool d.stopped)] := (b1029.ext hx1039)
                          refine ⟨fun _ _ => ⟨((((Ext.refl w928).trans hx977).trans hx1023).trans hx1039), b1043, b1044⟩, ?_⟩
                          refine any_pure (i := 18) (v := (.tuple #[(.agg #[(.slice A1032 (((yd.write (((x923.at_.toNat : Nat) : Int) % ((d.sectors.length : Nat) : Int)) ([x923.byte])).1).sectors.length) c1033), (.slice B1034 (((yd.write (((x923.at_.toNat : Nat) : Int) % ((d.sectors.length : Nat) : Int)) ([x923.byte])).1).pending.length) e1035), (.int .i64 (((yd.write (((x923.at_.toNat : Nat) : Int) % ((d.sectors.length : Nat) : Int)) ([x923.byte])).1).left)), (.bool (((yd.write (((x923.at_.toNat : Nat) : Int) % ((d.sectors.length : Nat) : Int)) ([x923.byte])).1).stopped))]), (.int .i64 ((yd.write (((x923.at_.toNat : Nat) : Int) % ((d.sectors.length : Nat) : Int)) ([x923.byte])).2))])) hF1041 (by decide +kernel) (by decide +kernel) rfl rfl rfl rfl (fun _ _ _ _ h => h) rfl (fun W => (rn_move (hF1041.get rfl))) ?_
                          intro a1045 hF1046; clear hF1041
                          refine any_pure (i := 19) (v := (.agg #[(.slice A1032 (((yd.write (((x923.at_.toNat : Nat) : Int) % ((d.sectors.length : Nat) : Int)) ([x923.byte])).1).sectors.length) c1033), (.slice B1034 (((yd.write (((x923.at_.toNat : Nat) : Int) % ((d.sectors.length : Nat) : Int)) ([x923.byte])).1).pending.length) e1035), (.int .i64 (((yd.write (((x923.at_.toNat : Nat) : Int) % ((d.sectors.length : Nat) : Int)) ([x923.byte])).1).left)), (.bool (((yd.write (((x923.at_.toNat : Nat) : Int) % ((d.sectors.length : Nat) : Int)) ([x923.byte])).1).stopped))])) hF1046 (by decide +kernel) (by decide +kernel) rfl rfl rfl rfl (fun _ _ _ _ h => h) rfl (fun W => (rn_extract (hF1046.get rfl) rfl)) ?_
                          intro a1047 hF1048; clear hF1046
                          refine any_pure (i := 20) (v := (.int .i64 ((yd.write (((x923.at_.toNat : Nat) : Int) % ((d.sectors.length : Nat) : Int)) ([x923.byte])).2))) hF1048 (by decide +kernel) (by decide +kernel) rfl rfl rfl rfl (fun _ _ _ _ h => h) rfl (fun W => (rn_extract (hF1048.get rfl) rfl)) ?_
                          intro a1049 hF1050; clear hF1048
                          refine any_one (i := 22) (by decide +kernel) rfl ?_
                          have b1054 : Blk w1038 g1020 25 [(.slice none 0 0), (.slice none 0 0), (.int .i64 0), (.bool false)] := (b1022.ext hx1039)
                          refine o_store (cells := [(.slice A1032 (((yd.write (((x923.at_.toNat : Nat) : Int) % ((d.sectors.length : Nat) : Int)) ([x923.byte])).1).sectors.length) c1033), (.slice B1034 (((yd.write (((x923.at_.toNat : Nat) : Int) % ((d.sectors.length : Nat) : Int)) ([x923.byte])).1).pending.length) e1035), (.int .i64 (((yd.write (((x923.at_.toNat : Nat) : Int) % ((d.sectors.length : Nat) : Int)) ([x923.byte])).1).left)), (.bool (((yd.write (((x923.at_.toNat : Nat) : Int) % ((d.sectors.length : Nat) : Int)) ([x923.byte])).1).stopped))]) hF1050 rfl rfl rfl rfl (hF1050.get rfl) (hF1050.get rfl) b1054 (by kernel_rfl : (Try.prog.info? 25).map (·.size) = some 4) rfl (by simp [Value.oneCell']) ?_
                          intro w1051 b1052 hg1053; have z1055 := hg1053.size
                          refine ⟨fun h => absurd h (by decide), ?_⟩
                          refine any_pure (i := 23) (v := (.int .i64 ((yd.write (((x923.at_.toNat : Nat) : Int) % ((d.sectors.length : Nat) : Int)) ([x923.byte])).2))) hF1050 (by decide +kernel) (by decide +kernel) rfl rfl rfl rfl (fun _ _ _ _ h => h) rfl (fun W => (rn_assign (hF1050.get rfl))) ?_
                          intro a1056 hF1057; clear hF1050
                          refine any_nil (by decide +kernel) ?_
                          have d1058 := (hd1036.pres ((Pres.refl w1038).grownN hg1053 (fun h => by simp only [Clip, Fr, Old] at h; omega)))
                          exact ⟨g1020, A1032, c1033, B1034, e1035, (((((((((((((((hF1057.nil.cons (hF1057.get (t := 14) (v := (.int .i64 ((yd.write (((x923.at_.toNat : Nat) : Int) % ((d.sectors.length : Nat) : Int)) ([x923.byte])).2))) rfl)).cons (hF1057.get (t := 13) (v := (.pointer (some ⟨g1020, 0, none⟩))) rfl)).cons (hF1057.get (t := 91) (v := (.bool (decide (((k2 : Nat) : Int) < ((l.length : Nat) : Int))))) rfl)).cons (hF1057.get (t := 12) (v := (.int .i64 (k2 : Nat))) rfl)).cons (hF1057.get (t := 56) (v := (.bool false)) rfl)).cons (hF1057.get (t := 8) (v := (.int .i64 (k : Nat))) rfl)).cons (hF1057.get (t := 7) (v := (.int .i64 ev)) rfl)).cons (hF1057.get (t := 6) (v := (.pointer (some ⟨xg227, 0, none⟩))) rfl)).cons (hF1057.get (t := 5) (v := (.pointer (some ⟨xg218, 0, none⟩))) rfl)).cons (hF1057.get (t := 46) (v := (.bool d.stopped)) rfl)).cons (hF1057.get (t := 17) (v := (.bool false)) rfl)).cons (hF1057.get (t := 4) (v := (.bool false)) rfl)).cons (hF1057.get (t := 2) (v := (.pointer (some ⟨g2, 0, none⟩))) rfl)).cons (hF1057.get (t := 1) (v := (.slice C l.length f)) rfl)).cons (hF1057.get (t := 0) (v := (.agg #[(.slice A d.sectors.length c), (.slice B d.pending.length e), (.int .i64 d.left), (.bool d.stopped)])) rfl)), ((((((Ext.refl w896).trans hx929).trans hx977).trans hx1023).trans hx1039).grownN hg1053 (by omega)), b1052, (by omega), (RDk.sub (S := (Clip (Fr (fun b => (Clip (fun b => b ≠ g2 ∧ b ≠ xg218 ∧ b ≠ xg227) w896) b ∨ (fun b => b = g974) b) w1021) w1038)) d1058 (fun b hb => by simp only [Clip, Fr, Old] at hb ⊢; omega))⟩
                      · skip
                        refine o_new (fun g => (.pointer (some ⟨g, 0, none⟩))) [(.slice none 0 0), (.slice none 0 0), (.int .i64 0), (.bool false)] 25 hF973 rfl rfl rfl rfl (by kernel_rfl) ?_
                        intro g1058 w1059 a1064 hF1065 z1062 z1063 b1060 hx1061; clear hF973
                        have b1066 : Blk w1059 xg227 25 [(.slice yA yd.sectors.length yc), (.slice yB yd.pending.length ye), (.int .i64 yd.left), (.bool yd.stopped)] := (b933.ext hx1061)
                        have b1067 : Blk w1059 g2 25 [(.slice A d.sectors.length c), (.slice B d.pending.length e), (.int .i64 d.left), (.bool d.stopped)] := (b934.ext hx1061)
                        refine ⟨fun _ _ => ⟨((Ext.refl w928).trans hx1061), b1066, b1067⟩, ?_⟩
                        refine any_one (i := 16) (by decide +kernel) rfl ?_
                        refine o_new (fun g => (.slice (some ⟨g, 0, none⟩) 1 1)) [(.int .u8 (x923.byte.toNat : Nat))] 5 hF1065 rfl rfl rfl rfl (rn_buildSlice (parts1 (hF1065.get rfl)) (by kernel_rfl)) ?_
                        intro g1068 w1069 a1074 hF1075 z1072 z1073 b1070 hx1071; clear hF1065
                        have b1076 : Blk w1069 xg227 25 [(.slice yA yd.sectors.length yc), (.slice yB yd.pending.length ye), (.int .i64 yd.left), (.bool yd.stopped)] := (b1066.ext hx1071)
                        have b1077 : Blk w1069 g2 25 [(.slice A d.sectors.length c), (.slice B d.pending.length e), (.int .i64 d.left), (.bool d.stopped)] := (b1067.ext hx1071)
                        refine ⟨fun _ _ => ⟨(((Ext.refl w928).trans hx1061).trans hx1071), b1076, b1077⟩, ?_⟩
                        refine any_one (i := 17) (by decide +kernel) rfl ?_
                        have d1078 := (((hf905.ext hx929).ext hx1061).ext hx1071)
                        refine o_call hF1075 rfl rfl rfl rfl (rn_call (args3 (hF1075.get rfl) (hF1075.get rfl) (hF1075.get rfl)) rfl (by kernel_rfl)) (write_any (S := (fun b => (Clip (fun b => b ≠ g2 ∧ b ≠ xg218 ∧ b ≠ xg227) w896) b ∨ (fun b => b = g1068) b)) _ _ yd _ ([x923.byte]) _ (d1078.sub (fun _ => Or.inl)) ((rbs_blk (S := fun b => b = g1068) (n := 1) (l := [x923.byte]) b1070 rfl rfl rfl (by omega)).sub (fun _ => Or.inr))) ?_
                        rintro _ w1085 ⟨v1084, rfl, hd1083, hx1086⟩
                        obtain ⟨A1079, c1080, B1081, e1082, rfl, -, -⟩ := hd1083.form
                        have hd1083 := hd1083.clip
                        refine ⟨_, rfl, ?_⟩; intro a1087 hF1088; clear hF1075; have z1089 := hx1086.size
                        have b1090 : Blk w1085 xg227 25 [(.slice yA yd.sectors.length yc), (.slice yB yd.pending.length ye), (.int .i64 yd.left), (.bool yd.stopped)] := (b1076.ext hx1086)
                        have b1091 : Blk w1085 g2 25 [(.slice A d.sectors.length c), (.slice B d.pending.length e), (.int .i64 d.left), (.bool d.stopped)] := (b1077.ext hx1086)
                        refine ⟨fun _ _ => ⟨((((Ext.refl w928).trans hx1061).trans hx1071).trans hx1086), b1090, b1091⟩, ?_⟩
                        refine any_pure (i := 18) (v := (.tuple #[(.agg #[(.slice A1079 (((yd.write (((x923.at_.toNat : Nat) : Int) % ((d.sectors.length : Nat) : Int)) ([x923.byte])).1).sectors.length) c1080), (.slice B1081 (((yd.write (((x923.at_.toNat : Nat) : Int) % ((d.sectors.length : Nat) : Int)) ([x923.byte])).1).pending.length) e1082), (.int .i64 (((yd.write (((x923.at_.toNat : Nat) : Int) % ((d.sectors.length : Nat) : Int)) ([x923.byte])).1).left)), (.bool (((yd.write (((x923.at_.toNat : Nat) : Int) % ((d.sectors.length : Nat) : Int)) ([x923.byte])).1).stopped))]), (.int .i64 ((yd.write (((x923.at_.toNat : Nat) : Int) % ((d.sectors.length : Nat) : Int)) ([x923.byte])).2))])) hF1088 (by decide +kernel) (by decide +kernel) rfl rfl rfl rfl (fun _ _ _ _ h => h) rfl (fun W => (rn_move (hF1088.get rfl))) ?_
                        intro a1092 hF1093; clear hF1088
                        refine any_pure (i := 19) (v := (.agg #[(.slice A1079 (((yd.write (((x923.at_.toNat : Nat) : Int) % ((d.sectors.length : Nat) : Int)) ([x923.byte])).1).sectors.length) c1080), (.slice B1081 (((yd.write (((x923.at_.toNat : Nat) : Int) % ((d.sectors.length : Nat) : Int)) ([x923.byte])).1).pending.length) e1082), (.int .i64 (((yd.write (((x923.at_.toNat : Nat) : Int) % ((d.sectors.length : Nat) : Int)) ([x923.byte])).1).left)), (.bool (((yd.write (((x923.at_.toNat : Nat) : Int) % ((d.sectors.length : Nat) : Int)) ([x923.byte])).1).stopped))])) hF1093 (by decide +kernel) (by decide +kernel) rfl rfl rfl rfl (fun _ _ _ _ h => h) rfl (fun W => (rn_extract (hF1093.get rfl) rfl)) ?_
                        intro a1094 hF1095; clear hF1093
                        refine any_pure (i := 20) (v := (.int .i64 ((yd.write (((x923.at_.toNat : Nat) : Int) % ((d.sectors.length : Nat) : Int)) ([x923.byte])).2))) hF1095 (by decide +kernel) (by decide +kernel) rfl rfl rfl rfl (fun _ _ _ _ h => h) rfl (fun W => (rn_extract (hF1095.get rfl) rfl)) ?_
                        intro a1096 hF1097; clear hF1095
                        refine any_one (i := 22) (by decide +kernel) rfl ?_
                        have b1101 : Blk w1085 g1058 25 [(.slice none 0 0), (.slice none 0 0), (.int .i64 0), (.bool false)] := ((b1060.ext hx1071).ext hx1086)
                        refine o_store (cells := [(.slice A1079 (((yd.write (((x923.at_.toNat : Nat) : Int) % ((d.sectors.length : Nat) : Int)) ([x923.byte])).1).sectors.length) c1080), (.slice B1081 (((yd.write (((x923.at_.toNat : Nat) : Int) % ((d.sectors.length : Nat) : Int)) ([x923.byte])).1).pending.length) e1082), (.int .i64 (((yd.write (((x923.at_.toNat : Nat) : Int) % ((d.sectors.length : Nat) : Int)) ([x923.byte])).1).left)), (.bool (((yd.write (((x923.at_.toNat : Nat) : Int) % ((d.sectors.length : Nat) : Int)) ([x923.byte])).1).stopped))]) hF1097 rfl rfl rfl rfl (hF1097.get rfl) (hF1097.get rfl) b1101 (by kernel_rfl : (Try.prog.info? 25).map (·.size) = some 4) rfl (by simp [Value.oneCell']) ?_
                        intro w1098 b1099 hg1100; have z1102 := hg1100.size
                        refine ⟨fun h => absurd h (by decide), ?_⟩
                        refine any_pure (i := 23) (v := (.int .i64 ((yd.write (((x923.at_.toNat : Nat) : Int) % ((d.sectors.length : Nat) : Int)) ([x923.byte])).2))) hF1097 (by decide +kernel) (by decide +kernel) rfl rfl rfl rfl (fun _ _ _ _ h => h) rfl (fun W => (rn_assign (hF1097.get rfl))) ?_
                        intro a1103 hF1104; clear hF1097
                        refine any_nil (by decide +kernel) ?_
                        have d1105 := (hd1083.pres ((Pres.refl w1085).grownN hg1100 (fun h => by simp only [Clip, Fr, Old] at h; omega)))
                        exact ⟨g1058, A1079, c1080, B1081, e1082, (((((((((((((((hF1104.nil.cons (hF1104.get (t := 14) (v := (.int .i64 ((yd.write (((x923.at_.toNat : Nat) : Int) % ((d.sectors.length : Nat) : Int)) ([x923.byte])).2))) rfl)).cons (hF1104.get (t := 13) (v := (.pointer (some ⟨g1058, 0, none⟩))) rfl)).cons (hF1104.get (t := 91) (v := (.bool (decide (((k2 : Nat) : Int) < ((l.length : Nat) : Int))))) rfl)).cons (hF1104.get (t := 12) (v := (.int .i64 (k2 : Nat))) rfl)).cons (hF1104.get (t := 56) (v := (.bool false)) rfl)).cons (hF1104.get (t := 8) (v := (.int .i64 (k : Nat))) rfl)).cons (hF1104.get (t := 7) (v := (.int .i64 ev)) rfl)).cons (hF1104.get (t := 6) (v := (.pointer (some ⟨xg227, 0, none⟩))) rfl)).cons (hF1104.get (t := 5) (v := (.pointer (some ⟨xg218, 0, none⟩))) rfl)).cons (hF1104.get (t := 46) (v := (.bool d.stopped)) rfl)).cons (hF1104.get (t := 17) (v := (.bool false)) rfl)).cons (hF1104.get (t := 4) (v := (.bool false)) rfl)).cons (hF1104.get (t := 2) (v := (.pointer (some ⟨g2, 0, none⟩))) rfl)).cons (hF1104.get (t := 1) (v := (.slice C l.length f)) rfl)).cons (hF1104.get (t := 0) (v := (.agg #[(.slice A d.sectors.length c), (.slice B d.pending.length e), (.int .i64 d.left), (.bool d.stopped)])) rfl)), ((((((Ext.refl w896).trans hx929).trans hx1061).trans hx1071).trans hx1086).grownN hg1100 (by omega)), b1099, (by omega), (RDk.sub (S := (Clip (Fr (fun b => (Clip (fun b => b ≠ g2 ∧ b ≠ xg218 ∧ b ≠ xg227) w896) b ∨ (fun b => b = g1068) b) w1069) w1085)) d1105 (fun b hb => by simp only [Clip, Fr, Old] at hb ⊢; omega))⟩
                    · rintro a1106 w1107 ⟨xg1004, xA985, xc986, xB987, xe988, hF1108, hx1109, b1110, z1112, f1111⟩
                      have z1113 := hx1109.size
                      clear hF920
                      have z1114 := b1110.lt
                      refine wp_seq_k (fun K1115 hK1115 => ?_)
                      refine wp_seq_k (fun K1116 hK1116 => ?_)
                      refine wp_region_lit ?_
                      refine wpl_op (i := 0) rfl (o_val (v := (.int .i64 ((yd.write (((x923.at_.toNat : Nat) : Int) % ((d.sectors.length : Nat) : Int)) ([x923.byte])).2))) hF1108 rfl rfl rfl rfl (rn_move (hF1108.get rfl)) ?_)
                      intro a1117 hF1118; clear hF1108
                      refine wpl_op (i := 1) rfl (o_val (v := (.bool (decide (((yd.write (((x923.at_.toNat : Nat) : Int) % ((d.sectors.length : Nat) : Int)) ([x923.byte])).2 : Int) ≠ (0 : Int))))) hF1118 rfl rfl rfl rfl (rn_neq (hF1118.get rfl) rfl) ?_)
                      intro a1119 hF1120; clear hF1118
                      refine wpList_nil ?_
                      refine hK1116 _ _ ?_
                      clear hK1116
                      refine wp_cond_false (c_false hF1120 rfl ((decide_eq_false (by rw [show (yd.write ((((x923.at_.toNat : Nat) : Int) % ((d.sectors.length : Nat) : Int))) [x923.byte]).2 = 0 from by rw [hp900]; exact congrArg Prod.snd (tog_next hrun hi924 (by omega))]; simp)) : decide (((yd.write (((x923.at_.toNat : Nat) : Int) % ((d.sectors.length : Nat) : Int)) ([x923.byte])).2 : Int) ≠ (0 : Int)) = false)) ?_
                      refine wp_skip ?_
                      refine hK1115 _ _ ?_
                      clear hK1115
                      refine wp_region_lit ?_
                      refine wpl_op (i := 0) rfl (o_val (v := (.agg #[(.slice xA985 (((yd.write (((x923.at_.toNat : Nat) : Int) % ((d.sectors.length : Nat) : Int)) ([x923.byte])).1).sectors.length) xc986), (.slice xB987 (((yd.write (((x923.at_.toNat : Nat) : Int) % ((d.sectors.length : Nat) : Int)) ([x923.byte])).1).pending.length) xe988), (.int .i64 (((yd.write (((x923.at_.toNat : Nat) : Int) % ((d.sectors.length : Nat) : Int)) ([x923.byte])).1).left)), (.bool (((yd.write (((x923.at_.toNat : Nat) : Int) % ((d.sectors.length : Nat) : Int)) ([x923.byte])).1).stopped))])) hF1120 rfl rfl rfl rfl (rn_loadBlk (hF1120.get rfl) b1110 Try.underlying25 rfl (by kernel_rfl : (Try.prog.info? 25).map (·.size) = some 4)) ?_)
                      intro a1122 hF1123; clear hF1120
                      have b1127 : Blk w1107 xg227 25 [(.slice yA yd.sectors.length yc), (.slice yB yd.pending.length ye), (.int .i64 yd.left), (.bool yd.stopped)] := (b903.ext hx1109)
                      refine wpl_op (i := 1) rfl (o_store (cells := [(.slice xA985 (((yd.write (((x923.at_.toNat : Nat) : Int) % ((d.sectors.length : Nat) : Int)) ([x923.byte])).1).sectors.length) xc986), (.slice xB987 (((yd.write (((x923.at_.toNat : Nat) : Int) % ((d.sectors.length : Nat) : Int)) ([x923.byte])).1).pending.length) xe988), (.int .i64 (((yd.write (((x923.at_.toNat : Nat) : Int) % ((d.sectors.length : Nat) : Int)) ([x923.byte])).1).left)), (.bool (((yd.write (((x923.at_.toNat : Nat) : Int) % ((d.sectors.length : Nat) : Int)) ([x923.byte])).1).stopped))]) hF1123 rfl rfl rfl rfl (hF1123.get rfl) (hF1123.get rfl) b1127 (by kernel_rfl : (Try.prog.info? 25).map (·.size) = some 4) rfl (by simp [Value.oneCell']) ?_)
                      intro w1124 b1125 hg1126; have z1128 := hg1126.size
                      refine wpList_nil ?_
                      refine hK922 _ _ ?_
                      clear hK922
                      refine wp_region_lit ?_
                      refine wpl_op (i := 0) rfl (o_val (v := (.int .i64 (k2 : Nat))) hF1123 rfl rfl rfl rfl (rn_move (hF1123.get rfl)) ?_)
                      intro a1129 hF1130; clear hF1123
                      refine wpl_op (i := 1) rfl (o_val (v := (.int .i64 ((k2 : Nat) + 1))) hF1130 rfl rfl rfl rfl (rn_add (hF1130.get rfl) rfl (by omega) (by omega)) ?_)
                      intro a1131 hF1132; clear hF1130
                      refine wpl_op (i := 2) rfl (o_val (v := (.int .i64 ((k2 : Nat) + 1))) hF1132 rfl rfl rfl rfl (rn_assign (hF1132.get rfl)) ?_)
                      intro a1133 hF1134; clear hF1132
                      refine wpList_nil ?_
                      have d1135 := (f1111.pres ((Pres.refl w1107).grownN hg1126 (fun h => by simp only [Clip, Fr, Old] at h; omega)))
                      have d1136 := (hf904.pres (((Pres.refl w896).ext hx1109).grownN hg1126 (fun h => by simp only [Clip, Fr, Old] at h; omega)))
                      have b1137 : Blk w1124 g2 25 [(.slice A d.sectors.length c), (.slice B d.pending.length e), (.int .i64 d.left), (.bool d.stopped)] := ((b901.ext hx1109).grownN hg1126 (by omega))
                      have b1138 : Blk w1124 xg218 25 [(.slice xA xd.sectors.length xc), (.slice xB xd.pending.length xe), (.int .i64 xd.left), (.bool xd.stopped)] := ((b902.ext hx1109).grownN hg1126 (by omega))
                      refine ⟨⟨k2 + 1, (yd.write (((x923.at_.toNat : Nat) : Int) % ((d.sectors.length : Nat) : Int)) ([x923.byte])).1, xA985, xc986, xB987, xe988, ((((((((((((hF1134.nil.cons (q_get hF1134 (t := 12) rfl (by first | rfl | (congr 1; omega)))).cons (q_get hF1134 (t := 56) rfl rfl)).cons (q_get hF1134 (t := 8) rfl rfl)).cons (q_get hF1134 (t := 7) rfl rfl)).cons (q_get hF1134 (t := 6) rfl rfl)).cons (q_get hF1134 (t := 5) rfl rfl)).cons (q_get hF1134 (t := 46) rfl rfl)).cons (q_get hF1134 (t := 17) rfl rfl)).cons (q_get hF1134 (t := 4) rfl rfl)).cons (q_get hF1134 (t := 2) rfl rfl)).cons (q_get hF1134 (t := 1) rfl rfl)).cons (q_get hF1134 (t := 0) rfl rfl)), (by omega), (by rw [hp900]; exact congrArg Prod.fst (tog_next hrun hi924 (by omega))), ((((Ext.refl w).trans hx898).trans hx1109).grownN hg1126 (by omega)), b1137, b1138, b1125, (RDk.sub (S := (Clip (fun b => b ≠ g2 ∧ b ≠ xg218 ∧ b ≠ xg227) w896)) d1136 (fun b hb => by simp only [Clip, Fr, Old] at hb ⊢; omega)), (RDk.sub (S := (Clip (fun b => b ≠ g2 ∧ b ≠ xg218 ∧ b ≠ xg227 ∧ b ≠ xg1004) w1107)) d1135 (fun b hb => by simp only [Clip, Fr, Old] at hb ⊢; omega))⟩, ?_⟩
                      rw [hF1134.get (t := 12) rfl, hL906.get (t := 12) rfl]; simp [intOf]; omega
                  · skip
                    have hk2 : k2 = l.length := by omega
                    have hyd := hp900
                    rw [hk2] at hyd
                    refine wp_cond_false (c_false hF920 rfl (decide_eq_false hc921)) ?_
                    refine wp_exit ?_
                    refine exit_then ?_
                    refine exit_then ?_
                    refine exit_here ?_
                    refine hK890 _ _ ?_
                    clear hK890
                    refine wp_seq_k (fun K1139 hK1139 => ?_)
                    refine wp_region_lit ?_
                    refine wpl_op (i := 0) rfl (o_val (v := (.agg #[(.slice yA yd.sectors.length yc), (.slice yB yd.pending.length ye), (.int .i64 yd.left), (.bool yd.stopped)])) hF920 rfl rfl rfl rfl (rn_loadBlk (hF920.get rfl) b903 Try.underlying25 rfl (by kernel_rfl : (Try.prog.info? 25).map (·.size) = some 4)) ?_)
                    intro a1140 hF1141; clear hF920
                    refine wpl_op (i := 1) rfl (o_call hF1141 rfl rfl rfl rfl (rn_call (args1 (hF1141.get rfl)) rfl (by kernel_rfl)) (sync_any (S := (Clip (fun b => b ≠ g2 ∧ b ≠ xg218 ∧ b ≠ xg227) w896)) _ yd _ hf905) ?_)
                    rintro _ w1148 ⟨v1147, rfl, hd1146, hx1149⟩
                    obtain ⟨A1142, c1143, B1144, e1145, rfl, -, -⟩ := hd1146.form
                    have hd1146 := hd1146.clip
                    refine ⟨_, rfl, ?_⟩; intro a1150 hF1151; clear hF1141; have z1152 := hx1149.size
                    refine wpl_op (i := 2) rfl (o_val (v := (.tuple #[(.agg #[(.slice A1142 yd.sync.1.sectors.length c1143), (.slice B1144 yd.sync.1.pending.length e1145), (.int .i64 yd.sync.1.left), (.bool yd.sync.1.stopped)]), (.int .i64 yd.sync.2)])) hF1151 rfl rfl rfl rfl (rn_move (hF1151.get rfl)) ?_)
                    intro a1153 hF1154; clear hF1151
                    refine wpl_op (i := 3) rfl (o_val (v := (.agg #[(.slice A1142 yd.sync.1.sectors.length c1143), (.slice B1144 yd.sync.1.pending.length e1145), (.int .i64 yd.sync.1.left), (.bool yd.sync.1.stopped)])) hF1154 rfl rfl rfl rfl (rn_extract (hF1154.get rfl) rfl) ?_)
                    intro a1155 hF1156; clear hF1154
                    refine wpl_op (i := 4) rfl (o_val (v := (.int .i64 yd.sync.2)) hF1156 rfl rfl rfl rfl (rn_extract (hF1156.get rfl) rfl) ?_)
                    intro a1157 hF1158; clear hF1156
                    have b1162 : Blk w1148 xg227 25 [(.slice yA yd.sectors.length yc), (.slice yB yd.pending.length ye), (.int .i64 yd.left), (.bool yd.stopped)] := (b903.ext hx1149)
                    refine wpl_op (i := 5) rfl (o_store (cells := [(.slice A1142 yd.sync.1.sectors.length c1143), (.slice B1144 yd.sync.1.pending.length e1145), (.int .i64 yd.sync.1.left), (.bool yd.sync.1.stopped)]) hF1158 rfl rfl rfl rfl (hF1158.get rfl) (hF1158.get rfl) b1162 (by kernel_rfl : (Try.prog.info? 25).map (·.size) = some 4) rfl (by simp [Value.oneCell']) ?_)
                    intro w1159 b1160 hg1161; have z1163 := hg1161.size
                    refine wpl_op (i := 6) rfl (o_val (v := (.int .i64 yd.sync.2)) hF1158 rfl rfl rfl rfl (rn_assign (hF1158.get rfl)) ?_)
                    intro a1164 hF1165; clear hF1158
                    refine wpList_nil ?_
                    refine hK1139 _ _ ?_
                    clear hK1139
                    have hF1166 := ((((((((((((((hF1165.nil.cons (hF1165.get (t := 15) (v := (.int .i64 yd.sync.2)) rfl)).cons (hF1165.get (t := 91) (v := (.bool (decide (((k2 : Nat) : Int) < ((l.length : Nat) : Int))))) rfl)).cons (hF1165.get (t := 12) (v := (.int .i64 (k2 : Nat))) rfl)).cons (hF1165.get (t := 56) (v := (.bool false)) rfl)).cons (hF1165.get (t := 8) (v := (.int .i64 (k : Nat))) rfl)).cons (hF1165.get (t := 7) (v := (.int .i64 ev)) rfl)).cons (hF1165.get (t := 6) (v := (.pointer (some ⟨xg227, 0, none⟩))) rfl)).cons (hF1165.get (t := 5) (v := (.pointer (some ⟨xg218, 0, none⟩))) rfl)).cons (hF1165.get (t := 46) (v := (.bool d.stopped)) rfl)).cons (hF1165.get (t := 17) (v := (.bool false)) rfl)).cons (hF1165.get (t := 4) (v := (.bool false)) rfl)).cons (hF1165.get (t := 2) (v := (.pointer (some ⟨g2, 0, none⟩))) rfl)).cons (hF1165.get (t := 1) (v := (.slice C l.length f)) rfl)).cons (hF1165.get (t := 0) (v := (.agg #[(.slice A d.sectors.length c), (.slice B d.pending.length e), (.int .i64 d.left), (.bool d.stopped)])) rfl))
                    clear hF1165
                    refine wp_seq_k (fun K1167 hK1167 => ?_)
                    refine wp_region_lit ?_
                    refine wpl_op (i := 0) rfl (o_val (v := (.int .i64 ev)) hF1166 rfl rfl rfl rfl (rn_move (hF1166.get rfl)) ?_)
                    intro a1168 hF1169; clear hF1166
                    refine wpl_op (i := 1) rfl (o_val (v := (.int .i64 yd.sync.2)) hF1169 rfl rfl rfl rfl (rn_move (hF1169.get rfl)) ?_)
                    intro a1170 hF1171; clear hF1169
                    refine wpl_op (i := 2) rfl (o_val (v := (.bool (decide ((ev : Int) = (yd.sync.2 : Int))))) hF1171 rfl rfl rfl rfl (rn_eql (hF1171.get rfl) (hF1171.get rfl)) ?_)
                    intro a1172 hF1173; clear hF1171
                    refine wpl_op (i := 3) rfl (o_val (v := (.bool (decide ((ev : Int) = (yd.sync.2 : Int))))) hF1173 rfl rfl rfl rfl (rn_move (hF1173.get rfl)) ?_)
                    intro a1174 hF1175; clear hF1173
                    have b1177 : Blk w1159 xg218 25 [(.slice xA xd.sectors.length xc), (.slice xB xd.pending.length xe), (.int .i64 xd.left), (.bool xd.stopped)] := ((b902.ext hx1149).grownN hg1161 (by omega))
                    refine wpl_op (i := 4) rfl (o_val (v := (.agg #[(.slice xA xd.sectors.length xc), (.slice xB xd.pending.length xe), (.int .i64 xd.left), (.bool xd.stopped)])) hF1175 rfl (wanted_guard rfl rfl rfl hF1175 rfl ((decide_eq_true (by rw [hyd]; exact hend.1)) : decide ((ev : Int) = (yd.sync.2 : Int)) = true) rfl) rfl rfl (rn_loadBlk (hF1175.get rfl) b1177 Try.underlying25 rfl (by kernel_rfl : (Try.prog.info? 25).map (·.size) = some 4)) ?_)
                    intro a1178 hF1179; clear hF1175
                    refine wpl_op (i := 5) rfl (o_val (v := (.agg #[(.slice A1142 yd.sync.1.sectors.length c1143), (.slice B1144 yd.sync.1.pending.length e1145), (.int .i64 yd.sync.1.left), (.bool yd.sync.1.stopped)])) hF1179 rfl (wanted_guard rfl rfl rfl hF1179 rfl ((decide_eq_true (by rw [hyd]; exact hend.1)) : decide ((ev : Int) = (yd.sync.2 : Int)) = true) rfl) rfl rfl (rn_loadBlk (hF1179.get rfl) b1160 Try.underlying25 rfl (by kernel_rfl : (Try.prog.info? 25).map (·.size) = some 4)) ?_)
                    intro a1180 hF1181; clear hF1179
                    have d1182 := (hf904.pres (((Pres.refl w896).ext hx1149).grownN hg1161 (fun h => by simp only [Clip, Fr, Old] at h; omega)))
                    have d1183 := (hd1146.pres ((Pres.refl w1148).grownN hg1161 (fun h => by simp only [Clip, Fr, Old] at h; omega)))
                    refine wpl_op (i := 6) rfl (o_call hF1181 rfl (wanted_guard rfl rfl rfl hF1181 rfl ((decide_eq_true (by rw [hyd]; exact hend.1)) : decide ((ev : Int) = (yd.sync.2 : Int)) = true) rfl) rfl rfl (rn_call (args2 (hF1181.get rfl) (hF1181.get rfl)) rfl (by kernel_rfl)) (same_any (S := fun _ => True) _ _ xd yd.sync.1 _ d1182.all d1183.all) ?_)
                    rintro _ w1184 ⟨rfl, hx1185⟩
                    refine ⟨_, rfl, ?_⟩; intro a1186 hF1187; clear hF1181; have z1188 := hx1185.size
                    refine wpl_op (i := 7) rfl (o_val (v := (.bool (xd.same yd.sync.1))) hF1187 rfl rfl rfl rfl (rn_pickT (c_true hF1187 rfl ((decide_eq_true (by rw [hyd]; exact hend.1)) : decide ((ev : Int) = (yd.sync.2 : Int)) = true)) (hF1187.get rfl)) ?_)
                    intro a1189 hF1190; clear hF1187
                    refine wpl_op (i := 8) rfl (o_val (v := (.bool (xd.same yd.sync.1))) hF1190 rfl rfl rfl rfl (rn_assign (hF1190.get rfl)) ?_)
                    intro a1191 hF1192; clear hF1190
                    refine wpList_nil ?_
                    refine hK1167 _ _ ?_
                    clear hK1167
                    have hF1193 := ((((((((((((((hF1192.nil.cons (hF1192.get (t := 15) (v := (.int .i64 yd.sync.2)) rfl)).cons (hF1192.get (t := 91) (v := (.bool (decide (((k2 : Nat) : Int) < ((l.length : Nat) : Int))))) rfl)).cons (hF1192.get (t := 12) (v := (.int .i64 (k2 : Nat))) rfl)).cons (hF1192.get (t := 56) (v := (.bool false)) rfl)).cons (hF1192.get (t := 8) (v := (.int .i64 (k : Nat))) rfl)).cons (hF1192.get (t := 7) (v := (.int .i64 ev)) rfl)).cons (hF1192.get (t := 6) (v := (.pointer (some ⟨xg227, 0, none⟩))) rfl)).cons (hF1192.get (t := 5) (v := (.pointer (some ⟨xg218, 0, none⟩))) rfl)).cons (hF1192.get (t := 46) (v := (.bool d.stopped)) rfl)).cons (hF1192.get (t := 17) (v := (.bool false)) rfl)).cons (hF1192.get (t := 4) (v := (.bool (xd.same yd.sync.1))) rfl)).cons (hF1192.get (t := 2) (v := (.pointer (some ⟨g2, 0, none⟩))) rfl)).cons (hF1192.get (t := 1) (v := (.slice C l.length f)) rfl)).cons (hF1192.get (t := 0) (v := (.agg #[(.slice A d.sectors.length c), (.slice B d.pending.length e), (.int .i64 d.left), (.bool d.stopped)])) rfl))
                    clear hF1192
                    refine wp_ret ?_
                    refine ret1 hF1193 rfl rfl ?_
                    exact ⟨congrArg (fun b => Ending.returned (.bool b)) ((same_of (by rw [hyd]; exact hend.2)) : xd.same yd.sync.1 = true), (((((Ext.refl w).trans hx898).trans hx1149).grownN hg1161 (by omega)).trans hx1185)⟩
  · skip
    refine wpl_op (i := 4) rfl (o_skip hF35 rfl (unwanted_guard rfl rfl rfl hF35 rfl (not_f hc36) rfl) rfl rfl ?_)
    intro a1194 hF1195; clear hF35
    refine wpl_op (i := 5) rfl (o_skip hF1195 rfl (unwanted_guard rfl rfl rfl hF1195 rfl (not_f hc36) rfl) rfl rfl ?_)
    intro a1196 hF1197; clear hF1195
    refine wpl_op (i := 6) rfl (o_skip hF1197 rfl (unwanted_guard rfl rfl rfl hF1197 rfl (not_f hc36) rfl) rfl rfl ?_)
    intro a1198 hF1199; clear hF1197
    refine wpl_op (i := 7) rfl (o_val (v := (.bool true)) hF1199 rfl rfl rfl rfl (rn_pickT (c_true hF1199 rfl (not_f hc36)) rfl) ?_)
    intro a1200 hF1201; clear hF1199
    refine wpl_op (i := 8) rfl (o_val (v := (.bool true)) hF1201 rfl rfl rfl rfl (rn_move (hF1201.get rfl)) ?_)
    intro a1202 hF1203; clear hF1201
    refine wpl_op (i := 9) rfl (o_skip hF1203 rfl (unwanted_guard rfl rfl rfl hF1203 rfl rfl rfl) rfl rfl ?_)
    intro a1204 hF1205; clear hF1203
    refine wpl_op (i := 10) rfl (o_skip hF1205 rfl (unwanted_guard rfl rfl rfl hF1205 rfl rfl rfl) rfl rfl ?_)
    intro a1206 hF1207; clear hF1205
    refine wpl_op (i := 11) rfl (o_skip hF1207 rfl (unwanted_guard rfl rfl rfl hF1207 rfl rfl rfl) rfl rfl ?_)
    intro a1208 hF1209; clear hF1207
    refine wpl_op (i := 12) rfl (o_skip hF1209 rfl (unwanted_guard rfl rfl rfl hF1209 rfl rfl rfl) rfl rfl ?_)
    intro a1210 hF1211; clear hF1209
    refine wpl_op (i := 13) rfl (o_val (v := (.bool true)) hF1211 rfl rfl rfl rfl (rn_pickT (c_true hF1211 rfl rfl) rfl) ?_)
    intro a1212 hF1213; clear hF1211
    refine wpl_op (i := 14) rfl (o_val (v := (.bool true)) hF1213 rfl rfl rfl rfl (rn_move (hF1213.get rfl)) ?_)
    intro a1214 hF1215; clear hF1213
    refine wpl_op (i := 15) rfl (o_skip hF1215 rfl (unwanted_guard rfl rfl rfl hF1215 rfl rfl rfl) rfl rfl ?_)
    intro a1216 hF1217; clear hF1215
    refine wpl_op (i := 16) rfl (o_skip hF1217 rfl (unwanted_guard rfl rfl rfl hF1217 rfl rfl rfl) rfl rfl ?_)
    intro a1218 hF1219; clear hF1217
    refine wpl_op (i := 17) rfl (o_skip hF1219 rfl (unwanted_guard rfl rfl rfl hF1219 rfl rfl rfl) rfl rfl ?_)
    intro a1220 hF1221; clear hF1219
    refine wpl_op (i := 18) rfl (o_skip hF1221 rfl (unwanted_guard rfl rfl rfl hF1221 rfl rfl rfl) rfl rfl ?_)
    intro a1222 hF1223; clear hF1221
    refine wpl_op (i := 19) rfl (o_val (v := (.bool true)) hF1223 rfl rfl rfl rfl (rn_pickT (c_true hF1223 rfl rfl) rfl) ?_)
    intro a1224 hF1225; clear hF1223
    refine wpl_op (i := 20) rfl (o_val (v := (.bool true)) hF1225 rfl rfl rfl rfl (rn_move (hF1225.get rfl)) ?_)
    intro a1226 hF1227; clear hF1225
    refine wpl_op (i := 21) rfl (o_skip hF1227 rfl (unwanted_guard rfl rfl rfl hF1227 rfl rfl rfl) rfl rfl ?_)
    intro a1228 hF1229; clear hF1227
    refine wpl_op (i := 22) rfl (o_skip hF1229 rfl (unwanted_guard rfl rfl rfl hF1229 rfl rfl rfl) rfl rfl ?_)
    intro a1230 hF1231; clear hF1229
    refine wpl_op (i := 23) rfl (o_skip hF1231 rfl (unwanted_guard rfl rfl rfl hF1231 rfl rfl rfl) rfl rfl ?_)
    intro a1232 hF1233; clear hF1231
    refine wpl_op (i := 24) rfl (o_val (v := (.bool true)) hF1233 rfl rfl rfl rfl (rn_pickT (c_true hF1233 rfl rfl) rfl) ?_)
    intro a1234 hF1235; clear hF1233
    refine wpl_op (i := 25) rfl (o_val (v := (.bool true)) hF1235 rfl rfl rfl rfl (rn_move (hF1235.get rfl)) ?_)
    intro a1236 hF1237; clear hF1235
    refine wpl_op (i := 26) rfl (o_skip hF1237 rfl (unwanted_guard rfl rfl rfl hF1237 rfl rfl rfl) rfl rfl ?_)
    intro a1238 hF1239; clear hF1237
    refine wpl_op (i := 27) rfl (o_skip hF1239 rfl (unwanted_guard rfl rfl rfl hF1239 rfl rfl rfl) rfl rfl ?_)
    intro a1240 hF1241; clear hF1239
    refine wpl_op (i := 28) rfl (o_val (v := (.bool true)) hF1241 rfl rfl rfl rfl (rn_pickT (c_true hF1241 rfl rfl) rfl) ?_)
    intro a1242 hF1243; clear hF1241
    refine wpList_nil ?_
    refine hK22 _ _ ?_
    clear hK22
    have hF1244 := ((((((hF1243.nil.cons (hF1243.get (t := 46) (v := (.bool true)) rfl)).cons (hF1243.get (t := 17) (v := (.bool false)) rfl)).cons (hF1243.get (t := 4) (v := (.bool false)) rfl)).cons (hF1243.get (t := 2) (v := (.pointer (some ⟨g2, 0, none⟩))) rfl)).cons (hF1243.get (t := 1) (v := (.slice C l.length f)) rfl)).cons (hF1243.get (t := 0) (v := (.agg #[(.slice A d.sectors.length c), (.slice B d.pending.length e), (.int .i64 d.left), (.bool d.stopped)])) rfl))
    clear hF1243
    refine wp_cond_true (c_true hF1244 rfl rfl) ?_
    refine wp_seq_k (fun K1245 hK1245 => ?_)
    refine wp_region_lit ?_
    refine wpl_op (i := 0) rfl (o_val (v := (.bool true)) hF1244 rfl rfl rfl rfl (rn_assign rfl) ?_)
    intro a1246 hF1247; clear hF1244
    refine wpList_nil ?_
    refine hK1245 _ _ ?_
    clear hK1245
    refine wp_ret ?_
    refine ret1 hF1247 rfl rfl ?_
    exact ⟨congrArg (fun b => Ending.returned (.bool b)) (rfl : true = true), ((((Ext.refl w).trans hx5).trans hx15).trans hx28)⟩

end Go.Proofs.Ytklhgghlkidfjaa
