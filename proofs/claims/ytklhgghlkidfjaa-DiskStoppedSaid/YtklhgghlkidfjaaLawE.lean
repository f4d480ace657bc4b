/- The law DiskStopped, walked. -/
import Derived.Test.YtklhgghlkidfjaaLawA
import Derived.Test.YtklhgghlkidfjaaSane
namespace Go.Proofs.Ytklhgghlkidfjaa
open Go.RowKit

variable {S S' : Nat → Prop}

set_option maxRecDepth 100000 in
set_option maxHeartbeats 4000000 in
theorem stopped_any (A : Option Addr) (c : Nat) (B : Option Addr) (e : Nat) (d : Dk) (n m : Int) (C : Option Addr) (f : Nat) (b : List UInt8) (w : World) (hd : RDk (Old w) w (.agg #[.slice A d.sectors.length c, .slice B d.pending.length e, .int .i64 d.left, .bool d.stopped]) d) (s1 : ∀ x ∈ d.sectors, x.length ≤ 140737488355328) (s2 : ∀ x ∈ d.pending, x.2.length ≤ 140737488355328) (hb : RBs (Old w) w (.slice C b.length f) b) (s3 : b.length ≤ 140737488355328) :
    Calls Try.prog 9 #[(.agg #[(.slice A d.sectors.length c), (.slice B d.pending.length e), (.int .i64 d.left), (.bool d.stopped)]), (.int .i64 n), (.int .i64 m), (.slice C b.length f)] w (RB w true) := by
  have hrl : d.restart.sectors.length = d.sectors.length := rfl
  obtain ⟨hq1, hq2⟩ := (RDk.len hd).1.at.2.1
  refine calls_enter (l := [(.agg #[(.slice A d.sectors.length c), (.slice B d.pending.length e), (.int .i64 d.left), (.bool d.stopped)]), (.int .i64 n), (.int .i64 m), (.slice C b.length f)]) Try.func9 rfl rfl rfl (fun a hF => ?_)
  refine wp_seq_k (fun K1 hK1 => ?_)
  refine wp_region_lit ?_
  refine wpl_op (i := 0) rfl (o_new (fun g => (.pointer (some ⟨g, 0, none⟩))) [(.slice A d.sectors.length c), (.slice B d.pending.length e), (.int .i64 d.left), (.bool d.stopped)] 25 hF rfl rfl rfl rfl (rn_box (hF.get rfl) (by kernel_rfl)) ?_)
  intro g2 w3 a8 hF9 z6 z7 b4 hx5; clear hF
  refine wpl_op (i := 1) rfl (o_val (v := (.bool false)) hF9 rfl rfl rfl rfl (rn_assign rfl) ?_)
  intro a10 hF11; clear hF9
  refine wpList_nil ?_
  refine hK1 _ _ ?_
  clear hK1
  refine wp_seq_k (fun K12 hK12 => ?_)
  refine wp_seq_k (fun K13 hK13 => ?_)
  refine wp_region_lit ?_
  refine wpl_op (i := 0) rfl (o_call hF11 rfl rfl rfl rfl (rn_call (args0 ) rfl (by kernel_rfl)) (sane_any _) ?_)
  rintro _ w14 ⟨rfl, hx15⟩
  refine ⟨_, rfl, ?_⟩; intro a16 hF17; clear hF11; have z18 := hx15.size
  refine wpl_op (i := 1) rfl (o_val (v := (.bool false)) hF17 rfl rfl rfl rfl (rn_not' (hF17.get rfl) rfl) ?_)
  intro a19 hF20; clear hF17
  refine wpList_nil ?_
  refine hK13 _ _ ?_
  clear hK13
  refine wp_cond_false (c_false hF20 rfl rfl) ?_
  refine wp_skip ?_
  refine hK12 _ _ ?_
  clear hK12
  refine wp_seq_k (fun K21 hK21 => ?_)
  refine wp_seq_k (fun K22 hK22 => ?_)
  refine wp_region_lit ?_
  have b23 : Blk w14 g2 25 [(.slice A d.sectors.length c), (.slice B d.pending.length e), (.int .i64 d.left), (.bool d.stopped)] := (b4.ext hx15)
  refine wpl_op (i := 0) rfl (o_val (v := (.agg #[(.slice A d.sectors.length c), (.slice B d.pending.length e), (.int .i64 d.left), (.bool d.stopped)])) hF20 rfl rfl rfl rfl (rn_loadBlk (hF20.get rfl) b23 Try.underlying25 rfl (by kernel_rfl : (Try.prog.info? 25).map (·.size) = some 4)) ?_)
  intro a24 hF25; clear hF20
  have d26 := ((hd.ext hx5).ext hx15)
  refine wpl_op (i := 1) rfl (o_call hF25 rfl rfl rfl rfl (rn_call (args1 (hF25.get rfl)) rfl (by kernel_rfl)) (few_any (S := (Old w)) _ d _ d26 s1 s2) ?_)
  rintro _ w27 ⟨rfl, hx28⟩
  refine ⟨_, rfl, ?_⟩; intro a29 hF30; clear hF25; have z31 := hx28.size
  refine wpl_op (i := 2) rfl (o_val (v := (.bool (!d.few))) hF30 rfl rfl rfl rfl (rn_not' (hF30.get rfl) rfl) ?_)
  intro a32 hF33; clear hF30
  refine wpl_op (i := 3) rfl (o_val (v := (.bool (!d.few))) hF33 rfl rfl rfl rfl (rn_move (hF33.get rfl)) ?_)
  intro a34 hF35; clear hF33
  rcases Bool.eq_false_or_eq_true d.few with hc36 | hc36
  · skip
    refine wpl_op (i := 4) rfl (o_val (v := (.slice C b.length f)) hF35 rfl (wanted_guard rfl rfl rfl hF35 rfl (not_t hc36) rfl) rfl rfl (rn_move (hF35.get rfl)) ?_)
    intro a37 hF38; clear hF35
    refine wpl_op (i := 5) rfl (o_val (v := (.int .i64 (b.length : Nat))) hF38 rfl (wanted_guard rfl rfl rfl hF38 rfl (not_t hc36) rfl) rfl rfl (rn_len_slice Try.underlying35 (hF38.get rfl)) ?_)
    intro a39 hF40; clear hF38
    refine wpl_op (i := 6) rfl (o_val (v := (.bool (decide ((1000 : Int) < ((b.length : Nat) : Int))))) hF40 rfl (wanted_guard rfl rfl rfl hF40 rfl (not_t hc36) rfl) rfl rfl (rn_gtr (hF40.get rfl) rfl) ?_)
    intro a41 hF42; clear hF40
    refine wpl_op (i := 7) rfl (o_val (v := (.bool (decide ((1000 : Int) < ((b.length : Nat) : Int))))) hF42 rfl rfl rfl rfl (rn_pickF (c_false hF42 rfl (not_t hc36)) (hF42.get rfl)) ?_)
    intro a43 hF44; clear hF42
    refine wpList_nil ?_
    refine hK22 _ _ ?_
    clear hK22
    have hF45 := ((((((((hF44.nil.cons (hF44.get (t := 29) (v := (.bool (decide ((1000 : Int) < ((b.length : Nat) : Int))))) rfl)).cons (hF44.get (t := 21) (v := (.bool false)) rfl)).cons (hF44.get (t := 8) (v := (.bool false)) rfl)).cons (hF44.get (t := 4) (v := (.pointer (some ⟨g2, 0, none⟩))) rfl)).cons (hF44.get (t := 3) (v := (.slice C b.length f)) rfl)).cons (hF44.get (t := 2) (v := (.int .i64 m)) rfl)).cons (hF44.get (t := 1) (v := (.int .i64 n)) rfl)).cons (hF44.get (t := 0) (v := (.agg #[(.slice A d.sectors.length c), (.slice B d.pending.length e), (.int .i64 d.left), (.bool d.stopped)])) rfl))
    clear hF44
    by_cases hc46 : (1000 : Int) < ((b.length : Nat) : Int)
    · skip
      refine wp_cond_true (c_true hF45 rfl (decide_eq_true hc46)) ?_
      refine wp_seq_k (fun K47 hK47 => ?_)
      refine wp_region_lit ?_
      refine wpl_op (i := 0) rfl (o_val (v := (.bool true)) hF45 rfl rfl rfl rfl (rn_assign rfl) ?_)
      intro a48 hF49; clear hF45
      refine wpList_nil ?_
      refine hK47 _ _ ?_
      clear hK47
      refine wp_ret ?_
      refine ret1 hF49 rfl rfl ?_
      exact ⟨congrArg (fun b => Ending.returned (.bool b)) (rfl : true = true), ((((Ext.refl w).trans hx5).trans hx15).trans hx28)⟩
    · skip
      refine wp_cond_false (c_false hF45 rfl (decide_eq_false hc46)) ?_
      refine wp_skip ?_
      refine hK21 _ _ ?_
      clear hK21
      refine wp_seq_k (fun K50 hK50 => ?_)
      refine wp_region_lit ?_
      have b51 : Blk w27 g2 25 [(.slice A d.sectors.length c), (.slice B d.pending.length e), (.int .i64 d.left), (.bool d.stopped)] := (b23.ext hx28)
      refine wpl_op (i := 0) rfl (o_val (v := (.agg #[(.slice A d.sectors.length c), (.slice B d.pending.length e), (.int .i64 d.left), (.bool d.stopped)])) hF45 rfl rfl rfl rfl (rn_loadBlk (hF45.get rfl) b51 Try.underlying25 rfl (by kernel_rfl : (Try.prog.info? 25).map (·.size) = some 4)) ?_)
      intro a52 hF53; clear hF45
      have d54 := (((hd.ext hx5).ext hx15).ext hx28)
      refine wpl_op (i := 1) rfl (o_call hF53 rfl rfl rfl rfl (rn_call (args1 (hF53.get rfl)) rfl (by kernel_rfl)) (restart_any (S := (Old w)) _ d _ d54) ?_)
      rintro _ w61 ⟨v60, rfl, hd59, hx62⟩
      obtain ⟨A55, c56, B57, e58, rfl, -, -⟩ := hd59.form
      have hd59 := hd59.clip
      refine ⟨_, rfl, ?_⟩; intro a63 hF64; clear hF53; have z65 := hx62.size
      refine wpl_op (i := 2) rfl (o_new (fun g => (.pointer (some ⟨g, 0, none⟩))) [(.slice none 0 0), (.slice none 0 0), (.int .i64 0), (.bool false)] 25 hF64 rfl rfl rfl rfl (by kernel_rfl) ?_)
      intro g66 w67 a72 hF73 z70 z71 b68 hx69; clear hF64
      refine wpl_op (i := 3) rfl (o_store (cells := [(.slice A55 d.restart.sectors.length c56), (.slice B57 d.restart.pending.length e58), (.int .i64 d.restart.left), (.bool d.restart.stopped)]) hF73 rfl rfl rfl rfl (hF73.get rfl) (hF73.get rfl) b68 (by kernel_rfl : (Try.prog.info? 25).map (·.size) = some 4) rfl (by simp [Value.oneCell']) ?_)
      intro w74 b75 hg76; have z77 := hg76.size
      refine wpList_nil ?_
      refine hK50 _ _ ?_
      clear hK50
      refine wp_seq_k (fun K78 hK78 => ?_)
      refine wp_region_lit ?_
      refine wpl_op (i := 0) rfl (o_val (v := (.agg #[(.slice A55 d.restart.sectors.length c56), (.slice B57 d.restart.pending.length e58), (.int .i64 d.restart.left), (.bool d.restart.stopped)])) hF73 rfl rfl rfl rfl (rn_loadBlk (hF73.get rfl) b75 Try.underlying25 rfl (by kernel_rfl : (Try.prog.info? 25).map (·.size) = some 4)) ?_)
      intro a79 hF80; clear hF73
      have d81 := (hd59.pres (((Pres.refl w61).ext hx69).grownN hg76 (fun h => by simp only [Clip, Fr, Old] at h; omega)))
      refine wpl_op (i := 1) rfl (o_call hF80 rfl rfl rfl rfl (rn_call (args1 (hF80.get rfl)) rfl (by kernel_rfl)) (restart_any (S := (Clip (Fr (Old w) w27) w61)) _ d.restart _ d81) ?_)
      rintro _ w88 ⟨v87, rfl, hd86, hx89⟩
      obtain ⟨A82, c83, B84, e85, rfl, -, -⟩ := hd86.form
      have hd86 := hd86.clip
      refine ⟨_, rfl, ?_⟩; intro a90 hF91; clear hF80; have z92 := hx89.size
      refine wpl_op (i := 2) rfl (o_new (fun g => (.pointer (some ⟨g, 0, none⟩))) [(.slice none 0 0), (.slice none 0 0), (.int .i64 0), (.bool false)] 25 hF91 rfl rfl rfl rfl (by kernel_rfl) ?_)
      intro g93 w94 a99 hF100 z97 z98 b95 hx96; clear hF91
      refine wpl_op (i := 3) rfl (o_store (cells := [(.slice A82 d.restart.restart.sectors.length c83), (.slice B84 d.restart.restart.pending.length e85), (.int .i64 d.restart.restart.left), (.bool d.restart.restart.stopped)]) hF100 rfl rfl rfl rfl (hF100.get rfl) (hF100.get rfl) b95 (by kernel_rfl : (Try.prog.info? 25).map (·.size) = some 4) rfl (by simp [Value.oneCell']) ?_)
      intro w101 b102 hg103; have z104 := hg103.size
      refine wpList_nil ?_
      refine hK78 _ _ ?_
      clear hK78
      have hF105 := ((((((((((hF100.nil.cons (hF100.get (t := 10) (v := (.pointer (some ⟨g93, 0, none⟩))) rfl)).cons (hF100.get (t := 9) (v := (.pointer (some ⟨g66, 0, none⟩))) rfl)).cons (hF100.get (t := 29) (v := (.bool (decide ((1000 : Int) < ((b.length : Nat) : Int))))) rfl)).cons (hF100.get (t := 21) (v := (.bool false)) rfl)).cons (hF100.get (t := 8) (v := (.bool false)) rfl)).cons (hF100.get (t := 4) (v := (.pointer (some ⟨g2, 0, none⟩))) rfl)).cons (hF100.get (t := 3) (v := (.slice C b.length f)) rfl)).cons (hF100.get (t := 2) (v := (.int .i64 m)) rfl)).cons (hF100.get (t := 1) (v := (.int .i64 n)) rfl)).cons (hF100.get (t := 0) (v := (.agg #[(.slice A d.sectors.length c), (.slice B d.pending.length e), (.int .i64 d.left), (.bool d.stopped)])) rfl))
      clear hF100
      refine wp_seq_k (fun K106 hK106 => ?_)
      refine wp_seq_k (fun K107 hK107 => ?_)
      refine wp_region_lit ?_
      refine wpl_op (i := 0) rfl (o_val (v := (.pointer (some ⟨g66, 3, none⟩))) hF105 rfl rfl rfl rfl (rn_field Try.underlying25 rfl (by kernel_rfl) (hF105.get rfl) rfl) ?_)
      intro a108 hF109; clear hF105
      have b110 : Blk w101 g66 25 [(.slice A55 d.restart.sectors.length c56), (.slice B57 d.restart.pending.length e58), (.int .i64 d.restart.left), (.bool d.restart.stopped)] := (((b75.ext hx89).ext hx96).grownN hg103 (by omega))
      refine wpl_op (i := 1) rfl (o_val (v := (.bool d.restart.stopped)) hF109 rfl rfl rfl rfl (rn_load (isAgg_no Try.underlying4 rfl) (hF109.get rfl) (b110.rule.1 3)) ?_)
      intro a111 hF112; clear hF109
      refine wpl_op (i := 2) rfl (o_val (v := (.bool d.restart.stopped)) hF112 rfl rfl rfl rfl (rn_move (hF112.get rfl)) ?_)
      intro a113 hF114; clear hF112
      refine wpl_op (i := 3) rfl (o_val (v := (.pointer (some ⟨g66, 2, none⟩))) hF114 rfl (wanted_guard rfl rfl rfl hF114 rfl (rfl : d.restart.stopped = false) rfl) rfl rfl (rn_field Try.underlying25 rfl (by kernel_rfl) (hF114.get rfl) rfl) ?_)
      intro a116 hF117; clear hF114
      refine wpl_op (i := 4) rfl (o_val (v := (.int .i64 d.restart.left)) hF117 rfl (wanted_guard rfl rfl rfl hF117 rfl (rfl : d.restart.stopped = false) rfl) rfl rfl (rn_load (isAgg_no Try.underlying3 rfl) (hF117.get rfl) (b110.rule.1 2)) ?_)
      intro a118 hF119; clear hF117
      refine wpl_op (i := 5) rfl (o_val (v := (.bool (decide ((d.restart.left : Int) ≠ (-1 : Int))))) hF119 rfl (wanted_guard rfl rfl rfl hF119 rfl (rfl : d.restart.stopped = false) rfl) rfl rfl (rn_neq (hF119.get rfl) rfl) ?_)
      intro a120 hF121; clear hF119
      refine wpl_op (i := 6) rfl (o_val (v := (.bool (decide ((d.restart.left : Int) ≠ (-1 : Int))))) hF121 rfl rfl rfl rfl (rn_pickF (c_false hF121 rfl (rfl : d.restart.stopped = false)) (hF121.get rfl)) ?_)
      intro a122 hF123; clear hF121
      refine wpl_op (i := 7) rfl (o_val (v := (.bool (decide ((d.restart.left : Int) ≠ (-1 : Int))))) hF123 rfl rfl rfl rfl (rn_move (hF123.get rfl)) ?_)
      intro a124 hF125; clear hF123
      refine wpl_op (i := 8) rfl (o_val (v := (.pointer (some ⟨g66, 1, none⟩))) hF125 rfl (wanted_guard rfl rfl rfl hF125 rfl ((decide_eq_false (by simp [Dk.restart])) : decide ((d.restart.left : Int) ≠ (-1 : Int)) = false) rfl) rfl rfl (rn_field Try.underlying25 rfl (by kernel_rfl) (hF125.get rfl) rfl) ?_)
      intro a127 hF128; clear hF125
      refine wpl_op (i := 9) rfl (o_val (v := (.slice B57 d.restart.pending.length e58)) hF128 rfl (wanted_guard rfl rfl rfl hF128 rfl ((decide_eq_false (by simp [Dk.restart])) : decide ((d.restart.left : Int) ≠ (-1 : Int)) = false) rfl) rfl rfl (rn_load (isAgg_no Try.underlying23 rfl) (hF128.get rfl) (b110.rule.1 1)) ?_)
      intro a129 hF130; clear hF128
      refine wpl_op (i := 10) rfl (o_val (v := (.int .i64 (d.restart.pending.length : Nat))) hF130 rfl (wanted_guard rfl rfl rfl hF130 rfl ((decide_eq_false (by simp [Dk.restart])) : decide ((d.restart.left : Int) ≠ (-1 : Int)) = false) rfl) rfl rfl (rn_len_slice Try.underlying23 (hF130.get rfl)) ?_)
      intro a131 hF132; clear hF130
      refine wpl_op (i := 11) rfl (o_val (v := (.bool (decide (((d.restart.pending.length : Nat) : Int) ≠ (0 : Int))))) hF132 rfl (wanted_guard rfl rfl rfl hF132 rfl ((decide_eq_false (by simp [Dk.restart])) : decide ((d.restart.left : Int) ≠ (-1 : Int)) = false) rfl) rfl rfl (rn_neq (hF132.get rfl) rfl) ?_)
      intro a133 hF134; clear hF132
      refine wpl_op (i := 12) rfl (o_val (v := (.bool (decide (((d.restart.pending.length : Nat) : Int) ≠ (0 : Int))))) hF134 rfl rfl rfl rfl (rn_pickF (c_false hF134 rfl ((decide_eq_false (by simp [Dk.restart])) : decide ((d.restart.left : Int) ≠ (-1 : Int)) = false)) (hF134.get rfl)) ?_)
      intro a135 hF136; clear hF134
      refine wpl_op (i := 13) rfl (o_val (v := (.bool (decide (((d.restart.pending.length : Nat) : Int) ≠ (0 : Int))))) hF136 rfl rfl rfl rfl (rn_move (hF136.get rfl)) ?_)
      intro a137 hF138; clear hF136
      refine wpl_op (i := 14) rfl (o_val (v := (.agg #[(.slice A55 d.restart.sectors.length c56), (.slice B57 d.restart.pending.length e58), (.int .i64 d.restart.left), (.bool d.restart.stopped)])) hF138 rfl (wanted_guard rfl rfl rfl hF138 rfl ((decide_eq_false (by simp [Dk.restart])) : decide (((d.restart.pending.length : Nat) : Int) ≠ (0 : Int)) = false) rfl) rfl rfl (rn_loadBlk (hF138.get rfl) b110 Try.underlying25 rfl (by kernel_rfl : (Try.prog.info? 25).map (·.size) = some 4)) ?_)
      intro a140 hF141; clear hF138
      refine wpl_op (i := 15) rfl (o_val (v := (.agg #[(.slice A82 d.restart.restart.sectors.length c83), (.slice B84 d.restart.restart.pending.length e85), (.int .i64 d.restart.restart.left), (.bool d.restart.restart.stopped)])) hF141 rfl (wanted_guard rfl rfl rfl hF141 rfl ((decide_eq_false (by simp [Dk.restart])) : decide (((d.restart.pending.length : Nat) : Int) ≠ (0 : Int)) = false) rfl) rfl rfl (rn_loadBlk (hF141.get rfl) b102 Try.underlying25 rfl (by kernel_rfl : (Try.prog.info? 25).map (·.size) = some 4)) ?_)
      intro a142 hF143; clear hF141
      have d144 := (hd59.pres ((((((Pres.refl w61).ext hx69).grownN hg76 (fun h => by simp only [Clip, Fr, Old] at h; omega)).ext hx89).ext hx96).grownN hg103 (fun h => by simp only [Clip, Fr, Old] at h; omega)))
      have d145 := (hd86.pres (((Pres.refl w88).ext hx96).grownN hg103 (fun h => by simp only [Clip, Fr, Old] at h; omega)))
      refine wpl_op (i := 16) rfl (o_call hF143 rfl (wanted_guard rfl rfl rfl hF143 rfl ((decide_eq_false (by simp [Dk.restart])) : decide (((d.restart.pending.length : Nat) : Int) ≠ (0 : Int)) = false) rfl) rfl rfl (rn_call (args2 (hF143.get rfl) (hF143.get rfl)) rfl (by kernel_rfl)) (same_any (S := fun _ => True) _ _ d.restart d.restart.restart _ d144.all d145.all) ?_)
      rintro _ w146 ⟨rfl, hx147⟩
      refine ⟨_, rfl, ?_⟩; intro a148 hF149; clear hF143; have z150 := hx147.size
      refine wpl_op (i := 17) rfl (o_val (v := (.bool (!(d.restart.same d.restart.restart)))) hF149 rfl (wanted_guard rfl rfl rfl hF149 rfl ((decide_eq_false (by simp [Dk.restart])) : decide (((d.restart.pending.length : Nat) : Int) ≠ (0 : Int)) = false) rfl) rfl rfl (rn_not' (hF149.get rfl) rfl) ?_)
      intro a151 hF152; clear hF149
      refine wpl_op (i := 18) rfl (o_val (v := (.bool (!(d.restart.same d.restart.restart)))) hF152 rfl rfl rfl rfl (rn_pickF (c_false hF152 rfl ((decide_eq_false (by simp [Dk.restart])) : decide (((d.restart.pending.length : Nat) : Int) ≠ (0 : Int)) = false)) (hF152.get rfl)) ?_)
      intro a153 hF154; clear hF152
      refine wpl_op (i := 19) rfl (o_val (v := (.bool (!(d.restart.same d.restart.restart)))) hF154 rfl rfl rfl rfl (rn_move (hF154.get rfl)) ?_)
      intro a155 hF156; clear hF154
      refine wpl_op (i := 20) rfl (o_val (v := (.pointer (some ⟨g66, 0, none⟩))) hF156 rfl (wanted_guard rfl rfl rfl hF156 rfl (not_t ((same_of rfl) : d.restart.same d.restart.restart = true)) rfl) rfl rfl (rn_field Try.underlying25 rfl (by kernel_rfl) (hF156.get rfl) rfl) ?_)
      intro a158 hF159; clear hF156
      have b160 : Blk w146 g66 25 [(.slice A55 d.restart.sectors.length c56), (.slice B57 d.restart.pending.length e58), (.int .i64 d.restart.left), (.bool d.restart.stopped)] := (b110.ext hx147)
      refine wpl_op (i := 21) rfl (o_val (v := (.slice A55 d.restart.sectors.length c56)) hF159 rfl (wanted_guard rfl rfl rfl hF159 rfl (not_t ((same_of rfl) : d.restart.same d.restart.restart = true)) rfl) rfl rfl (rn_load (isAgg_no Try.underlying22 rfl) (hF159.get rfl) (b160.rule.1 0)) ?_)
      intro a161 hF162; clear hF159
      refine wpl_op (i := 22) rfl (o_val (v := (.int .i64 (d.restart.sectors.length : Nat))) hF162 rfl (wanted_guard rfl rfl rfl hF162 rfl (not_t ((same_of rfl) : d.restart.same d.restart.restart = true)) rfl) rfl rfl (rn_len_slice Try.underlying22 (hF162.get rfl)) ?_)
      intro a163 hF164; clear hF162
      refine wpl_op (i := 23) rfl (o_val (v := (.pointer (some ⟨g2, 0, none⟩))) hF164 rfl (wanted_guard rfl rfl rfl hF164 rfl (not_t ((same_of rfl) : d.restart.same d.restart.restart = true)) rfl) rfl rfl (rn_field Try.underlying25 rfl (by kernel_rfl) (hF164.get rfl) rfl) ?_)
      intro a165 hF166; clear hF164
      have b167 : Blk w146 g2 25 [(.slice A d.sectors.length c), (.slice B d.pending.length e), (.int .i64 d.left), (.bool d.stopped)] := (((((((b51.ext hx62).ext hx69).grownN hg76 (by omega)).ext hx89).ext hx96).grownN hg103 (by omega)).ext hx147)
      refine wpl_op (i := 24) rfl (o_val (v := (.slice A d.sectors.length c)) hF166 rfl (wanted_guard rfl rfl rfl hF166 rfl (not_t ((same_of rfl) : d.restart.same d.restart.restart = true)) rfl) rfl rfl (rn_load (isAgg_no Try.underlying22 rfl) (hF166.get rfl) (b167.rule.1 0)) ?_)
      intro a168 hF169; clear hF166
      refine wpl_op (i := 25) rfl (o_val (v := (.int .i64 (d.sectors.length : Nat))) hF169 rfl (wanted_guard rfl rfl rfl hF169 rfl (not_t ((same_of rfl) : d.restart.same d.restart.restart = true)) rfl) rfl rfl (rn_len_slice Try.underlying22 (hF169.get rfl)) ?_)
      intro a170 hF171; clear hF169
      refine wpl_op (i := 26) rfl (o_val (v := (.bool (decide (((d.restart.sectors.length : Nat) : Int) ≠ ((d.sectors.length : Nat) : Int))))) hF171 rfl (wanted_guard rfl rfl rfl hF171 rfl (not_t ((same_of rfl) : d.restart.same d.restart.restart = true)) rfl) rfl rfl (rn_neq (hF171.get rfl) (hF171.get rfl)) ?_)
      intro a172 hF173; clear hF171
      refine wpl_op (i := 27) rfl (o_val (v := (.bool (decide (((d.restart.sectors.length : Nat) : Int) ≠ ((d.sectors.length : Nat) : Int))))) hF173 rfl rfl rfl rfl (rn_pickF (c_false hF173 rfl (not_t ((same_of rfl) : d.restart.same d.restart.restart = true))) (hF173.get rfl)) ?_)
      intro a174 hF175; clear hF173
      refine wpList_nil ?_
      refine hK107 _ _ ?_
      clear hK107
      have hF176 := (((((((((((hF175.nil.cons (hF175.get (t := 61) (v := (.bool (decide (((d.restart.sectors.length : Nat) : Int) ≠ ((d.sectors.length : Nat) : Int))))) rfl)).cons (hF175.get (t := 10) (v := (.pointer (some ⟨g93, 0, none⟩))) rfl)).cons (hF175.get (t := 9) (v := (.pointer (some ⟨g66, 0, none⟩))) rfl)).cons (hF175.get (t := 29) (v := (.bool (decide ((1000 : Int) < ((b.length : Nat) : Int))))) rfl)).cons (hF175.get (t := 21) (v := (.bool false)) rfl)).cons (hF175.get (t := 8) (v := (.bool false)) rfl)).cons (hF175.get (t := 4) (v := (.pointer (some ⟨g2, 0, none⟩))) rfl)).cons (hF175.get (t := 3) (v := (.slice C b.length f)) rfl)).cons (hF175.get (t := 2) (v := (.int .i64 m)) rfl)).cons (hF175.get (t := 1) (v := (.int .i64 n)) rfl)).cons (hF175.get (t := 0) (v := (.agg #[(.slice A d.sectors.length c), (.slice B d.pending.length e), (.int .i64 d.left), (.bool d.stopped)])) rfl))
      clear hF175
      refine wp_cond_false (c_false hF176 rfl ((decide_eq_false (by simp [Dk.restart])) : decide (((d.restart.sectors.length : Nat) : Int) ≠ ((d.sectors.length : Nat) : Int)) = false)) ?_
      refine wp_skip ?_
      refine hK106 _ _ ?_
      clear hK106
      refine wp_seq_k (fun K178 hK178 => ?_)
      refine wp_seq_k (fun K179 hK179 => ?_)
      refine wp_region_lit ?_
      refine wpl_op (i := 0) rfl (o_val (v := (.int .i64 0)) hF176 rfl rfl rfl rfl (rn_assign rfl) ?_)
      intro a180 hF181; clear hF176
      refine wpList_nil ?_
      refine hK179 _ _ ?_
      clear hK179
      refine wp_block ?_
      refine wp_loop (fun a' W => ∃ (k : Nat), Sl 121 [(0, (.agg #[(.slice A d.sectors.length c), (.slice B d.pending.length e), (.int .i64 d.left), (.bool d.stopped)])), (1, (.int .i64 n)), (2, (.int .i64 m)), (3, (.slice C b.length f)), (4, (.pointer (some ⟨g2, 0, none⟩))), (8, (.bool false)), (21, (.bool false)), (29, (.bool (decide ((1000 : Int) < ((b.length : Nat) : Int))))), (9, (.pointer (some ⟨g66, 0, none⟩))), (10, (.pointer (some ⟨g93, 0, none⟩))), (61, (.bool (decide (((d.restart.sectors.length : Nat) : Int) ≠ ((d.sectors.length : Nat) : Int))))), (11, (.int .i64 (k : Nat)))] a' ∧ Ext w146 W ∧ k ≤ d.sectors.length) (fun a' _ => d.sectors.length - (intOf (a'.eval (.tmp 11))).toNat) ⟨0, ((((((((((((hF181.nil.cons (hF181.get (t := 11) (v := (.int .i64 0)) rfl)).cons (hF181.get (t := 61) (v := (.bool (decide (((d.restart.sectors.length : Nat) : Int) ≠ ((d.sectors.length : Nat) : Int))))) rfl)).cons (hF181.get (t := 10) (v := (.pointer (some ⟨g93, 0, none⟩))) rfl)).cons (hF181.get (t := 9) (v := (.pointer (some ⟨g66, 0, none⟩))) rfl)).cons (hF181.get (t := 29) (v := (.bool (decide ((1000 : Int) < ((b.length : Nat) : Int))))) rfl)).cons (hF181.get (t := 21) (v := (.bool false)) rfl)).cons (hF181.get (t := 8) (v := (.bool false)) rfl)).cons (hF181.get (t := 4) (v := (.pointer (some ⟨g2, 0, none⟩))) rfl)).cons (hF181.get (t := 3) (v := (.slice C b.length f)) rfl)).cons (hF181.get (t := 2) (v := (.int .i64 m)) rfl)).cons (hF181.get (t := 1) (v := (.int .i64 n)) rfl)).cons (hF181.get (t := 0) (v := (.agg #[(.slice A d.sectors.length c), (.slice B d.pending.length e), (.int .i64 d.left), (.bool d.stopped)])) rfl)), Ext.refl _, Nat.zero_le _⟩ ?_
      rintro a182 w183 ⟨k, hF184, hx185, hp186⟩
      have hL187 := hF184
      have z188 := hx185.size
      clear hF181
      refine wp_seq_k (fun K189 hK189 => ?_)
      refine wp_seq_k (fun K190 hK190 => ?_)
      refine wp_region_lit ?_
      refine wpl_op (i := 0) rfl (o_val (v := (.int .i64 (k : Nat))) hF184 rfl rfl rfl rfl (rn_move (hF184.get rfl)) ?_)
      intro a191 hF192; clear hF184
      refine wpl_op (i := 1) rfl (o_val (v := (.pointer (some ⟨g2, 0, none⟩))) hF192 rfl rfl rfl rfl (rn_field Try.underlying25 rfl (by kernel_rfl) (hF192.get rfl) rfl) ?_)
      intro a193 hF194; clear hF192
      have b195 : Blk w183 g2 25 [(.slice A d.sectors.length c), (.slice B d.pending.length e), (.int .i64 d.left), (.bool d.stopped)] := (b167.ext hx185)
      refine wpl_op (i := 2) rfl (o_val (v := (.slice A d.sectors.length c)) hF194 rfl rfl rfl rfl (rn_load (isAgg_no Try.underlying22 rfl) (hF194.get rfl) (b195.rule.1 0)) ?_)
      intro a196 hF197; clear hF194
      refine wpl_op (i := 3) rfl (o_val (v := (.int .i64 (d.sectors.length : Nat))) hF197 rfl rfl rfl rfl (rn_len_slice Try.underlying22 (hF197.get rfl)) ?_)
      intro a198 hF199; clear hF197
      refine wpl_op (i := 4) rfl (o_val (v := (.bool (decide (((k : Nat) : Int) < ((d.sectors.length : Nat) : Int))))) hF199 rfl rfl rfl rfl (rn_lss (hF199.get rfl) (hF199.get rfl)) ?_)
      intro a200 hF201; clear hF199
      refine wpList_nil ?_
      refine hK190 _ _ ?_
      clear hK190
      have hF202 := (((((((((((((hF201.nil.cons (hF201.get (t := 66) (v := (.bool (decide (((k : Nat) : Int) < ((d.sectors.length : Nat) : Int))))) rfl)).cons (hF201.get (t := 11) (v := (.int .i64 (k : Nat))) rfl)).cons (hF201.get (t := 61) (v := (.bool (decide (((d.restart.sectors.length : Nat) : Int) ≠ ((d.sectors.length : Nat) : Int))))) rfl)).cons (hF201.get (t := 10) (v := (.pointer (some ⟨g93, 0, none⟩))) rfl)).cons (hF201.get (t := 9) (v := (.pointer (some ⟨g66, 0, none⟩))) rfl)).cons (hF201.get (t := 29) (v := (.bool (decide ((1000 : Int) < ((b.length : Nat) : Int))))) rfl)).cons (hF201.get (t := 21) (v := (.bool false)) rfl)).cons (hF201.get (t := 8) (v := (.bool false)) rfl)).cons (hF201.get (t := 4) (v := (.pointer (some ⟨g2, 0, none⟩))) rfl)).cons (hF201.get (t := 3) (v := (.slice C b.length f)) rfl)).cons (hF201.get (t := 2) (v := (.int .i64 m)) rfl)).cons (hF201.get (t := 1) (v := (.int .i64 n)) rfl)).cons (hF201.get (t := 0) (v := (.agg #[(.slice A d.sectors.length c), (.slice B d.pending.length e), (.int .i64 d.left), (.bool d.stopped)])) rfl))
      clear hF201
      by_cases hc203 : ((k : Nat) : Int) < ((d.sectors.length : Nat) : Int)
      · skip
        refine wp_cond_true (c_true hF202 rfl (decide_eq_true hc203)) ?_
        refine wp_skip ?_
        refine hK189 _ _ ?_
        clear hK189
        refine wp_seq_k (fun K204 hK204 => ?_)
        refine wp_block ?_
        refine wp_seq_k (fun K205 hK205 => ?_)
        have hx207 : ∃ W, w183.drew = W ∧ Ext w183 W := ⟨_, rfl, (Ext.refl _).drew⟩
        obtain ⟨w206, e208, hx207⟩ := hx207
        have z209 := hx207.size
        refine any_start (fun W => Ext w206 W ∧ Blk W g66 25 [(.slice A55 d.restart.sectors.length c56), (.slice B57 d.restart.pending.length e58), (.int .i64 d.restart.left), (.bool d.restart.stopped)] ∧ Blk W g2 25 [(.slice A d.sectors.length c), (.slice B d.pending.length e), (.int .i64 d.left), (.bool d.stopped)]) (fun i => false) 13 #[false, false, false, false, false, false, false, false, false, false, false, false, false] rfl rfl rfl ?_
        rw [e208]; clear e208
        refine any_pure (i := 0) (v := (.pointer (some ⟨g66, 0, none⟩))) hF202 (by decide +kernel) (by decide +kernel) rfl rfl rfl rfl (fun _ _ _ _ h => h) rfl (fun W => (rn_field Try.underlying25 rfl (by kernel_rfl) (hF202.get rfl) rfl)) ?_
        intro a210 hF211; clear hF202
        have b213 : Blk w206 g66 25 [(.slice A55 d.restart.sectors.length c56), (.slice B57 d.restart.pending.length e58), (.int .i64 d.restart.left), (.bool d.restart.stopped)] := ((b160.ext hx185).ext hx207)
        have b214 : Blk w206 g2 25 [(.slice A d.sectors.length c), (.slice B d.pending.length e), (.int .i64 d.left), (.bool d.stopped)] := (b195.ext hx207)
        have hS212 : Ext w206 w206 ∧ Blk w206 g66 25 [(.slice A55 d.restart.sectors.length c56), (.slice B57 d.restart.pending.length e58), (.int .i64 d.restart.left), (.bool d.restart.stopped)] ∧ Blk w206 g2 25 [(.slice A d.sectors.length c), (.slice B d.pending.length e), (.int .i64 d.left), (.bool d.stopped)] := ⟨(Ext.refl w206), b213, b214⟩
        refine any_val (i := 1) (v := (.slice A55 d.restart.sectors.length c56)) hF211 (by decide +kernel) (by decide +kernel) rfl rfl rfl rfl (fun _ _ _ _ h => h) rfl hS212 (fun W hW => (rn_load (isAgg_no Try.underlying22 rfl) (hF211.get rfl) (hW.2.1.rule.1 0))) ?_
        intro a215 hF216; clear hF211
        refine any_pure (i := 2) (v := (.int .i64 (k : Nat))) hF216 (by decide +kernel) (by decide +kernel) rfl rfl rfl rfl (fun _ _ _ _ h => h) rfl (fun W => (rn_move (hF216.get rfl))) ?_
        intro a217 hF218; clear hF216
        obtain ⟨x219, hi220, hm232⟩ := get_of_lt d.restart.sectors k (by omega)
        obtain ⟨b221, o222, A223, c224, hA225, hl226, hc227, hr228, le230, le231⟩ := RBss.get (RDk.len hd59).1 hi220
        refine any_pure (i := 3) (v := (.pointer (some ⟨b221, o222 + k, none⟩))) hF218 (by decide +kernel) (by decide +kernel) rfl rfl rfl rfl (fun _ _ _ _ h => h) rfl (fun W => (rn_index1 Try.underlying22 (by kernel_rfl : (Try.prog.info? 35).map (·.size) = some 1) ((hF218.get rfl).trans (by rw [hA225])) (hF218.get rfl) (by omega : (0 : Int) ≤ (k : Nat)) (by omega : ((k : Nat) : Int) < ((d.restart.sectors.length : Nat) : Int)))) ?_
        intro a233 hF234; clear hF218
        refine any_val (i := 4) (v := (.slice A223 x219.length c224)) hF234 (by decide +kernel) (by decide +kernel) rfl rfl rfl rfl (fun _ _ _ _ h => h) rfl hS212 (fun W hW => (rn_load (isAgg_no Try.underlying35 rfl) (hF234.get rfl) (Ext.keep ((((((((((Ext.refl w61).trans hx69).grownN hg76 (by omega)).trans hx89).trans hx96).grownN hg103 (by omega)).trans hx147).trans hx185).trans hx207).trans hW.1) hc227))) ?_
        intro a235 hF236; clear hF234
        have d237 := (hr228.pres (((((((((Pres.refl w61).ext hx69).grownN hg76 (fun h => by simp only [Clip, Fr, Old] at h; omega)).ext hx89).ext hx96).grownN hg103 (fun h => by simp only [Clip, Fr, Old] at h; omega)).ext hx147).ext hx185).ext hx207))
        refine any_val (i := 5) (v := (strOf x219)) hF236 (by decide +kernel) (by decide +kernel) rfl rfl rfl rfl (fun _ _ _ _ h => h) rfl hS212 (fun W hW => (rn_str (hF236.get rfl) (d237.ext hW.1) Try.underlying35 Try.underlying5 Try.underlying9)) ?_
        intro a238 hF239; clear hF236
        refine any_pure (i := 6) (v := (.pointer (some ⟨g2, 0, none⟩))) hF239 (by decide +kernel) (by decide +kernel) rfl rfl rfl rfl (fun _ _ _ _ h => h) rfl (fun W => (rn_field Try.underlying25 rfl (by kernel_rfl) (hF239.get rfl) rfl)) ?_
        intro a240 hF241; clear hF239
        refine any_val (i := 7) (v := (.slice A d.sectors.length c)) hF241 (by decide +kernel) (by decide +kernel) rfl rfl rfl rfl (fun _ _ _ _ h => h) rfl hS212 (fun W hW => (rn_load (isAgg_no Try.underlying22 rfl) (hF241.get rfl) (hW.2.2.rule.1 0))) ?_
        intro a242 hF243; clear hF241
        refine any_pure (i := 8) (v := (.int .i64 (k : Nat))) hF243 (by decide +kernel) (by decide +kernel) rfl rfl rfl rfl (fun _ _ _ _ h => h) rfl (fun W => (rn_move (hF243.get rfl))) ?_
        intro a244 hF245; clear hF243
        obtain ⟨x246, hi247, hm259⟩ := get_of_lt d.sectors k (by omega)
        obtain ⟨b248, o249, A250, c251, hA252, hl253, hc254, hr255, le257, le258⟩ := RBss.get (RDk.len hd).1 hi247
        refine any_pure (i := 9) (v := (.pointer (some ⟨b248, o249 + k, none⟩))) hF245 (by decide +kernel) (by decide +kernel) rfl rfl rfl rfl (fun _ _ _ _ h => h) rfl (fun W => (rn_index1 Try.underlying22 (by kernel_rfl : (Try.prog.info? 35).map (·.size) = some 1) ((hF245.get rfl).trans (by rw [hA252])) (hF245.get rfl) (by omega : (0 : Int) ≤ (k : Nat)) (by omega : ((k : Nat) : Int) < ((d.sectors.length : Nat) : Int)))) ?_
        intro a260 hF261; clear hF245
        refine any_val (i := 10) (v := (.slice A250 x246.length c251)) hF261 (by decide +kernel) (by decide +kernel) rfl rfl rfl rfl (fun _ _ _ _ h => h) rfl hS212 (fun W hW => (rn_load (isAgg_no Try.underlying35 rfl) (hF261.get rfl) (Ext.keep ((((((((((((((Ext.refl w).trans hx5).trans hx15).trans hx28).trans hx62).trans hx69).grownN hg76 (by omega)).trans hx89).trans hx96).grownN hg103 (by omega)).trans hx147).trans hx185).trans hx207).trans hW.1) hc254))) ?_
        intro a262 hF263; clear hF261
        have d264 := (hr255.pres (((((((((((((Pres.refl w).ext hx5).ext hx15).ext hx28).ext hx62).ext hx69).grownN hg76 (fun h => by simp only [Clip, Fr, Old] at h; omega)).ext hx89).ext hx96).grownN hg103 (fun h => by simp only [Clip, Fr, Old] at h; omega)).ext hx147).ext hx185).ext hx207))
        refine any_val (i := 11) (v := (strOf x246)) hF263 (by decide +kernel) (by decide +kernel) rfl rfl rfl rfl (fun _ _ _ _ h => h) rfl hS212 (fun W hW => (rn_str (hF263.get rfl) (d264.ext hW.1) Try.underlying35 Try.underlying5 Try.underlying9)) ?_
        intro a265 hF266; clear hF263
        refine any_pure (i := 12) (v := (.bool (!decide (x219 = x246)))) hF266 (by decide +kernel) (by decide +kernel) rfl rfl rfl rfl (fun _ _ _ _ h => h) rfl (fun W => (rn_nes (hF266.get rfl) (hF266.get rfl) rfl)) ?_
        intro a267 hF268; clear hF266
        refine any_nil (by decide +kernel) ?_
        refine hK205 _ _ ?_
        clear hK205
        have hF269 := ((((((((((((((hF268.nil.cons (hF268.get (t := 81) (v := (.bool (!decide (x219 = x246)))) rfl)).cons (hF268.get (t := 66) (v := (.bool (decide (((k : Nat) : Int) < ((d.sectors.length : Nat) : Int))))) rfl)).cons (hF268.get (t := 11) (v := (.int .i64 (k : Nat))) rfl)).cons (hF268.get (t := 61) (v := (.bool (decide (((d.restart.sectors.length : Nat) : Int) ≠ ((d.sectors.length : Nat) : Int))))) rfl)).cons (hF268.get (t := 10) (v := (.pointer (some ⟨g93, 0, none⟩))) rfl)).cons (hF268.get (t := 9) (v := (.pointer (some ⟨g66, 0, none⟩))) rfl)).cons (hF268.get (t := 29) (v := (.bool (decide ((1000 : Int) < ((b.length : Nat) : Int))))) rfl)).cons (hF268.get (t := 21) (v := (.bool false)) rfl)).cons (hF268.get (t := 8) (v := (.bool false)) rfl)).cons (hF268.get (t := 4) (v := (.pointer (some ⟨g2, 0, none⟩))) rfl)).cons (hF268.get (t := 3) (v := (.slice C b.length f)) rfl)).cons (hF268.get (t := 2) (v := (.int .i64 m)) rfl)).cons (hF268.get (t := 1) (v := (.int .i64 n)) rfl)).cons (hF268.get (t := 0) (v := (.agg #[(.slice A d.sectors.length c), (.slice B d.pending.length e), (.int .i64 d.left), (.bool d.stopped)])) rfl))
        clear hF268
        refine wp_cond_false (c_false hF269 rfl (not_t ((decide_eq_true (Option.some.inj (hi220.symm.trans hi247))) : decide (x219 = x246) = true))) ?_
        refine wp_skip ?_
        refine hK204 _ _ ?_
        clear hK204
        refine wp_region_lit ?_
        refine wpl_op (i := 0) rfl (o_val (v := (.int .i64 (k : Nat))) hF269 rfl rfl rfl rfl (rn_move (hF269.get rfl)) ?_)
        intro a271 hF272; clear hF269
        refine wpl_op (i := 1) rfl (o_val (v := (.int .i64 ((k : Nat) + 1))) hF272 rfl rfl rfl rfl (rn_add (hF272.get rfl) rfl (by omega) (by omega)) ?_)
        intro a273 hF274; clear hF272
        refine wpl_op (i := 2) rfl (o_val (v := (.int .i64 ((k : Nat) + 1))) hF274 rfl rfl rfl rfl (rn_assign (hF274.get rfl)) ?_)
        intro a275 hF276; clear hF274
        refine wpList_nil ?_
        refine ⟨⟨k + 1, ((((((((((((hF276.nil.cons (q_get hF276 (t := 11) rfl (by first | rfl | (congr 1; omega)))).cons (q_get hF276 (t := 61) rfl rfl)).cons (q_get hF276 (t := 10) rfl rfl)).cons (q_get hF276 (t := 9) rfl rfl)).cons (q_get hF276 (t := 29) rfl rfl)).cons (q_get hF276 (t := 21) rfl rfl)).cons (q_get hF276 (t := 8) rfl rfl)).cons (q_get hF276 (t := 4) rfl rfl)).cons (q_get hF276 (t := 3) rfl rfl)).cons (q_get hF276 (t := 2) rfl rfl)).cons (q_get hF276 (t := 1) rfl rfl)).cons (q_get hF276 (t := 0) rfl rfl)), (((Ext.refl w146).trans hx185).trans hx207), by omega⟩, ?_⟩
        rw [hF276.get (t := 11) rfl, hL187.get (t := 11) rfl]; simp [intOf]; omega
      · skip
        refine wp_cond_false (c_false hF202 rfl (decide_eq_false hc203)) ?_
        refine wp_exit ?_
        refine exit_then ?_
        refine exit_then ?_
        refine exit_here ?_
        refine hK178 _ _ ?_
        clear hK178
        refine wp_seq_k (fun K277 hK277 => ?_)
        refine wp_region_lit ?_
        refine wpl_op (i := 0) rfl (o_val (v := (.pointer (some ⟨g2, 3, none⟩))) hF202 rfl rfl rfl rfl (rn_field Try.underlying25 rfl (by kernel_rfl) (hF202.get rfl) rfl) ?_)
        intro a278 hF279; clear hF202
        refine wpl_op (i := 1) rfl (o_store1 (new := [(.slice A d.sectors.length c), (.slice B d.pending.length e), (.int .i64 d.left), (.bool true)]) hF279 rfl rfl rfl rfl (hF279.get rfl) rfl b195 (by kernel_rfl : (Try.prog.info? 4).map (·.size) = some 1) (by simp) rfl rfl ?_)
        intro w280 b281 hg282; have z283 := hg282.size
        refine wpList_nil ?_
        refine hK277 _ _ ?_
        clear hK277
        refine wp_seq_k (fun K284 hK284 => ?_)
        refine wp_region_lit ?_
        refine wpl_op (i := 0) rfl (o_val (v := (.agg #[(.slice A d.sectors.length c), (.slice B d.pending.length e), (.int .i64 d.left), (.bool true)])) hF279 rfl rfl rfl rfl (rn_loadBlk (hF279.get rfl) b281 Try.underlying25 rfl (by kernel_rfl : (Try.prog.info? 25).map (·.size) = some 4)) ?_)
        intro a285 hF286; clear hF279
        refine wpl_op (i := 1) rfl (o_val (v := (.int .i64 n)) hF286 rfl rfl rfl rfl (rn_move (hF286.get rfl)) ?_)
        intro a287 hF288; clear hF286
        have d289 := (hd.pres (((((((((((((Pres.refl w).ext hx5).ext hx15).ext hx28).ext hx62).ext hx69).grownN hg76 (fun h => by simp only [Clip, Fr, Old] at h; omega)).ext hx89).ext hx96).grownN hg103 (fun h => by simp only [Clip, Fr, Old] at h; omega)).ext hx147).ext hx185).grownN hg282 (fun h => by simp only [Clip, Fr, Old] at h; omega)))
        refine wpl_op (i := 2) rfl (o_call hF288 rfl rfl rfl rfl (rn_call (args2 (hF288.get rfl) (hF288.get rfl)) rfl (by kernel_rfl)) (read_any (S := (Old w)) _ (Dk.mk d.sectors d.pending d.left true) _ _ (RDk.mk (l := d.left) (s := true) (RDk.len d289).1 (RDk.len d289).2.1)) ?_)
        rintro _ w294 ⟨v293, rfl, hb292, hx295⟩
        obtain ⟨A290, c291, rfl, -, -⟩ := hb292.form
        have hb292 := hb292.clip
        refine ⟨_, rfl, ?_⟩; intro a296 hF297; clear hF288; have z298 := hx295.size
        refine wpl_op (i := 3) rfl (o_val (v := (.tuple #[(.slice A290 ((((Dk.mk d.sectors d.pending d.left true).read n).1).length) c291), (.int .i64 (((Dk.mk d.sectors d.pending d.left true).read n).2))])) hF297 rfl rfl rfl rfl (rn_move (hF297.get rfl)) ?_)
        intro a299 hF300; clear hF297
        refine wpl_op (i := 4) rfl (o_val (v := (.slice A290 ((((Dk.mk d.sectors d.pending d.left true).read n).1).length) c291)) hF300 rfl rfl rfl rfl (rn_extract (hF300.get rfl) rfl) ?_)
        intro a301 hF302; clear hF300
        refine wpl_op (i := 5) rfl (o_val (v := (.int .i64 (((Dk.mk d.sectors d.pending d.left true).read n).2))) hF302 rfl rfl rfl rfl (rn_extract (hF302.get rfl) rfl) ?_)
        intro a303 hF304; clear hF302
        refine wpl_op (i := 6) rfl (o_val (v := (.slice A290 ((((Dk.mk d.sectors d.pending d.left true).read n).1).length) c291)) hF304 rfl rfl rfl rfl (rn_assign (hF304.get rfl)) ?_)
        intro a305 hF306; clear hF304
        refine wpl_op (i := 7) rfl (o_val (v := (.int .i64 (((Dk.mk d.sectors d.pending d.left true).read n).2))) hF306 rfl rfl rfl rfl (rn_assign (hF306.get rfl)) ?_)
        intro a307 hF308; clear hF306
        refine wpList_nil ?_
        refine hK284 _ _ ?_
        clear hK284
        have hF309 := ((((((((((((((hF308.nil.cons (hF308.get (t := 13) (v := (.int .i64 (((Dk.mk d.sectors d.pending d.left true).read n).2))) rfl)).cons (hF308.get (t := 66) (v := (.bool (decide (((k : Nat) : Int) < ((d.sectors.length : Nat) : Int))))) rfl)).cons (hF308.get (t := 11) (v := (.int .i64 (k : Nat))) rfl)).cons (hF308.get (t := 61) (v := (.bool (decide (((d.restart.sectors.length : Nat) : Int) ≠ ((d.sectors.length : Nat) : Int))))) rfl)).cons (hF308.get (t := 10) (v := (.pointer (some ⟨g93, 0, none⟩))) rfl)).cons (hF308.get (t := 9) (v := (.pointer (some ⟨g66, 0, none⟩))) rfl)).cons (hF308.get (t := 29) (v := (.bool (decide ((1000 : Int) < ((b.length : Nat) : Int))))) rfl)).cons (hF308.get (t := 21) (v := (.bool false)) rfl)).cons (hF308.get (t := 8) (v := (.bool false)) rfl)).cons (hF308.get (t := 4) (v := (.pointer (some ⟨g2, 0, none⟩))) rfl)).cons (hF308.get (t := 3) (v := (.slice C b.length f)) rfl)).cons (hF308.get (t := 2) (v := (.int .i64 m)) rfl)).cons (hF308.get (t := 1) (v := (.int .i64 n)) rfl)).cons (hF308.get (t := 0) (v := (.agg #[(.slice A d.sectors.length c), (.slice B d.pending.length e), (.int .i64 d.left), (.bool d.stopped)])) rfl))
        clear hF308
        refine wp_seq_k (fun K310 hK310 => ?_)
        refine wp_region_lit ?_
        have b311 : Blk w294 g2 25 [(.slice A d.sectors.length c), (.slice B d.pending.length e), (.int .i64 d.left), (.bool true)] := (b281.ext hx295)
        refine wpl_op (i := 0) rfl (o_val (v := (.agg #[(.slice A d.sectors.length c), (.slice B d.pending.length e), (.int .i64 d.left), (.bool true)])) hF309 rfl rfl rfl rfl (rn_loadBlk (hF309.get rfl) b311 Try.underlying25 rfl (by kernel_rfl : (Try.prog.info? 25).map (·.size) = some 4)) ?_)
        intro a312 hF313; clear hF309
        refine wpl_op (i := 1) rfl (o_val (v := (.int .i64 n)) hF313 rfl rfl rfl rfl (rn_move (hF313.get rfl)) ?_)
        intro a314 hF315; clear hF313
        refine wpl_op (i := 2) rfl (o_val (v := (.slice C b.length f)) hF315 rfl rfl rfl rfl (rn_move (hF315.get rfl)) ?_)
        intro a316 hF317; clear hF315
        have d318 := (hd.pres ((((((((((((((Pres.refl w).ext hx5).ext hx15).ext hx28).ext hx62).ext hx69).grownN hg76 (fun h => by simp only [Clip, Fr, Old] at h; omega)).ext hx89).ext hx96).grownN hg103 (fun h => by simp only [Clip, Fr, Old] at h; omega)).ext hx147).ext hx185).grownN hg282 (fun h => by simp only [Clip, Fr, Old] at h; omega)).ext hx295))
        have d319 := (hb.pres ((((((((((((((Pres.refl w).ext hx5).ext hx15).ext hx28).ext hx62).ext hx69).grownN hg76 (fun h => by simp only [Clip, Fr, Old] at h; omega)).ext hx89).ext hx96).grownN hg103 (fun h => by simp only [Clip, Fr, Old] at h; omega)).ext hx147).ext hx185).grownN hg282 (fun h => by simp only [Clip, Fr, Old] at h; omega)).ext hx295))
        refine wpl_op (i := 3) rfl (o_call hF317 rfl rfl rfl rfl (rn_call (args3 (hF317.get rfl) (hF317.get rfl) (hF317.get rfl)) rfl (by kernel_rfl)) (write_any (S := (fun b => (Old w) b ∨ (Old w) b)) _ _ (Dk.mk d.sectors d.pending d.left true) _ b _ ((RDk.mk (l := d.left) (s := true) (RDk.len d318).1 (RDk.len d318).2.1).sub (fun _ => Or.inl)) (d319.sub (fun _ => Or.inr))) ?_)
        rintro _ w326 ⟨v325, rfl, hd324, hx327⟩
        obtain ⟨A320, c321, B322, e323, rfl, -, -⟩ := hd324.form
        have hd324 := hd324.clip
        refine ⟨_, rfl, ?_⟩; intro a328 hF329; clear hF317; have z330 := hx327.size
        refine wpl_op (i := 4) rfl (o_val (v := (.tuple #[(.agg #[(.slice A320 ((((Dk.mk d.sectors d.pending d.left true).write n b).1).sectors.length) c321), (.slice B322 ((((Dk.mk d.sectors d.pending d.left true).write n b).1).pending.length) e323), (.int .i64 ((((Dk.mk d.sectors d.pending d.left true).write n b).1).left)), (.bool ((((Dk.mk d.sectors d.pending d.left true).write n b).1).stopped))]), (.int .i64 (((Dk.mk d.sectors d.pending d.left true).write n b).2))])) hF329 rfl rfl rfl rfl (rn_move (hF329.get rfl)) ?_)
        intro a331 hF332; clear hF329
        refine wpl_op (i := 5) rfl (o_val (v := (.agg #[(.slice A320 ((((Dk.mk d.sectors d.pending d.left true).write n b).1).sectors.length) c321), (.slice B322 ((((Dk.mk d.sectors d.pending d.left true).write n b).1).pending.length) e323), (.int .i64 ((((Dk.mk d.sectors d.pending d.left true).write n b).1).left)), (.bool ((((Dk.mk d.sectors d.pending d.left true).write n b).1).stopped))])) hF332 rfl rfl rfl rfl (rn_extract (hF332.get rfl) rfl) ?_)
        intro a333 hF334; clear hF332
        refine wpl_op (i := 6) rfl (o_val (v := (.int .i64 (((Dk.mk d.sectors d.pending d.left true).write n b).2))) hF334 rfl rfl rfl rfl (rn_extract (hF334.get rfl) rfl) ?_)
        intro a335 hF336; clear hF334
        refine wpl_op (i := 7) rfl (o_new (fun g => (.pointer (some ⟨g, 0, none⟩))) [(.slice none 0 0), (.slice none 0 0), (.int .i64 0), (.bool false)] 25 hF336 rfl rfl rfl rfl (by kernel_rfl) ?_)
        intro g337 w338 a343 hF344 z341 z342 b339 hx340; clear hF336
        refine wpl_op (i := 8) rfl (o_store (cells := [(.slice A320 ((((Dk.mk d.sectors d.pending d.left true).write n b).1).sectors.length) c321), (.slice B322 ((((Dk.mk d.sectors d.pending d.left true).write n b).1).pending.length) e323), (.int .i64 ((((Dk.mk d.sectors d.pending d.left true).write n b).1).left)), (.bool ((((Dk.mk d.sectors d.pending d.left true).write n b).1).stopped))]) hF344 rfl rfl rfl rfl (hF344.get rfl) (hF344.get rfl) b339 (by kernel_rfl : (Try.prog.info? 25).map (·.size) = some 4) rfl (by simp [Value.oneCell']) ?_)
        intro w345 b346 hg347; have z348 := hg347.size
        refine wpl_op (i := 9) rfl (o_val (v := (.int .i64 (((Dk.mk d.sectors d.pending d.left true).write n b).2))) hF344 rfl rfl rfl rfl (rn_assign (hF344.get rfl)) ?_)
        intro a349 hF350; clear hF344
        refine wpList_nil ?_
        refine hK310 _ _ ?_
        clear hK310
        have hF351 := (((((((((((((((hF350.nil.cons (hF350.get (t := 15) (v := (.int .i64 (((Dk.mk d.sectors d.pending d.left true).write n b).2))) rfl)).cons (hF350.get (t := 13) (v := (.int .i64 (((Dk.mk d.sectors d.pending d.left true).read n).2))) rfl)).cons (hF350.get (t := 66) (v := (.bool (decide (((k : Nat) : Int) < ((d.sectors.length : Nat) : Int))))) rfl)).cons (hF350.get (t := 11) (v := (.int .i64 (k : Nat))) rfl)).cons (hF350.get (t := 61) (v := (.bool (decide (((d.restart.sectors.length : Nat) : Int) ≠ ((d.sectors.length : Nat) : Int))))) rfl)).cons (hF350.get (t := 10) (v := (.pointer (some ⟨g93, 0, none⟩))) rfl)).cons (hF350.get (t := 9) (v := (.pointer (some ⟨g66, 0, none⟩))) rfl)).cons (hF350.get (t := 29) (v := (.bool (decide ((1000 : Int) < ((b.length : Nat) : Int))))) rfl)).cons (hF350.get (t := 21) (v := (.bool false)) rfl)).cons (hF350.get (t := 8) (v := (.bool false)) rfl)).cons (hF350.get (t := 4) (v := (.pointer (some ⟨g2, 0, none⟩))) rfl)).cons (hF350.get (t := 3) (v := (.slice C b.length f)) rfl)).cons (hF350.get (t := 2) (v := (.int .i64 m)) rfl)).cons (hF350.get (t := 1) (v := (.int .i64 n)) rfl)).cons (hF350.get (t := 0) (v := (.agg #[(.slice A d.sectors.length c), (.slice B d.pending.length e), (.int .i64 d.left), (.bool d.stopped)])) rfl))
        clear hF350
        refine wp_seq_k (fun K352 hK352 => ?_)
        refine wp_region_lit ?_
        have b353 : Blk w345 g2 25 [(.slice A d.sectors.length c), (.slice B d.pending.length e), (.int .i64 d.left), (.bool true)] := (((b311.ext hx327).ext hx340).grownN hg347 (by omega))
        refine wpl_op (i := 0) rfl (o_val (v := (.agg #[(.slice A d.sectors.length c), (.slice B d.pending.length e), (.int .i64 d.left), (.bool true)])) hF351 rfl rfl rfl rfl (rn_loadBlk (hF351.get rfl) b353 Try.underlying25 rfl (by kernel_rfl : (Try.prog.info? 25).map (·.size) = some 4)) ?_)
        intro a354 hF355; clear hF351
        have d356 := (hd.pres (((((((((((((((((Pres.refl w).ext hx5).ext hx15).ext hx28).ext hx62).ext hx69).grownN hg76 (fun h => by simp only [Clip, Fr, Old] at h; omega)).ext hx89).ext hx96).grownN hg103 (fun h => by simp only [Clip, Fr, Old] at h; omega)).ext hx147).ext hx185).grownN hg282 (fun h => by simp only [Clip, Fr, Old] at h; omega)).ext hx295).ext hx327).ext hx340).grownN hg347 (fun h => by simp only [Clip, Fr, Old] at h; omega)))
        refine wpl_op (i := 1) rfl (o_call hF355 rfl rfl rfl rfl (rn_call (args1 (hF355.get rfl)) rfl (by kernel_rfl)) (sync_any (S := (Old w)) _ (Dk.mk d.sectors d.pending d.left true) _ (RDk.mk (l := d.left) (s := true) (RDk.len d356).1 (RDk.len d356).2.1)) ?_)
        rintro _ w363 ⟨v362, rfl, hd361, hx364⟩
        obtain ⟨A357, c358, B359, e360, rfl, -, -⟩ := hd361.form
        have hd361 := hd361.clip
        refine ⟨_, rfl, ?_⟩; intro a365 hF366; clear hF355; have z367 := hx364.size
        refine wpl_op (i := 2) rfl (o_val (v := (.tuple #[(.agg #[(.slice A357 (((Dk.mk d.sectors d.pending d.left true).sync.1).sectors.length) c358), (.slice B359 (((Dk.mk d.sectors d.pending d.left true).sync.1).pending.length) e360), (.int .i64 (((Dk.mk d.sectors d.pending d.left true).sync.1).left)), (.bool (((Dk.mk d.sectors d.pending d.left true).sync.1).stopped))]), (.int .i64 ((Dk.mk d.sectors d.pending d.left true).sync.2))])) hF366 rfl rfl rfl rfl (rn_move (hF366.get rfl)) ?_)
        intro a368 hF369; clear hF366
        refine wpl_op (i := 3) rfl (o_val (v := (.agg #[(.slice A357 (((Dk.mk d.sectors d.pending d.left true).sync.1).sectors.length) c358), (.slice B359 (((Dk.mk d.sectors d.pending d.left true).sync.1).pending.length) e360), (.int .i64 (((Dk.mk d.sectors d.pending d.left true).sync.1).left)), (.bool (((Dk.mk d.sectors d.pending d.left true).sync.1).stopped))])) hF369 rfl rfl rfl rfl (rn_extract (hF369.get rfl) rfl) ?_)
        intro a370 hF371; clear hF369
        refine wpl_op (i := 4) rfl (o_val (v := (.int .i64 ((Dk.mk d.sectors d.pending d.left true).sync.2))) hF371 rfl rfl rfl rfl (rn_extract (hF371.get rfl) rfl) ?_)
        intro a372 hF373; clear hF371
        refine wpl_op (i := 5) rfl (o_new (fun g => (.pointer (some ⟨g, 0, none⟩))) [(.slice none 0 0), (.slice none 0 0), (.int .i64 0), (.bool false)] 25 hF373 rfl rfl rfl rfl (by kernel_rfl) ?_)
        intro g374 w375 a380 hF381 z378 z379 b376 hx377; clear hF373
        refine wpl_op (i := 6) rfl (o_store (cells := [(.slice A357 (((Dk.mk d.sectors d.pending d.left true).sync.1).sectors.length) c358), (.slice B359 (((Dk.mk d.sectors d.pending d.left true).sync.1).pending.length) e360), (.int .i64 (((Dk.mk d.sectors d.pending d.left true).sync.1).left)), (.bool (((Dk.mk d.sectors d.pending d.left true).sync.1).stopped))]) hF381 rfl rfl rfl rfl (hF381.get rfl) (hF381.get rfl) b376 (by kernel_rfl : (Try.prog.info? 25).map (·.size) = some 4) rfl (by simp [Value.oneCell']) ?_)
        intro w382 b383 hg384; have z385 := hg384.size
        refine wpl_op (i := 7) rfl (o_val (v := (.int .i64 ((Dk.mk d.sectors d.pending d.left true).sync.2))) hF381 rfl rfl rfl rfl (rn_assign (hF381.get rfl)) ?_)
        intro a386 hF387; clear hF381
        refine wpList_nil ?_
        refine hK352 _ _ ?_
        clear hK352
        have hF388 := ((((((((((((((((hF387.nil.cons (hF387.get (t := 17) (v := (.int .i64 ((Dk.mk d.sectors d.pending d.left true).sync.2))) rfl)).cons (hF387.get (t := 15) (v := (.int .i64 (((Dk.mk d.sectors d.pending d.left true).write n b).2))) rfl)).cons (hF387.get (t := 13) (v := (.int .i64 (((Dk.mk d.sectors d.pending d.left true).read n).2))) rfl)).cons (hF387.get (t := 66) (v := (.bool (decide (((k : Nat) : Int) < ((d.sectors.length : Nat) : Int))))) rfl)).cons (hF387.get (t := 11) (v := (.int .i64 (k : Nat))) rfl)).cons (hF387.get (t := 61) (v := (.bool (decide (((d.restart.sectors.length : Nat) : Int) ≠ ((d.sectors.length : Nat) : Int))))) rfl)).cons (hF387.get (t := 10) (v := (.pointer (some ⟨g93, 0, none⟩))) rfl)).cons (hF387.get (t := 9) (v := (.pointer (some ⟨g66, 0, none⟩))) rfl)).cons (hF387.get (t := 29) (v := (.bool (decide ((1000 : Int) < ((b.length : Nat) : Int))))) rfl)).cons (hF387.get (t := 21) (v := (.bool false)) rfl)).cons (hF387.get (t := 8) (v := (.bool false)) rfl)).cons (hF387.get (t := 4) (v := (.pointer (some ⟨g2, 0, none⟩))) rfl)).cons (hF387.get (t := 3) (v := (.slice C b.length f)) rfl)).cons (hF387.get (t := 2) (v := (.int .i64 m)) rfl)).cons (hF387.get (t := 1) (v := (.int .i64 n)) rfl)).cons (hF387.get (t := 0) (v := (.agg #[(.slice A d.sectors.length c), (.slice B d.pending.length e), (.int .i64 d.left), (.bool d.stopped)])) rfl))
        clear hF387
        refine wp_seq_k (fun K389 hK389 => ?_)
        refine wp_region_lit ?_
        have b390 : Blk w382 g2 25 [(.slice A d.sectors.length c), (.slice B d.pending.length e), (.int .i64 d.left), (.bool true)] := (((b353.ext hx364).ext hx377).grownN hg384 (by omega))
        refine wpl_op (i := 0) rfl (o_val (v := (.agg #[(.slice A d.sectors.length c), (.slice B d.pending.length e), (.int .i64 d.left), (.bool true)])) hF388 rfl rfl rfl rfl (rn_loadBlk (hF388.get rfl) b390 Try.underlying25 rfl (by kernel_rfl : (Try.prog.info? 25).map (·.size) = some 4)) ?_)
        intro a391 hF392; clear hF388
        refine wpl_op (i := 1) rfl (o_val (v := (.int .i64 m)) hF392 rfl rfl rfl rfl (rn_move (hF392.get rfl)) ?_)
        intro a393 hF394; clear hF392
        have d395 := (hd.pres ((((((((((((((((((((Pres.refl w).ext hx5).ext hx15).ext hx28).ext hx62).ext hx69).grownN hg76 (fun h => by simp only [Clip, Fr, Old] at h; omega)).ext hx89).ext hx96).grownN hg103 (fun h => by simp only [Clip, Fr, Old] at h; omega)).ext hx147).ext hx185).grownN hg282 (fun h => by simp only [Clip, Fr, Old] at h; omega)).ext hx295).ext hx327).ext hx340).grownN hg347 (fun h => by simp only [Clip, Fr, Old] at h; omega)).ext hx364).ext hx377).grownN hg384 (fun h => by simp only [Clip, Fr, Old] at h; omega)))
        refine wpl_op (i := 2) rfl (o_call hF394 rfl rfl rfl rfl (rn_call (args2 (hF394.get rfl) (hF394.get rfl)) rfl (by kernel_rfl)) (stop_any (S := (Old w)) _ (Dk.mk d.sectors d.pending d.left true) _ _ (RDk.mk (l := d.left) (s := true) (RDk.len d395).1 (RDk.len d395).2.1)) ?_)
        rintro _ w402 ⟨v401, rfl, hd400, hx403⟩
        obtain ⟨A396, c397, B398, e399, rfl, -, -⟩ := hd400.form
        have hd400 := hd400.clip
        refine ⟨_, rfl, ?_⟩; intro a404 hF405; clear hF394; have z406 := hx403.size
        refine wpl_op (i := 3) rfl (o_val (v := (.tuple #[(.agg #[(.slice A396 ((((Dk.mk d.sectors d.pending d.left true).stop m).1).sectors.length) c397), (.slice B398 ((((Dk.mk d.sectors d.pending d.left true).stop m).1).pending.length) e399), (.int .i64 ((((Dk.mk d.sectors d.pending d.left true).stop m).1).left)), (.bool ((((Dk.mk d.sectors d.pending d.left true).stop m).1).stopped))]), (.int .i64 (((Dk.mk d.sectors d.pending d.left true).stop m).2))])) hF405 rfl rfl rfl rfl (rn_move (hF405.get rfl)) ?_)
        intro a407 hF408; clear hF405
        refine wpl_op (i := 4) rfl (o_val (v := (.agg #[(.slice A396 ((((Dk.mk d.sectors d.pending d.left true).stop m).1).sectors.length) c397), (.slice B398 ((((Dk.mk d.sectors d.pending d.left true).stop m).1).pending.length) e399), (.int .i64 ((((Dk.mk d.sectors d.pending d.left true).stop m).1).left)), (.bool ((((Dk.mk d.sectors d.pending d.left true).stop m).1).stopped))])) hF408 rfl rfl rfl rfl (rn_extract (hF408.get rfl) rfl) ?_)
        intro a409 hF410; clear hF408
        refine wpl_op (i := 5) rfl (o_val (v := (.int .i64 (((Dk.mk d.sectors d.pending d.left true).stop m).2))) hF410 rfl rfl rfl rfl (rn_extract (hF410.get rfl) rfl) ?_)
        intro a411 hF412; clear hF410
        refine wpl_op (i := 6) rfl (o_new (fun g => (.pointer (some ⟨g, 0, none⟩))) [(.slice none 0 0), (.slice none 0 0), (.int .i64 0), (.bool false)] 25 hF412 rfl rfl rfl rfl (by kernel_rfl) ?_)
        intro g413 w414 a419 hF420 z417 z418 b415 hx416; clear hF412
        refine wpl_op (i := 7) rfl (o_store (cells := [(.slice A396 ((((Dk.mk d.sectors d.pending d.left true).stop m).1).sectors.length) c397), (.slice B398 ((((Dk.mk d.sectors d.pending d.left true).stop m).1).pending.length) e399), (.int .i64 ((((Dk.mk d.sectors d.pending d.left true).stop m).1).left)), (.bool ((((Dk.mk d.sectors d.pending d.left true).stop m).1).stopped))]) hF420 rfl rfl rfl rfl (hF420.get rfl) (hF420.get rfl) b415 (by kernel_rfl : (Try.prog.info? 25).map (·.size) = some 4) rfl (by simp [Value.oneCell']) ?_)
        intro w421 b422 hg423; have z424 := hg423.size
        refine wpl_op (i := 8) rfl (o_val (v := (.int .i64 (((Dk.mk d.sectors d.pending d.left true).stop m).2))) hF420 rfl rfl rfl rfl (rn_assign (hF420.get rfl)) ?_)
        intro a425 hF426; clear hF420
        refine wpList_nil ?_
        refine hK389 _ _ ?_
        clear hK389
        have hF427 := (((((((((((((((((hF426.nil.cons (hF426.get (t := 19) (v := (.int .i64 (((Dk.mk d.sectors d.pending d.left true).stop m).2))) rfl)).cons (hF426.get (t := 17) (v := (.int .i64 ((Dk.mk d.sectors d.pending d.left true).sync.2))) rfl)).cons (hF426.get (t := 15) (v := (.int .i64 (((Dk.mk d.sectors d.pending d.left true).write n b).2))) rfl)).cons (hF426.get (t := 13) (v := (.int .i64 (((Dk.mk d.sectors d.pending d.left true).read n).2))) rfl)).cons (hF426.get (t := 66) (v := (.bool (decide (((k : Nat) : Int) < ((d.sectors.length : Nat) : Int))))) rfl)).cons (hF426.get (t := 11) (v := (.int .i64 (k : Nat))) rfl)).cons (hF426.get (t := 61) (v := (.bool (decide (((d.restart.sectors.length : Nat) : Int) ≠ ((d.sectors.length : Nat) : Int))))) rfl)).cons (hF426.get (t := 10) (v := (.pointer (some ⟨g93, 0, none⟩))) rfl)).cons (hF426.get (t := 9) (v := (.pointer (some ⟨g66, 0, none⟩))) rfl)).cons (hF426.get (t := 29) (v := (.bool (decide ((1000 : Int) < ((b.length : Nat) : Int))))) rfl)).cons (hF426.get (t := 21) (v := (.bool false)) rfl)).cons (hF426.get (t := 8) (v := (.bool false)) rfl)).cons (hF426.get (t := 4) (v := (.pointer (some ⟨g2, 0, none⟩))) rfl)).cons (hF426.get (t := 3) (v := (.slice C b.length f)) rfl)).cons (hF426.get (t := 2) (v := (.int .i64 m)) rfl)).cons (hF426.get (t := 1) (v := (.int .i64 n)) rfl)).cons (hF426.get (t := 0) (v := (.agg #[(.slice A d.sectors.length c), (.slice B d.pending.length e), (.int .i64 d.left), (.bool d.stopped)])) rfl))
        clear hF426
        refine wp_seq_k (fun K428 hK428 => ?_)
        refine wp_region_lit ?_
        refine wpl_op (i := 0) rfl (o_val (v := (.int .i64 (((Dk.mk d.sectors d.pending d.left true).read n).2))) hF427 rfl rfl rfl rfl (rn_move (hF427.get rfl)) ?_)
        intro a429 hF430; clear hF427
        refine wpl_op (i := 1) rfl (o_val (v := (.bool (decide ((((Dk.mk d.sectors d.pending d.left true).read n).2 : Int) = (380 : Int))))) hF430 rfl rfl rfl rfl (rn_eql (hF430.get rfl) rfl) ?_)
        intro a431 hF432; clear hF430
        refine wpl_op (i := 2) rfl (o_val (v := (.bool (decide ((((Dk.mk d.sectors d.pending d.left true).read n).2 : Int) = (380 : Int))))) hF432 rfl rfl rfl rfl (rn_move (hF432.get rfl)) ?_)
        intro a433 hF434; clear hF432
        refine wpl_op (i := 3) rfl (o_val (v := (.int .i64 (((Dk.mk d.sectors d.pending d.left true).write n b).2))) hF434 rfl (wanted_guard rfl rfl rfl hF434 rfl ((decide_eq_true (by simp [Dk.read, Dk.write, Dk.sync, Dk.stop, Dk.runs])) : decide ((((Dk.mk d.sectors d.pending d.left true).read n).2 : Int) = (380 : Int)) = true) rfl) rfl rfl (rn_move (hF434.get rfl)) ?_)
        intro a436 hF437; clear hF434
        refine wpl_op (i := 4) rfl (o_val (v := (.bool (decide ((((Dk.mk d.sectors d.pending d.left true).write n b).2 : Int) = (380 : Int))))) hF437 rfl (wanted_guard rfl rfl rfl hF437 rfl ((decide_eq_true (by simp [Dk.read, Dk.write, Dk.sync, Dk.stop, Dk.runs])) : decide ((((Dk.mk d.sectors d.pending d.left true).read n).2 : Int) = (380 : Int)) = true) rfl) rfl rfl (rn_eql (hF437.get rfl) rfl) ?_)
        intro a438 hF439; clear hF437
        refine wpl_op (i := 5) rfl (o_val (v := (.bool (decide ((((Dk.mk d.sectors d.pending d.left true).write n b).2 : Int) = (380 : Int))))) hF439 rfl rfl rfl rfl (rn_pickT (c_true hF439 rfl ((decide_eq_true (by simp [Dk.read, Dk.write, Dk.sync, Dk.stop, Dk.runs])) : decide ((((Dk.mk d.sectors d.pending d.left true).read n).2 : Int) = (380 : Int)) = true)) (hF439.get rfl)) ?_)
        intro a440 hF441; clear hF439
        refine wpl_op (i := 6) rfl (o_val (v := (.bool (decide ((((Dk.mk d.sectors d.pending d.left true).write n b).2 : Int) = (380 : Int))))) hF441 rfl rfl rfl rfl (rn_move (hF441.get rfl)) ?_)
        intro a442 hF443; clear hF441
        refine wpl_op (i := 7) rfl (o_val (v := (.int .i64 ((Dk.mk d.sectors d.pending d.left true).sync.2))) hF443 rfl (wanted_guard rfl rfl rfl hF443 rfl ((decide_eq_true (by simp [Dk.read, Dk.write, Dk.sync, Dk.stop, Dk.runs])) : decide ((((Dk.mk d.sectors d.pending d.left true).write n b).2 : Int) = (380 : Int)) = true) rfl) rfl rfl (rn_move (hF443.get rfl)) ?_)
        intro a445 hF446; clear hF443
        refine wpl_op (i := 8) rfl (o_val (v := (.bool (decide (((Dk.mk d.sectors d.pending d.left true).sync.2 : Int) = (380 : Int))))) hF446 rfl (wanted_guard rfl rfl rfl hF446 rfl ((decide_eq_true (by simp [Dk.read, Dk.write, Dk.sync, Dk.stop, Dk.runs])) : decide ((((Dk.mk d.sectors d.pending d.left true).write n b).2 : Int) = (380 : Int)) = true) rfl) rfl rfl (rn_eql (hF446.get rfl) rfl) ?_)
        intro a447 hF448; clear hF446
        refine wpl_op (i := 9) rfl (o_val (v := (.bool (decide (((Dk.mk d.sectors d.pending d.left true).sync.2 : Int) = (380 : Int))))) hF448 rfl rfl rfl rfl (rn_pickT (c_true hF448 rfl ((decide_eq_true (by simp [Dk.read, Dk.write, Dk.sync, Dk.stop, Dk.runs])) : decide ((((Dk.mk d.sectors d.pending d.left true).write n b).2 : Int) = (380 : Int)) = true)) (hF448.get rfl)) ?_)
        intro a449 hF450; clear hF448
        refine wpl_op (i := 10) rfl (o_val (v := (.bool (decide (((Dk.mk d.sectors d.pending d.left true).sync.2 : Int) = (380 : Int))))) hF450 rfl rfl rfl rfl (rn_move (hF450.get rfl)) ?_)
        intro a451 hF452; clear hF450
        refine wpl_op (i := 11) rfl (o_val (v := (.int .i64 (((Dk.mk d.sectors d.pending d.left true).stop m).2))) hF452 rfl (wanted_guard rfl rfl rfl hF452 rfl ((decide_eq_true (by simp [Dk.read, Dk.write, Dk.sync, Dk.stop, Dk.runs])) : decide (((Dk.mk d.sectors d.pending d.left true).sync.2 : Int) = (380 : Int)) = true) rfl) rfl rfl (rn_move (hF452.get rfl)) ?_)
        intro a454 hF455; clear hF452
        refine wpl_op (i := 12) rfl (o_val (v := (.bool (decide ((((Dk.mk d.sectors d.pending d.left true).stop m).2 : Int) = (380 : Int))))) hF455 rfl (wanted_guard rfl rfl rfl hF455 rfl ((decide_eq_true (by simp [Dk.read, Dk.write, Dk.sync, Dk.stop, Dk.runs])) : decide (((Dk.mk d.sectors d.pending d.left true).sync.2 : Int) = (380 : Int)) = true) rfl) rfl rfl (rn_eql (hF455.get rfl) rfl) ?_)
        intro a456 hF457; clear hF455
        refine wpl_op (i := 13) rfl (o_val (v := (.bool (decide ((((Dk.mk d.sectors d.pending d.left true).stop m).2 : Int) = (380 : Int))))) hF457 rfl rfl rfl rfl (rn_pickT (c_true hF457 rfl ((decide_eq_true (by simp [Dk.read, Dk.write, Dk.sync, Dk.stop, Dk.runs])) : decide (((Dk.mk d.sectors d.pending d.left true).sync.2 : Int) = (380 : Int)) = true)) (hF457.get rfl)) ?_)
        intro a458 hF459; clear hF457
        refine wpl_op (i := 14) rfl (o_val (v := (.bool (decide ((((Dk.mk d.sectors d.pending d.left true).stop m).2 : Int) = (380 : Int))))) hF459 rfl rfl rfl rfl (rn_assign (hF459.get rfl)) ?_)
        intro a460 hF461; clear hF459
        refine wpList_nil ?_
        refine hK428 _ _ ?_
        clear hK428
        have hF462 := (((((((((((((((((hF461.nil.cons (hF461.get (t := 19) (v := (.int .i64 (((Dk.mk d.sectors d.pending d.left true).stop m).2))) rfl)).cons (hF461.get (t := 17) (v := (.int .i64 ((Dk.mk d.sectors d.pending d.left true).sync.2))) rfl)).cons (hF461.get (t := 15) (v := (.int .i64 (((Dk.mk d.sectors d.pending d.left true).write n b).2))) rfl)).cons (hF461.get (t := 13) (v := (.int .i64 (((Dk.mk d.sectors d.pending d.left true).read n).2))) rfl)).cons (hF461.get (t := 66) (v := (.bool (decide (((k : Nat) : Int) < ((d.sectors.length : Nat) : Int))))) rfl)).cons (hF461.get (t := 11) (v := (.int .i64 (k : Nat))) rfl)).cons (hF461.get (t := 61) (v := (.bool (decide (((d.restart.sectors.length : Nat) : Int) ≠ ((d.sectors.length : Nat) : Int))))) rfl)).cons (hF461.get (t := 10) (v := (.pointer (some ⟨g93, 0, none⟩))) rfl)).cons (hF461.get (t := 9) (v := (.pointer (some ⟨g66, 0, none⟩))) rfl)).cons (hF461.get (t := 29) (v := (.bool (decide ((1000 : Int) < ((b.length : Nat) : Int))))) rfl)).cons (hF461.get (t := 21) (v := (.bool false)) rfl)).cons (hF461.get (t := 8) (v := (.bool (decide ((((Dk.mk d.sectors d.pending d.left true).stop m).2 : Int) = (380 : Int))))) rfl)).cons (hF461.get (t := 4) (v := (.pointer (some ⟨g2, 0, none⟩))) rfl)).cons (hF461.get (t := 3) (v := (.slice C b.length f)) rfl)).cons (hF461.get (t := 2) (v := (.int .i64 m)) rfl)).cons (hF461.get (t := 1) (v := (.int .i64 n)) rfl)).cons (hF461.get (t := 0) (v := (.agg #[(.slice A d.sectors.length c), (.slice B d.pending.length e), (.int .i64 d.left), (.bool d.stopped)])) rfl))
        clear hF461
        refine wp_ret ?_
        refine ret1 hF462 rfl rfl ?_
        exact ⟨congrArg (fun b => Ending.returned (.bool b)) ((decide_eq_true (by simp [Dk.read, Dk.write, Dk.sync, Dk.stop, Dk.runs])) : decide ((((Dk.mk d.sectors d.pending d.left true).stop m).2 : Int) = (380 : Int)) = true), (((((((((((((((((((((((Ext.refl w).trans hx5).trans hx15).trans hx28).trans hx62).trans hx69).grownN hg76 (by omega)).trans hx89).trans hx96).grownN hg103 (by omega)).trans hx147).trans hx185).grownN hg282 (by omega)).trans hx295).trans hx327).trans hx340).grownN hg347 (by omega)).trans hx364).trans hx377).grownN hg384 (by omega)).trans hx403).trans hx416).grownN hg423 (by omega))⟩
  · skip
    refine wpl_op (i := 4) rfl (o_skip hF35 rfl (unwanted_guard rfl rfl rfl hF35 rfl (not_f hc36) rfl) rfl rfl ?_)
    intro a463 hF464; clear hF35
    refine wpl_op (i := 5) rfl (o_skip hF464 rfl (unwanted_guard rfl rfl rfl hF464 rfl (not_f hc36) rfl) rfl rfl ?_)
    intro a465 hF466; clear hF464
    refine wpl_op (i := 6) rfl (o_skip hF466 rfl (unwanted_guard rfl rfl rfl hF466 rfl (not_f hc36) rfl) rfl rfl ?_)
    intro a467 hF468; clear hF466
    refine wpl_op (i := 7) rfl (o_val (v := (.bool true)) hF468 rfl rfl rfl rfl (rn_pickT (c_true hF468 rfl (not_f hc36)) rfl) ?_)
    intro a469 hF470; clear hF468
    refine wpList_nil ?_
    refine hK22 _ _ ?_
    clear hK22
    have hF471 := ((((((((hF470.nil.cons (hF470.get (t := 29) (v := (.bool true)) rfl)).cons (hF470.get (t := 21) (v := (.bool false)) rfl)).cons (hF470.get (t := 8) (v := (.bool false)) rfl)).cons (hF470.get (t := 4) (v := (.pointer (some ⟨g2, 0, none⟩))) rfl)).cons (hF470.get (t := 3) (v := (.slice C b.length f)) rfl)).cons (hF470.get (t := 2) (v := (.int .i64 m)) rfl)).cons (hF470.get (t := 1) (v := (.int .i64 n)) rfl)).cons (hF470.get (t := 0) (v := (.agg #[(.slice A d.sectors.length c), (.slice B d.pending.length e), (.int .i64 d.left), (.bool d.stopped)])) rfl))
    clear hF470
    refine wp_cond_true (c_true hF471 rfl rfl) ?_
    refine wp_seq_k (fun K472 hK472 => ?_)
    refine wp_region_lit ?_
    refine wpl_op (i := 0) rfl (o_val (v := (.bool true)) hF471 rfl rfl rfl rfl (rn_assign rfl) ?_)
    intro a473 hF474; clear hF471
    refine wpList_nil ?_
    refine hK472 _ _ ?_
    clear hK472
    refine wp_ret ?_
    refine ret1 hF474 rfl rfl ?_
    exact ⟨congrArg (fun b => Ending.returned (.bool b)) (rfl : true = true), ((((Ext.refl w).trans hx5).trans hx15).trans hx28)⟩

end Go.Proofs.Ytklhgghlkidfjaa
