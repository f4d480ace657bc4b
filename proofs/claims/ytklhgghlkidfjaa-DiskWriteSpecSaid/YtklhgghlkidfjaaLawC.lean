/- The law DiskWriteSpec, walked. -/
import Derived.Test.YtklhgghlkidfjaaLawA
import Derived.Test.YtklhgghlkidfjaaSane
namespace Go.Proofs.Ytklhgghlkidfjaa
open Go.RowKit

variable {S S' : Nat → Prop}

set_option maxRecDepth 100000 in
set_option maxHeartbeats 4000000 in
theorem writeSpec_any (A : Option Addr) (c : Nat) (B : Option Addr) (e : Nat) (d : Dk) (n : Int) (C : Option Addr) (f : Nat) (b : List UInt8) (w : World) (hd : RDk (Old w) w (.agg #[.slice A d.sectors.length c, .slice B d.pending.length e, .int .i64 d.left, .bool d.stopped]) d) (s1 : ∀ x ∈ d.sectors, x.length ≤ 140737488355328) (s2 : ∀ x ∈ d.pending, x.2.length ≤ 140737488355328) (hb : RBs (Old w) w (.slice C b.length f) b) (s3 : b.length ≤ 140737488355328) :
    Calls Try.prog 4 #[(.agg #[(.slice A d.sectors.length c), (.slice B d.pending.length e), (.int .i64 d.left), (.bool d.stopped)]), (.int .i64 n), (.slice C b.length f)] w (RB w true) := by
  refine calls_enter (l := [(.agg #[(.slice A d.sectors.length c), (.slice B d.pending.length e), (.int .i64 d.left), (.bool d.stopped)]), (.int .i64 n), (.slice C b.length f)]) Try.func4 rfl rfl rfl (fun a hF => ?_)
  refine wp_seq_k (fun K1 hK1 => ?_)
  refine wp_region_lit ?_
  refine wpl_op (i := 0) rfl (o_new (fun g => (.pointer (some ⟨g, 0, none⟩))) [(.slice A d.sectors.length c), (.slice B d.pending.length e), (.int .i64 d.left), (.bool d.stopped)] 25 hF rfl rfl rfl rfl (rn_box (hF.get rfl) (by kernel_rfl)) ?_)
  intro g2 w3 a8 hF9 z6 z7 b4 hx5; clear hF
  refine wpl_op (i := 1) rfl (o_val (v := (.bool false)) hF9 rfl rfl rfl rfl (rn_assign rfl) ?_)
  intro a10 hF11; clear hF9
  refine wpList_nil ?_
  refine hK1 _ _ ?_
  clear hK1
  refine wp_seq_k (fun K12 hK12 => ?_)
  refine wp_seq_k (fun K13 hK13 => ?_)
  refine wp_region_lit ?_
  refine wpl_op (i := 0) rfl (o_call hF11 rfl rfl rfl rfl (rn_call (args0 ) rfl (by kernel_rfl)) (sane_any _) ?_)
  rintro _ w14 ⟨rfl, hx15⟩
  refine ⟨_, rfl, ?_⟩; intro a16 hF17; clear hF11; have z18 := hx15.size
  refine wpl_op (i := 1) rfl (o_val (v := (.bool false)) hF17 rfl rfl rfl rfl (rn_not' (hF17.get rfl) rfl) ?_)
  intro a19 hF20; clear hF17
  refine wpList_nil ?_
  refine hK13 _ _ ?_
  clear hK13
  refine wp_cond_false (c_false hF20 rfl rfl) ?_
  refine wp_skip ?_
  refine hK12 _ _ ?_
  clear hK12
  refine wp_seq_k (fun K21 hK21 => ?_)
  refine wp_seq_k (fun K22 hK22 => ?_)
  refine wp_region_lit ?_
  have b23 : Blk w14 g2 25 [(.slice A d.sectors.length c), (.slice B d.pending.length e), (.int .i64 d.left), (.bool d.stopped)] := (b4.ext hx15)
  refine wpl_op (i := 0) rfl (o_val (v := (.agg #[(.slice A d.sectors.length c), (.slice B d.pending.length e), (.int .i64 d.left), (.bool d.stopped)])) hF20 rfl rfl rfl rfl (rn_loadBlk (hF20.get rfl) b23 Try.underlying25 rfl (by kernel_rfl : (Try.prog.info? 25).map (·.size) = some 4)) ?_)
  intro a24 hF25; clear hF20
  have d26 := ((hd.ext hx5).ext hx15)
  refine wpl_op (i := 1) rfl (o_call hF25 rfl rfl rfl rfl (rn_call (args1 (hF25.get rfl)) rfl (by kernel_rfl)) (few_any (S := (Old w)) _ d _ d26 s1 s2) ?_)
  rintro _ w27 ⟨rfl, hx28⟩
  refine ⟨_, rfl, ?_⟩; intro a29 hF30; clear hF25; have z31 := hx28.size
  refine wpl_op (i := 2) rfl (o_val (v := (.bool (!d.few))) hF30 rfl rfl rfl rfl (rn_not' (hF30.get rfl) rfl) ?_)
  intro a32 hF33; clear hF30
  refine wpl_op (i := 3) rfl (o_val (v := (.bool (!d.few))) hF33 rfl rfl rfl rfl (rn_move (hF33.get rfl)) ?_)
  intro a34 hF35; clear hF33
  rcases Bool.eq_false_or_eq_true d.few with hc36 | hc36
  · skip
    refine wpl_op (i := 4) rfl (o_val (v := (.slice C b.length f)) hF35 rfl (wanted_guard rfl rfl rfl hF35 rfl (not_t hc36) rfl) rfl rfl (rn_move (hF35.get rfl)) ?_)
    intro a37 hF38; clear hF35
    refine wpl_op (i := 5) rfl (o_val (v := (.int .i64 (b.length : Nat))) hF38 rfl (wanted_guard rfl rfl rfl hF38 rfl (not_t hc36) rfl) rfl rfl (rn_len_slice Try.underlying35 (hF38.get rfl)) ?_)
    intro a39 hF40; clear hF38
    refine wpl_op (i := 6) rfl (o_val (v := (.bool (decide ((1000 : Int) < ((b.length : Nat) : Int))))) hF40 rfl (wanted_guard rfl rfl rfl hF40 rfl (not_t hc36) rfl) rfl rfl (rn_gtr (hF40.get rfl) rfl) ?_)
    intro a41 hF42; clear hF40
    refine wpl_op (i := 7) rfl (o_val (v := (.bool (decide ((1000 : Int) < ((b.length : Nat) : Int))))) hF42 rfl rfl rfl rfl (rn_pickF (c_false hF42 rfl (not_t hc36)) (hF42.get rfl)) ?_)
    intro a43 hF44; clear hF42
    refine wpList_nil ?_
    refine hK22 _ _ ?_
    clear hK22
    have hF45 := (((((((hF44.nil.cons (hF44.get (t := 24) (v := (.bool (decide ((1000 : Int) < ((b.length : Nat) : Int))))) rfl)).cons (hF44.get (t := 16) (v := (.bool false)) rfl)).cons (hF44.get (t := 6) (v := (.bool false)) rfl)).cons (hF44.get (t := 3) (v := (.pointer (some ⟨g2, 0, none⟩))) rfl)).cons (hF44.get (t := 2) (v := (.slice C b.length f)) rfl)).cons (hF44.get (t := 1) (v := (.int .i64 n)) rfl)).cons (hF44.get (t := 0) (v := (.agg #[(.slice A d.sectors.length c), (.slice B d.pending.length e), (.int .i64 d.left), (.bool d.stopped)])) rfl))
    clear hF44
    by_cases hc46 : (1000 : Int) < ((b.length : Nat) : Int)
    · skip
      refine wp_cond_true (c_true hF45 rfl (decide_eq_true hc46)) ?_
      refine wp_seq_k (fun K47 hK47 => ?_)
      refine wp_region_lit ?_
      refine wpl_op (i := 0) rfl (o_val (v := (.bool true)) hF45 rfl rfl rfl rfl (rn_assign rfl) ?_)
      intro a48 hF49; clear hF45
      refine wpList_nil ?_
      refine hK47 _ _ ?_
      clear hK47
      refine wp_ret ?_
      refine ret1 hF49 rfl rfl ?_
      exact ⟨congrArg (fun b => Ending.returned (.bool b)) (rfl : true = true), ((((Ext.refl w).trans hx5).trans hx15).trans hx28)⟩
    · skip
      refine wp_cond_false (c_false hF45 rfl (decide_eq_false hc46)) ?_
      refine wp_skip ?_
      refine hK21 _ _ ?_
      clear hK21
      refine wp_seq_k (fun K50 hK50 => ?_)
      refine wp_region_lit ?_
      have b51 : Blk w27 g2 25 [(.slice A d.sectors.length c), (.slice B d.pending.length e), (.int .i64 d.left), (.bool d.stopped)] := (b23.ext hx28)
      refine wpl_op (i := 0) rfl (o_val (v := (.agg #[(.slice A d.sectors.length c), (.slice B d.pending.length e), (.int .i64 d.left), (.bool d.stopped)])) hF45 rfl rfl rfl rfl (rn_loadBlk (hF45.get rfl) b51 Try.underlying25 rfl (by kernel_rfl : (Try.prog.info? 25).map (·.size) = some 4)) ?_)
      intro a52 hF53; clear hF45
      refine wpl_op (i := 1) rfl (o_val (v := (.int .i64 n)) hF53 rfl rfl rfl rfl (rn_move (hF53.get rfl)) ?_)
      intro a54 hF55; clear hF53
      refine wpl_op (i := 2) rfl (o_val (v := (.slice C b.length f)) hF55 rfl rfl rfl rfl (rn_move (hF55.get rfl)) ?_)
      intro a56 hF57; clear hF55
      have d58 := (((hd.ext hx5).ext hx15).ext hx28)
      have d59 := (((hb.ext hx5).ext hx15).ext hx28)
      refine wpl_op (i := 3) rfl (o_call hF57 rfl rfl rfl rfl (rn_call (args3 (hF57.get rfl) (hF57.get rfl) (hF57.get rfl)) rfl (by kernel_rfl)) (write_any (S := (fun b => (Old w) b ∨ (Old w) b)) _ _ d _ b _ (d58.sub (fun _ => Or.inl)) (d59.sub (fun _ => Or.inr))) ?_)
      rintro _ w66 ⟨v65, rfl, hd64, hx67⟩
      obtain ⟨A60, c61, B62, e63, rfl, -, -⟩ := hd64.form
      have hd64 := hd64.clip
      refine ⟨_, rfl, ?_⟩; intro a68 hF69; clear hF57; have z70 := hx67.size
      refine wpl_op (i := 4) rfl (o_val (v := (.tuple #[(.agg #[(.slice A60 (((d.write n b).1).sectors.length) c61), (.slice B62 (((d.write n b).1).pending.length) e63), (.int .i64 (((d.write n b).1).left)), (.bool (((d.write n b).1).stopped))]), (.int .i64 ((d.write n b).2))])) hF69 rfl rfl rfl rfl (rn_move (hF69.get rfl)) ?_)
      intro a71 hF72; clear hF69
      refine wpl_op (i := 5) rfl (o_val (v := (.agg #[(.slice A60 (((d.write n b).1).sectors.length) c61), (.slice B62 (((d.write n b).1).pending.length) e63), (.int .i64 (((d.write n b).1).left)), (.bool (((d.write n b).1).stopped))])) hF72 rfl rfl rfl rfl (rn_extract (hF72.get rfl) rfl) ?_)
      intro a73 hF74; clear hF72
      refine wpl_op (i := 6) rfl (o_val (v := (.int .i64 ((d.write n b).2))) hF74 rfl rfl rfl rfl (rn_extract (hF74.get rfl) rfl) ?_)
      intro a75 hF76; clear hF74
      refine wpl_op (i := 7) rfl (o_new (fun g => (.pointer (some ⟨g, 0, none⟩))) [(.slice none 0 0), (.slice none 0 0), (.int .i64 0), (.bool false)] 25 hF76 rfl rfl rfl rfl (by kernel_rfl) ?_)
      intro g77 w78 a83 hF84 z81 z82 b79 hx80; clear hF76
      refine wpl_op (i := 8) rfl (o_store (cells := [(.slice A60 (((d.write n b).1).sectors.length) c61), (.slice B62 (((d.write n b).1).pending.length) e63), (.int .i64 (((d.write n b).1).left)), (.bool (((d.write n b).1).stopped))]) hF84 rfl rfl rfl rfl (hF84.get rfl) (hF84.get rfl) b79 (by kernel_rfl : (Try.prog.info? 25).map (·.size) = some 4) rfl (by simp [Value.oneCell']) ?_)
      intro w85 b86 hg87; have z88 := hg87.size
      refine wpl_op (i := 9) rfl (o_val (v := (.int .i64 ((d.write n b).2))) hF84 rfl rfl rfl rfl (rn_assign (hF84.get rfl)) ?_)
      intro a89 hF90; clear hF84
      refine wpList_nil ?_
      refine hK50 _ _ ?_
      clear hK50
      have hF91 := (((((((((hF90.nil.cons (hF90.get (t := 8) (v := (.int .i64 ((d.write n b).2))) rfl)).cons (hF90.get (t := 7) (v := (.pointer (some ⟨g77, 0, none⟩))) rfl)).cons (hF90.get (t := 24) (v := (.bool (decide ((1000 : Int) < ((b.length : Nat) : Int))))) rfl)).cons (hF90.get (t := 16) (v := (.bool false)) rfl)).cons (hF90.get (t := 6) (v := (.bool false)) rfl)).cons (hF90.get (t := 3) (v := (.pointer (some ⟨g2, 0, none⟩))) rfl)).cons (hF90.get (t := 2) (v := (.slice C b.length f)) rfl)).cons (hF90.get (t := 1) (v := (.int .i64 n)) rfl)).cons (hF90.get (t := 0) (v := (.agg #[(.slice A d.sectors.length c), (.slice B d.pending.length e), (.int .i64 d.left), (.bool d.stopped)])) rfl))
      clear hF90
      refine wp_seq_k (fun K92 hK92 => ?_)
      refine wp_region_lit ?_
      have b93 : Blk w85 g2 25 [(.slice A d.sectors.length c), (.slice B d.pending.length e), (.int .i64 d.left), (.bool d.stopped)] := (((b51.ext hx67).ext hx80).grownN hg87 (by omega))
      refine wpl_op (i := 0) rfl (o_val (v := (.agg #[(.slice A d.sectors.length c), (.slice B d.pending.length e), (.int .i64 d.left), (.bool d.stopped)])) hF91 rfl rfl rfl rfl (rn_loadBlk (hF91.get rfl) b93 Try.underlying25 rfl (by kernel_rfl : (Try.prog.info? 25).map (·.size) = some 4)) ?_)
      intro a94 hF95; clear hF91
      refine wpl_op (i := 1) rfl (o_val (v := (.int .i64 n)) hF95 rfl rfl rfl rfl (rn_move (hF95.get rfl)) ?_)
      intro a96 hF97; clear hF95
      refine wpl_op (i := 2) rfl (o_val (v := (.slice C b.length f)) hF97 rfl rfl rfl rfl (rn_move (hF97.get rfl)) ?_)
      intro a98 hF99; clear hF97
      have d100 := (hd.pres (((((((Pres.refl w).ext hx5).ext hx15).ext hx28).ext hx67).ext hx80).grownN hg87 (fun h => by simp only [Clip, Fr, Old] at h; omega)))
      have d101 := (hb.pres (((((((Pres.refl w).ext hx5).ext hx15).ext hx28).ext hx67).ext hx80).grownN hg87 (fun h => by simp only [Clip, Fr, Old] at h; omega)))
      refine wpl_op (i := 3) rfl (o_call hF99 rfl rfl rfl rfl (rn_call (args3 (hF99.get rfl) (hF99.get rfl) (hF99.get rfl)) rfl (by kernel_rfl)) (rwrite_any (S := (fun b => (Old w) b ∨ (Old w) b)) _ _ d _ b _ (d100.sub (fun _ => Or.inl)) (d101.sub (fun _ => Or.inr))) ?_)
      rintro _ w108 ⟨v107, rfl, hd106, hx109⟩
      obtain ⟨A102, c103, B104, e105, rfl, -, -⟩ := hd106.form
      have hd106 := hd106.clip
      refine ⟨_, rfl, ?_⟩; intro a110 hF111; clear hF99; have z112 := hx109.size
      refine wpl_op (i := 4) rfl (o_val (v := (.tuple #[(.agg #[(.slice A102 (((d.write n b).1).sectors.length) c103), (.slice B104 (((d.write n b).1).pending.length) e105), (.int .i64 (((d.write n b).1).left)), (.bool (((d.write n b).1).stopped))]), (.int .i64 ((d.write n b).2))])) hF111 rfl rfl rfl rfl (rn_move (hF111.get rfl)) ?_)
      intro a113 hF114; clear hF111
      refine wpl_op (i := 5) rfl (o_val (v := (.agg #[(.slice A102 (((d.write n b).1).sectors.length) c103), (.slice B104 (((d.write n b).1).pending.length) e105), (.int .i64 (((d.write n b).1).left)), (.bool (((d.write n b).1).stopped))])) hF114 rfl rfl rfl rfl (rn_extract (hF114.get rfl) rfl) ?_)
      intro a115 hF116; clear hF114
      refine wpl_op (i := 6) rfl (o_val (v := (.int .i64 ((d.write n b).2))) hF116 rfl rfl rfl rfl (rn_extract (hF116.get rfl) rfl) ?_)
      intro a117 hF118; clear hF116
      refine wpl_op (i := 7) rfl (o_new (fun g => (.pointer (some ⟨g, 0, none⟩))) [(.slice none 0 0), (.slice none 0 0), (.int .i64 0), (.bool false)] 25 hF118 rfl rfl rfl rfl (by kernel_rfl) ?_)
      intro g119 w120 a125 hF126 z123 z124 b121 hx122; clear hF118
      refine wpl_op (i := 8) rfl (o_store (cells := [(.slice A102 (((d.write n b).1).sectors.length) c103), (.slice B104 (((d.write n b).1).pending.length) e105), (.int .i64 (((d.write n b).1).left)), (.bool (((d.write n b).1).stopped))]) hF126 rfl rfl rfl rfl (hF126.get rfl) (hF126.get rfl) b121 (by kernel_rfl : (Try.prog.info? 25).map (·.size) = some 4) rfl (by simp [Value.oneCell']) ?_)
      intro w127 b128 hg129; have z130 := hg129.size
      refine wpl_op (i := 9) rfl (o_val (v := (.int .i64 ((d.write n b).2))) hF126 rfl rfl rfl rfl (rn_assign (hF126.get rfl)) ?_)
      intro a131 hF132; clear hF126
      refine wpList_nil ?_
      refine hK92 _ _ ?_
      clear hK92
      have hF133 := (((((((((((hF132.nil.cons (hF132.get (t := 10) (v := (.int .i64 ((d.write n b).2))) rfl)).cons (hF132.get (t := 9) (v := (.pointer (some ⟨g119, 0, none⟩))) rfl)).cons (hF132.get (t := 8) (v := (.int .i64 ((d.write n b).2))) rfl)).cons (hF132.get (t := 7) (v := (.pointer (some ⟨g77, 0, none⟩))) rfl)).cons (hF132.get (t := 24) (v := (.bool (decide ((1000 : Int) < ((b.length : Nat) : Int))))) rfl)).cons (hF132.get (t := 16) (v := (.bool false)) rfl)).cons (hF132.get (t := 6) (v := (.bool false)) rfl)).cons (hF132.get (t := 3) (v := (.pointer (some ⟨g2, 0, none⟩))) rfl)).cons (hF132.get (t := 2) (v := (.slice C b.length f)) rfl)).cons (hF132.get (t := 1) (v := (.int .i64 n)) rfl)).cons (hF132.get (t := 0) (v := (.agg #[(.slice A d.sectors.length c), (.slice B d.pending.length e), (.int .i64 d.left), (.bool d.stopped)])) rfl))
      clear hF132
      refine wp_seq_k (fun K134 hK134 => ?_)
      refine wp_region_lit ?_
      have b135 : Blk w127 g2 25 [(.slice A d.sectors.length c), (.slice B d.pending.length e), (.int .i64 d.left), (.bool d.stopped)] := (((b93.ext hx109).ext hx122).grownN hg129 (by omega))
      refine wpl_op (i := 0) rfl (o_val (v := (.agg #[(.slice A d.sectors.length c), (.slice B d.pending.length e), (.int .i64 d.left), (.bool d.stopped)])) hF133 rfl rfl rfl rfl (rn_loadBlk (hF133.get rfl) b135 Try.underlying25 rfl (by kernel_rfl : (Try.prog.info? 25).map (·.size) = some 4)) ?_)
      intro a136 hF137; clear hF133
      refine wpl_op (i := 1) rfl (o_val (v := (.int .i64 n)) hF137 rfl rfl rfl rfl (rn_move (hF137.get rfl)) ?_)
      intro a138 hF139; clear hF137
      have d140 := (hd.pres ((((((((((Pres.refl w).ext hx5).ext hx15).ext hx28).ext hx67).ext hx80).grownN hg87 (fun h => by simp only [Clip, Fr, Old] at h; omega)).ext hx109).ext hx122).grownN hg129 (fun h => by simp only [Clip, Fr, Old] at h; omega)))
      refine wpl_op (i := 2) rfl (o_call hF139 rfl rfl rfl rfl (rn_call (args2 (hF139.get rfl) (hF139.get rfl)) rfl (by kernel_rfl)) (read_any (S := (Old w)) _ d _ _ d140) ?_)
      rintro _ w145 ⟨v144, rfl, hb143, hx146⟩
      obtain ⟨A141, c142, rfl, -, -⟩ := hb143.form
      have hb143 := hb143.clip
      refine ⟨_, rfl, ?_⟩; intro a147 hF148; clear hF139; have z149 := hx146.size
      refine wpl_op (i := 3) rfl (o_val (v := (.tuple #[(.slice A141 (((d.read n).1).length) c142), (.int .i64 ((d.read n).2))])) hF148 rfl rfl rfl rfl (rn_move (hF148.get rfl)) ?_)
      intro a150 hF151; clear hF148
      refine wpl_op (i := 4) rfl (o_val (v := (.slice A141 (((d.read n).1).length) c142)) hF151 rfl rfl rfl rfl (rn_extract (hF151.get rfl) rfl) ?_)
      intro a152 hF153; clear hF151
      refine wpl_op (i := 5) rfl (o_val (v := (.int .i64 ((d.read n).2))) hF153 rfl rfl rfl rfl (rn_extract (hF153.get rfl) rfl) ?_)
      intro a154 hF155; clear hF153
      refine wpl_op (i := 6) rfl (o_val (v := (.slice A141 (((d.read n).1).length) c142)) hF155 rfl rfl rfl rfl (rn_assign (hF155.get rfl)) ?_)
      intro a156 hF157; clear hF155
      refine wpl_op (i := 7) rfl (o_val (v := (.int .i64 ((d.read n).2))) hF157 rfl rfl rfl rfl (rn_assign (hF157.get rfl)) ?_)
      intro a158 hF159; clear hF157
      refine wpList_nil ?_
      refine hK134 _ _ ?_
      clear hK134
      have hF160 := (((((((((((((hF159.nil.cons (hF159.get (t := 12) (v := (.int .i64 ((d.read n).2))) rfl)).cons (hF159.get (t := 11) (v := (.slice A141 (((d.read n).1).length) c142)) rfl)).cons (hF159.get (t := 10) (v := (.int .i64 ((d.write n b).2))) rfl)).cons (hF159.get (t := 9) (v := (.pointer (some ⟨g119, 0, none⟩))) rfl)).cons (hF159.get (t := 8) (v := (.int .i64 ((d.write n b).2))) rfl)).cons (hF159.get (t := 7) (v := (.pointer (some ⟨g77, 0, none⟩))) rfl)).cons (hF159.get (t := 24) (v := (.bool (decide ((1000 : Int) < ((b.length : Nat) : Int))))) rfl)).cons (hF159.get (t := 16) (v := (.bool false)) rfl)).cons (hF159.get (t := 6) (v := (.bool false)) rfl)).cons (hF159.get (t := 3) (v := (.pointer (some ⟨g2, 0, none⟩))) rfl)).cons (hF159.get (t := 2) (v := (.slice C b.length f)) rfl)).cons (hF159.get (t := 1) (v := (.int .i64 n)) rfl)).cons (hF159.get (t := 0) (v := (.agg #[(.slice A d.sectors.length c), (.slice B d.pending.length e), (.int .i64 d.left), (.bool d.stopped)])) rfl))
      clear hF159
      refine wp_seq_k (fun K161 hK161 => ?_)
      refine wp_region_lit ?_
      have b162 : Blk w145 g2 25 [(.slice A d.sectors.length c), (.slice B d.pending.length e), (.int .i64 d.left), (.bool d.stopped)] := (b135.ext hx146)
      refine wpl_op (i := 0) rfl (o_val (v := (.agg #[(.slice A d.sectors.length c), (.slice B d.pending.length e), (.int .i64 d.left), (.bool d.stopped)])) hF160 rfl rfl rfl rfl (rn_loadBlk (hF160.get rfl) b162 Try.underlying25 rfl (by kernel_rfl : (Try.prog.info? 25).map (·.size) = some 4)) ?_)
      intro a163 hF164; clear hF160
      refine wpl_op (i := 1) rfl (o_val (v := (.int .i64 n)) hF164 rfl rfl rfl rfl (rn_move (hF164.get rfl)) ?_)
      intro a165 hF166; clear hF164
      have d167 := (hd.pres (((((((((((Pres.refl w).ext hx5).ext hx15).ext hx28).ext hx67).ext hx80).grownN hg87 (fun h => by simp only [Clip, Fr, Old] at h; omega)).ext hx109).ext hx122).grownN hg129 (fun h => by simp only [Clip, Fr, Old] at h; omega)).ext hx146))
      refine wpl_op (i := 2) rfl (o_call hF166 rfl rfl rfl rfl (rn_call (args2 (hF166.get rfl) (hF166.get rfl)) rfl (by kernel_rfl)) (rread_any (S := (Old w)) _ d _ _ d167) ?_)
      rintro _ w172 ⟨v171, rfl, hb170, hx173⟩
      obtain ⟨A168, c169, rfl, -, -⟩ := hb170.form
      have hb170 := hb170.clip
      refine ⟨_, rfl, ?_⟩; intro a174 hF175; clear hF166; have z176 := hx173.size
      refine wpl_op (i := 3) rfl (o_val (v := (.tuple #[(.slice A168 (((d.read n).1).length) c169), (.int .i64 ((d.read n).2))])) hF175 rfl rfl rfl rfl (rn_move (hF175.get rfl)) ?_)
      intro a177 hF178; clear hF175
      refine wpl_op (i := 4) rfl (o_val (v := (.slice A168 (((d.read n).1).length) c169)) hF178 rfl rfl rfl rfl (rn_extract (hF178.get rfl) rfl) ?_)
      intro a179 hF180; clear hF178
      refine wpl_op (i := 5) rfl (o_val (v := (.int .i64 ((d.read n).2))) hF180 rfl rfl rfl rfl (rn_extract (hF180.get rfl) rfl) ?_)
      intro a181 hF182; clear hF180
      refine wpl_op (i := 6) rfl (o_val (v := (.slice A168 (((d.read n).1).length) c169)) hF182 rfl rfl rfl rfl (rn_assign (hF182.get rfl)) ?_)
      intro a183 hF184; clear hF182
      refine wpl_op (i := 7) rfl (o_val (v := (.int .i64 ((d.read n).2))) hF184 rfl rfl rfl rfl (rn_assign (hF184.get rfl)) ?_)
      intro a185 hF186; clear hF184
      refine wpList_nil ?_
      refine hK161 _ _ ?_
      clear hK161
      have hF187 := (((((((((((((((hF186.nil.cons (hF186.get (t := 14) (v := (.int .i64 ((d.read n).2))) rfl)).cons (hF186.get (t := 13) (v := (.slice A168 (((d.read n).1).length) c169)) rfl)).cons (hF186.get (t := 12) (v := (.int .i64 ((d.read n).2))) rfl)).cons (hF186.get (t := 11) (v := (.slice A141 (((d.read n).1).length) c142)) rfl)).cons (hF186.get (t := 10) (v := (.int .i64 ((d.write n b).2))) rfl)).cons (hF186.get (t := 9) (v := (.pointer (some ⟨g119, 0, none⟩))) rfl)).cons (hF186.get (t := 8) (v := (.int .i64 ((d.write n b).2))) rfl)).cons (hF186.get (t := 7) (v := (.pointer (some ⟨g77, 0, none⟩))) rfl)).cons (hF186.get (t := 24) (v := (.bool (decide ((1000 : Int) < ((b.length : Nat) : Int))))) rfl)).cons (hF186.get (t := 16) (v := (.bool false)) rfl)).cons (hF186.get (t := 6) (v := (.bool false)) rfl)).cons (hF186.get (t := 3) (v := (.pointer (some ⟨g2, 0, none⟩))) rfl)).cons (hF186.get (t := 2) (v := (.slice C b.length f)) rfl)).cons (hF186.get (t := 1) (v := (.int .i64 n)) rfl)).cons (hF186.get (t := 0) (v := (.agg #[(.slice A d.sectors.length c), (.slice B d.pending.length e), (.int .i64 d.left), (.bool d.stopped)])) rfl))
      clear hF186
      refine wp_seq_k (fun K188 hK188 => ?_)
      refine wp_region_lit ?_
      have b189 : Blk w172 g77 25 [(.slice A60 (((d.write n b).1).sectors.length) c61), (.slice B62 (((d.write n b).1).pending.length) e63), (.int .i64 (((d.write n b).1).left)), (.bool (((d.write n b).1).stopped))] := (((((b86.ext hx109).ext hx122).grownN hg129 (by omega)).ext hx146).ext hx173)
      refine wpl_op (i := 0) rfl (o_val (v := (.agg #[(.slice A60 (((d.write n b).1).sectors.length) c61), (.slice B62 (((d.write n b).1).pending.length) e63), (.int .i64 (((d.write n b).1).left)), (.bool (((d.write n b).1).stopped))])) hF187 rfl rfl rfl rfl (rn_loadBlk (hF187.get rfl) b189 Try.underlying25 rfl (by kernel_rfl : (Try.prog.info? 25).map (·.size) = some 4)) ?_)
      intro a190 hF191; clear hF187
      have b192 : Blk w172 g119 25 [(.slice A102 (((d.write n b).1).sectors.length) c103), (.slice B104 (((d.write n b).1).pending.length) e105), (.int .i64 (((d.write n b).1).left)), (.bool (((d.write n b).1).stopped))] := ((b128.ext hx146).ext hx173)
      refine wpl_op (i := 1) rfl (o_val (v := (.agg #[(.slice A102 (((d.write n b).1).sectors.length) c103), (.slice B104 (((d.write n b).1).pending.length) e105), (.int .i64 (((d.write n b).1).left)), (.bool (((d.write n b).1).stopped))])) hF191 rfl rfl rfl rfl (rn_loadBlk (hF191.get rfl) b192 Try.underlying25 rfl (by kernel_rfl : (Try.prog.info? 25).map (·.size) = some 4)) ?_)
      intro a193 hF194; clear hF191
      have d195 := (hd64.pres ((((((((Pres.refl w66).ext hx80).grownN hg87 (fun h => by simp only [Clip, Fr, Old] at h; omega)).ext hx109).ext hx122).grownN hg129 (fun h => by simp only [Clip, Fr, Old] at h; omega)).ext hx146).ext hx173))
      have d196 := (hd106.pres (((((Pres.refl w108).ext hx122).grownN hg129 (fun h => by simp only [Clip, Fr, Old] at h; omega)).ext hx146).ext hx173))
      refine wpl_op (i := 2) rfl (o_call hF194 rfl rfl rfl rfl (rn_call (args2 (hF194.get rfl) (hF194.get rfl)) rfl (by kernel_rfl)) (same_any (S := fun _ => True) _ _ ((d.write n b).1) ((d.write n b).1) _ d195.all d196.all) ?_)
      rintro _ w197 ⟨rfl, hx198⟩
      refine ⟨_, rfl, ?_⟩; intro a199 hF200; clear hF194; have z201 := hx198.size
      refine wpl_op (i := 3) rfl (o_val (v := (.bool (((d.write n b).1).same ((d.write n b).1)))) hF200 rfl rfl rfl rfl (rn_move (hF200.get rfl)) ?_)
      intro a202 hF203; clear hF200
      refine wpl_op (i := 4) rfl (o_val (v := (.int .i64 ((d.write n b).2))) hF203 rfl (wanted_guard rfl rfl rfl hF203 rfl (same_self _) rfl) rfl rfl (rn_move (hF203.get rfl)) ?_)
      intro a204 hF205; clear hF203
      refine wpl_op (i := 5) rfl (o_val (v := (.int .i64 ((d.write n b).2))) hF205 rfl (wanted_guard rfl rfl rfl hF205 rfl (same_self _) rfl) rfl rfl (rn_move (hF205.get rfl)) ?_)
      intro a206 hF207; clear hF205
      refine wpl_op (i := 6) rfl (o_val (v := (.bool (decide (((d.write n b).2 : Int) = ((d.write n b).2 : Int))))) hF207 rfl (wanted_guard rfl rfl rfl hF207 rfl (same_self _) rfl) rfl rfl (rn_eql (hF207.get rfl) (hF207.get rfl)) ?_)
      intro a208 hF209; clear hF207
      refine wpl_op (i := 7) rfl (o_val (v := (.bool (decide (((d.write n b).2 : Int) = ((d.write n b).2 : Int))))) hF209 rfl rfl rfl rfl (rn_pickT (c_true hF209 rfl (same_self _)) (hF209.get rfl)) ?_)
      intro a210 hF211; clear hF209
      refine wpl_op (i := 8) rfl (o_val (v := (.bool (decide (((d.write n b).2 : Int) = ((d.write n b).2 : Int))))) hF211 rfl rfl rfl rfl (rn_move (hF211.get rfl)) ?_)
      intro a212 hF213; clear hF211
      refine wpl_op (i := 9) rfl (o_val (v := (.slice A141 (((d.read n).1).length) c142)) hF213 rfl (wanted_guard rfl rfl rfl hF213 rfl ((decide_eq_true rfl) : decide (((d.write n b).2 : Int) = ((d.write n b).2 : Int)) = true) rfl) rfl rfl (rn_move (hF213.get rfl)) ?_)
      intro a215 hF216; clear hF213
      have d217 := ((hb143.ext hx173).ext hx198)
      refine wpl_op (i := 10) rfl (o_val (v := (strOf ((d.read n).1))) hF216 rfl (wanted_guard rfl rfl rfl hF216 rfl ((decide_eq_true rfl) : decide (((d.write n b).2 : Int) = ((d.write n b).2 : Int)) = true) rfl) rfl rfl (rn_str (hF216.get rfl) d217 Try.underlying35 Try.underlying5 Try.underlying9) ?_)
      intro a218 hF219; clear hF216
      refine wpl_op (i := 11) rfl (o_val (v := (.slice A168 (((d.read n).1).length) c169)) hF219 rfl (wanted_guard rfl rfl rfl hF219 rfl ((decide_eq_true rfl) : decide (((d.write n b).2 : Int) = ((d.write n b).2 : Int)) = true) rfl) rfl rfl (rn_move (hF219.get rfl)) ?_)
      intro a220 hF221; clear hF219
      have d222 := (hb170.ext hx198)
      refine wpl_op (i := 12) rfl (o_val (v := (strOf ((d.read n).1))) hF221 rfl (wanted_guard rfl rfl rfl hF221 rfl ((decide_eq_true rfl) : decide (((d.write n b).2 : Int) = ((d.write n b).2 : Int)) = true) rfl) rfl rfl (rn_str (hF221.get rfl) d222 Try.underlying35 Try.underlying5 Try.underlying9) ?_)
      intro a223 hF224; clear hF221
      refine wpl_op (i := 13) rfl (o_val (v := (.bool (decide (((d.read n).1) = ((d.read n).1))))) hF224 rfl (wanted_guard rfl rfl rfl hF224 rfl ((decide_eq_true rfl) : decide (((d.write n b).2 : Int) = ((d.write n b).2 : Int)) = true) rfl) rfl rfl (rn_eqs (hF224.get rfl) (hF224.get rfl) rfl) ?_)
      intro a225 hF226; clear hF224
      refine wpl_op (i := 14) rfl (o_val (v := (.bool (decide (((d.read n).1) = ((d.read n).1))))) hF226 rfl rfl rfl rfl (rn_pickT (c_true hF226 rfl ((decide_eq_true rfl) : decide (((d.write n b).2 : Int) = ((d.write n b).2 : Int)) = true)) (hF226.get rfl)) ?_)
      intro a227 hF228; clear hF226
      refine wpl_op (i := 15) rfl (o_val (v := (.bool (decide (((d.read n).1) = ((d.read n).1))))) hF228 rfl rfl rfl rfl (rn_move (hF228.get rfl)) ?_)
      intro a229 hF230; clear hF228
      refine wpl_op (i := 16) rfl (o_val (v := (.int .i64 ((d.read n).2))) hF230 rfl (wanted_guard rfl rfl rfl hF230 rfl ((decide_eq_true rfl) : decide (((d.read n).1) = ((d.read n).1)) = true) rfl) rfl rfl (rn_move (hF230.get rfl)) ?_)
      intro a232 hF233; clear hF230
      refine wpl_op (i := 17) rfl (o_val (v := (.int .i64 ((d.read n).2))) hF233 rfl (wanted_guard rfl rfl rfl hF233 rfl ((decide_eq_true rfl) : decide (((d.read n).1) = ((d.read n).1)) = true) rfl) rfl rfl (rn_move (hF233.get rfl)) ?_)
      intro a234 hF235; clear hF233
      refine wpl_op (i := 18) rfl (o_val (v := (.bool (decide (((d.read n).2 : Int) = ((d.read n).2 : Int))))) hF235 rfl (wanted_guard rfl rfl rfl hF235 rfl ((decide_eq_true rfl) : decide (((d.read n).1) = ((d.read n).1)) = true) rfl) rfl rfl (rn_eql (hF235.get rfl) (hF235.get rfl)) ?_)
      intro a236 hF237; clear hF235
      refine wpl_op (i := 19) rfl (o_val (v := (.bool (decide (((d.read n).2 : Int) = ((d.read n).2 : Int))))) hF237 rfl rfl rfl rfl (rn_pickT (c_true hF237 rfl ((decide_eq_true rfl) : decide (((d.read n).1) = ((d.read n).1)) = true)) (hF237.get rfl)) ?_)
      intro a238 hF239; clear hF237
      refine wpl_op (i := 20) rfl (o_val (v := (.bool (decide (((d.read n).2 : Int) = ((d.read n).2 : Int))))) hF239 rfl rfl rfl rfl (rn_assign (hF239.get rfl)) ?_)
      intro a240 hF241; clear hF239
      refine wpList_nil ?_
      refine hK188 _ _ ?_
      clear hK188
      have hF242 := (((((((((((((((hF241.nil.cons (hF241.get (t := 14) (v := (.int .i64 ((d.read n).2))) rfl)).cons (hF241.get (t := 13) (v := (.slice A168 (((d.read n).1).length) c169)) rfl)).cons (hF241.get (t := 12) (v := (.int .i64 ((d.read n).2))) rfl)).cons (hF241.get (t := 11) (v := (.slice A141 (((d.read n).1).length) c142)) rfl)).cons (hF241.get (t := 10) (v := (.int .i64 ((d.write n b).2))) rfl)).cons (hF241.get (t := 9) (v := (.pointer (some ⟨g119, 0, none⟩))) rfl)).cons (hF241.get (t := 8) (v := (.int .i64 ((d.write n b).2))) rfl)).cons (hF241.get (t := 7) (v := (.pointer (some ⟨g77, 0, none⟩))) rfl)).cons (hF241.get (t := 24) (v := (.bool (decide ((1000 : Int) < ((b.length : Nat) : Int))))) rfl)).cons (hF241.get (t := 16) (v := (.bool false)) rfl)).cons (hF241.get (t := 6) (v := (.bool (decide (((d.read n).2 : Int) = ((d.read n).2 : Int))))) rfl)).cons (hF241.get (t := 3) (v := (.pointer (some ⟨g2, 0, none⟩))) rfl)).cons (hF241.get (t := 2) (v := (.slice C b.length f)) rfl)).cons (hF241.get (t := 1) (v := (.int .i64 n)) rfl)).cons (hF241.get (t := 0) (v := (.agg #[(.slice A d.sectors.length c), (.slice B d.pending.length e), (.int .i64 d.left), (.bool d.stopped)])) rfl))
      clear hF241
      refine wp_ret ?_
      refine ret1 hF242 rfl rfl ?_
      exact ⟨congrArg (fun b => Ending.returned (.bool b)) ((decide_eq_true rfl) : decide (((d.read n).2 : Int) = ((d.read n).2 : Int)) = true), (((((((((((((Ext.refl w).trans hx5).trans hx15).trans hx28).trans hx67).trans hx80).grownN hg87 (by omega)).trans hx109).trans hx122).grownN hg129 (by omega)).trans hx146).trans hx173).trans hx198)⟩
  · skip
    refine wpl_op (i := 4) rfl (o_skip hF35 rfl (unwanted_guard rfl rfl rfl hF35 rfl (not_f hc36) rfl) rfl rfl ?_)
    intro a243 hF244; clear hF35
    refine wpl_op (i := 5) rfl (o_skip hF244 rfl (unwanted_guard rfl rfl rfl hF244 rfl (not_f hc36) rfl) rfl rfl ?_)
    intro a245 hF246; clear hF244
    refine wpl_op (i := 6) rfl (o_skip hF246 rfl (unwanted_guard rfl rfl rfl hF246 rfl (not_f hc36) rfl) rfl rfl ?_)
    intro a247 hF248; clear hF246
    refine wpl_op (i := 7) rfl (o_val (v := (.bool true)) hF248 rfl rfl rfl rfl (rn_pickT (c_true hF248 rfl (not_f hc36)) rfl) ?_)
    intro a249 hF250; clear hF248
    refine wpList_nil ?_
    refine hK22 _ _ ?_
    clear hK22
    have hF251 := (((((((hF250.nil.cons (hF250.get (t := 24) (v := (.bool true)) rfl)).cons (hF250.get (t := 16) (v := (.bool false)) rfl)).cons (hF250.get (t := 6) (v := (.bool false)) rfl)).cons (hF250.get (t := 3) (v := (.pointer (some ⟨g2, 0, none⟩))) rfl)).cons (hF250.get (t := 2) (v := (.slice C b.length f)) rfl)).cons (hF250.get (t := 1) (v := (.int .i64 n)) rfl)).cons (hF250.get (t := 0) (v := (.agg #[(.slice A d.sectors.length c), (.slice B d.pending.length e), (.int .i64 d.left), (.bool d.stopped)])) rfl))
    clear hF250
    refine wp_cond_true (c_true hF251 rfl rfl) ?_
    refine wp_seq_k (fun K252 hK252 => ?_)
    refine wp_region_lit ?_
    refine wpl_op (i := 0) rfl (o_val (v := (.bool true)) hF251 rfl rfl rfl rfl (rn_assign rfl) ?_)
    intro a253 hF254; clear hF251
    refine wpList_nil ?_
    refine hK252 _ _ ?_
    clear hK252
    refine wp_ret ?_
    refine ret1 hF254 rfl rfl ?_
    exact ⟨congrArg (fun b => Ending.returned (.bool b)) (rfl : true = true), ((((Ext.refl w).trans hx5).trans hx15).trans hx28)⟩

end Go.Proofs.Ytklhgghlkidfjaa
