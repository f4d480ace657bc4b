/- The law DiskReads, walked. -/
import Derived.Test.YtklhgghlkidfjaaLawA
import Derived.Test.YtklhgghlkidfjaaSane
import Derived.Test.YtklhgghlkidfjaaPlain
namespace Go.Proofs.Ytklhgghlkidfjaa
open Go.RowKit

variable {S S' : Nat → Prop}

set_option maxRecDepth 100000 in
set_option maxHeartbeats 4000000 in
theorem reads_any (A : Option Addr) (c : Nat) (B : Option Addr) (e : Nat) (d : Dk) (n m : Int) (C : Option Addr) (f : Nat) (b : List UInt8) (E : Option Addr) (g : Nat) (q : List UInt8) (w : World) (hd : RDk (Old w) w (.agg #[.slice A d.sectors.length c, .slice B d.pending.length e, .int .i64 d.left, .bool d.stopped]) d) (s1 : ∀ x ∈ d.sectors, x.length ≤ 140737488355328) (s2 : ∀ x ∈ d.pending, x.2.length ≤ 140737488355328) (hb : RBs (Old w) w (.slice C b.length f) b) (s3 : b.length ≤ 140737488355328) (hq : RBs (Old w) w (.slice E q.length g) q) (s4 : q.length ≤ 140737488355328) :
    Calls Try.prog 7 #[(.agg #[(.slice A d.sectors.length c), (.slice B d.pending.length e), (.int .i64 d.left), (.bool d.stopped)]), (.int .i64 n), (.int .i64 m), (.slice C b.length f), (.slice E q.length g)] w (RB w true) := by
  obtain ⟨hq1, hq2⟩ := (RDk.len hd).1.at.2.1
  refine calls_enter (l := [(.agg #[(.slice A d.sectors.length c), (.slice B d.pending.length e), (.int .i64 d.left), (.bool d.stopped)]), (.int .i64 n), (.int .i64 m), (.slice C b.length f), (.slice E q.length g)]) Try.func7 rfl rfl rfl (fun a hF => ?_)
  refine wp_seq_k (fun K1 hK1 => ?_)
  refine wp_region_lit ?_
  refine wpl_op (i := 0) rfl (o_new (fun g => (.pointer (some ⟨g, 0, none⟩))) [(.slice A d.sectors.length c), (.slice B d.pending.length e), (.int .i64 d.left), (.bool d.stopped)] 25 hF rfl rfl rfl rfl (rn_box (hF.get rfl) (by kernel_rfl)) ?_)
  intro g2 w3 a8 hF9 z6 z7 b4 hx5; clear hF
  refine wpl_op (i := 1) rfl (o_val (v := (.bool false)) hF9 rfl rfl rfl rfl (rn_assign rfl) ?_)
  intro a10 hF11; clear hF9
  refine wpList_nil ?_
  refine hK1 _ _ ?_
  clear hK1
  refine wp_seq_k (fun K12 hK12 => ?_)
  refine wp_seq_k (fun K13 hK13 => ?_)
  refine wp_region_lit ?_
  refine wpl_op (i := 0) rfl (o_call hF11 rfl rfl rfl rfl (rn_call (args0 ) rfl (by kernel_rfl)) (sane_any _) ?_)
  rintro _ w14 ⟨rfl, hx15⟩
  refine ⟨_, rfl, ?_⟩; intro a16 hF17; clear hF11; have z18 := hx15.size
  refine wpl_op (i := 1) rfl (o_val (v := (.bool false)) hF17 rfl rfl rfl rfl (rn_not' (hF17.get rfl) rfl) ?_)
  intro a19 hF20; clear hF17
  refine wpList_nil ?_
  refine hK13 _ _ ?_
  clear hK13
  refine wp_cond_false (c_false hF20 rfl rfl) ?_
  refine wp_skip ?_
  refine hK12 _ _ ?_
  clear hK12
  refine wp_seq_k (fun K21 hK21 => ?_)
  refine wp_seq_k (fun K22 hK22 => ?_)
  refine wp_region_lit ?_
  have b23 : Blk w14 g2 25 [(.slice A d.sectors.length c), (.slice B d.pending.length e), (.int .i64 d.left), (.bool d.stopped)] := (b4.ext hx15)
  refine wpl_op (i := 0) rfl (o_val (v := (.agg #[(.slice A d.sectors.length c), (.slice B d.pending.length e), (.int .i64 d.left), (.bool d.stopped)])) hF20 rfl rfl rfl rfl (rn_loadBlk (hF20.get rfl) b23 Try.underlying25 rfl (by kernel_rfl : (Try.prog.info? 25).map (·.size) = some 4)) ?_)
  intro a24 hF25; clear hF20
  have d26 := ((hd.ext hx5).ext hx15)
  refine wpl_op (i := 1) rfl (o_call hF25 rfl rfl rfl rfl (rn_call (args1 (hF25.get rfl)) rfl (by kernel_rfl)) (few_any (S := (Old w)) _ d _ d26 s1 s2) ?_)
  rintro _ w27 ⟨rfl, hx28⟩
  refine ⟨_, rfl, ?_⟩; intro a29 hF30; clear hF25; have z31 := hx28.size
  refine wpl_op (i := 2) rfl (o_val (v := (.bool (!d.few))) hF30 rfl rfl rfl rfl (rn_not' (hF30.get rfl) rfl) ?_)
  intro a32 hF33; clear hF30
  refine wpl_op (i := 3) rfl (o_val (v := (.bool (!d.few))) hF33 rfl rfl rfl rfl (rn_move (hF33.get rfl)) ?_)
  intro a34 hF35; clear hF33
  rcases Bool.eq_false_or_eq_true d.few with hc36 | hc36
  · skip
    refine wpl_op (i := 4) rfl (o_val (v := (.slice C b.length f)) hF35 rfl (wanted_guard rfl rfl rfl hF35 rfl (not_t hc36) rfl) rfl rfl (rn_move (hF35.get rfl)) ?_)
    intro a37 hF38; clear hF35
    refine wpl_op (i := 5) rfl (o_val (v := (.int .i64 (b.length : Nat))) hF38 rfl (wanted_guard rfl rfl rfl hF38 rfl (not_t hc36) rfl) rfl rfl (rn_len_slice Try.underlying35 (hF38.get rfl)) ?_)
    intro a39 hF40; clear hF38
    refine wpl_op (i := 6) rfl (o_val (v := (.bool (decide ((128 : Int) < ((b.length : Nat) : Int))))) hF40 rfl (wanted_guard rfl rfl rfl hF40 rfl (not_t hc36) rfl) rfl rfl (rn_gtr (hF40.get rfl) rfl) ?_)
    intro a41 hF42; clear hF40
    refine wpl_op (i := 7) rfl (o_val (v := (.bool (decide ((128 : Int) < ((b.length : Nat) : Int))))) hF42 rfl rfl rfl rfl (rn_pickF (c_false hF42 rfl (not_t hc36)) (hF42.get rfl)) ?_)
    intro a43 hF44; clear hF42
    refine wpl_op (i := 8) rfl (o_val (v := (.bool (decide ((128 : Int) < ((b.length : Nat) : Int))))) hF44 rfl rfl rfl rfl (rn_move (hF44.get rfl)) ?_)
    intro a45 hF46; clear hF44
    by_cases hc47 : (128 : Int) < ((b.length : Nat) : Int)
    · skip
      refine wpl_op (i := 9) rfl (o_skip hF46 rfl (unwanted_guard rfl rfl rfl hF46 rfl (decide_eq_true hc47) rfl) rfl rfl ?_)
      intro a48 hF49; clear hF46
      refine wpl_op (i := 10) rfl (o_skip hF49 rfl (unwanted_guard rfl rfl rfl hF49 rfl (decide_eq_true hc47) rfl) rfl rfl ?_)
      intro a50 hF51; clear hF49
      refine wpl_op (i := 11) rfl (o_skip hF51 rfl (unwanted_guard rfl rfl rfl hF51 rfl (decide_eq_true hc47) rfl) rfl rfl ?_)
      intro a52 hF53; clear hF51
      refine wpl_op (i := 12) rfl (o_val (v := (.bool true)) hF53 rfl rfl rfl rfl (rn_pickT (c_true hF53 rfl (decide_eq_true hc47)) rfl) ?_)
      intro a54 hF55; clear hF53
      refine wpList_nil ?_
      refine hK22 _ _ ?_
      clear hK22
      have hF56 := (((((((((hF55.nil.cons (hF55.get (t := 42) (v := (.bool true)) rfl)).cons (hF55.get (t := 29) (v := (.bool false)) rfl)).cons (hF55.get (t := 10) (v := (.bool false)) rfl)).cons (hF55.get (t := 5) (v := (.pointer (some ⟨g2, 0, none⟩))) rfl)).cons (hF55.get (t := 4) (v := (.slice E q.length g)) rfl)).cons (hF55.get (t := 3) (v := (.slice C b.length f)) rfl)).cons (hF55.get (t := 2) (v := (.int .i64 m)) rfl)).cons (hF55.get (t := 1) (v := (.int .i64 n)) rfl)).cons (hF55.get (t := 0) (v := (.agg #[(.slice A d.sectors.length c), (.slice B d.pending.length e), (.int .i64 d.left), (.bool d.stopped)])) rfl))
      clear hF55
      refine wp_cond_true (c_true hF56 rfl rfl) ?_
      refine wp_seq_k (fun K57 hK57 => ?_)
      refine wp_region_lit ?_
      refine wpl_op (i := 0) rfl (o_val (v := (.bool true)) hF56 rfl rfl rfl rfl (rn_assign rfl) ?_)
      intro a58 hF59; clear hF56
      refine wpList_nil ?_
      refine hK57 _ _ ?_
      clear hK57
      refine wp_ret ?_
      refine ret1 hF59 rfl rfl ?_
      exact ⟨congrArg (fun b => Ending.returned (.bool b)) (rfl : true = true), ((((Ext.refl w).trans hx5).trans hx15).trans hx28)⟩
    · skip
      refine wpl_op (i := 9) rfl (o_val (v := (.slice E q.length g)) hF46 rfl (wanted_guard rfl rfl rfl hF46 rfl (decide_eq_false hc47) rfl) rfl rfl (rn_move (hF46.get rfl)) ?_)
      intro a60 hF61; clear hF46
      refine wpl_op (i := 10) rfl (o_val (v := (.int .i64 (q.length : Nat))) hF61 rfl (wanted_guard rfl rfl rfl hF61 rfl (decide_eq_false hc47) rfl) rfl rfl (rn_len_slice Try.underlying35 (hF61.get rfl)) ?_)
      intro a62 hF63; clear hF61
      refine wpl_op (i := 11) rfl (o_val (v := (.bool (decide ((128 : Int) < ((q.length : Nat) : Int))))) hF63 rfl (wanted_guard rfl rfl rfl hF63 rfl (decide_eq_false hc47) rfl) rfl rfl (rn_gtr (hF63.get rfl) rfl) ?_)
      intro a64 hF65; clear hF63
      refine wpl_op (i := 12) rfl (o_val (v := (.bool (decide ((128 : Int) < ((q.length : Nat) : Int))))) hF65 rfl rfl rfl rfl (rn_pickF (c_false hF65 rfl (decide_eq_false hc47)) (hF65.get rfl)) ?_)
      intro a66 hF67; clear hF65
      refine wpList_nil ?_
      refine hK22 _ _ ?_
      clear hK22
      have hF68 := (((((((((hF67.nil.cons (hF67.get (t := 42) (v := (.bool (decide ((128 : Int) < ((q.length : Nat) : Int))))) rfl)).cons (hF67.get (t := 29) (v := (.bool false)) rfl)).cons (hF67.get (t := 10) (v := (.bool false)) rfl)).cons (hF67.get (t := 5) (v := (.pointer (some ⟨g2, 0, none⟩))) rfl)).cons (hF67.get (t := 4) (v := (.slice E q.length g)) rfl)).cons (hF67.get (t := 3) (v := (.slice C b.length f)) rfl)).cons (hF67.get (t := 2) (v := (.int .i64 m)) rfl)).cons (hF67.get (t := 1) (v := (.int .i64 n)) rfl)).cons (hF67.get (t := 0) (v := (.agg #[(.slice A d.sectors.length c), (.slice B d.pending.length e), (.int .i64 d.left), (.bool d.stopped)])) rfl))
      clear hF67
      by_cases hc69 : (128 : Int) < ((q.length : Nat) : Int)
      · skip
        refine wp_cond_true (c_true hF68 rfl (decide_eq_true hc69)) ?_
        refine wp_seq_k (fun K70 hK70 => ?_)
        refine wp_region_lit ?_
        refine wpl_op (i := 0) rfl (o_val (v := (.bool true)) hF68 rfl rfl rfl rfl (rn_assign rfl) ?_)
        intro a71 hF72; clear hF68
        refine wpList_nil ?_
        refine hK70 _ _ ?_
        clear hK70
        refine wp_ret ?_
        refine ret1 hF72 rfl rfl ?_
        exact ⟨congrArg (fun b => Ending.returned (.bool b)) (rfl : true = true), ((((Ext.refl w).trans hx5).trans hx15).trans hx28)⟩
      · skip
        refine wp_cond_false (c_false hF68 rfl (decide_eq_false hc69)) ?_
        refine wp_skip ?_
        refine hK21 _ _ ?_
        clear hK21
        refine wp_seq_k (fun K73 hK73 => ?_)
        refine wp_region_lit ?_
        have b74 : Blk w27 g2 25 [(.slice A d.sectors.length c), (.slice B d.pending.length e), (.int .i64 d.left), (.bool d.stopped)] := (b23.ext hx28)
        refine wpl_op (i := 0) rfl (o_val (v := (.agg #[(.slice A d.sectors.length c), (.slice B d.pending.length e), (.int .i64 d.left), (.bool d.stopped)])) hF68 rfl rfl rfl rfl (rn_loadBlk (hF68.get rfl) b74 Try.underlying25 rfl (by kernel_rfl : (Try.prog.info? 25).map (·.size) = some 4)) ?_)
        intro a75 hF76; clear hF68
        refine wpl_op (i := 1) rfl (o_val (v := (.int .i64 m)) hF76 rfl rfl rfl rfl (rn_move (hF76.get rfl)) ?_)
        intro a77 hF78; clear hF76
        have d79 := (((hd.ext hx5).ext hx15).ext hx28)
        refine wpl_op (i := 2) rfl (o_call hF78 rfl rfl rfl rfl (rn_call (args2 (hF78.get rfl) (hF78.get rfl)) rfl (by kernel_rfl)) (read_any (S := (Old w)) _ d _ _ d79) ?_)
        rintro _ w86 ⟨v83, rfl, hb82, hx87⟩
        obtain ⟨A80, c81, rfl, le84, le85⟩ := hb82.form
        have hb82 := hb82.clip
        refine ⟨_, rfl, ?_⟩; intro a88 hF89; clear hF78; have z90 := hx87.size
        refine wpl_op (i := 3) rfl (o_val (v := (.tuple #[(.slice A80 (((d.read m).1).length) c81), (.int .i64 ((d.read m).2))])) hF89 rfl rfl rfl rfl (rn_move (hF89.get rfl)) ?_)
        intro a91 hF92; clear hF89
        refine wpl_op (i := 4) rfl (o_val (v := (.slice A80 (((d.read m).1).length) c81)) hF92 rfl rfl rfl rfl (rn_extract (hF92.get rfl) rfl) ?_)
        intro a93 hF94; clear hF92
        refine wpl_op (i := 5) rfl (o_val (v := (.int .i64 ((d.read m).2))) hF94 rfl rfl rfl rfl (rn_extract (hF94.get rfl) rfl) ?_)
        intro a95 hF96; clear hF94
        refine wpl_op (i := 6) rfl (o_val (v := (.slice A80 (((d.read m).1).length) c81)) hF96 rfl rfl rfl rfl (rn_assign (hF96.get rfl)) ?_)
        intro a97 hF98; clear hF96
        refine wpl_op (i := 7) rfl (o_val (v := (.int .i64 ((d.read m).2))) hF98 rfl rfl rfl rfl (rn_assign (hF98.get rfl)) ?_)
        intro a99 hF100; clear hF98
        refine wpList_nil ?_
        refine hK73 _ _ ?_
        clear hK73
        have hF101 := (((((((((((hF100.nil.cons (hF100.get (t := 12) (v := (.int .i64 ((d.read m).2))) rfl)).cons (hF100.get (t := 11) (v := (.slice A80 (((d.read m).1).length) c81)) rfl)).cons (hF100.get (t := 42) (v := (.bool (decide ((128 : Int) < ((q.length : Nat) : Int))))) rfl)).cons (hF100.get (t := 29) (v := (.bool false)) rfl)).cons (hF100.get (t := 10) (v := (.bool false)) rfl)).cons (hF100.get (t := 5) (v := (.pointer (some ⟨g2, 0, none⟩))) rfl)).cons (hF100.get (t := 4) (v := (.slice E q.length g)) rfl)).cons (hF100.get (t := 3) (v := (.slice C b.length f)) rfl)).cons (hF100.get (t := 2) (v := (.int .i64 m)) rfl)).cons (hF100.get (t := 1) (v := (.int .i64 n)) rfl)).cons (hF100.get (t := 0) (v := (.agg #[(.slice A d.sectors.length c), (.slice B d.pending.length e), (.int .i64 d.left), (.bool d.stopped)])) rfl))
        clear hF100
        refine wp_seq_k (fun K102 hK102 => ?_)
        refine wp_region_lit ?_
        have b103 : Blk w86 g2 25 [(.slice A d.sectors.length c), (.slice B d.pending.length e), (.int .i64 d.left), (.bool d.stopped)] := (b74.ext hx87)
        refine wpl_op (i := 0) rfl (o_val (v := (.agg #[(.slice A d.sectors.length c), (.slice B d.pending.length e), (.int .i64 d.left), (.bool d.stopped)])) hF101 rfl rfl rfl rfl (rn_loadBlk (hF101.get rfl) b103 Try.underlying25 rfl (by kernel_rfl : (Try.prog.info? 25).map (·.size) = some 4)) ?_)
        intro a104 hF105; clear hF101
        refine wpl_op (i := 1) rfl (o_val (v := (.int .i64 n)) hF105 rfl rfl rfl rfl (rn_move (hF105.get rfl)) ?_)
        intro a106 hF107; clear hF105
        refine wpl_op (i := 2) rfl (o_val (v := (.slice C b.length f)) hF107 rfl rfl rfl rfl (rn_move (hF107.get rfl)) ?_)
        intro a108 hF109; clear hF107
        have d110 := ((((hd.ext hx5).ext hx15).ext hx28).ext hx87)
        have d111 := ((((hb.ext hx5).ext hx15).ext hx28).ext hx87)
        refine wpl_op (i := 3) rfl (o_call hF109 rfl rfl rfl rfl (rn_call (args3 (hF109.get rfl) (hF109.get rfl) (hF109.get rfl)) rfl (by kernel_rfl)) (write_any (S := (fun b => (Old w) b ∨ (Old w) b)) _ _ d _ b _ (d110.sub (fun _ => Or.inl)) (d111.sub (fun _ => Or.inr))) ?_)
        rintro _ w118 ⟨v117, rfl, hd116, hx119⟩
        obtain ⟨A112, c113, B114, e115, rfl, -, -⟩ := hd116.form
        have hd116 := hd116.clip
        refine ⟨_, rfl, ?_⟩; intro a120 hF121; clear hF109; have z122 := hx119.size
        refine wpl_op (i := 4) rfl (o_val (v := (.tuple #[(.agg #[(.slice A112 (((d.write n b).1).sectors.length) c113), (.slice B114 (((d.write n b).1).pending.length) e115), (.int .i64 (((d.write n b).1).left)), (.bool (((d.write n b).1).stopped))]), (.int .i64 ((d.write n b).2))])) hF121 rfl rfl rfl rfl (rn_move (hF121.get rfl)) ?_)
        intro a123 hF124; clear hF121
        refine wpl_op (i := 5) rfl (o_val (v := (.agg #[(.slice A112 (((d.write n b).1).sectors.length) c113), (.slice B114 (((d.write n b).1).pending.length) e115), (.int .i64 (((d.write n b).1).left)), (.bool (((d.write n b).1).stopped))])) hF124 rfl rfl rfl rfl (rn_extract (hF124.get rfl) rfl) ?_)
        intro a125 hF126; clear hF124
        refine wpl_op (i := 6) rfl (o_val (v := (.int .i64 ((d.write n b).2))) hF126 rfl rfl rfl rfl (rn_extract (hF126.get rfl) rfl) ?_)
        intro a127 hF128; clear hF126
        refine wpl_op (i := 7) rfl (o_new (fun g => (.pointer (some ⟨g, 0, none⟩))) [(.slice none 0 0), (.slice none 0 0), (.int .i64 0), (.bool false)] 25 hF128 rfl rfl rfl rfl (by kernel_rfl) ?_)
        intro g129 w130 a135 hF136 z133 z134 b131 hx132; clear hF128
        refine wpl_op (i := 8) rfl (o_store (cells := [(.slice A112 (((d.write n b).1).sectors.length) c113), (.slice B114 (((d.write n b).1).pending.length) e115), (.int .i64 (((d.write n b).1).left)), (.bool (((d.write n b).1).stopped))]) hF136 rfl rfl rfl rfl (hF136.get rfl) (hF136.get rfl) b131 (by kernel_rfl : (Try.prog.info? 25).map (·.size) = some 4) rfl (by simp [Value.oneCell']) ?_)
        intro w137 b138 hg139; have z140 := hg139.size
        refine wpl_op (i := 9) rfl (o_val (v := (.int .i64 ((d.write n b).2))) hF136 rfl rfl rfl rfl (rn_assign (hF136.get rfl)) ?_)
        intro a141 hF142; clear hF136
        refine wpList_nil ?_
        refine hK102 _ _ ?_
        clear hK102
        have hF143 := (((((((((((((hF142.nil.cons (hF142.get (t := 14) (v := (.int .i64 ((d.write n b).2))) rfl)).cons (hF142.get (t := 13) (v := (.pointer (some ⟨g129, 0, none⟩))) rfl)).cons (hF142.get (t := 12) (v := (.int .i64 ((d.read m).2))) rfl)).cons (hF142.get (t := 11) (v := (.slice A80 (((d.read m).1).length) c81)) rfl)).cons (hF142.get (t := 42) (v := (.bool (decide ((128 : Int) < ((q.length : Nat) : Int))))) rfl)).cons (hF142.get (t := 29) (v := (.bool false)) rfl)).cons (hF142.get (t := 10) (v := (.bool false)) rfl)).cons (hF142.get (t := 5) (v := (.pointer (some ⟨g2, 0, none⟩))) rfl)).cons (hF142.get (t := 4) (v := (.slice E q.length g)) rfl)).cons (hF142.get (t := 3) (v := (.slice C b.length f)) rfl)).cons (hF142.get (t := 2) (v := (.int .i64 m)) rfl)).cons (hF142.get (t := 1) (v := (.int .i64 n)) rfl)).cons (hF142.get (t := 0) (v := (.agg #[(.slice A d.sectors.length c), (.slice B d.pending.length e), (.int .i64 d.left), (.bool d.stopped)])) rfl))
        clear hF142
        refine wp_seq_k (fun K144 hK144 => ?_)
        refine wp_seq_k (fun K145 hK145 => ?_)
        refine wp_region_lit ?_
        refine wpl_op (i := 0) rfl (o_val (v := (.int .i64 ((d.read m).2))) hF143 rfl rfl rfl rfl (rn_move (hF143.get rfl)) ?_)
        intro a146 hF147; clear hF143
        refine wpl_op (i := 1) rfl (o_val (v := (.bool (decide (((d.read m).2 : Int) ≠ (0 : Int))))) hF147 rfl rfl rfl rfl (rn_neq (hF147.get rfl) rfl) ?_)
        intro a148 hF149; clear hF147
        refine wpl_op (i := 2) rfl (o_val (v := (.bool (decide (((d.read m).2 : Int) ≠ (0 : Int))))) hF149 rfl rfl rfl rfl (rn_move (hF149.get rfl)) ?_)
        intro a150 hF151; clear hF149
        by_cases hc152 : ((d.read m).2 : Int) ≠ (0 : Int)
        · skip
          refine wpl_op (i := 3) rfl (o_skip hF151 rfl (unwanted_guard rfl rfl rfl hF151 rfl (decide_eq_true hc152) rfl) rfl rfl ?_)
          intro a153 hF154; clear hF151
          refine wpl_op (i := 4) rfl (o_skip hF154 rfl (unwanted_guard rfl rfl rfl hF154 rfl (decide_eq_true hc152) rfl) rfl rfl ?_)
          intro a155 hF156; clear hF154
          refine wpl_op (i := 5) rfl (o_val (v := (.bool true)) hF156 rfl rfl rfl rfl (rn_pickT (c_true hF156 rfl (decide_eq_true hc152)) rfl) ?_)
          intro a157 hF158; clear hF156
          refine wpList_nil ?_
          refine hK145 _ _ ?_
          clear hK145
          have hF159 := ((((((((((((((hF158.nil.cons (hF158.get (t := 61) (v := (.bool true)) rfl)).cons (hF158.get (t := 14) (v := (.int .i64 ((d.write n b).2))) rfl)).cons (hF158.get (t := 13) (v := (.pointer (some ⟨g129, 0, none⟩))) rfl)).cons (hF158.get (t := 12) (v := (.int .i64 ((d.read m).2))) rfl)).cons (hF158.get (t := 11) (v := (.slice A80 (((d.read m).1).length) c81)) rfl)).cons (hF158.get (t := 42) (v := (.bool (decide ((128 : Int) < ((q.length : Nat) : Int))))) rfl)).cons (hF158.get (t := 29) (v := (.bool false)) rfl)).cons (hF158.get (t := 10) (v := (.bool false)) rfl)).cons (hF158.get (t := 5) (v := (.pointer (some ⟨g2, 0, none⟩))) rfl)).cons (hF158.get (t := 4) (v := (.slice E q.length g)) rfl)).cons (hF158.get (t := 3) (v := (.slice C b.length f)) rfl)).cons (hF158.get (t := 2) (v := (.int .i64 m)) rfl)).cons (hF158.get (t := 1) (v := (.int .i64 n)) rfl)).cons (hF158.get (t := 0) (v := (.agg #[(.slice A d.sectors.length c), (.slice B d.pending.length e), (.int .i64 d.left), (.bool d.stopped)])) rfl))
          clear hF158
          refine wp_cond_true (c_true hF159 rfl rfl) ?_
          refine wp_seq_k (fun K160 hK160 => ?_)
          refine wp_region_lit ?_
          refine wpl_op (i := 0) rfl (o_val (v := (.bool true)) hF159 rfl rfl rfl rfl (rn_assign rfl) ?_)
          intro a161 hF162; clear hF159
          refine wpList_nil ?_
          refine hK160 _ _ ?_
          clear hK160
          refine wp_ret ?_
          refine ret1 hF162 rfl rfl ?_
          exact ⟨congrArg (fun b => Ending.returned (.bool b)) (rfl : true = true), ((((((((Ext.refl w).trans hx5).trans hx15).trans hx28).trans hx87).trans hx119).trans hx132).grownN hg139 (by omega))⟩
        · skip
          have hr0 := read0 (Decidable.not_not.1 hc152)
          refine wpl_op (i := 3) rfl (o_val (v := (.int .i64 ((d.write n b).2))) hF151 rfl (wanted_guard rfl rfl rfl hF151 rfl (decide_eq_false hc152) rfl) rfl rfl (rn_move (hF151.get rfl)) ?_)
          intro a163 hF164; clear hF151
          refine wpl_op (i := 4) rfl (o_val (v := (.bool (decide (((d.write n b).2 : Int) ≠ (0 : Int))))) hF164 rfl (wanted_guard rfl rfl rfl hF164 rfl (decide_eq_false hc152) rfl) rfl rfl (rn_neq (hF164.get rfl) rfl) ?_)
          intro a165 hF166; clear hF164
          refine wpl_op (i := 5) rfl (o_val (v := (.bool (decide (((d.write n b).2 : Int) ≠ (0 : Int))))) hF166 rfl rfl rfl rfl (rn_pickF (c_false hF166 rfl (decide_eq_false hc152)) (hF166.get rfl)) ?_)
          intro a167 hF168; clear hF166
          refine wpList_nil ?_
          refine hK145 _ _ ?_
          clear hK145
          have hF169 := ((((((((((((((hF168.nil.cons (hF168.get (t := 61) (v := (.bool (decide (((d.write n b).2 : Int) ≠ (0 : Int))))) rfl)).cons (hF168.get (t := 14) (v := (.int .i64 ((d.write n b).2))) rfl)).cons (hF168.get (t := 13) (v := (.pointer (some ⟨g129, 0, none⟩))) rfl)).cons (hF168.get (t := 12) (v := (.int .i64 ((d.read m).2))) rfl)).cons (hF168.get (t := 11) (v := (.slice A80 (((d.read m).1).length) c81)) rfl)).cons (hF168.get (t := 42) (v := (.bool (decide ((128 : Int) < ((q.length : Nat) : Int))))) rfl)).cons (hF168.get (t := 29) (v := (.bool false)) rfl)).cons (hF168.get (t := 10) (v := (.bool false)) rfl)).cons (hF168.get (t := 5) (v := (.pointer (some ⟨g2, 0, none⟩))) rfl)).cons (hF168.get (t := 4) (v := (.slice E q.length g)) rfl)).cons (hF168.get (t := 3) (v := (.slice C b.length f)) rfl)).cons (hF168.get (t := 2) (v := (.int .i64 m)) rfl)).cons (hF168.get (t := 1) (v := (.int .i64 n)) rfl)).cons (hF168.get (t := 0) (v := (.agg #[(.slice A d.sectors.length c), (.slice B d.pending.length e), (.int .i64 d.left), (.bool d.stopped)])) rfl))
          clear hF168
          by_cases hc170 : ((d.write n b).2 : Int) ≠ (0 : Int)
          · skip
            refine wp_cond_true (c_true hF169 rfl (decide_eq_true hc170)) ?_
            refine wp_seq_k (fun K171 hK171 => ?_)
            refine wp_region_lit ?_
            refine wpl_op (i := 0) rfl (o_val (v := (.bool true)) hF169 rfl rfl rfl rfl (rn_assign rfl) ?_)
            intro a172 hF173; clear hF169
            refine wpList_nil ?_
            refine hK171 _ _ ?_
            clear hK171
            refine wp_ret ?_
            refine ret1 hF173 rfl rfl ?_
            exact ⟨congrArg (fun b => Ending.returned (.bool b)) (rfl : true = true), ((((((((Ext.refl w).trans hx5).trans hx15).trans hx28).trans hx87).trans hx119).trans hx132).grownN hg139 (by omega))⟩
          · skip
            have hw0 := Decidable.not_not.1 hc170
            have hwr := write_runs hw0
            have hwf := write0 hw0
            have hra := read_of hwr ((write_has hw0).trans hr0.2)
            have hrb := read_of hwr ((write_has hw0).trans hwf.2.1)
            have hml : ((d.write n b).1.read n).1.length = 128 := by rw [hrb]; exact look_len hwr ((write_has hw0).trans hwf.2.1)
            refine wp_cond_false (c_false hF169 rfl (decide_eq_false hc170)) ?_
            refine wp_skip ?_
            refine hK144 _ _ ?_
            clear hK144
            refine wp_seq_k (fun K174 hK174 => ?_)
            refine wp_region_lit ?_
            refine wpl_op (i := 0) rfl (o_val (v := (.agg #[(.slice A112 (((d.write n b).1).sectors.length) c113), (.slice B114 (((d.write n b).1).pending.length) e115), (.int .i64 (((d.write n b).1).left)), (.bool (((d.write n b).1).stopped))])) hF169 rfl rfl rfl rfl (rn_loadBlk (hF169.get rfl) b138 Try.underlying25 rfl (by kernel_rfl : (Try.prog.info? 25).map (·.size) = some 4)) ?_)
            intro a175 hF176; clear hF169
            refine wpl_op (i := 1) rfl (o_val (v := (.int .i64 m)) hF176 rfl rfl rfl rfl (rn_move (hF176.get rfl)) ?_)
            intro a177 hF178; clear hF176
            have d179 := (hd116.pres (((Pres.refl w118).ext hx132).grownN hg139 (fun h => by simp only [Clip, Fr, Old] at h; omega)))
            refine wpl_op (i := 2) rfl (o_call hF178 rfl rfl rfl rfl (rn_call (args2 (hF178.get rfl) (hF178.get rfl)) rfl (by kernel_rfl)) (read_any (S := (Clip (Fr (fun b => (Old w) b ∨ (Old w) b) w86) w118)) _ ((d.write n b).1) _ _ d179) ?_)
            rintro _ w186 ⟨v183, rfl, hb182, hx187⟩
            obtain ⟨A180, c181, rfl, le184, le185⟩ := hb182.form
            have hb182 := hb182.clip
            refine ⟨_, rfl, ?_⟩; intro a188 hF189; clear hF178; have z190 := hx187.size
            refine wpl_op (i := 3) rfl (o_val (v := (.tuple #[(.slice A180 (((((d.write n b).1).read m).1).length) c181), (.int .i64 ((((d.write n b).1).read m).2))])) hF189 rfl rfl rfl rfl (rn_move (hF189.get rfl)) ?_)
            intro a191 hF192; clear hF189
            refine wpl_op (i := 4) rfl (o_val (v := (.slice A180 (((((d.write n b).1).read m).1).length) c181)) hF192 rfl rfl rfl rfl (rn_extract (hF192.get rfl) rfl) ?_)
            intro a193 hF194; clear hF192
            refine wpl_op (i := 5) rfl (o_val (v := (.int .i64 ((((d.write n b).1).read m).2))) hF194 rfl rfl rfl rfl (rn_extract (hF194.get rfl) rfl) ?_)
            intro a195 hF196; clear hF194
            refine wpl_op (i := 6) rfl (o_val (v := (.slice A180 (((((d.write n b).1).read m).1).length) c181)) hF196 rfl rfl rfl rfl (rn_assign (hF196.get rfl)) ?_)
            intro a197 hF198; clear hF196
            refine wpl_op (i := 7) rfl (o_val (v := (.int .i64 ((((d.write n b).1).read m).2))) hF198 rfl rfl rfl rfl (rn_assign (hF198.get rfl)) ?_)
            intro a199 hF200; clear hF198
            refine wpList_nil ?_
            refine hK174 _ _ ?_
            clear hK174
            have hF201 := ((((((((((((((((hF200.nil.cons (hF200.get (t := 16) (v := (.int .i64 ((((d.write n b).1).read m).2))) rfl)).cons (hF200.get (t := 15) (v := (.slice A180 (((((d.write n b).1).read m).1).length) c181)) rfl)).cons (hF200.get (t := 61) (v := (.bool (decide (((d.write n b).2 : Int) ≠ (0 : Int))))) rfl)).cons (hF200.get (t := 14) (v := (.int .i64 ((d.write n b).2))) rfl)).cons (hF200.get (t := 13) (v := (.pointer (some ⟨g129, 0, none⟩))) rfl)).cons (hF200.get (t := 12) (v := (.int .i64 ((d.read m).2))) rfl)).cons (hF200.get (t := 11) (v := (.slice A80 (((d.read m).1).length) c81)) rfl)).cons (hF200.get (t := 42) (v := (.bool (decide ((128 : Int) < ((q.length : Nat) : Int))))) rfl)).cons (hF200.get (t := 29) (v := (.bool false)) rfl)).cons (hF200.get (t := 10) (v := (.bool false)) rfl)).cons (hF200.get (t := 5) (v := (.pointer (some ⟨g2, 0, none⟩))) rfl)).cons (hF200.get (t := 4) (v := (.slice E q.length g)) rfl)).cons (hF200.get (t := 3) (v := (.slice C b.length f)) rfl)).cons (hF200.get (t := 2) (v := (.int .i64 m)) rfl)).cons (hF200.get (t := 1) (v := (.int .i64 n)) rfl)).cons (hF200.get (t := 0) (v := (.agg #[(.slice A d.sectors.length c), (.slice B d.pending.length e), (.int .i64 d.left), (.bool d.stopped)])) rfl))
            clear hF200
            refine wp_seq_k (fun K202 hK202 => ?_)
            refine wp_region_lit ?_
            have b203 : Blk w186 g129 25 [(.slice A112 (((d.write n b).1).sectors.length) c113), (.slice B114 (((d.write n b).1).pending.length) e115), (.int .i64 (((d.write n b).1).left)), (.bool (((d.write n b).1).stopped))] := (b138.ext hx187)
            refine wpl_op (i := 0) rfl (o_val (v := (.agg #[(.slice A112 (((d.write n b).1).sectors.length) c113), (.slice B114 (((d.write n b).1).pending.length) e115), (.int .i64 (((d.write n b).1).left)), (.bool (((d.write n b).1).stopped))])) hF201 rfl rfl rfl rfl (rn_loadBlk (hF201.get rfl) b203 Try.underlying25 rfl (by kernel_rfl : (Try.prog.info? 25).map (·.size) = some 4)) ?_)
            intro a204 hF205; clear hF201
            refine wpl_op (i := 1) rfl (o_val (v := (.int .i64 n)) hF205 rfl rfl rfl rfl (rn_move (hF205.get rfl)) ?_)
            intro a206 hF207; clear hF205
            have d208 := (hd116.pres ((((Pres.refl w118).ext hx132).grownN hg139 (fun h => by simp only [Clip, Fr, Old] at h; omega)).ext hx187))
            refine wpl_op (i := 2) rfl (o_call hF207 rfl rfl rfl rfl (rn_call (args2 (hF207.get rfl) (hF207.get rfl)) rfl (by kernel_rfl)) (read_any (S := (Clip (Fr (fun b => (Old w) b ∨ (Old w) b) w86) w118)) _ ((d.write n b).1) _ _ d208) ?_)
            rintro _ w215 ⟨v212, rfl, hb211, hx216⟩
            obtain ⟨A209, c210, rfl, le213, le214⟩ := hb211.form
            have hb211 := hb211.clip
            refine ⟨_, rfl, ?_⟩; intro a217 hF218; clear hF207; have z219 := hx216.size
            refine wpl_op (i := 3) rfl (o_val (v := (.tuple #[(.slice A209 (((((d.write n b).1).read n).1).length) c210), (.int .i64 ((((d.write n b).1).read n).2))])) hF218 rfl rfl rfl rfl (rn_move (hF218.get rfl)) ?_)
            intro a220 hF221; clear hF218
            refine wpl_op (i := 4) rfl (o_val (v := (.slice A209 (((((d.write n b).1).read n).1).length) c210)) hF221 rfl rfl rfl rfl (rn_extract (hF221.get rfl) rfl) ?_)
            intro a222 hF223; clear hF221
            refine wpl_op (i := 5) rfl (o_val (v := (.int .i64 ((((d.write n b).1).read n).2))) hF223 rfl rfl rfl rfl (rn_extract (hF223.get rfl) rfl) ?_)
            intro a224 hF225; clear hF223
            refine wpl_op (i := 6) rfl (o_val (v := (.slice A209 (((((d.write n b).1).read n).1).length) c210)) hF225 rfl rfl rfl rfl (rn_assign (hF225.get rfl)) ?_)
            intro a226 hF227; clear hF225
            refine wpl_op (i := 7) rfl (o_val (v := (.int .i64 ((((d.write n b).1).read n).2))) hF227 rfl rfl rfl rfl (rn_assign (hF227.get rfl)) ?_)
            intro a228 hF229; clear hF227
            refine wpList_nil ?_
            refine hK202 _ _ ?_
            clear hK202
            have hF230 := ((((((((((((((((((hF229.nil.cons (hF229.get (t := 18) (v := (.int .i64 ((((d.write n b).1).read n).2))) rfl)).cons (hF229.get (t := 17) (v := (.slice A209 (((((d.write n b).1).read n).1).length) c210)) rfl)).cons (hF229.get (t := 16) (v := (.int .i64 ((((d.write n b).1).read m).2))) rfl)).cons (hF229.get (t := 15) (v := (.slice A180 (((((d.write n b).1).read m).1).length) c181)) rfl)).cons (hF229.get (t := 61) (v := (.bool (decide (((d.write n b).2 : Int) ≠ (0 : Int))))) rfl)).cons (hF229.get (t := 14) (v := (.int .i64 ((d.write n b).2))) rfl)).cons (hF229.get (t := 13) (v := (.pointer (some ⟨g129, 0, none⟩))) rfl)).cons (hF229.get (t := 12) (v := (.int .i64 ((d.read m).2))) rfl)).cons (hF229.get (t := 11) (v := (.slice A80 (((d.read m).1).length) c81)) rfl)).cons (hF229.get (t := 42) (v := (.bool (decide ((128 : Int) < ((q.length : Nat) : Int))))) rfl)).cons (hF229.get (t := 29) (v := (.bool false)) rfl)).cons (hF229.get (t := 10) (v := (.bool false)) rfl)).cons (hF229.get (t := 5) (v := (.pointer (some ⟨g2, 0, none⟩))) rfl)).cons (hF229.get (t := 4) (v := (.slice E q.length g)) rfl)).cons (hF229.get (t := 3) (v := (.slice C b.length f)) rfl)).cons (hF229.get (t := 2) (v := (.int .i64 m)) rfl)).cons (hF229.get (t := 1) (v := (.int .i64 n)) rfl)).cons (hF229.get (t := 0) (v := (.agg #[(.slice A d.sectors.length c), (.slice B d.pending.length e), (.int .i64 d.left), (.bool d.stopped)])) rfl))
            clear hF229
            refine wp_seq_k (fun K231 hK231 => ?_)
            refine wp_seq_k (fun K232 hK232 => ?_)
            have hx234 : ∃ W, w215.drew = W ∧ Ext w215 W := ⟨_, rfl, (Ext.refl _).drew⟩
            obtain ⟨w233, e235, hx234⟩ := hx234
            have z236 := hx234.size
            refine any_start (fun W => Ext w233 W) (fun i => false) 33 #[false, false, false, false, false, false, false, false, false, false, false, false, false, false, false, false, false, false, false, false, false, false, false, false, false, false, false, false, false, false, false, false, false] rfl rfl rfl ?_
            rw [e235]; clear e235
            refine any_pure (i := 0) (v := (.int .i64 ((((d.write n b).1).read m).2))) hF230 (by decide +kernel) (by decide +kernel) rfl rfl rfl rfl (fun _ _ _ _ h => h) rfl (fun W => (rn_move (hF230.get rfl))) ?_
            intro a237 hF238; clear hF230
            refine any_pure (i := 1) (v := (.bool (decide (((((d.write n b).1).read m).2 : Int) ≠ (0 : Int))))) hF238 (by decide +kernel) (by decide +kernel) rfl rfl rfl rfl (fun _ _ _ _ h => h) rfl (fun W => (rn_neq (hF238.get rfl) rfl)) ?_
            intro a239 hF240; clear hF238
            refine any_pure (i := 2) (v := (.bool (decide (((((d.write n b).1).read m).2 : Int) ≠ (0 : Int))))) hF240 (by decide +kernel) (by decide +kernel) rfl rfl rfl rfl (fun _ _ _ _ h => h) rfl (fun W => (rn_move (hF240.get rfl))) ?_
            intro a241 hF242; clear hF240
            refine any_pure (i := 3) (v := (.int .i64 ((((d.write n b).1).read n).2))) hF242 (by decide +kernel) (by decide +kernel) rfl rfl rfl rfl (fun _ _ _ _ h => h) (wanted_guard rfl rfl rfl hF242 rfl ((decide_eq_false (by rw [hra]; simp)) : decide (((((d.write n b).1).read m).2 : Int) ≠ (0 : Int)) = false) rfl) (fun W => (rn_move (hF242.get rfl))) ?_
            intro a244 hF245; clear hF242
            refine any_pure (i := 4) (v := (.bool (decide (((((d.write n b).1).read n).2 : Int) ≠ (0 : Int))))) hF245 (by decide +kernel) (by decide +kernel) rfl rfl rfl rfl (fun _ _ _ _ h => h) (wanted_guard rfl rfl rfl hF245 rfl ((decide_eq_false (by rw [hra]; simp)) : decide (((((d.write n b).1).read m).2 : Int) ≠ (0 : Int)) = false) rfl) (fun W => (rn_neq (hF245.get rfl) rfl)) ?_
            intro a246 hF247; clear hF245
            refine any_pure (i := 5) (v := (.bool (decide (((((d.write n b).1).read n).2 : Int) ≠ (0 : Int))))) hF247 (by decide +kernel) (by decide +kernel) rfl rfl rfl rfl (fun _ _ _ _ h => h) rfl (fun W => (rn_pickF (c_false hF247 rfl ((decide_eq_false (by rw [hra]; simp)) : decide (((((d.write n b).1).read m).2 : Int) ≠ (0 : Int)) = false)) (hF247.get rfl))) ?_
            intro a248 hF249; clear hF247
            refine any_pure (i := 6) (v := (.bool (decide (((((d.write n b).1).read n).2 : Int) ≠ (0 : Int))))) hF249 (by decide +kernel) (by decide +kernel) rfl rfl rfl rfl (fun _ _ _ _ h => h) rfl (fun W => (rn_move (hF249.get rfl))) ?_
            intro a250 hF251; clear hF249
            refine any_pure (i := 7) (v := (.slice A209 (((((d.write n b).1).read n).1).length) c210)) hF251 (by decide +kernel) (by decide +kernel) rfl rfl rfl rfl (fun _ _ _ _ h => h) (wanted_guard rfl rfl rfl hF251 rfl ((decide_eq_false (by rw [hrb]; simp)) : decide (((((d.write n b).1).read n).2 : Int) ≠ (0 : Int)) = false) rfl) (fun W => (rn_move (hF251.get rfl))) ?_
            intro a253 hF254; clear hF251
            refine any_pure (i := 8) (v := (.int .i64 (((((d.write n b).1).read n).1).length : Nat))) hF254 (by decide +kernel) (by decide +kernel) rfl rfl rfl rfl (fun _ _ _ _ h => h) (wanted_guard rfl rfl rfl hF254 rfl ((decide_eq_false (by rw [hrb]; simp)) : decide (((((d.write n b).1).read n).2 : Int) ≠ (0 : Int)) = false) rfl) (fun W => (rn_len_slice Try.underlying35 (hF254.get rfl))) ?_
            intro a255 hF256; clear hF254
            refine any_pure (i := 9) (v := (.bool (decide (((((((d.write n b).1).read n).1).length : Nat) : Int) ≠ (128 : Int))))) hF256 (by decide +kernel) (by decide +kernel) rfl rfl rfl rfl (fun _ _ _ _ h => h) (wanted_guard rfl rfl rfl hF256 rfl ((decide_eq_false (by rw [hrb]; simp)) : decide (((((d.write n b).1).read n).2 : Int) ≠ (0 : Int)) = false) rfl) (fun W => (rn_neq (hF256.get rfl) rfl)) ?_
            intro a257 hF258; clear hF256
            refine any_pure (i := 10) (v := (.bool (decide (((((((d.write n b).1).read n).1).length : Nat) : Int) ≠ (128 : Int))))) hF258 (by decide +kernel) (by decide +kernel) rfl rfl rfl rfl (fun _ _ _ _ h => h) rfl (fun W => (rn_pickF (c_false hF258 rfl ((decide_eq_false (by rw [hrb]; simp)) : decide (((((d.write n b).1).read n).2 : Int) ≠ (0 : Int)) = false)) (hF258.get rfl))) ?_
            intro a259 hF260; clear hF258
            refine any_pure (i := 11) (v := (.bool (decide (((((((d.write n b).1).read n).1).length : Nat) : Int) ≠ (128 : Int))))) hF260 (by decide +kernel) (by decide +kernel) rfl rfl rfl rfl (fun _ _ _ _ h => h) rfl (fun W => (rn_move (hF260.get rfl))) ?_
            intro a261 hF262; clear hF260
            refine any_pure (i := 12) (v := (.slice A209 (((((d.write n b).1).read n).1).length) c210)) hF262 (by decide +kernel) (by decide +kernel) rfl rfl rfl rfl (fun _ _ _ _ h => h) (wanted_guard rfl rfl rfl hF262 rfl ((decide_eq_false (by omega)) : decide (((((((d.write n b).1).read n).1).length : Nat) : Int) ≠ (128 : Int)) = false) rfl) (fun W => (rn_move (hF262.get rfl))) ?_
            intro a264 hF265; clear hF262
            refine any_pure (i := 13) (v := (.slice C b.length f)) hF265 (by decide +kernel) (by decide +kernel) rfl rfl rfl rfl (fun _ _ _ _ h => h) (wanted_guard rfl rfl rfl hF265 rfl ((decide_eq_false (by omega)) : decide (((((((d.write n b).1).read n).1).length : Nat) : Int) ≠ (128 : Int)) = false) rfl) (fun W => (rn_move (hF265.get rfl))) ?_
            intro a266 hF267; clear hF265
            refine any_pure (i := 14) (v := (.int .i64 (b.length : Nat))) hF267 (by decide +kernel) (by decide +kernel) rfl rfl rfl rfl (fun _ _ _ _ h => h) (wanted_guard rfl rfl rfl hF267 rfl ((decide_eq_false (by omega)) : decide (((((((d.write n b).1).read n).1).length : Nat) : Int) ≠ (128 : Int)) = false) rfl) (fun W => (rn_len_slice Try.underlying35 (hF267.get rfl))) ?_
            intro a268 hF269; clear hF267
            refine any_pure (i := 15) (v := (.slice A209 (((b.length : Nat) : Int).toNat) c210)) hF269 (by decide +kernel) (by decide +kernel) rfl rfl rfl rfl (fun _ _ _ _ h => h) (wanted_guard rfl rfl rfl hF269 rfl ((decide_eq_false (by omega)) : decide (((((((d.write n b).1).read n).1).length : Nat) : Int) ≠ (128 : Int)) = false) rfl) (fun W => (rn_sliceHi Try.underlying35 (by kernel_rfl : (Try.prog.info? 5).map (·.size) = some 1) (hF269.get rfl) (hF269.get rfl) (by omega : (0 : Int) ≤ (b.length : Nat)) (by omega : ((b.length : Nat) : Int) ≤ ((c210 : Nat) : Int)))) ?_
            intro a270 hF271; clear hF269
            have hS272 : Ext w233 w233 := (Ext.refl w233)
            have d273 := (hb211.ext hx234)
            refine any_val (i := 16) (v := (strOf (((((d.write n b).1).read n).1).take (((b.length : Nat) : Int).toNat)))) hF271 (by decide +kernel) (by decide +kernel) rfl rfl rfl rfl (fun _ _ _ _ h => h) (wanted_guard rfl rfl rfl hF271 rfl ((decide_eq_false (by omega)) : decide (((((((d.write n b).1).read n).1).length : Nat) : Int) ≠ (128 : Int)) = false) rfl) hS272 (fun W hW => (rn_str (hF271.get rfl) (RSl.take (d273.ext hW) (by omega : ((b.length : Nat) : Int).toNat ≤ ((((d.write n b).1).read n).1).length) (by omega : ((b.length : Nat) : Int).toNat ≤ c210) (by omega)) Try.underlying35 Try.underlying5 Try.underlying9)) ?_
            intro a274 hF275; clear hF271
            refine any_pure (i := 17) (v := (.slice C b.length f)) hF275 (by decide +kernel) (by decide +kernel) rfl rfl rfl rfl (fun _ _ _ _ h => h) (wanted_guard rfl rfl rfl hF275 rfl ((decide_eq_false (by omega)) : decide (((((((d.write n b).1).read n).1).length : Nat) : Int) ≠ (128 : Int)) = false) rfl) (fun W => (rn_move (hF275.get rfl))) ?_
            intro a276 hF277; clear hF275
            have d278 := (hb.pres (((((((((((Pres.refl w).ext hx5).ext hx15).ext hx28).ext hx87).ext hx119).ext hx132).grownN hg139 (fun h => by simp only [Clip, Fr, Old] at h; omega)).ext hx187).ext hx216).ext hx234))
            refine any_val (i := 18) (v := (strOf b)) hF277 (by decide +kernel) (by decide +kernel) rfl rfl rfl rfl (fun _ _ _ _ h => h) (wanted_guard rfl rfl rfl hF277 rfl ((decide_eq_false (by omega)) : decide (((((((d.write n b).1).read n).1).length : Nat) : Int) ≠ (128 : Int)) = false) rfl) hS272 (fun W hW => (rn_str (hF277.get rfl) (d278.ext hW) Try.underlying35 Try.underlying5 Try.underlying9)) ?_
            intro a279 hF280; clear hF277
            refine any_pure (i := 19) (v := (.bool (!decide ((((((d.write n b).1).read n).1).take (((b.length : Nat) : Int).toNat)) = b)))) hF280 (by decide +kernel) (by decide +kernel) rfl rfl rfl rfl (fun _ _ _ _ h => h) (wanted_guard rfl rfl rfl hF280 rfl ((decide_eq_false (by omega)) : decide (((((((d.write n b).1).read n).1).length : Nat) : Int) ≠ (128 : Int)) = false) rfl) (fun W => (rn_nes (hF280.get rfl) (hF280.get rfl) rfl)) ?_
            intro a281 hF282; clear hF280
            refine any_pure (i := 20) (v := (.bool (!decide ((((((d.write n b).1).read n).1).take (((b.length : Nat) : Int).toNat)) = b)))) hF282 (by decide +kernel) (by decide +kernel) rfl rfl rfl rfl (fun _ _ _ _ h => h) rfl (fun W => (rn_pickF (c_false hF282 rfl ((decide_eq_false (by omega)) : decide (((((((d.write n b).1).read n).1).length : Nat) : Int) ≠ (128 : Int)) = false)) (hF282.get rfl))) ?_
            intro a283 hF284; clear hF282
            refine any_pure (i := 21) (v := (.bool (!decide ((((((d.write n b).1).read n).1).take (((b.length : Nat) : Int).toNat)) = b)))) hF284 (by decide +kernel) (by decide +kernel) rfl rfl rfl rfl (fun _ _ _ _ h => h) rfl (fun W => (rn_move (hF284.get rfl))) ?_
            intro a285 hF286; clear hF284
            refine any_pure (i := 22) (v := (.int .i64 n)) hF286 (by decide +kernel) (by decide +kernel) rfl rfl rfl rfl (fun _ _ _ _ h => h) (wanted_guard rfl rfl rfl hF286 rfl (not_t ((decide_eq_true (by rw [hrb]; show ((d.write n b).1.look n).take b.length = b; rw [write_look hw0, if_pos rfl]; exact fill_take b)) : decide ((((((d.write n b).1).read n).1).take (((b.length : Nat) : Int).toNat)) = b) = true)) rfl) (fun W => (rn_move (hF286.get rfl))) ?_
            intro a288 hF289; clear hF286
            refine any_pure (i := 23) (v := (.int .i64 m)) hF289 (by decide +kernel) (by decide +kernel) rfl rfl rfl rfl (fun _ _ _ _ h => h) (wanted_guard rfl rfl rfl hF289 rfl (not_t ((decide_eq_true (by rw [hrb]; show ((d.write n b).1.look n).take b.length = b; rw [write_look hw0, if_pos rfl]; exact fill_take b)) : decide ((((((d.write n b).1).read n).1).take (((b.length : Nat) : Int).toNat)) = b) = true)) rfl) (fun W => (rn_move (hF289.get rfl))) ?_
            intro a290 hF291; clear hF289
            refine any_pure (i := 24) (v := (.bool (decide ((n : Int) ≠ (m : Int))))) hF291 (by decide +kernel) (by decide +kernel) rfl rfl rfl rfl (fun _ _ _ _ h => h) (wanted_guard rfl rfl rfl hF291 rfl (not_t ((decide_eq_true (by rw [hrb]; show ((d.write n b).1.look n).take b.length = b; rw [write_look hw0, if_pos rfl]; exact fill_take b)) : decide ((((((d.write n b).1).read n).1).take (((b.length : Nat) : Int).toNat)) = b) = true)) rfl) (fun W => (rn_neq (hF291.get rfl) (hF291.get rfl))) ?_
            intro a292 hF293; clear hF291
            refine any_pure (i := 25) (v := (.bool (decide ((n : Int) ≠ (m : Int))))) hF293 (by decide +kernel) (by decide +kernel) rfl rfl rfl rfl (fun _ _ _ _ h => h) (wanted_guard rfl rfl rfl hF293 rfl (not_t ((decide_eq_true (by rw [hrb]; show ((d.write n b).1.look n).take b.length = b; rw [write_look hw0, if_pos rfl]; exact fill_take b)) : decide ((((((d.write n b).1).read n).1).take (((b.length : Nat) : Int).toNat)) = b) = true)) rfl) (fun W => (rn_move (hF293.get rfl))) ?_
            intro a294 hF295; clear hF293
            by_cases hc296 : (n : Int) ≠ (m : Int)
            · skip
              refine any_pure (i := 26) (v := (.slice A80 (((d.read m).1).length) c81)) hF295 (by decide +kernel) (by decide +kernel) rfl rfl rfl rfl (fun _ _ _ _ h => h) (wanted_guard rfl rfl rfl hF295 rfl (decide_eq_true hc296) rfl) (fun W => (rn_move (hF295.get rfl))) ?_
              intro a297 hF298; clear hF295
              have d299 := (hb82.pres (((((((Pres.refl w86).ext hx119).ext hx132).grownN hg139 (fun h => by simp only [Clip, Fr, Old] at h; omega)).ext hx187).ext hx216).ext hx234))
              refine any_val (i := 27) (v := (strOf ((d.read m).1))) hF298 (by decide +kernel) (by decide +kernel) rfl rfl rfl rfl (fun _ _ _ _ h => h) (wanted_guard rfl rfl rfl hF298 rfl (decide_eq_true hc296) rfl) hS272 (fun W hW => (rn_str (hF298.get rfl) (d299.ext hW) Try.underlying35 Try.underlying5 Try.underlying9)) ?_
              intro a300 hF301; clear hF298
              refine any_pure (i := 28) (v := (.slice A180 (((((d.write n b).1).read m).1).length) c181)) hF301 (by decide +kernel) (by decide +kernel) rfl rfl rfl rfl (fun _ _ _ _ h => h) (wanted_guard rfl rfl rfl hF301 rfl (decide_eq_true hc296) rfl) (fun W => (rn_move (hF301.get rfl))) ?_
              intro a302 hF303; clear hF301
              have d304 := ((hb182.ext hx216).ext hx234)
              refine any_val (i := 29) (v := (strOf ((((d.write n b).1).read m).1))) hF303 (by decide +kernel) (by decide +kernel) rfl rfl rfl rfl (fun _ _ _ _ h => h) (wanted_guard rfl rfl rfl hF303 rfl (decide_eq_true hc296) rfl) hS272 (fun W hW => (rn_str (hF303.get rfl) (d304.ext hW) Try.underlying35 Try.underlying5 Try.underlying9)) ?_
              intro a305 hF306; clear hF303
              refine any_pure (i := 30) (v := (.bool (!decide (((d.read m).1) = ((((d.write n b).1).read m).1))))) hF306 (by decide +kernel) (by decide +kernel) rfl rfl rfl rfl (fun _ _ _ _ h => h) (wanted_guard rfl rfl rfl hF306 rfl (decide_eq_true hc296) rfl) (fun W => (rn_nes (hF306.get rfl) (hF306.get rfl) rfl)) ?_
              intro a307 hF308; clear hF306
              refine any_pure (i := 31) (v := (.bool (!decide (((d.read m).1) = ((((d.write n b).1).read m).1))))) hF308 (by decide +kernel) (by decide +kernel) rfl rfl rfl rfl (fun _ _ _ _ h => h) (wanted_guard rfl rfl rfl hF308 rfl (not_t ((decide_eq_true (by rw [hrb]; show ((d.write n b).1.look n).take b.length = b; rw [write_look hw0, if_pos rfl]; exact fill_take b)) : decide ((((((d.write n b).1).read n).1).take (((b.length : Nat) : Int).toNat)) = b) = true)) rfl) (fun W => (rn_pickT (c_true hF308 rfl (decide_eq_true hc296)) (hF308.get rfl))) ?_
              intro a309 hF310; clear hF308
              refine any_pure (i := 32) (v := (.bool (!decide (((d.read m).1) = ((((d.write n b).1).read m).1))))) hF310 (by decide +kernel) (by decide +kernel) rfl rfl rfl rfl (fun _ _ _ _ h => h) rfl (fun W => (rn_pickF (c_false hF310 rfl (not_t ((decide_eq_true (by rw [hrb]; show ((d.write n b).1.look n).take b.length = b; rw [write_look hw0, if_pos rfl]; exact fill_take b)) : decide ((((((d.write n b).1).read n).1).take (((b.length : Nat) : Int).toNat)) = b) = true))) (hF310.get rfl))) ?_
              intro a311 hF312; clear hF310
              refine any_nil (by decide +kernel) ?_
              refine hK232 _ _ ?_
              clear hK232
              have hF313 := (((((((((((((((((((hF312.nil.cons (hF312.get (t := 106) (v := (.bool (!decide (((d.read m).1) = ((((d.write n b).1).read m).1))))) rfl)).cons (hF312.get (t := 18) (v := (.int .i64 ((((d.write n b).1).read n).2))) rfl)).cons (hF312.get (t := 17) (v := (.slice A209 (((((d.write n b).1).read n).1).length) c210)) rfl)).cons (hF312.get (t := 16) (v := (.int .i64 ((((d.write n b).1).read m).2))) rfl)).cons (hF312.get (t := 15) (v := (.slice A180 (((((d.write n b).1).read m).1).length) c181)) rfl)).cons (hF312.get (t := 61) (v := (.bool (decide (((d.write n b).2 : Int) ≠ (0 : Int))))) rfl)).cons (hF312.get (t := 14) (v := (.int .i64 ((d.write n b).2))) rfl)).cons (hF312.get (t := 13) (v := (.pointer (some ⟨g129, 0, none⟩))) rfl)).cons (hF312.get (t := 12) (v := (.int .i64 ((d.read m).2))) rfl)).cons (hF312.get (t := 11) (v := (.slice A80 (((d.read m).1).length) c81)) rfl)).cons (hF312.get (t := 42) (v := (.bool (decide ((128 : Int) < ((q.length : Nat) : Int))))) rfl)).cons (hF312.get (t := 29) (v := (.bool false)) rfl)).cons (hF312.get (t := 10) (v := (.bool false)) rfl)).cons (hF312.get (t := 5) (v := (.pointer (some ⟨g2, 0, none⟩))) rfl)).cons (hF312.get (t := 4) (v := (.slice E q.length g)) rfl)).cons (hF312.get (t := 3) (v := (.slice C b.length f)) rfl)).cons (hF312.get (t := 2) (v := (.int .i64 m)) rfl)).cons (hF312.get (t := 1) (v := (.int .i64 n)) rfl)).cons (hF312.get (t := 0) (v := (.agg #[(.slice A d.sectors.length c), (.slice B d.pending.length e), (.int .i64 d.left), (.bool d.stopped)])) rfl))
              clear hF312
              refine wp_cond_false (c_false hF313 rfl (not_t ((decide_eq_true (by rw [hra, read_of hr0.1 hr0.2]; show d.look m = (d.write n b).1.look m; rw [write_look hw0, if_neg (by omega)])) : decide (((d.read m).1) = ((((d.write n b).1).read m).1)) = true))) ?_
              refine wp_skip ?_
              refine hK231 _ _ ?_
              clear hK231
              refine wp_seq_k (fun K315 hK315 => ?_)
              refine wp_region_lit ?_
              have b316 : Blk w233 g129 25 [(.slice A112 (((d.write n b).1).sectors.length) c113), (.slice B114 (((d.write n b).1).pending.length) e115), (.int .i64 (((d.write n b).1).left)), (.bool (((d.write n b).1).stopped))] := ((b203.ext hx216).ext hx234)
              refine wpl_op (i := 0) rfl (o_val (v := (.agg #[(.slice A112 (((d.write n b).1).sectors.length) c113), (.slice B114 (((d.write n b).1).pending.length) e115), (.int .i64 (((d.write n b).1).left)), (.bool (((d.write n b).1).stopped))])) hF313 rfl rfl rfl rfl (rn_loadBlk (hF313.get rfl) b316 Try.underlying25 rfl (by kernel_rfl : (Try.prog.info? 25).map (·.size) = some 4)) ?_)
              intro a317 hF318; clear hF313
              refine wpl_op (i := 1) rfl (o_val (v := (.int .i64 m)) hF318 rfl rfl rfl rfl (rn_move (hF318.get rfl)) ?_)
              intro a319 hF320; clear hF318
              refine wpl_op (i := 2) rfl (o_val (v := (.slice E q.length g)) hF320 rfl rfl rfl rfl (rn_move (hF320.get rfl)) ?_)
              intro a321 hF322; clear hF320
              have d323 := (hd116.pres ((((((Pres.refl w118).ext hx132).grownN hg139 (fun h => by simp only [Clip, Fr, Old] at h; omega)).ext hx187).ext hx216).ext hx234))
              have d324 := (hq.pres (((((((((((Pres.refl w).ext hx5).ext hx15).ext hx28).ext hx87).ext hx119).ext hx132).grownN hg139 (fun h => by simp only [Clip, Fr, Old] at h; omega)).ext hx187).ext hx216).ext hx234))
              refine wpl_op (i := 3) rfl (o_call hF322 rfl rfl rfl rfl (rn_call (args3 (hF322.get rfl) (hF322.get rfl) (hF322.get rfl)) rfl (by kernel_rfl)) (write_any (S := (fun b => (Clip (Fr (fun b => (Old w) b ∨ (Old w) b) w86) w118) b ∨ (Old w) b)) _ _ ((d.write n b).1) _ q _ (d323.sub (fun _ => Or.inl)) (d324.sub (fun _ => Or.inr))) ?_)
              rintro _ w331 ⟨v330, rfl, hd329, hx332⟩
              obtain ⟨A325, c326, B327, e328, rfl, -, -⟩ := hd329.form
              have hd329 := hd329.clip
              refine ⟨_, rfl, ?_⟩; intro a333 hF334; clear hF322; have z335 := hx332.size
              refine wpl_op (i := 4) rfl (o_val (v := (.tuple #[(.agg #[(.slice A325 (((((d.write n b).1).write m q).1).sectors.length) c326), (.slice B327 (((((d.write n b).1).write m q).1).pending.length) e328), (.int .i64 (((((d.write n b).1).write m q).1).left)), (.bool (((((d.write n b).1).write m q).1).stopped))]), (.int .i64 ((((d.write n b).1).write m q).2))])) hF334 rfl rfl rfl rfl (rn_move (hF334.get rfl)) ?_)
              intro a336 hF337; clear hF334
              refine wpl_op (i := 5) rfl (o_val (v := (.agg #[(.slice A325 (((((d.write n b).1).write m q).1).sectors.length) c326), (.slice B327 (((((d.write n b).1).write m q).1).pending.length) e328), (.int .i64 (((((d.write n b).1).write m q).1).left)), (.bool (((((d.write n b).1).write m q).1).stopped))])) hF337 rfl rfl rfl rfl (rn_extract (hF337.get rfl) rfl) ?_)
              intro a338 hF339; clear hF337
              refine wpl_op (i := 6) rfl (o_val (v := (.int .i64 ((((d.write n b).1).write m q).2))) hF339 rfl rfl rfl rfl (rn_extract (hF339.get rfl) rfl) ?_)
              intro a340 hF341; clear hF339
              refine wpl_op (i := 7) rfl (o_new (fun g => (.pointer (some ⟨g, 0, none⟩))) [(.slice none 0 0), (.slice none 0 0), (.int .i64 0), (.bool false)] 25 hF341 rfl rfl rfl rfl (by kernel_rfl) ?_)
              intro g342 w343 a348 hF349 z346 z347 b344 hx345; clear hF341
              refine wpl_op (i := 8) rfl (o_store (cells := [(.slice A325 (((((d.write n b).1).write m q).1).sectors.length) c326), (.slice B327 (((((d.write n b).1).write m q).1).pending.length) e328), (.int .i64 (((((d.write n b).1).write m q).1).left)), (.bool (((((d.write n b).1).write m q).1).stopped))]) hF349 rfl rfl rfl rfl (hF349.get rfl) (hF349.get rfl) b344 (by kernel_rfl : (Try.prog.info? 25).map (·.size) = some 4) rfl (by simp [Value.oneCell']) ?_)
              intro w350 b351 hg352; have z353 := hg352.size
              refine wpl_op (i := 9) rfl (o_val (v := (.int .i64 ((((d.write n b).1).write m q).2))) hF349 rfl rfl rfl rfl (rn_assign (hF349.get rfl)) ?_)
              intro a354 hF355; clear hF349
              refine wpList_nil ?_
              refine hK315 _ _ ?_
              clear hK315
              have hF356 := (((((((((((((((((((((hF355.nil.cons (hF355.get (t := 20) (v := (.int .i64 ((((d.write n b).1).write m q).2))) rfl)).cons (hF355.get (t := 19) (v := (.pointer (some ⟨g342, 0, none⟩))) rfl)).cons (hF355.get (t := 106) (v := (.bool (!decide (((d.read m).1) = ((((d.write n b).1).read m).1))))) rfl)).cons (hF355.get (t := 18) (v := (.int .i64 ((((d.write n b).1).read n).2))) rfl)).cons (hF355.get (t := 17) (v := (.slice A209 (((((d.write n b).1).read n).1).length) c210)) rfl)).cons (hF355.get (t := 16) (v := (.int .i64 ((((d.write n b).1).read m).2))) rfl)).cons (hF355.get (t := 15) (v := (.slice A180 (((((d.write n b).1).read m).1).length) c181)) rfl)).cons (hF355.get (t := 61) (v := (.bool (decide (((d.write n b).2 : Int) ≠ (0 : Int))))) rfl)).cons (hF355.get (t := 14) (v := (.int .i64 ((d.write n b).2))) rfl)).cons (hF355.get (t := 13) (v := (.pointer (some ⟨g129, 0, none⟩))) rfl)).cons (hF355.get (t := 12) (v := (.int .i64 ((d.read m).2))) rfl)).cons (hF355.get (t := 11) (v := (.slice A80 (((d.read m).1).length) c81)) rfl)).cons (hF355.get (t := 42) (v := (.bool (decide ((128 : Int) < ((q.length : Nat) : Int))))) rfl)).cons (hF355.get (t := 29) (v := (.bool false)) rfl)).cons (hF355.get (t := 10) (v := (.bool false)) rfl)).cons (hF355.get (t := 5) (v := (.pointer (some ⟨g2, 0, none⟩))) rfl)).cons (hF355.get (t := 4) (v := (.slice E q.length g)) rfl)).cons (hF355.get (t := 3) (v := (.slice C b.length f)) rfl)).cons (hF355.get (t := 2) (v := (.int .i64 m)) rfl)).cons (hF355.get (t := 1) (v := (.int .i64 n)) rfl)).cons (hF355.get (t := 0) (v := (.agg #[(.slice A d.sectors.length c), (.slice B d.pending.length e), (.int .i64 d.left), (.bool d.stopped)])) rfl))
              clear hF355
              refine wp_seq_k (fun K357 hK357 => ?_)
              refine wp_seq_k (fun K358 hK358 => ?_)
              refine wp_region_lit ?_
              refine wpl_op (i := 0) rfl (o_val (v := (.int .i64 ((((d.write n b).1).write m q).2))) hF356 rfl rfl rfl rfl (rn_move (hF356.get rfl)) ?_)
              intro a359 hF360; clear hF356
              refine wpl_op (i := 1) rfl (o_val (v := (.bool (decide (((((d.write n b).1).write m q).2 : Int) ≠ (0 : Int))))) hF360 rfl rfl rfl rfl (rn_neq (hF360.get rfl) rfl) ?_)
              intro a361 hF362; clear hF360
              refine wpList_nil ?_
              refine hK358 _ _ ?_
              clear hK358
              by_cases hc363 : ((((d.write n b).1).write m q).2 : Int) ≠ (0 : Int)
              · skip
                have hwe := write_err hwr ((write_has hw0).trans hr0.2) (by omega) hc363
                refine wp_cond_true (c_true hF362 rfl (decide_eq_true hc363)) ?_
                refine wp_seq_k (fun K364 hK364 => ?_)
                refine wp_region_lit ?_
                refine wpl_op (i := 0) rfl (o_val (v := (.int .i64 ((((d.write n b).1).write m q).2))) hF362 rfl rfl rfl rfl (rn_move (hF362.get rfl)) ?_)
                intro a365 hF366; clear hF362
                refine wpl_op (i := 1) rfl (o_val (v := (.bool (decide (((((d.write n b).1).write m q).2 : Int) = (2 : Int))))) hF366 rfl rfl rfl rfl (rn_eql (hF366.get rfl) rfl) ?_)
                intro a367 hF368; clear hF366
                refine wpl_op (i := 2) rfl (o_val (v := (.bool (decide (((((d.write n b).1).write m q).2 : Int) = (2 : Int))))) hF368 rfl rfl rfl rfl (rn_assign (hF368.get rfl)) ?_)
                intro a369 hF370; clear hF368
                refine wpList_nil ?_
                refine hK364 _ _ ?_
                clear hK364
                refine wp_ret ?_
                refine ret1 hF370 rfl rfl ?_
                exact ⟨congrArg (fun b => Ending.returned (.bool b)) ((decide_eq_true (by exact hwe)) : decide (((((d.write n b).1).write m q).2 : Int) = (2 : Int)) = true), ((((((((((((((Ext.refl w).trans hx5).trans hx15).trans hx28).trans hx87).trans hx119).trans hx132).grownN hg139 (by omega)).trans hx187).trans hx216).trans hx234).trans hx332).trans hx345).grownN hg352 (by omega))⟩
              · skip
                have hv0 := Decidable.not_not.1 hc363
                have hvr := write_runs hv0
                refine wp_cond_false (c_false hF362 rfl (decide_eq_false hc363)) ?_
                refine wp_skip ?_
                refine hK357 _ _ ?_
                clear hK357
                refine wp_seq_k (fun K371 hK371 => ?_)
                refine wp_region_lit ?_
                refine wpl_op (i := 0) rfl (o_val (v := (.agg #[(.slice A325 (((((d.write n b).1).write m q).1).sectors.length) c326), (.slice B327 (((((d.write n b).1).write m q).1).pending.length) e328), (.int .i64 (((((d.write n b).1).write m q).1).left)), (.bool (((((d.write n b).1).write m q).1).stopped))])) hF362 rfl rfl rfl rfl (rn_loadBlk (hF362.get rfl) b351 Try.underlying25 rfl (by kernel_rfl : (Try.prog.info? 25).map (·.size) = some 4)) ?_)
                intro a372 hF373; clear hF362
                have d374 := (hd329.pres (((Pres.refl w331).ext hx345).grownN hg352 (fun h => by simp only [Clip, Fr, Old] at h; omega)))
                refine wpl_op (i := 1) rfl (o_call hF373 rfl rfl rfl rfl (rn_call (args1 (hF373.get rfl)) rfl (by kernel_rfl)) (sync_any (S := (Clip (Fr (fun b => (Clip (Fr (fun b => (Old w) b ∨ (Old w) b) w86) w118) b ∨ (Old w) b) w233) w331)) _ ((((d.write n b).1).write m q).1) _ d374) ?_)
                rintro _ w381 ⟨v380, rfl, hd379, hx382⟩
                obtain ⟨A375, c376, B377, e378, rfl, -, -⟩ := hd379.form
                have hd379 := hd379.clip
                refine ⟨_, rfl, ?_⟩; intro a383 hF384; clear hF373; have z385 := hx382.size
                refine wpl_op (i := 2) rfl (o_val (v := (.tuple #[(.agg #[(.slice A375 ((((((d.write n b).1).write m q).1).sync.1).sectors.length) c376), (.slice B377 ((((((d.write n b).1).write m q).1).sync.1).pending.length) e378), (.int .i64 ((((((d.write n b).1).write m q).1).sync.1).left)), (.bool ((((((d.write n b).1).write m q).1).sync.1).stopped))]), (.int .i64 (((((d.write n b).1).write m q).1).sync.2))])) hF384 rfl rfl rfl rfl (rn_move (hF384.get rfl)) ?_)
                intro a386 hF387; clear hF384
                refine wpl_op (i := 3) rfl (o_val (v := (.agg #[(.slice A375 ((((((d.write n b).1).write m q).1).sync.1).sectors.length) c376), (.slice B377 ((((((d.write n b).1).write m q).1).sync.1).pending.length) e378), (.int .i64 ((((((d.write n b).1).write m q).1).sync.1).left)), (.bool ((((((d.write n b).1).write m q).1).sync.1).stopped))])) hF387 rfl rfl rfl rfl (rn_extract (hF387.get rfl) rfl) ?_)
                intro a388 hF389; clear hF387
                refine wpl_op (i := 4) rfl (o_val (v := (.int .i64 (((((d.write n b).1).write m q).1).sync.2))) hF389 rfl rfl rfl rfl (rn_extract (hF389.get rfl) rfl) ?_)
                intro a390 hF391; clear hF389
                refine wpl_op (i := 5) rfl (o_new (fun g => (.pointer (some ⟨g, 0, none⟩))) [(.slice none 0 0), (.slice none 0 0), (.int .i64 0), (.bool false)] 25 hF391 rfl rfl rfl rfl (by kernel_rfl) ?_)
                intro g392 w393 a398 hF399 z396 z397 b394 hx395; clear hF391
                refine wpl_op (i := 6) rfl (o_store (cells := [(.slice A375 ((((((d.write n b).1).write m q).1).sync.1).sectors.length) c376), (.slice B377 ((((((d.write n b).1).write m q).1).sync.1).pending.length) e378), (.int .i64 ((((((d.write n b).1).write m q).1).sync.1).left)), (.bool ((((((d.write n b).1).write m q).1).sync.1).stopped))]) hF399 rfl rfl rfl rfl (hF399.get rfl) (hF399.get rfl) b394 (by kernel_rfl : (Try.prog.info? 25).map (·.size) = some 4) rfl (by simp [Value.oneCell']) ?_)
                intro w400 b401 hg402; have z403 := hg402.size
                refine wpl_op (i := 7) rfl (o_val (v := (.int .i64 (((((d.write n b).1).write m q).1).sync.2))) hF399 rfl rfl rfl rfl (rn_assign (hF399.get rfl)) ?_)
                intro a404 hF405; clear hF399
                refine wpList_nil ?_
                refine hK371 _ _ ?_
                clear hK371
                have hF406 := ((((((((((((((((((((((((hF405.nil.cons (hF405.get (t := 22) (v := (.int .i64 (((((d.write n b).1).write m q).1).sync.2))) rfl)).cons (hF405.get (t := 21) (v := (.pointer (some ⟨g392, 0, none⟩))) rfl)).cons (hF405.get (t := 115) (v := (.bool (decide (((((d.write n b).1).write m q).2 : Int) ≠ (0 : Int))))) rfl)).cons (hF405.get (t := 20) (v := (.int .i64 ((((d.write n b).1).write m q).2))) rfl)).cons (hF405.get (t := 19) (v := (.pointer (some ⟨g342, 0, none⟩))) rfl)).cons (hF405.get (t := 106) (v := (.bool (!decide (((d.read m).1) = ((((d.write n b).1).read m).1))))) rfl)).cons (hF405.get (t := 18) (v := (.int .i64 ((((d.write n b).1).read n).2))) rfl)).cons (hF405.get (t := 17) (v := (.slice A209 (((((d.write n b).1).read n).1).length) c210)) rfl)).cons (hF405.get (t := 16) (v := (.int .i64 ((((d.write n b).1).read m).2))) rfl)).cons (hF405.get (t := 15) (v := (.slice A180 (((((d.write n b).1).read m).1).length) c181)) rfl)).cons (hF405.get (t := 61) (v := (.bool (decide (((d.write n b).2 : Int) ≠ (0 : Int))))) rfl)).cons (hF405.get (t := 14) (v := (.int .i64 ((d.write n b).2))) rfl)).cons (hF405.get (t := 13) (v := (.pointer (some ⟨g129, 0, none⟩))) rfl)).cons (hF405.get (t := 12) (v := (.int .i64 ((d.read m).2))) rfl)).cons (hF405.get (t := 11) (v := (.slice A80 (((d.read m).1).length) c81)) rfl)).cons (hF405.get (t := 42) (v := (.bool (decide ((128 : Int) < ((q.length : Nat) : Int))))) rfl)).cons (hF405.get (t := 29) (v := (.bool false)) rfl)).cons (hF405.get (t := 10) (v := (.bool false)) rfl)).cons (hF405.get (t := 5) (v := (.pointer (some ⟨g2, 0, none⟩))) rfl)).cons (hF405.get (t := 4) (v := (.slice E q.length g)) rfl)).cons (hF405.get (t := 3) (v := (.slice C b.length f)) rfl)).cons (hF405.get (t := 2) (v := (.int .i64 m)) rfl)).cons (hF405.get (t := 1) (v := (.int .i64 n)) rfl)).cons (hF405.get (t := 0) (v := (.agg #[(.slice A d.sectors.length c), (.slice B d.pending.length e), (.int .i64 d.left), (.bool d.stopped)])) rfl))
                clear hF405
                refine wp_seq_k (fun K407 hK407 => ?_)
                refine wp_seq_k (fun K408 hK408 => ?_)
                refine wp_region_lit ?_
                refine wpl_op (i := 0) rfl (o_val (v := (.int .i64 (((((d.write n b).1).write m q).1).sync.2))) hF406 rfl rfl rfl rfl (rn_move (hF406.get rfl)) ?_)
                intro a409 hF410; clear hF406
                refine wpl_op (i := 1) rfl (o_val (v := (.bool (decide ((((((d.write n b).1).write m q).1).sync.2 : Int) ≠ (0 : Int))))) hF410 rfl rfl rfl rfl (rn_neq (hF410.get rfl) rfl) ?_)
                intro a411 hF412; clear hF410
                refine wpList_nil ?_
                refine hK408 _ _ ?_
                clear hK408
                by_cases hc413 : (((((d.write n b).1).write m q).1).sync.2 : Int) ≠ (0 : Int)
                · skip
                  have hse := sync_err hvr hc413
                  refine wp_cond_true (c_true hF412 rfl (decide_eq_true hc413)) ?_
                  refine wp_seq_k (fun K414 hK414 => ?_)
                  refine wp_region_lit ?_
                  refine wpl_op (i := 0) rfl (o_val (v := (.int .i64 (((((d.write n b).1).write m q).1).sync.2))) hF412 rfl rfl rfl rfl (rn_move (hF412.get rfl)) ?_)
                  intro a415 hF416; clear hF412
                  refine wpl_op (i := 1) rfl (o_val (v := (.bool (decide ((((((d.write n b).1).write m q).1).sync.2 : Int) = (380 : Int))))) hF416 rfl rfl rfl rfl (rn_eql (hF416.get rfl) rfl) ?_)
                  intro a417 hF418; clear hF416
                  refine wpl_op (i := 2) rfl (o_val (v := (.bool (decide ((((((d.write n b).1).write m q).1).sync.2 : Int) = (380 : Int))))) hF418 rfl rfl rfl rfl (rn_move (hF418.get rfl)) ?_)
                  intro a419 hF420; clear hF418
                  refine wpl_op (i := 3) rfl (o_val (v := (.pointer (some ⟨g392, 3, none⟩))) hF420 rfl (wanted_guard rfl rfl rfl hF420 rfl ((decide_eq_true (by exact hse.1)) : decide ((((((d.write n b).1).write m q).1).sync.2 : Int) = (380 : Int)) = true) rfl) rfl rfl (rn_field Try.underlying25 rfl (by kernel_rfl) (hF420.get rfl) rfl) ?_)
                  intro a422 hF423; clear hF420
                  refine wpl_op (i := 4) rfl (o_val (v := (.bool ((((((d.write n b).1).write m q).1).sync.1).stopped))) hF423 rfl (wanted_guard rfl rfl rfl hF423 rfl ((decide_eq_true (by exact hse.1)) : decide ((((((d.write n b).1).write m q).1).sync.2 : Int) = (380 : Int)) = true) rfl) rfl rfl (rn_load (isAgg_no Try.underlying4 rfl) (hF423.get rfl) (b401.rule.1 3)) ?_)
                  intro a424 hF425; clear hF423
                  refine wpl_op (i := 5) rfl (o_val (v := (.bool ((((((d.write n b).1).write m q).1).sync.1).stopped))) hF425 rfl rfl rfl rfl (rn_pickT (c_true hF425 rfl ((decide_eq_true (by exact hse.1)) : decide ((((((d.write n b).1).write m q).1).sync.2 : Int) = (380 : Int)) = true)) (hF425.get rfl)) ?_)
                  intro a426 hF427; clear hF425
                  refine wpl_op (i := 6) rfl (o_val (v := (.bool ((((((d.write n b).1).write m q).1).sync.1).stopped))) hF427 rfl rfl rfl rfl (rn_assign (hF427.get rfl)) ?_)
                  intro a428 hF429; clear hF427
                  refine wpList_nil ?_
                  refine hK414 _ _ ?_
                  clear hK414
                  have hF430 := (((((((((((((((((((((((((hF429.nil.cons (hF429.get (t := 124) (v := (.bool (decide ((((((d.write n b).1).write m q).1).sync.2 : Int) ≠ (0 : Int))))) rfl)).cons (hF429.get (t := 22) (v := (.int .i64 (((((d.write n b).1).write m q).1).sync.2))) rfl)).cons (hF429.get (t := 21) (v := (.pointer (some ⟨g392, 0, none⟩))) rfl)).cons (hF429.get (t := 115) (v := (.bool (decide (((((d.write n b).1).write m q).2 : Int) ≠ (0 : Int))))) rfl)).cons (hF429.get (t := 20) (v := (.int .i64 ((((d.write n b).1).write m q).2))) rfl)).cons (hF429.get (t := 19) (v := (.pointer (some ⟨g342, 0, none⟩))) rfl)).cons (hF429.get (t := 106) (v := (.bool (!decide (((d.read m).1) = ((((d.write n b).1).read m).1))))) rfl)).cons (hF429.get (t := 18) (v := (.int .i64 ((((d.write n b).1).read n).2))) rfl)).cons (hF429.get (t := 17) (v := (.slice A209 (((((d.write n b).1).read n).1).length) c210)) rfl)).cons (hF429.get (t := 16) (v := (.int .i64 ((((d.write n b).1).read m).2))) rfl)).cons (hF429.get (t := 15) (v := (.slice A180 (((((d.write n b).1).read m).1).length) c181)) rfl)).cons (hF429.get (t := 61) (v := (.bool (decide (((d.write n b).2 : Int) ≠ (0 : Int))))) rfl)).cons (hF429.get (t := 14) (v := (.int .i64 ((d.write n b).2))) rfl)).cons (hF429.get (t := 13) (v := (.pointer (some ⟨g129, 0, none⟩))) rfl)).cons (hF429.get (t := 12) (v := (.int .i64 ((d.read m).2))) rfl)).cons (hF429.get (t := 11) (v := (.slice A80 (((d.read m).1).length) c81)) rfl)).cons (hF429.get (t := 42) (v := (.bool (decide ((128 : Int) < ((q.length : Nat) : Int))))) rfl)).cons (hF429.get (t := 29) (v := (.bool false)) rfl)).cons (hF429.get (t := 10) (v := (.bool ((((((d.write n b).1).write m q).1).sync.1).stopped))) rfl)).cons (hF429.get (t := 5) (v := (.pointer (some ⟨g2, 0, none⟩))) rfl)).cons (hF429.get (t := 4) (v := (.slice E q.length g)) rfl)).cons (hF429.get (t := 3) (v := (.slice C b.length f)) rfl)).cons (hF429.get (t := 2) (v := (.int .i64 m)) rfl)).cons (hF429.get (t := 1) (v := (.int .i64 n)) rfl)).cons (hF429.get (t := 0) (v := (.agg #[(.slice A d.sectors.length c), (.slice B d.pending.length e), (.int .i64 d.left), (.bool d.stopped)])) rfl))
                  clear hF429
                  refine wp_ret ?_
                  refine ret1 hF430 rfl rfl ?_
                  exact ⟨congrArg (fun b => Ending.returned (.bool b)) (hse.2 : (((((d.write n b).1).write m q).1).sync.1).stopped = true), (((((((((((((((((Ext.refl w).trans hx5).trans hx15).trans hx28).trans hx87).trans hx119).trans hx132).grownN hg139 (by omega)).trans hx187).trans hx216).trans hx234).trans hx332).trans hx345).grownN hg352 (by omega)).trans hx382).trans hx395).grownN hg402 (by omega))⟩
                · skip
                  have hs0 := Decidable.not_not.1 hc413
                  have hsr := sync_runs hs0
                  have hsl : ((d.write n b).1.write m q).1.sync.1.pending.length = 0 := by rw [(sync0 hs0).2.2]; rfl
                  refine wp_cond_false (c_false hF412 rfl (decide_eq_false hc413)) ?_
                  refine wp_skip ?_
                  refine hK407 _ _ ?_
                  clear hK407
                  refine wp_seq_k (fun K431 hK431 => ?_)
                  refine wp_seq_k (fun K432 hK432 => ?_)
                  refine wp_region_lit ?_
                  refine wpl_op (i := 0) rfl (o_val (v := (.int .i64 0)) hF412 rfl rfl rfl rfl (rn_assign rfl) ?_)
                  intro a433 hF434; clear hF412
                  refine wpList_nil ?_
                  refine hK432 _ _ ?_
                  clear hK432
                  refine wp_block ?_
                  refine wp_loop (fun a' W => ∃ (k : Nat), Sl 172 [(0, (.agg #[(.slice A d.sectors.length c), (.slice B d.pending.length e), (.int .i64 d.left), (.bool d.stopped)])), (1, (.int .i64 n)), (2, (.int .i64 m)), (3, (.slice C b.length f)), (4, (.slice E q.length g)), (5, (.pointer (some ⟨g2, 0, none⟩))), (10, (.bool false)), (29, (.bool false)), (42, (.bool (decide ((128 : Int) < ((q.length : Nat) : Int))))), (11, (.slice A80 (((d.read m).1).length) c81)), (12, (.int .i64 ((d.read m).2))), (13, (.pointer (some ⟨g129, 0, none⟩))), (14, (.int .i64 ((d.write n b).2))), (61, (.bool (decide (((d.write n b).2 : Int) ≠ (0 : Int))))), (15, (.slice A180 (((((d.write n b).1).read m).1).length) c181)), (16, (.int .i64 ((((d.write n b).1).read m).2))), (17, (.slice A209 (((((d.write n b).1).read n).1).length) c210)), (18, (.int .i64 ((((d.write n b).1).read n).2))), (106, (.bool (!decide (((d.read m).1) = ((((d.write n b).1).read m).1))))), (19, (.pointer (some ⟨g342, 0, none⟩))), (20, (.int .i64 ((((d.write n b).1).write m q).2))), (115, (.bool (decide (((((d.write n b).1).write m q).2 : Int) ≠ (0 : Int))))), (21, (.pointer (some ⟨g392, 0, none⟩))), (22, (.int .i64 (((((d.write n b).1).write m q).1).sync.2))), (124, (.bool (decide ((((((d.write n b).1).write m q).1).sync.2 : Int) ≠ (0 : Int))))), (23, (.int .i64 (k : Nat)))] a' ∧ Ext w400 W ∧ k ≤ d.sectors.length) (fun a' _ => d.sectors.length - (intOf (a'.eval (.tmp 23))).toNat) ⟨0, ((((((((((((((((((((((((((hF434.nil.cons (hF434.get (t := 23) (v := (.int .i64 0)) rfl)).cons (hF434.get (t := 124) (v := (.bool (decide ((((((d.write n b).1).write m q).1).sync.2 : Int) ≠ (0 : Int))))) rfl)).cons (hF434.get (t := 22) (v := (.int .i64 (((((d.write n b).1).write m q).1).sync.2))) rfl)).cons (hF434.get (t := 21) (v := (.pointer (some ⟨g392, 0, none⟩))) rfl)).cons (hF434.get (t := 115) (v := (.bool (decide (((((d.write n b).1).write m q).2 : Int) ≠ (0 : Int))))) rfl)).cons (hF434.get (t := 20) (v := (.int .i64 ((((d.write n b).1).write m q).2))) rfl)).cons (hF434.get (t := 19) (v := (.pointer (some ⟨g342, 0, none⟩))) rfl)).cons (hF434.get (t := 106) (v := (.bool (!decide (((d.read m).1) = ((((d.write n b).1).read m).1))))) rfl)).cons (hF434.get (t := 18) (v := (.int .i64 ((((d.write n b).1).read n).2))) rfl)).cons (hF434.get (t := 17) (v := (.slice A209 (((((d.write n b).1).read n).1).length) c210)) rfl)).cons (hF434.get (t := 16) (v := (.int .i64 ((((d.write n b).1).read m).2))) rfl)).cons (hF434.get (t := 15) (v := (.slice A180 (((((d.write n b).1).read m).1).length) c181)) rfl)).cons (hF434.get (t := 61) (v := (.bool (decide (((d.write n b).2 : Int) ≠ (0 : Int))))) rfl)).cons (hF434.get (t := 14) (v := (.int .i64 ((d.write n b).2))) rfl)).cons (hF434.get (t := 13) (v := (.pointer (some ⟨g129, 0, none⟩))) rfl)).cons (hF434.get (t := 12) (v := (.int .i64 ((d.read m).2))) rfl)).cons (hF434.get (t := 11) (v := (.slice A80 (((d.read m).1).length) c81)) rfl)).cons (hF434.get (t := 42) (v := (.bool (decide ((128 : Int) < ((q.length : Nat) : Int))))) rfl)).cons (hF434.get (t := 29) (v := (.bool false)) rfl)).cons (hF434.get (t := 10) (v := (.bool false)) rfl)).cons (hF434.get (t := 5) (v := (.pointer (some ⟨g2, 0, none⟩))) rfl)).cons (hF434.get (t := 4) (v := (.slice E q.length g)) rfl)).cons (hF434.get (t := 3) (v := (.slice C b.length f)) rfl)).cons (hF434.get (t := 2) (v := (.int .i64 m)) rfl)).cons (hF434.get (t := 1) (v := (.int .i64 n)) rfl)).cons (hF434.get (t := 0) (v := (.agg #[(.slice A d.sectors.length c), (.slice B d.pending.length e), (.int .i64 d.left), (.bool d.stopped)])) rfl)), Ext.refl _, Nat.zero_le _⟩ ?_
                  rintro a435 w436 ⟨k, hF437, hx438, hp439⟩
                  have hL440 := hF437
                  have z441 := hx438.size
                  clear hF434
                  refine wp_seq_k (fun K442 hK442 => ?_)
                  refine wp_seq_k (fun K443 hK443 => ?_)
                  refine wp_region_lit ?_
                  refine wpl_op (i := 0) rfl (o_val (v := (.int .i64 (k : Nat))) hF437 rfl rfl rfl rfl (rn_move (hF437.get rfl)) ?_)
                  intro a444 hF445; clear hF437
                  refine wpl_op (i := 1) rfl (o_val (v := (.pointer (some ⟨g2, 0, none⟩))) hF445 rfl rfl rfl rfl (rn_field Try.underlying25 rfl (by kernel_rfl) (hF445.get rfl) rfl) ?_)
                  intro a446 hF447; clear hF445
                  have b448 : Blk w436 g2 25 [(.slice A d.sectors.length c), (.slice B d.pending.length e), (.int .i64 d.left), (.bool d.stopped)] := (((((((((((((b103.ext hx119).ext hx132).grownN hg139 (by omega)).ext hx187).ext hx216).ext hx234).ext hx332).ext hx345).grownN hg352 (by omega)).ext hx382).ext hx395).grownN hg402 (by omega)).ext hx438)
                  refine wpl_op (i := 2) rfl (o_val (v := (.slice A d.sectors.length c)) hF447 rfl rfl rfl rfl (rn_load (isAgg_no Try.underlying22 rfl) (hF447.get rfl) (b448.rule.1 0)) ?_)
                  intro a449 hF450; clear hF447
                  refine wpl_op (i := 3) rfl (o_val (v := (.int .i64 (d.sectors.length : Nat))) hF450 rfl rfl rfl rfl (rn_len_slice Try.underlying22 (hF450.get rfl)) ?_)
                  intro a451 hF452; clear hF450
                  refine wpl_op (i := 4) rfl (o_val (v := (.bool (decide (((k : Nat) : Int) < ((d.sectors.length : Nat) : Int))))) hF452 rfl rfl rfl rfl (rn_lss (hF452.get rfl) (hF452.get rfl)) ?_)
                  intro a453 hF454; clear hF452
                  refine wpList_nil ?_
                  refine hK443 _ _ ?_
                  clear hK443
                  have hF455 := (((((((((((((((((((((((((((hF454.nil.cons (hF454.get (t := 135) (v := (.bool (decide (((k : Nat) : Int) < ((d.sectors.length : Nat) : Int))))) rfl)).cons (hF454.get (t := 23) (v := (.int .i64 (k : Nat))) rfl)).cons (hF454.get (t := 124) (v := (.bool (decide ((((((d.write n b).1).write m q).1).sync.2 : Int) ≠ (0 : Int))))) rfl)).cons (hF454.get (t := 22) (v := (.int .i64 (((((d.write n b).1).write m q).1).sync.2))) rfl)).cons (hF454.get (t := 21) (v := (.pointer (some ⟨g392, 0, none⟩))) rfl)).cons (hF454.get (t := 115) (v := (.bool (decide (((((d.write n b).1).write m q).2 : Int) ≠ (0 : Int))))) rfl)).cons (hF454.get (t := 20) (v := (.int .i64 ((((d.write n b).1).write m q).2))) rfl)).cons (hF454.get (t := 19) (v := (.pointer (some ⟨g342, 0, none⟩))) rfl)).cons (hF454.get (t := 106) (v := (.bool (!decide (((d.read m).1) = ((((d.write n b).1).read m).1))))) rfl)).cons (hF454.get (t := 18) (v := (.int .i64 ((((d.write n b).1).read n).2))) rfl)).cons (hF454.get (t := 17) (v := (.slice A209 (((((d.write n b).1).read n).1).length) c210)) rfl)).cons (hF454.get (t := 16) (v := (.int .i64 ((((d.write n b).1).read m).2))) rfl)).cons (hF454.get (t := 15) (v := (.slice A180 (((((d.write n b).1).read m).1).length) c181)) rfl)).cons (hF454.get (t := 61) (v := (.bool (decide (((d.write n b).2 : Int) ≠ (0 : Int))))) rfl)).cons (hF454.get (t := 14) (v := (.int .i64 ((d.write n b).2))) rfl)).cons (hF454.get (t := 13) (v := (.pointer (some ⟨g129, 0, none⟩))) rfl)).cons (hF454.get (t := 12) (v := (.int .i64 ((d.read m).2))) rfl)).cons (hF454.get (t := 11) (v := (.slice A80 (((d.read m).1).length) c81)) rfl)).cons (hF454.get (t := 42) (v := (.bool (decide ((128 : Int) < ((q.length : Nat) : Int))))) rfl)).cons (hF454.get (t := 29) (v := (.bool false)) rfl)).cons (hF454.get (t := 10) (v := (.bool false)) rfl)).cons (hF454.get (t := 5) (v := (.pointer (some ⟨g2, 0, none⟩))) rfl)).cons (hF454.get (t := 4) (v := (.slice E q.length g)) rfl)).cons (hF454.get (t := 3) (v := (.slice C b.length f)) rfl)).cons (hF454.get (t := 2) (v := (.int .i64 m)) rfl)).cons (hF454.get (t := 1) (v := (.int .i64 n)) rfl)).cons (hF454.get (t := 0) (v := (.agg #[(.slice A d.sectors.length c), (.slice B d.pending.length e), (.int .i64 d.left), (.bool d.stopped)])) rfl))
                  clear hF454
                  by_cases hc456 : ((k : Nat) : Int) < ((d.sectors.length : Nat) : Int)
                  · skip
                    have hdk : d.has (k : Nat) = true := has_iff.2 ⟨by omega, by omega⟩
                    have hyk := (write_has hv0).trans ((write_has hw0).trans hdk)
                    have hzk := (sync_has hs0).trans hyk
                    have hry := read_of hvr hyk
                    have hrz := read_of hsr hzk
                    refine wp_cond_true (c_true hF455 rfl (decide_eq_true hc456)) ?_
                    refine wp_skip ?_
                    refine hK442 _ _ ?_
                    clear hK442
                    refine wp_seq_k (fun K457 hK457 => ?_)
                    refine wp_block ?_
                    refine wp_seq_k (fun K458 hK458 => ?_)
                    refine wp_region_lit ?_
                    have b459 : Blk w436 g342 25 [(.slice A325 (((((d.write n b).1).write m q).1).sectors.length) c326), (.slice B327 (((((d.write n b).1).write m q).1).pending.length) e328), (.int .i64 (((((d.write n b).1).write m q).1).left)), (.bool (((((d.write n b).1).write m q).1).stopped))] := ((((b351.ext hx382).ext hx395).grownN hg402 (by omega)).ext hx438)
                    refine wpl_op (i := 0) rfl (o_val (v := (.agg #[(.slice A325 (((((d.write n b).1).write m q).1).sectors.length) c326), (.slice B327 (((((d.write n b).1).write m q).1).pending.length) e328), (.int .i64 (((((d.write n b).1).write m q).1).left)), (.bool (((((d.write n b).1).write m q).1).stopped))])) hF455 rfl rfl rfl rfl (rn_loadBlk (hF455.get rfl) b459 Try.underlying25 rfl (by kernel_rfl : (Try.prog.info? 25).map (·.size) = some 4)) ?_)
                    intro a460 hF461; clear hF455
                    refine wpl_op (i := 1) rfl (o_val (v := (.int .i64 (k : Nat))) hF461 rfl rfl rfl rfl (rn_move (hF461.get rfl)) ?_)
                    intro a462 hF463; clear hF461
                    have d464 := (hd329.pres (((((((Pres.refl w331).ext hx345).grownN hg352 (fun h => by simp only [Clip, Fr, Old] at h; omega)).ext hx382).ext hx395).grownN hg402 (fun h => by simp only [Clip, Fr, Old] at h; omega)).ext hx438))
                    refine wpl_op (i := 2) rfl (o_call hF463 rfl rfl rfl rfl (rn_call (args2 (hF463.get rfl) (hF463.get rfl)) rfl (by kernel_rfl)) (read_any (S := (Clip (Fr (fun b => (Clip (Fr (fun b => (Old w) b ∨ (Old w) b) w86) w118) b ∨ (Old w) b) w233) w331)) _ ((((d.write n b).1).write m q).1) _ _ d464) ?_)
                    rintro _ w471 ⟨v468, rfl, hb467, hx472⟩
                    obtain ⟨A465, c466, rfl, le469, le470⟩ := hb467.form
                    have hb467 := hb467.clip
                    refine ⟨_, rfl, ?_⟩; intro a473 hF474; clear hF463; have z475 := hx472.size
                    refine wpl_op (i := 3) rfl (o_val (v := (.tuple #[(.slice A465 (((((((d.write n b).1).write m q).1).read (k : Nat)).1).length) c466), (.int .i64 ((((((d.write n b).1).write m q).1).read (k : Nat)).2))])) hF474 rfl rfl rfl rfl (rn_move (hF474.get rfl)) ?_)
                    intro a476 hF477; clear hF474
                    refine wpl_op (i := 4) rfl (o_val (v := (.slice A465 (((((((d.write n b).1).write m q).1).read (k : Nat)).1).length) c466)) hF477 rfl rfl rfl rfl (rn_extract (hF477.get rfl) rfl) ?_)
                    intro a478 hF479; clear hF477
                    refine wpl_op (i := 5) rfl (o_val (v := (.int .i64 ((((((d.write n b).1).write m q).1).read (k : Nat)).2))) hF479 rfl rfl rfl rfl (rn_extract (hF479.get rfl) rfl) ?_)
                    intro a480 hF481; clear hF479
                    refine wpl_op (i := 6) rfl (o_val (v := (.slice A465 (((((((d.write n b).1).write m q).1).read (k : Nat)).1).length) c466)) hF481 rfl rfl rfl rfl (rn_assign (hF481.get rfl)) ?_)
                    intro a482 hF483; clear hF481
                    refine wpl_op (i := 7) rfl (o_val (v := (.int .i64 ((((((d.write n b).1).write m q).1).read (k : Nat)).2))) hF483 rfl rfl rfl rfl (rn_assign (hF483.get rfl)) ?_)
                    intro a484 hF485; clear hF483
                    refine wpList_nil ?_
                    refine hK458 _ _ ?_
                    clear hK458
                    have hF486 := (((((((((((((((((((((((((((((hF485.nil.cons (hF485.get (t := 25) (v := (.int .i64 ((((((d.write n b).1).write m q).1).read (k : Nat)).2))) rfl)).cons (hF485.get (t := 24) (v := (.slice A465 (((((((d.write n b).1).write m q).1).read (k : Nat)).1).length) c466)) rfl)).cons (hF485.get (t := 135) (v := (.bool (decide (((k : Nat) : Int) < ((d.sectors.length : Nat) : Int))))) rfl)).cons (hF485.get (t := 23) (v := (.int .i64 (k : Nat))) rfl)).cons (hF485.get (t := 124) (v := (.bool (decide ((((((d.write n b).1).write m q).1).sync.2 : Int) ≠ (0 : Int))))) rfl)).cons (hF485.get (t := 22) (v := (.int .i64 (((((d.write n b).1).write m q).1).sync.2))) rfl)).cons (hF485.get (t := 21) (v := (.pointer (some ⟨g392, 0, none⟩))) rfl)).cons (hF485.get (t := 115) (v := (.bool (decide (((((d.write n b).1).write m q).2 : Int) ≠ (0 : Int))))) rfl)).cons (hF485.get (t := 20) (v := (.int .i64 ((((d.write n b).1).write m q).2))) rfl)).cons (hF485.get (t := 19) (v := (.pointer (some ⟨g342, 0, none⟩))) rfl)).cons (hF485.get (t := 106) (v := (.bool (!decide (((d.read m).1) = ((((d.write n b).1).read m).1))))) rfl)).cons (hF485.get (t := 18) (v := (.int .i64 ((((d.write n b).1).read n).2))) rfl)).cons (hF485.get (t := 17) (v := (.slice A209 (((((d.write n b).1).read n).1).length) c210)) rfl)).cons (hF485.get (t := 16) (v := (.int .i64 ((((d.write n b).1).read m).2))) rfl)).cons (hF485.get (t := 15) (v := (.slice A180 (((((d.write n b).1).read m).1).length) c181)) rfl)).cons (hF485.get (t := 61) (v := (.bool (decide (((d.write n b).2 : Int) ≠ (0 : Int))))) rfl)).cons (hF485.get (t := 14) (v := (.int .i64 ((d.write n b).2))) rfl)).cons (hF485.get (t := 13) (v := (.pointer (some ⟨g129, 0, none⟩))) rfl)).cons (hF485.get (t := 12) (v := (.int .i64 ((d.read m).2))) rfl)).cons (hF485.get (t := 11) (v := (.slice A80 (((d.read m).1).length) c81)) rfl)).cons (hF485.get (t := 42) (v := (.bool (decide ((128 : Int) < ((q.length : Nat) : Int))))) rfl)).cons (hF485.get (t := 29) (v := (.bool false)) rfl)).cons (hF485.get (t := 10) (v := (.bool false)) rfl)).cons (hF485.get (t := 5) (v := (.pointer (some ⟨g2, 0, none⟩))) rfl)).cons (hF485.get (t := 4) (v := (.slice E q.length g)) rfl)).cons (hF485.get (t := 3) (v := (.slice C b.length f)) rfl)).cons (hF485.get (t := 2) (v := (.int .i64 m)) rfl)).cons (hF485.get (t := 1) (v := (.int .i64 n)) rfl)).cons (hF485.get (t := 0) (v := (.agg #[(.slice A d.sectors.length c), (.slice B d.pending.length e), (.int .i64 d.left), (.bool d.stopped)])) rfl))
                    clear hF485
                    refine wp_seq_k (fun K487 hK487 => ?_)
                    refine wp_region_lit ?_
                    have b488 : Blk w471 g392 25 [(.slice A375 ((((((d.write n b).1).write m q).1).sync.1).sectors.length) c376), (.slice B377 ((((((d.write n b).1).write m q).1).sync.1).pending.length) e378), (.int .i64 ((((((d.write n b).1).write m q).1).sync.1).left)), (.bool ((((((d.write n b).1).write m q).1).sync.1).stopped))] := ((b401.ext hx438).ext hx472)
                    refine wpl_op (i := 0) rfl (o_val (v := (.agg #[(.slice A375 ((((((d.write n b).1).write m q).1).sync.1).sectors.length) c376), (.slice B377 ((((((d.write n b).1).write m q).1).sync.1).pending.length) e378), (.int .i64 ((((((d.write n b).1).write m q).1).sync.1).left)), (.bool ((((((d.write n b).1).write m q).1).sync.1).stopped))])) hF486 rfl rfl rfl rfl (rn_loadBlk (hF486.get rfl) b488 Try.underlying25 rfl (by kernel_rfl : (Try.prog.info? 25).map (·.size) = some 4)) ?_)
                    intro a489 hF490; clear hF486
                    refine wpl_op (i := 1) rfl (o_val (v := (.int .i64 (k : Nat))) hF490 rfl rfl rfl rfl (rn_move (hF490.get rfl)) ?_)
                    intro a491 hF492; clear hF490
                    have d493 := (hd379.pres (((((Pres.refl w381).ext hx395).grownN hg402 (fun h => by simp only [Clip, Fr, Old] at h; omega)).ext hx438).ext hx472))
                    refine wpl_op (i := 2) rfl (o_call hF492 rfl rfl rfl rfl (rn_call (args2 (hF492.get rfl) (hF492.get rfl)) rfl (by kernel_rfl)) (read_any (S := (Clip (Fr (Clip (Fr (fun b => (Clip (Fr (fun b => (Old w) b ∨ (Old w) b) w86) w118) b ∨ (Old w) b) w233) w331) w350) w381)) _ (((((d.write n b).1).write m q).1).sync.1) _ _ d493) ?_)
                    rintro _ w500 ⟨v497, rfl, hb496, hx501⟩
                    obtain ⟨A494, c495, rfl, le498, le499⟩ := hb496.form
                    have hb496 := hb496.clip
                    refine ⟨_, rfl, ?_⟩; intro a502 hF503; clear hF492; have z504 := hx501.size
                    refine wpl_op (i := 3) rfl (o_val (v := (.tuple #[(.slice A494 ((((((((d.write n b).1).write m q).1).sync.1).read (k : Nat)).1).length) c495), (.int .i64 (((((((d.write n b).1).write m q).1).sync.1).read (k : Nat)).2))])) hF503 rfl rfl rfl rfl (rn_move (hF503.get rfl)) ?_)
                    intro a505 hF506; clear hF503
                    refine wpl_op (i := 4) rfl (o_val (v := (.slice A494 ((((((((d.write n b).1).write m q).1).sync.1).read (k : Nat)).1).length) c495)) hF506 rfl rfl rfl rfl (rn_extract (hF506.get rfl) rfl) ?_)
                    intro a507 hF508; clear hF506
                    refine wpl_op (i := 5) rfl (o_val (v := (.int .i64 (((((((d.write n b).1).write m q).1).sync.1).read (k : Nat)).2))) hF508 rfl rfl rfl rfl (rn_extract (hF508.get rfl) rfl) ?_)
                    intro a509 hF510; clear hF508
                    refine wpl_op (i := 6) rfl (o_val (v := (.slice A494 ((((((((d.write n b).1).write m q).1).sync.1).read (k : Nat)).1).length) c495)) hF510 rfl rfl rfl rfl (rn_assign (hF510.get rfl)) ?_)
                    intro a511 hF512; clear hF510
                    refine wpl_op (i := 7) rfl (o_val (v := (.int .i64 (((((((d.write n b).1).write m q).1).sync.1).read (k : Nat)).2))) hF512 rfl rfl rfl rfl (rn_assign (hF512.get rfl)) ?_)
                    intro a513 hF514; clear hF512
                    refine wpList_nil ?_
                    refine hK487 _ _ ?_
                    clear hK487
                    have hF515 := (((((((((((((((((((((((((((((((hF514.nil.cons (hF514.get (t := 27) (v := (.int .i64 (((((((d.write n b).1).write m q).1).sync.1).read (k : Nat)).2))) rfl)).cons (hF514.get (t := 26) (v := (.slice A494 ((((((((d.write n b).1).write m q).1).sync.1).read (k : Nat)).1).length) c495)) rfl)).cons (hF514.get (t := 25) (v := (.int .i64 ((((((d.write n b).1).write m q).1).read (k : Nat)).2))) rfl)).cons (hF514.get (t := 24) (v := (.slice A465 (((((((d.write n b).1).write m q).1).read (k : Nat)).1).length) c466)) rfl)).cons (hF514.get (t := 135) (v := (.bool (decide (((k : Nat) : Int) < ((d.sectors.length : Nat) : Int))))) rfl)).cons (hF514.get (t := 23) (v := (.int .i64 (k : Nat))) rfl)).cons (hF514.get (t := 124) (v := (.bool (decide ((((((d.write n b).1).write m q).1).sync.2 : Int) ≠ (0 : Int))))) rfl)).cons (hF514.get (t := 22) (v := (.int .i64 (((((d.write n b).1).write m q).1).sync.2))) rfl)).cons (hF514.get (t := 21) (v := (.pointer (some ⟨g392, 0, none⟩))) rfl)).cons (hF514.get (t := 115) (v := (.bool (decide (((((d.write n b).1).write m q).2 : Int) ≠ (0 : Int))))) rfl)).cons (hF514.get (t := 20) (v := (.int .i64 ((((d.write n b).1).write m q).2))) rfl)).cons (hF514.get (t := 19) (v := (.pointer (some ⟨g342, 0, none⟩))) rfl)).cons (hF514.get (t := 106) (v := (.bool (!decide (((d.read m).1) = ((((d.write n b).1).read m).1))))) rfl)).cons (hF514.get (t := 18) (v := (.int .i64 ((((d.write n b).1).read n).2))) rfl)).cons (hF514.get (t := 17) (v := (.slice A209 (((((d.write n b).1).read n).1).length) c210)) rfl)).cons (hF514.get (t := 16) (v := (.int .i64 ((((d.write n b).1).read m).2))) rfl)).cons (hF514.get (t := 15) (v := (.slice A180 (((((d.write n b).1).read m).1).length) c181)) rfl)).cons (hF514.get (t := 61) (v := (.bool (decide (((d.write n b).2 : Int) ≠ (0 : Int))))) rfl)).cons (hF514.get (t := 14) (v := (.int .i64 ((d.write n b).2))) rfl)).cons (hF514.get (t := 13) (v := (.pointer (some ⟨g129, 0, none⟩))) rfl)).cons (hF514.get (t := 12) (v := (.int .i64 ((d.read m).2))) rfl)).cons (hF514.get (t := 11) (v := (.slice A80 (((d.read m).1).length) c81)) rfl)).cons (hF514.get (t := 42) (v := (.bool (decide ((128 : Int) < ((q.length : Nat) : Int))))) rfl)).cons (hF514.get (t := 29) (v := (.bool false)) rfl)).cons (hF514.get (t := 10) (v := (.bool false)) rfl)).cons (hF514.get (t := 5) (v := (.pointer (some ⟨g2, 0, none⟩))) rfl)).cons (hF514.get (t := 4) (v := (.slice E q.length g)) rfl)).cons (hF514.get (t := 3) (v := (.slice C b.length f)) rfl)).cons (hF514.get (t := 2) (v := (.int .i64 m)) rfl)).cons (hF514.get (t := 1) (v := (.int .i64 n)) rfl)).cons (hF514.get (t := 0) (v := (.agg #[(.slice A d.sectors.length c), (.slice B d.pending.length e), (.int .i64 d.left), (.bool d.stopped)])) rfl))
                    clear hF514
                    refine wp_seq_k (fun K516 hK516 => ?_)
                    refine wp_region_lit ?_
                    refine wpl_op (i := 0) rfl (o_val (v := (.int .i64 ((((((d.write n b).1).write m q).1).read (k : Nat)).2))) hF515 rfl rfl rfl rfl (rn_move (hF515.get rfl)) ?_)
                    intro a517 hF518; clear hF515
                    refine wpl_op (i := 1) rfl (o_val (v := (.bool (decide (((((((d.write n b).1).write m q).1).read (k : Nat)).2 : Int) ≠ (0 : Int))))) hF518 rfl rfl rfl rfl (rn_neq (hF518.get rfl) rfl) ?_)
                    intro a519 hF520; clear hF518
                    refine wpl_op (i := 2) rfl (o_val (v := (.bool (decide (((((((d.write n b).1).write m q).1).read (k : Nat)).2 : Int) ≠ (0 : Int))))) hF520 rfl rfl rfl rfl (rn_move (hF520.get rfl)) ?_)
                    intro a521 hF522; clear hF520
                    refine wpl_op (i := 3) rfl (o_val (v := (.int .i64 (((((((d.write n b).1).write m q).1).sync.1).read (k : Nat)).2))) hF522 rfl (wanted_guard rfl rfl rfl hF522 rfl ((decide_eq_false (by rw [hry]; simp)) : decide (((((((d.write n b).1).write m q).1).read (k : Nat)).2 : Int) ≠ (0 : Int)) = false) rfl) rfl rfl (rn_move (hF522.get rfl)) ?_)
                    intro a524 hF525; clear hF522
                    refine wpl_op (i := 4) rfl (o_val (v := (.bool (decide ((((((((d.write n b).1).write m q).1).sync.1).read (k : Nat)).2 : Int) ≠ (0 : Int))))) hF525 rfl (wanted_guard rfl rfl rfl hF525 rfl ((decide_eq_false (by rw [hry]; simp)) : decide (((((((d.write n b).1).write m q).1).read (k : Nat)).2 : Int) ≠ (0 : Int)) = false) rfl) rfl rfl (rn_neq (hF525.get rfl) rfl) ?_)
                    intro a526 hF527; clear hF525
                    refine wpl_op (i := 5) rfl (o_val (v := (.bool (decide ((((((((d.write n b).1).write m q).1).sync.1).read (k : Nat)).2 : Int) ≠ (0 : Int))))) hF527 rfl rfl rfl rfl (rn_pickF (c_false hF527 rfl ((decide_eq_false (by rw [hry]; simp)) : decide (((((((d.write n b).1).write m q).1).read (k : Nat)).2 : Int) ≠ (0 : Int)) = false)) (hF527.get rfl)) ?_)
                    intro a528 hF529; clear hF527
                    refine wpl_op (i := 6) rfl (o_val (v := (.bool (decide ((((((((d.write n b).1).write m q).1).sync.1).read (k : Nat)).2 : Int) ≠ (0 : Int))))) hF529 rfl rfl rfl rfl (rn_move (hF529.get rfl)) ?_)
                    intro a530 hF531; clear hF529
                    refine wpl_op (i := 7) rfl (o_val (v := (.slice A465 (((((((d.write n b).1).write m q).1).read (k : Nat)).1).length) c466)) hF531 rfl (wanted_guard rfl rfl rfl hF531 rfl ((decide_eq_false (by rw [hrz]; simp)) : decide ((((((((d.write n b).1).write m q).1).sync.1).read (k : Nat)).2 : Int) ≠ (0 : Int)) = false) rfl) rfl rfl (rn_move (hF531.get rfl)) ?_)
                    intro a533 hF534; clear hF531
                    have d535 := (hb467.ext hx501)
                    refine wpl_op (i := 8) rfl (o_val (v := (strOf ((((((d.write n b).1).write m q).1).read (k : Nat)).1))) hF534 rfl (wanted_guard rfl rfl rfl hF534 rfl ((decide_eq_false (by rw [hrz]; simp)) : decide ((((((((d.write n b).1).write m q).1).sync.1).read (k : Nat)).2 : Int) ≠ (0 : Int)) = false) rfl) rfl rfl (rn_str (hF534.get rfl) d535 Try.underlying35 Try.underlying5 Try.underlying9) ?_)
                    intro a536 hF537; clear hF534
                    refine wpl_op (i := 9) rfl (o_val (v := (.slice A494 ((((((((d.write n b).1).write m q).1).sync.1).read (k : Nat)).1).length) c495)) hF537 rfl (wanted_guard rfl rfl rfl hF537 rfl ((decide_eq_false (by rw [hrz]; simp)) : decide ((((((((d.write n b).1).write m q).1).sync.1).read (k : Nat)).2 : Int) ≠ (0 : Int)) = false) rfl) rfl rfl (rn_move (hF537.get rfl)) ?_)
                    intro a538 hF539; clear hF537
                    refine wpl_op (i := 10) rfl (o_val (v := (strOf (((((((d.write n b).1).write m q).1).sync.1).read (k : Nat)).1))) hF539 rfl (wanted_guard rfl rfl rfl hF539 rfl ((decide_eq_false (by rw [hrz]; simp)) : decide ((((((((d.write n b).1).write m q).1).sync.1).read (k : Nat)).2 : Int) ≠ (0 : Int)) = false) rfl) rfl rfl (rn_str (hF539.get rfl) hb496 Try.underlying35 Try.underlying5 Try.underlying9) ?_)
                    intro a540 hF541; clear hF539
                    refine wpl_op (i := 11) rfl (o_val (v := (.bool (!decide (((((((d.write n b).1).write m q).1).read (k : Nat)).1) = (((((((d.write n b).1).write m q).1).sync.1).read (k : Nat)).1))))) hF541 rfl (wanted_guard rfl rfl rfl hF541 rfl ((decide_eq_false (by rw [hrz]; simp)) : decide ((((((((d.write n b).1).write m q).1).sync.1).read (k : Nat)).2 : Int) ≠ (0 : Int)) = false) rfl) rfl rfl (rn_nes (hF541.get rfl) (hF541.get rfl) rfl) ?_)
                    intro a542 hF543; clear hF541
                    refine wpl_op (i := 12) rfl (o_val (v := (.bool (!decide (((((((d.write n b).1).write m q).1).read (k : Nat)).1) = (((((((d.write n b).1).write m q).1).sync.1).read (k : Nat)).1))))) hF543 rfl rfl rfl rfl (rn_pickF (c_false hF543 rfl ((decide_eq_false (by rw [hrz]; simp)) : decide ((((((((d.write n b).1).write m q).1).sync.1).read (k : Nat)).2 : Int) ≠ (0 : Int)) = false)) (hF543.get rfl)) ?_)
                    intro a544 hF545; clear hF543
                    refine wpList_nil ?_
                    refine hK516 _ _ ?_
                    clear hK516
                    have hF546 := ((((((((((((((((((((((((((((((((hF545.nil.cons (hF545.get (t := 162) (v := (.bool (!decide (((((((d.write n b).1).write m q).1).read (k : Nat)).1) = (((((((d.write n b).1).write m q).1).sync.1).read (k : Nat)).1))))) rfl)).cons (hF545.get (t := 27) (v := (.int .i64 (((((((d.write n b).1).write m q).1).sync.1).read (k : Nat)).2))) rfl)).cons (hF545.get (t := 26) (v := (.slice A494 ((((((((d.write n b).1).write m q).1).sync.1).read (k : Nat)).1).length) c495)) rfl)).cons (hF545.get (t := 25) (v := (.int .i64 ((((((d.write n b).1).write m q).1).read (k : Nat)).2))) rfl)).cons (hF545.get (t := 24) (v := (.slice A465 (((((((d.write n b).1).write m q).1).read (k : Nat)).1).length) c466)) rfl)).cons (hF545.get (t := 135) (v := (.bool (decide (((k : Nat) : Int) < ((d.sectors.length : Nat) : Int))))) rfl)).cons (hF545.get (t := 23) (v := (.int .i64 (k : Nat))) rfl)).cons (hF545.get (t := 124) (v := (.bool (decide ((((((d.write n b).1).write m q).1).sync.2 : Int) ≠ (0 : Int))))) rfl)).cons (hF545.get (t := 22) (v := (.int .i64 (((((d.write n b).1).write m q).1).sync.2))) rfl)).cons (hF545.get (t := 21) (v := (.pointer (some ⟨g392, 0, none⟩))) rfl)).cons (hF545.get (t := 115) (v := (.bool (decide (((((d.write n b).1).write m q).2 : Int) ≠ (0 : Int))))) rfl)).cons (hF545.get (t := 20) (v := (.int .i64 ((((d.write n b).1).write m q).2))) rfl)).cons (hF545.get (t := 19) (v := (.pointer (some ⟨g342, 0, none⟩))) rfl)).cons (hF545.get (t := 106) (v := (.bool (!decide (((d.read m).1) = ((((d.write n b).1).read m).1))))) rfl)).cons (hF545.get (t := 18) (v := (.int .i64 ((((d.write n b).1).read n).2))) rfl)).cons (hF545.get (t := 17) (v := (.slice A209 (((((d.write n b).1).read n).1).length) c210)) rfl)).cons (hF545.get (t := 16) (v := (.int .i64 ((((d.write n b).1).read m).2))) rfl)).cons (hF545.get (t := 15) (v := (.slice A180 (((((d.write n b).1).read m).1).length) c181)) rfl)).cons (hF545.get (t := 61) (v := (.bool (decide (((d.write n b).2 : Int) ≠ (0 : Int))))) rfl)).cons (hF545.get (t := 14) (v := (.int .i64 ((d.write n b).2))) rfl)).cons (hF545.get (t := 13) (v := (.pointer (some ⟨g129, 0, none⟩))) rfl)).cons (hF545.get (t := 12) (v := (.int .i64 ((d.read m).2))) rfl)).cons (hF545.get (t := 11) (v := (.slice A80 (((d.read m).1).length) c81)) rfl)).cons (hF545.get (t := 42) (v := (.bool (decide ((128 : Int) < ((q.length : Nat) : Int))))) rfl)).cons (hF545.get (t := 29) (v := (.bool false)) rfl)).cons (hF545.get (t := 10) (v := (.bool false)) rfl)).cons (hF545.get (t := 5) (v := (.pointer (some ⟨g2, 0, none⟩))) rfl)).cons (hF545.get (t := 4) (v := (.slice E q.length g)) rfl)).cons (hF545.get (t := 3) (v := (.slice C b.length f)) rfl)).cons (hF545.get (t := 2) (v := (.int .i64 m)) rfl)).cons (hF545.get (t := 1) (v := (.int .i64 n)) rfl)).cons (hF545.get (t := 0) (v := (.agg #[(.slice A d.sectors.length c), (.slice B d.pending.length e), (.int .i64 d.left), (.bool d.stopped)])) rfl))
                    clear hF545
                    refine wp_cond_false (c_false hF546 rfl (not_t ((decide_eq_true (by rw [hry, hrz]; exact (sync_look hs0 hyk).symm)) : decide (((((((d.write n b).1).write m q).1).read (k : Nat)).1) = (((((((d.write n b).1).write m q).1).sync.1).read (k : Nat)).1)) = true))) ?_
                    refine wp_skip ?_
                    refine hK457 _ _ ?_
                    clear hK457
                    refine wp_region_lit ?_
                    refine wpl_op (i := 0) rfl (o_val (v := (.int .i64 (k : Nat))) hF546 rfl rfl rfl rfl (rn_move (hF546.get rfl)) ?_)
                    intro a548 hF549; clear hF546
                    refine wpl_op (i := 1) rfl (o_val (v := (.int .i64 ((k : Nat) + 1))) hF549 rfl rfl rfl rfl (rn_add (hF549.get rfl) rfl (by omega) (by omega)) ?_)
                    intro a550 hF551; clear hF549
                    refine wpl_op (i := 2) rfl (o_val (v := (.int .i64 ((k : Nat) + 1))) hF551 rfl rfl rfl rfl (rn_assign (hF551.get rfl)) ?_)
                    intro a552 hF553; clear hF551
                    refine wpList_nil ?_
                    refine ⟨⟨k + 1, ((((((((((((((((((((((((((hF553.nil.cons (q_get hF553 (t := 23) rfl (by first | rfl | (congr 1; omega)))).cons (q_get hF553 (t := 124) rfl rfl)).cons (q_get hF553 (t := 22) rfl rfl)).cons (q_get hF553 (t := 21) rfl rfl)).cons (q_get hF553 (t := 115) rfl rfl)).cons (q_get hF553 (t := 20) rfl rfl)).cons (q_get hF553 (t := 19) rfl rfl)).cons (q_get hF553 (t := 106) rfl rfl)).cons (q_get hF553 (t := 18) rfl rfl)).cons (q_get hF553 (t := 17) rfl rfl)).cons (q_get hF553 (t := 16) rfl rfl)).cons (q_get hF553 (t := 15) rfl rfl)).cons (q_get hF553 (t := 61) rfl rfl)).cons (q_get hF553 (t := 14) rfl rfl)).cons (q_get hF553 (t := 13) rfl rfl)).cons (q_get hF553 (t := 12) rfl rfl)).cons (q_get hF553 (t := 11) rfl rfl)).cons (q_get hF553 (t := 42) rfl rfl)).cons (q_get hF553 (t := 29) rfl rfl)).cons (q_get hF553 (t := 10) rfl rfl)).cons (q_get hF553 (t := 5) rfl rfl)).cons (q_get hF553 (t := 4) rfl rfl)).cons (q_get hF553 (t := 3) rfl rfl)).cons (q_get hF553 (t := 2) rfl rfl)).cons (q_get hF553 (t := 1) rfl rfl)).cons (q_get hF553 (t := 0) rfl rfl)), ((((Ext.refl w400).trans hx438).trans hx472).trans hx501), by omega⟩, ?_⟩
                    rw [hF553.get (t := 23) rfl, hL440.get (t := 23) rfl]; simp [intOf]; omega
                  · skip
                    refine wp_cond_false (c_false hF455 rfl (decide_eq_false hc456)) ?_
                    refine wp_exit ?_
                    refine exit_then ?_
                    refine exit_then ?_
                    refine exit_here ?_
                    refine hK431 _ _ ?_
                    clear hK431
                    refine wp_seq_k (fun K554 hK554 => ?_)
                    refine wp_region_lit ?_
                    refine wpl_op (i := 0) rfl (o_val (v := (.pointer (some ⟨g392, 1, none⟩))) hF455 rfl rfl rfl rfl (rn_field Try.underlying25 rfl (by kernel_rfl) (hF455.get rfl) rfl) ?_)
                    intro a555 hF556; clear hF455
                    have b557 : Blk w436 g392 25 [(.slice A375 ((((((d.write n b).1).write m q).1).sync.1).sectors.length) c376), (.slice B377 ((((((d.write n b).1).write m q).1).sync.1).pending.length) e378), (.int .i64 ((((((d.write n b).1).write m q).1).sync.1).left)), (.bool ((((((d.write n b).1).write m q).1).sync.1).stopped))] := (b401.ext hx438)
                    refine wpl_op (i := 1) rfl (o_val (v := (.slice B377 ((((((d.write n b).1).write m q).1).sync.1).pending.length) e378)) hF556 rfl rfl rfl rfl (rn_load (isAgg_no Try.underlying23 rfl) (hF556.get rfl) (b557.rule.1 1)) ?_)
                    intro a558 hF559; clear hF556
                    refine wpl_op (i := 2) rfl (o_val (v := (.int .i64 ((((((d.write n b).1).write m q).1).sync.1).pending.length : Nat))) hF559 rfl rfl rfl rfl (rn_len_slice Try.underlying23 (hF559.get rfl)) ?_)
                    intro a560 hF561; clear hF559
                    refine wpl_op (i := 3) rfl (o_val (v := (.bool (decide ((((((((d.write n b).1).write m q).1).sync.1).pending.length : Nat) : Int) = (0 : Int))))) hF561 rfl rfl rfl rfl (rn_eql (hF561.get rfl) rfl) ?_)
                    intro a562 hF563; clear hF561
                    refine wpl_op (i := 4) rfl (o_val (v := (.bool (decide ((((((((d.write n b).1).write m q).1).sync.1).pending.length : Nat) : Int) = (0 : Int))))) hF563 rfl rfl rfl rfl (rn_move (hF563.get rfl)) ?_)
                    intro a564 hF565; clear hF563
                    refine wpl_op (i := 5) rfl (o_val (v := (.agg #[(.slice A375 ((((((d.write n b).1).write m q).1).sync.1).sectors.length) c376), (.slice B377 ((((((d.write n b).1).write m q).1).sync.1).pending.length) e378), (.int .i64 ((((((d.write n b).1).write m q).1).sync.1).left)), (.bool ((((((d.write n b).1).write m q).1).sync.1).stopped))])) hF565 rfl (wanted_guard rfl rfl rfl hF565 rfl ((decide_eq_true (by omega)) : decide ((((((((d.write n b).1).write m q).1).sync.1).pending.length : Nat) : Int) = (0 : Int)) = true) rfl) rfl rfl (rn_loadBlk (hF565.get rfl) b557 Try.underlying25 rfl (by kernel_rfl : (Try.prog.info? 25).map (·.size) = some 4)) ?_)
                    intro a567 hF568; clear hF565
                    have d569 := (hd379.pres ((((Pres.refl w381).ext hx395).grownN hg402 (fun h => by simp only [Clip, Fr, Old] at h; omega)).ext hx438))
                    refine wpl_op (i := 6) rfl (o_call hF568 rfl (wanted_guard rfl rfl rfl hF568 rfl ((decide_eq_true (by omega)) : decide ((((((((d.write n b).1).write m q).1).sync.1).pending.length : Nat) : Int) = (0 : Int)) = true) rfl) rfl rfl (rn_call (args1 (hF568.get rfl)) rfl (by kernel_rfl)) (check_any (S := (Clip (Fr (Clip (Fr (fun b => (Clip (Fr (fun b => (Old w) b ∨ (Old w) b) w86) w118) b ∨ (Old w) b) w233) w331) w350) w381)) _ (((((d.write n b).1).write m q).1).sync.1) _ d569) ?_)
                    rintro _ w570 ⟨rfl, hx571⟩
                    refine ⟨_, rfl, ?_⟩; intro a572 hF573; clear hF568; have z574 := hx571.size
                    refine wpl_op (i := 7) rfl (o_val (v := (.bool (decide (((((((d.write n b).1).write m q).1).sync.1).check : Int) = (0 : Int))))) hF573 rfl (wanted_guard rfl rfl rfl hF573 rfl ((decide_eq_true (by omega)) : decide ((((((((d.write n b).1).write m q).1).sync.1).pending.length : Nat) : Int) = (0 : Int)) = true) rfl) rfl rfl (rn_eql (hF573.get rfl) rfl) ?_)
                    intro a575 hF576; clear hF573
                    refine wpl_op (i := 8) rfl (o_val (v := (.bool (decide (((((((d.write n b).1).write m q).1).sync.1).check : Int) = (0 : Int))))) hF576 rfl rfl rfl rfl (rn_pickT (c_true hF576 rfl ((decide_eq_true (by omega)) : decide ((((((((d.write n b).1).write m q).1).sync.1).pending.length : Nat) : Int) = (0 : Int)) = true)) (hF576.get rfl)) ?_)
                    intro a577 hF578; clear hF576
                    refine wpl_op (i := 9) rfl (o_val (v := (.bool (decide (((((((d.write n b).1).write m q).1).sync.1).check : Int) = (0 : Int))))) hF578 rfl rfl rfl rfl (rn_assign (hF578.get rfl)) ?_)
                    intro a579 hF580; clear hF578
                    refine wpList_nil ?_
                    refine hK554 _ _ ?_
                    clear hK554
                    have hF581 := (((((((((((((((((((((((((((hF580.nil.cons (hF580.get (t := 135) (v := (.bool (decide (((k : Nat) : Int) < ((d.sectors.length : Nat) : Int))))) rfl)).cons (hF580.get (t := 23) (v := (.int .i64 (k : Nat))) rfl)).cons (hF580.get (t := 124) (v := (.bool (decide ((((((d.write n b).1).write m q).1).sync.2 : Int) ≠ (0 : Int))))) rfl)).cons (hF580.get (t := 22) (v := (.int .i64 (((((d.write n b).1).write m q).1).sync.2))) rfl)).cons (hF580.get (t := 21) (v := (.pointer (some ⟨g392, 0, none⟩))) rfl)).cons (hF580.get (t := 115) (v := (.bool (decide (((((d.write n b).1).write m q).2 : Int) ≠ (0 : Int))))) rfl)).cons (hF580.get (t := 20) (v := (.int .i64 ((((d.write n b).1).write m q).2))) rfl)).cons (hF580.get (t := 19) (v := (.pointer (some ⟨g342, 0, none⟩))) rfl)).cons (hF580.get (t := 106) (v := (.bool (!decide (((d.read m).1) = ((((d.write n b).1).read m).1))))) rfl)).cons (hF580.get (t := 18) (v := (.int .i64 ((((d.write n b).1).read n).2))) rfl)).cons (hF580.get (t := 17) (v := (.slice A209 (((((d.write n b).1).read n).1).length) c210)) rfl)).cons (hF580.get (t := 16) (v := (.int .i64 ((((d.write n b).1).read m).2))) rfl)).cons (hF580.get (t := 15) (v := (.slice A180 (((((d.write n b).1).read m).1).length) c181)) rfl)).cons (hF580.get (t := 61) (v := (.bool (decide (((d.write n b).2 : Int) ≠ (0 : Int))))) rfl)).cons (hF580.get (t := 14) (v := (.int .i64 ((d.write n b).2))) rfl)).cons (hF580.get (t := 13) (v := (.pointer (some ⟨g129, 0, none⟩))) rfl)).cons (hF580.get (t := 12) (v := (.int .i64 ((d.read m).2))) rfl)).cons (hF580.get (t := 11) (v := (.slice A80 (((d.read m).1).length) c81)) rfl)).cons (hF580.get (t := 42) (v := (.bool (decide ((128 : Int) < ((q.length : Nat) : Int))))) rfl)).cons (hF580.get (t := 29) (v := (.bool false)) rfl)).cons (hF580.get (t := 10) (v := (.bool (decide (((((((d.write n b).1).write m q).1).sync.1).check : Int) = (0 : Int))))) rfl)).cons (hF580.get (t := 5) (v := (.pointer (some ⟨g2, 0, none⟩))) rfl)).cons (hF580.get (t := 4) (v := (.slice E q.length g)) rfl)).cons (hF580.get (t := 3) (v := (.slice C b.length f)) rfl)).cons (hF580.get (t := 2) (v := (.int .i64 m)) rfl)).cons (hF580.get (t := 1) (v := (.int .i64 n)) rfl)).cons (hF580.get (t := 0) (v := (.agg #[(.slice A d.sectors.length c), (.slice B d.pending.length e), (.int .i64 d.left), (.bool d.stopped)])) rfl))
                    clear hF580
                    refine wp_ret ?_
                    refine ret1 hF581 rfl rfl ?_
                    exact ⟨congrArg (fun b => Ending.returned (.bool b)) ((decide_eq_true (by exact runs_check hsr)) : decide (((((((d.write n b).1).write m q).1).sync.1).check : Int) = (0 : Int)) = true), (((((((((((((((((((Ext.refl w).trans hx5).trans hx15).trans hx28).trans hx87).trans hx119).trans hx132).grownN hg139 (by omega)).trans hx187).trans hx216).trans hx234).trans hx332).trans hx345).grownN hg352 (by omega)).trans hx382).trans hx395).grownN hg402 (by omega)).trans hx438).trans hx571)⟩
            · skip
              refine any_pass (i := 26) hF295 (by decide +kernel) (by decide +kernel) rfl rfl rfl rfl (fun _ _ _ _ h => h) (unwanted_guard rfl rfl rfl hF295 rfl (decide_eq_false hc296) rfl) ?_
              intro a582 hF583; clear hF295
              refine any_pass (i := 27) hF583 (by decide +kernel) (by decide +kernel) rfl rfl rfl rfl (fun _ _ _ _ h => h) (unwanted_guard rfl rfl rfl hF583 rfl (decide_eq_false hc296) rfl) ?_
              intro a584 hF585; clear hF583
              refine any_pass (i := 28) hF585 (by decide +kernel) (by decide +kernel) rfl rfl rfl rfl (fun _ _ _ _ h => h) (unwanted_guard rfl rfl rfl hF585 rfl (decide_eq_false hc296) rfl) ?_
              intro a586 hF587; clear hF585
              refine any_pass (i := 29) hF587 (by decide +kernel) (by decide +kernel) rfl rfl rfl rfl (fun _ _ _ _ h => h) (unwanted_guard rfl rfl rfl hF587 rfl (decide_eq_false hc296) rfl) ?_
              intro a588 hF589; clear hF587
              refine any_pass (i := 30) hF589 (by decide +kernel) (by decide +kernel) rfl rfl rfl rfl (fun _ _ _ _ h => h) (unwanted_guard rfl rfl rfl hF589 rfl (decide_eq_false hc296) rfl) ?_
              intro a590 hF591; clear hF589
              refine any_pure (i := 31) (v := (.bool false)) hF591 (by decide +kernel) (by decide +kernel) rfl rfl rfl rfl (fun _ _ _ _ h => h) (wanted_guard rfl rfl rfl hF591 rfl (not_t ((decide_eq_true (by rw [hrb]; show ((d.write n b).1.look n).take b.length = b; rw [write_look hw0, if_pos rfl]; exact fill_take b)) : decide ((((((d.write n b).1).read n).1).take (((b.length : Nat) : Int).toNat)) = b) = true)) rfl) (fun W => (rn_pickF (c_false hF591 rfl (decide_eq_false hc296)) rfl)) ?_
              intro a592 hF593; clear hF591
              refine any_pure (i := 32) (v := (.bool false)) hF593 (by decide +kernel) (by decide +kernel) rfl rfl rfl rfl (fun _ _ _ _ h => h) rfl (fun W => (rn_pickF (c_false hF593 rfl (not_t ((decide_eq_true (by rw [hrb]; show ((d.write n b).1.look n).take b.length = b; rw [write_look hw0, if_pos rfl]; exact fill_take b)) : decide ((((((d.write n b).1).read n).1).take (((b.length : Nat) : Int).toNat)) = b) = true))) (hF593.get rfl))) ?_
              intro a594 hF595; clear hF593
              refine any_nil (by decide +kernel) ?_
              refine hK232 _ _ ?_
              clear hK232
              have hF596 := (((((((((((((((((((hF595.nil.cons (hF595.get (t := 106) (v := (.bool false)) rfl)).cons (hF595.get (t := 18) (v := (.int .i64 ((((d.write n b).1).read n).2))) rfl)).cons (hF595.get (t := 17) (v := (.slice A209 (((((d.write n b).1).read n).1).length) c210)) rfl)).cons (hF595.get (t := 16) (v := (.int .i64 ((((d.write n b).1).read m).2))) rfl)).cons (hF595.get (t := 15) (v := (.slice A180 (((((d.write n b).1).read m).1).length) c181)) rfl)).cons (hF595.get (t := 61) (v := (.bool (decide (((d.write n b).2 : Int) ≠ (0 : Int))))) rfl)).cons (hF595.get (t := 14) (v := (.int .i64 ((d.write n b).2))) rfl)).cons (hF595.get (t := 13) (v := (.pointer (some ⟨g129, 0, none⟩))) rfl)).cons (hF595.get (t := 12) (v := (.int .i64 ((d.read m).2))) rfl)).cons (hF595.get (t := 11) (v := (.slice A80 (((d.read m).1).length) c81)) rfl)).cons (hF595.get (t := 42) (v := (.bool (decide ((128 : Int) < ((q.length : Nat) : Int))))) rfl)).cons (hF595.get (t := 29) (v := (.bool false)) rfl)).cons (hF595.get (t := 10) (v := (.bool false)) rfl)).cons (hF595.get (t := 5) (v := (.pointer (some ⟨g2, 0, none⟩))) rfl)).cons (hF595.get (t := 4) (v := (.slice E q.length g)) rfl)).cons (hF595.get (t := 3) (v := (.slice C b.length f)) rfl)).cons (hF595.get (t := 2) (v := (.int .i64 m)) rfl)).cons (hF595.get (t := 1) (v := (.int .i64 n)) rfl)).cons (hF595.get (t := 0) (v := (.agg #[(.slice A d.sectors.length c), (.slice B d.pending.length e), (.int .i64 d.left), (.bool d.stopped)])) rfl))
              clear hF595
              refine wp_cond_false (c_false hF596 rfl rfl) ?_
              refine wp_skip ?_
              refine hK231 _ _ ?_
              clear hK231
              refine wp_seq_k (fun K597 hK597 => ?_)
              refine wp_region_lit ?_
              have b598 : Blk w233 g129 25 [(.slice A112 (((d.write n b).1).sectors.length) c113), (.slice B114 (((d.write n b).1).pending.length) e115), (.int .i64 (((d.write n b).1).left)), (.bool (((d.write n b).1).stopped))] := ((b203.ext hx216).ext hx234)
              refine wpl_op (i := 0) rfl (o_val (v := (.agg #[(.slice A112 (((d.write n b).1).sectors.length) c113), (.slice B114 (((d.write n b).1).pending.length) e115), (.int .i64 (((d.write n b).1).left)), (.bool (((d.write n b).1).stopped))])) hF596 rfl rfl rfl rfl (rn_loadBlk (hF596.get rfl) b598 Try.underlying25 rfl (by kernel_rfl : (Try.prog.info? 25).map (·.size) = some 4)) ?_)
              intro a599 hF600; clear hF596
              refine wpl_op (i := 1) rfl (o_val (v := (.int .i64 m)) hF600 rfl rfl rfl rfl (rn_move (hF600.get rfl)) ?_)
              intro a601 hF602; clear hF600
              refine wpl_op (i := 2) rfl (o_val (v := (.slice E q.length g)) hF602 rfl rfl rfl rfl (rn_move (hF602.get rfl)) ?_)
              intro a603 hF604; clear hF602
              have d605 := (hd116.pres ((((((Pres.refl w118).ext hx132).grownN hg139 (fun h => by simp only [Clip, Fr, Old] at h; omega)).ext hx187).ext hx216).ext hx234))
              have d606 := (hq.pres (((((((((((Pres.refl w).ext hx5).ext hx15).ext hx28).ext hx87).ext hx119).ext hx132).grownN hg139 (fun h => by simp only [Clip, Fr, Old] at h; omega)).ext hx187).ext hx216).ext hx234))
              refine wpl_op (i := 3) rfl (o_call hF604 rfl rfl rfl rfl (rn_call (args3 (hF604.get rfl) (hF604.get rfl) (hF604.get rfl)) rfl (by kernel_rfl)) (write_any (S := (fun b => (Clip (Fr (fun b => (Old w) b ∨ (Old w) b) w86) w118) b ∨ (Old w) b)) _ _ ((d.write n b).1) _ q _ (d605.sub (fun _ => Or.inl)) (d606.sub (fun _ => Or.inr))) ?_)
              rintro _ w613 ⟨v612, rfl, hd611, hx614⟩
              obtain ⟨A607, c608, B609, e610, rfl, -, -⟩ := hd611.form
              have hd611 := hd611.clip
              refine ⟨_, rfl, ?_⟩; intro a615 hF616; clear hF604; have z617 := hx614.size
              refine wpl_op (i := 4) rfl (o_val (v := (.tuple #[(.agg #[(.slice A607 (((((d.write n b).1).write m q).1).sectors.length) c608), (.slice B609 (((((d.write n b).1).write m q).1).pending.length) e610), (.int .i64 (((((d.write n b).1).write m q).1).left)), (.bool (((((d.write n b).1).write m q).1).stopped))]), (.int .i64 ((((d.write n b).1).write m q).2))])) hF616 rfl rfl rfl rfl (rn_move (hF616.get rfl)) ?_)
              intro a618 hF619; clear hF616
              refine wpl_op (i := 5) rfl (o_val (v := (.agg #[(.slice A607 (((((d.write n b).1).write m q).1).sectors.length) c608), (.slice B609 (((((d.write n b).1).write m q).1).pending.length) e610), (.int .i64 (((((d.write n b).1).write m q).1).left)), (.bool (((((d.write n b).1).write m q).1).stopped))])) hF619 rfl rfl rfl rfl (rn_extract (hF619.get rfl) rfl) ?_)
              intro a620 hF621; clear hF619
              refine wpl_op (i := 6) rfl (o_val (v := (.int .i64 ((((d.write n b).1).write m q).2))) hF621 rfl rfl rfl rfl (rn_extract (hF621.get rfl) rfl) ?_)
              intro a622 hF623; clear hF621
              refine wpl_op (i := 7) rfl (o_new (fun g => (.pointer (some ⟨g, 0, none⟩))) [(.slice none 0 0), (.slice none 0 0), (.int .i64 0), (.bool false)] 25 hF623 rfl rfl rfl rfl (by kernel_rfl) ?_)
              intro g624 w625 a630 hF631 z628 z629 b626 hx627; clear hF623
              refine wpl_op (i := 8) rfl (o_store (cells := [(.slice A607 (((((d.write n b).1).write m q).1).sectors.length) c608), (.slice B609 (((((d.write n b).1).write m q).1).pending.length) e610), (.int .i64 (((((d.write n b).1).write m q).1).left)), (.bool (((((d.write n b).1).write m q).1).stopped))]) hF631 rfl rfl rfl rfl (hF631.get rfl) (hF631.get rfl) b626 (by kernel_rfl : (Try.prog.info? 25).map (·.size) = some 4) rfl (by simp [Value.oneCell']) ?_)
              intro w632 b633 hg634; have z635 := hg634.size
              refine wpl_op (i := 9) rfl (o_val (v := (.int .i64 ((((d.write n b).1).write m q).2))) hF631 rfl rfl rfl rfl (rn_assign (hF631.get rfl)) ?_)
              intro a636 hF637; clear hF631
              refine wpList_nil ?_
              refine hK597 _ _ ?_
              clear hK597
              have hF638 := (((((((((((((((((((((hF637.nil.cons (hF637.get (t := 20) (v := (.int .i64 ((((d.write n b).1).write m q).2))) rfl)).cons (hF637.get (t := 19) (v := (.pointer (some ⟨g624, 0, none⟩))) rfl)).cons (hF637.get (t := 106) (v := (.bool false)) rfl)).cons (hF637.get (t := 18) (v := (.int .i64 ((((d.write n b).1).read n).2))) rfl)).cons (hF637.get (t := 17) (v := (.slice A209 (((((d.write n b).1).read n).1).length) c210)) rfl)).cons (hF637.get (t := 16) (v := (.int .i64 ((((d.write n b).1).read m).2))) rfl)).cons (hF637.get (t := 15) (v := (.slice A180 (((((d.write n b).1).read m).1).length) c181)) rfl)).cons (hF637.get (t := 61) (v := (.bool (decide (((d.write n b).2 : Int) ≠ (0 : Int))))) rfl)).cons (hF637.get (t := 14) (v := (.int .i64 ((d.write n b).2))) rfl)).cons (hF637.get (t := 13) (v := (.pointer (some ⟨g129, 0, none⟩))) rfl)).cons (hF637.get (t := 12) (v := (.int .i64 ((d.read m).2))) rfl)).cons (hF637.get (t := 11) (v := (.slice A80 (((d.read m).1).length) c81)) rfl)).cons (hF637.get (t := 42) (v := (.bool (decide ((128 : Int) < ((q.length : Nat) : Int))))) rfl)).cons (hF637.get (t := 29) (v := (.bool false)) rfl)).cons (hF637.get (t := 10) (v := (.bool false)) rfl)).cons (hF637.get (t := 5) (v := (.pointer (some ⟨g2, 0, none⟩))) rfl)).cons (hF637.get (t := 4) (v := (.slice E q.length g)) rfl)).cons (hF637.get (t := 3) (v := (.slice C b.length f)) rfl)).cons (hF637.get (t := 2) (v := (.int .i64 m)) rfl)).cons (hF637.get (t := 1) (v := (.int .i64 n)) rfl)).cons (hF637.get (t := 0) (v := (.agg #[(.slice A d.sectors.length c), (.slice B d.pending.length e), (.int .i64 d.left), (.bool d.stopped)])) rfl))
              clear hF637
              refine wp_seq_k (fun K639 hK639 => ?_)
              refine wp_seq_k (fun K640 hK640 => ?_)
              refine wp_region_lit ?_
              refine wpl_op (i := 0) rfl (o_val (v := (.int .i64 ((((d.write n b).1).write m q).2))) hF638 rfl rfl rfl rfl (rn_move (hF638.get rfl)) ?_)
              intro a641 hF642; clear hF638
              refine wpl_op (i := 1) rfl (o_val (v := (.bool (decide (((((d.write n b).1).write m q).2 : Int) ≠ (0 : Int))))) hF642 rfl rfl rfl rfl (rn_neq (hF642.get rfl) rfl) ?_)
              intro a643 hF644; clear hF642
              refine wpList_nil ?_
              refine hK640 _ _ ?_
              clear hK640
              by_cases hc645 : ((((d.write n b).1).write m q).2 : Int) ≠ (0 : Int)
              · skip
                have hwe := write_err hwr ((write_has hw0).trans hr0.2) (by omega) hc645
                refine wp_cond_true (c_true hF644 rfl (decide_eq_true hc645)) ?_
                refine wp_seq_k (fun K646 hK646 => ?_)
                refine wp_region_lit ?_
                refine wpl_op (i := 0) rfl (o_val (v := (.int .i64 ((((d.write n b).1).write m q).2))) hF644 rfl rfl rfl rfl (rn_move (hF644.get rfl)) ?_)
                intro a647 hF648; clear hF644
                refine wpl_op (i := 1) rfl (o_val (v := (.bool (decide (((((d.write n b).1).write m q).2 : Int) = (2 : Int))))) hF648 rfl rfl rfl rfl (rn_eql (hF648.get rfl) rfl) ?_)
                intro a649 hF650; clear hF648
                refine wpl_op (i := 2) rfl (o_val (v := (.bool (decide (((((d.write n b).1).write m q).2 : Int) = (2 : Int))))) hF650 rfl rfl rfl rfl (rn_assign (hF650.get rfl)) ?_)
                intro a651 hF652; clear hF650
                refine wpList_nil ?_
                refine hK646 _ _ ?_
                clear hK646
                refine wp_ret ?_
                refine ret1 hF652 rfl rfl ?_
                exact ⟨congrArg (fun b => Ending.returned (.bool b)) ((decide_eq_true (by exact hwe)) : decide (((((d.write n b).1).write m q).2 : Int) = (2 : Int)) = true), ((((((((((((((Ext.refl w).trans hx5).trans hx15).trans hx28).trans hx87).trans hx119).trans hx132).grownN hg139 (by omega)).trans hx187).trans hx216).trans hx234).trans hx614).trans hx627).grownN hg634 (by omega))⟩
              · skip
                have hv0 := Decidable.not_not.1 hc645
                have hvr := write_runs hv0
                refine wp_cond_false (c_false hF644 rfl (decide_eq_false hc645)) ?_
                refine wp_skip ?_
                refine hK639 _ _ ?_
                clear hK639
                refine wp_seq_k (fun K653 hK653 => ?_)
                refine wp_region_lit ?_
                refine wpl_op (i := 0) rfl (o_val (v := (.agg #[(.slice A607 (((((d.write n b).1).write m q).1).sectors.length) c608), (.slice B609 (((((d.write n b).1).write m q).1).pending.length) e610), (.int .i64 (((((d.write n b).1).write m q).1).left)), (.bool (((((d.write n b).1).write m q).1).stopped))])) hF644 rfl rfl rfl rfl (rn_loadBlk (hF644.get rfl) b633 Try.underlying25 rfl (by kernel_rfl : (Try.prog.info? 25).map (·.size) = some 4)) ?_)
                intro a654 hF655; clear hF644
                have d656 := (hd611.pres (((Pres.refl w613).ext hx627).grownN hg634 (fun h => by simp only [Clip, Fr, Old] at h; omega)))
                refine wpl_op (i := 1) rfl (o_call hF655 rfl rfl rfl rfl (rn_call (args1 (hF655.get rfl)) rfl (by kernel_rfl)) (sync_any (S := (Clip (Fr (fun b => (Clip (Fr (fun b => (Old w) b ∨ (Old w) b) w86) w118) b ∨ (Old w) b) w233) w613)) _ ((((d.write n b).1).write m q).1) _ d656) ?_)
                rintro _ w663 ⟨v662, rfl, hd661, hx664⟩
                obtain ⟨A657, c658, B659, e660, rfl, -, -⟩ := hd661.form
                have hd661 := hd661.clip
                refine ⟨_, rfl, ?_⟩; intro a665 hF666; clear hF655; have z667 := hx664.size
                refine wpl_op (i := 2) rfl (o_val (v := (.tuple #[(.agg #[(.slice A657 ((((((d.write n b).1).write m q).1).sync.1).sectors.length) c658), (.slice B659 ((((((d.write n b).1).write m q).1).sync.1).pending.length) e660), (.int .i64 ((((((d.write n b).1).write m q).1).sync.1).left)), (.bool ((((((d.write n b).1).write m q).1).sync.1).stopped))]), (.int .i64 (((((d.write n b).1).write m q).1).sync.2))])) hF666 rfl rfl rfl rfl (rn_move (hF666.get rfl)) ?_)
                intro a668 hF669; clear hF666
                refine wpl_op (i := 3) rfl (o_val (v := (.agg #[(.slice A657 ((((((d.write n b).1).write m q).1).sync.1).sectors.length) c658), (.slice B659 ((((((d.write n b).1).write m q).1).sync.1).pending.length) e660), (.int .i64 ((((((d.write n b).1).write m q).1).sync.1).left)), (.bool ((((((d.write n b).1).write m q).1).sync.1).stopped))])) hF669 rfl rfl rfl rfl (rn_extract (hF669.get rfl) rfl) ?_)
                intro a670 hF671; clear hF669
                refine wpl_op (i := 4) rfl (o_val (v := (.int .i64 (((((d.write n b).1).write m q).1).sync.2))) hF671 rfl rfl rfl rfl (rn_extract (hF671.get rfl) rfl) ?_)
                intro a672 hF673; clear hF671
                refine wpl_op (i := 5) rfl (o_new (fun g => (.pointer (some ⟨g, 0, none⟩))) [(.slice none 0 0), (.slice none 0 0), (.int .i64 0), (.bool false)] 25 hF673 rfl rfl rfl rfl (by kernel_rfl) ?_)
                intro g674 w675 a680 hF681 z678 z679 b676 hx677; clear hF673
                refine wpl_op (i := 6) rfl (o_store (cells := [(.slice A657 ((((((d.write n b).1).write m q).1).sync.1).sectors.length) c658), (.slice B659 ((((((d.write n b).1).write m q).1).sync.1).pending.length) e660), (.int .i64 ((((((d.write n b).1).write m q).1).sync.1).left)), (.bool ((((((d.write n b).1).write m q).1).sync.1).stopped))]) hF681 rfl rfl rfl rfl (hF681.get rfl) (hF681.get rfl) b676 (by kernel_rfl : (Try.prog.info? 25).map (·.size) = some 4) rfl (by simp [Value.oneCell']) ?_)
                intro w682 b683 hg684; have z685 := hg684.size
                refine wpl_op (i := 7) rfl (o_val (v := (.int .i64 (((((d.write n b).1).write m q).1).sync.2))) hF681 rfl rfl rfl rfl (rn_assign (hF681.get rfl)) ?_)
                intro a686 hF687; clear hF681
                refine wpList_nil ?_
                refine hK653 _ _ ?_
                clear hK653
                have hF688 := ((((((((((((((((((((((((hF687.nil.cons (hF687.get (t := 22) (v := (.int .i64 (((((d.write n b).1).write m q).1).sync.2))) rfl)).cons (hF687.get (t := 21) (v := (.pointer (some ⟨g674, 0, none⟩))) rfl)).cons (hF687.get (t := 115) (v := (.bool (decide (((((d.write n b).1).write m q).2 : Int) ≠ (0 : Int))))) rfl)).cons (hF687.get (t := 20) (v := (.int .i64 ((((d.write n b).1).write m q).2))) rfl)).cons (hF687.get (t := 19) (v := (.pointer (some ⟨g624, 0, none⟩))) rfl)).cons (hF687.get (t := 106) (v := (.bool false)) rfl)).cons (hF687.get (t := 18) (v := (.int .i64 ((((d.write n b).1).read n).2))) rfl)).cons (hF687.get (t := 17) (v := (.slice A209 (((((d.write n b).1).read n).1).length) c210)) rfl)).cons (hF687.get (t := 16) (v := (.int .i64 ((((d.write n b).1).read m).2))) rfl)).cons (hF687.get (t := 15) (v := (.slice A180 (((((d.write n b).1).read m).1).length) c181)) rfl)).cons (hF687.get (t := 61) (v := (.bool (decide (((d.write n b).2 : Int) ≠ (0 : Int))))) rfl)).cons (hF687.get (t := 14) (v := (.int .i64 ((d.write n b).2))) rfl)).cons (hF687.get (t := 13) (v := (.pointer (some ⟨g129, 0, none⟩))) rfl)).cons (hF687.get (t := 12) (v := (.int .i64 ((d.read m).2))) rfl)).cons (hF687.get (t := 11) (v := (.slice A80 (((d.read m).1).length) c81)) rfl)).cons (hF687.get (t := 42) (v := (.bool (decide ((128 : Int) < ((q.length : Nat) : Int))))) rfl)).cons (hF687.get (t := 29) (v := (.bool false)) rfl)).cons (hF687.get (t := 10) (v := (.bool false)) rfl)).cons (hF687.get (t := 5) (v := (.pointer (some ⟨g2, 0, none⟩))) rfl)).cons (hF687.get (t := 4) (v := (.slice E q.length g)) rfl)).cons (hF687.get (t := 3) (v := (.slice C b.length f)) rfl)).cons (hF687.get (t := 2) (v := (.int .i64 m)) rfl)).cons (hF687.get (t := 1) (v := (.int .i64 n)) rfl)).cons (hF687.get (t := 0) (v := (.agg #[(.slice A d.sectors.length c), (.slice B d.pending.length e), (.int .i64 d.left), (.bool d.stopped)])) rfl))
                clear hF687
                refine wp_seq_k (fun K689 hK689 => ?_)
                refine wp_seq_k (fun K690 hK690 => ?_)
                refine wp_region_lit ?_
                refine wpl_op (i := 0) rfl (o_val (v := (.int .i64 (((((d.write n b).1).write m q).1).sync.2))) hF688 rfl rfl rfl rfl (rn_move (hF688.get rfl)) ?_)
                intro a691 hF692; clear hF688
                refine wpl_op (i := 1) rfl (o_val (v := (.bool (decide ((((((d.write n b).1).write m q).1).sync.2 : Int) ≠ (0 : Int))))) hF692 rfl rfl rfl rfl (rn_neq (hF692.get rfl) rfl) ?_)
                intro a693 hF694; clear hF692
                refine wpList_nil ?_
                refine hK690 _ _ ?_
                clear hK690
                by_cases hc695 : (((((d.write n b).1).write m q).1).sync.2 : Int) ≠ (0 : Int)
                · skip
                  have hse := sync_err hvr hc695
                  refine wp_cond_true (c_true hF694 rfl (decide_eq_true hc695)) ?_
                  refine wp_seq_k (fun K696 hK696 => ?_)
                  refine wp_region_lit ?_
                  refine wpl_op (i := 0) rfl (o_val (v := (.int .i64 (((((d.write n b).1).write m q).1).sync.2))) hF694 rfl rfl rfl rfl (rn_move (hF694.get rfl)) ?_)
                  intro a697 hF698; clear hF694
                  refine wpl_op (i := 1) rfl (o_val (v := (.bool (decide ((((((d.write n b).1).write m q).1).sync.2 : Int) = (380 : Int))))) hF698 rfl rfl rfl rfl (rn_eql (hF698.get rfl) rfl) ?_)
                  intro a699 hF700; clear hF698
                  refine wpl_op (i := 2) rfl (o_val (v := (.bool (decide ((((((d.write n b).1).write m q).1).sync.2 : Int) = (380 : Int))))) hF700 rfl rfl rfl rfl (rn_move (hF700.get rfl)) ?_)
                  intro a701 hF702; clear hF700
                  refine wpl_op (i := 3) rfl (o_val (v := (.pointer (some ⟨g674, 3, none⟩))) hF702 rfl (wanted_guard rfl rfl rfl hF702 rfl ((decide_eq_true (by exact hse.1)) : decide ((((((d.write n b).1).write m q).1).sync.2 : Int) = (380 : Int)) = true) rfl) rfl rfl (rn_field Try.underlying25 rfl (by kernel_rfl) (hF702.get rfl) rfl) ?_)
                  intro a704 hF705; clear hF702
                  refine wpl_op (i := 4) rfl (o_val (v := (.bool ((((((d.write n b).1).write m q).1).sync.1).stopped))) hF705 rfl (wanted_guard rfl rfl rfl hF705 rfl ((decide_eq_true (by exact hse.1)) : decide ((((((d.write n b).1).write m q).1).sync.2 : Int) = (380 : Int)) = true) rfl) rfl rfl (rn_load (isAgg_no Try.underlying4 rfl) (hF705.get rfl) (b683.rule.1 3)) ?_)
                  intro a706 hF707; clear hF705
                  refine wpl_op (i := 5) rfl (o_val (v := (.bool ((((((d.write n b).1).write m q).1).sync.1).stopped))) hF707 rfl rfl rfl rfl (rn_pickT (c_true hF707 rfl ((decide_eq_true (by exact hse.1)) : decide ((((((d.write n b).1).write m q).1).sync.2 : Int) = (380 : Int)) = true)) (hF707.get rfl)) ?_)
                  intro a708 hF709; clear hF707
                  refine wpl_op (i := 6) rfl (o_val (v := (.bool ((((((d.write n b).1).write m q).1).sync.1).stopped))) hF709 rfl rfl rfl rfl (rn_assign (hF709.get rfl)) ?_)
                  intro a710 hF711; clear hF709
                  refine wpList_nil ?_
                  refine hK696 _ _ ?_
                  clear hK696
                  have hF712 := (((((((((((((((((((((((((hF711.nil.cons (hF711.get (t := 124) (v := (.bool (decide ((((((d.write n b).1).write m q).1).sync.2 : Int) ≠ (0 : Int))))) rfl)).cons (hF711.get (t := 22) (v := (.int .i64 (((((d.write n b).1).write m q).1).sync.2))) rfl)).cons (hF711.get (t := 21) (v := (.pointer (some ⟨g674, 0, none⟩))) rfl)).cons (hF711.get (t := 115) (v := (.bool (decide (((((d.write n b).1).write m q).2 : Int) ≠ (0 : Int))))) rfl)).cons (hF711.get (t := 20) (v := (.int .i64 ((((d.write n b).1).write m q).2))) rfl)).cons (hF711.get (t := 19) (v := (.pointer (some ⟨g624, 0, none⟩))) rfl)).cons (hF711.get (t := 106) (v := (.bool false)) rfl)).cons (hF711.get (t := 18) (v := (.int .i64 ((((d.write n b).1).read n).2))) rfl)).cons (hF711.get (t := 17) (v := (.slice A209 (((((d.write n b).1).read n).1).length) c210)) rfl)).cons (hF711.get (t := 16) (v := (.int .i64 ((((d.write n b).1).read m).2))) rfl)).cons (hF711.get (t := 15) (v := (.slice A180 (((((d.write n b).1).read m).1).length) c181)) rfl)).cons (hF711.get (t := 61) (v := (.bool (decide (((d.write n b).2 : Int) ≠ (0 : Int))))) rfl)).cons (hF711.get (t := 14) (v := (.int .i64 ((d.write n b).2))) rfl)).cons (hF711.get (t := 13) (v := (.pointer (some ⟨g129, 0, none⟩))) rfl)).cons (hF711.get (t := 12) (v := (.int .i64 ((d.read m).2))) rfl)).cons (hF711.get (t := 11) (v := (.slice A80 (((d.read m).1).length) c81)) rfl)).cons (hF711.get (t := 42) (v := (.bool (decide ((128 : Int) < ((q.length : Nat) : Int))))) rfl)).cons (hF711.get (t := 29) (v := (.bool false)) rfl)).cons (hF711.get (t := 10) (v := (.bool ((((((d.write n b).1).write m q).1).sync.1).stopped))) rfl)).cons (hF711.get (t := 5) (v := (.pointer (some ⟨g2, 0, none⟩))) rfl)).cons (hF711.get (t := 4) (v := (.slice E q.length g)) rfl)).cons (hF711.get (t := 3) (v := (.slice C b.length f)) rfl)).cons (hF711.get (t := 2) (v := (.int .i64 m)) rfl)).cons (hF711.get (t := 1) (v := (.int .i64 n)) rfl)).cons (hF711.get (t := 0) (v := (.agg #[(.slice A d.sectors.length c), (.slice B d.pending.length e), (.int .i64 d.left), (.bool d.stopped)])) rfl))
                  clear hF711
                  refine wp_ret ?_
                  refine ret1 hF712 rfl rfl ?_
                  exact ⟨congrArg (fun b => Ending.returned (.bool b)) (hse.2 : (((((d.write n b).1).write m q).1).sync.1).stopped = true), (((((((((((((((((Ext.refl w).trans hx5).trans hx15).trans hx28).trans hx87).trans hx119).trans hx132).grownN hg139 (by omega)).trans hx187).trans hx216).trans hx234).trans hx614).trans hx627).grownN hg634 (by omega)).trans hx664).trans hx677).grownN hg684 (by omega))⟩
                · skip
                  have hs0 := Decidable.not_not.1 hc695
                  have hsr := sync_runs hs0
                  have hsl : ((d.write n b).1.write m q).1.sync.1.pending.length = 0 := by rw [(sync0 hs0).2.2]; rfl
                  refine wp_cond_false (c_false hF694 rfl (decide_eq_false hc695)) ?_
                  refine wp_skip ?_
                  refine hK689 _ _ ?_
                  clear hK689
                  refine wp_seq_k (fun K713 hK713 => ?_)
                  refine wp_seq_k (fun K714 hK714 => ?_)
                  refine wp_region_lit ?_
                  refine wpl_op (i := 0) rfl (o_val (v := (.int .i64 0)) hF694 rfl rfl rfl rfl (rn_assign rfl) ?_)
                  intro a715 hF716; clear hF694
                  refine wpList_nil ?_
                  refine hK714 _ _ ?_
                  clear hK714
                  refine wp_block ?_
                  refine wp_loop (fun a' W => ∃ (k : Nat), Sl 172 [(0, (.agg #[(.slice A d.sectors.length c), (.slice B d.pending.length e), (.int .i64 d.left), (.bool d.stopped)])), (1, (.int .i64 n)), (2, (.int .i64 m)), (3, (.slice C b.length f)), (4, (.slice E q.length g)), (5, (.pointer (some ⟨g2, 0, none⟩))), (10, (.bool false)), (29, (.bool false)), (42, (.bool (decide ((128 : Int) < ((q.length : Nat) : Int))))), (11, (.slice A80 (((d.read m).1).length) c81)), (12, (.int .i64 ((d.read m).2))), (13, (.pointer (some ⟨g129, 0, none⟩))), (14, (.int .i64 ((d.write n b).2))), (61, (.bool (decide (((d.write n b).2 : Int) ≠ (0 : Int))))), (15, (.slice A180 (((((d.write n b).1).read m).1).length) c181)), (16, (.int .i64 ((((d.write n b).1).read m).2))), (17, (.slice A209 (((((d.write n b).1).read n).1).length) c210)), (18, (.int .i64 ((((d.write n b).1).read n).2))), (106, (.bool false)), (19, (.pointer (some ⟨g624, 0, none⟩))), (20, (.int .i64 ((((d.write n b).1).write m q).2))), (115, (.bool (decide (((((d.write n b).1).write m q).2 : Int) ≠ (0 : Int))))), (21, (.pointer (some ⟨g674, 0, none⟩))), (22, (.int .i64 (((((d.write n b).1).write m q).1).sync.2))), (124, (.bool (decide ((((((d.write n b).1).write m q).1).sync.2 : Int) ≠ (0 : Int))))), (23, (.int .i64 (k : Nat)))] a' ∧ Ext w682 W ∧ k ≤ d.sectors.length) (fun a' _ => d.sectors.length - (intOf (a'.eval (.tmp 23))).toNat) ⟨0, ((((((((((((((((((((((((((hF716.nil.cons (hF716.get (t := 23) (v := (.int .i64 0)) rfl)).cons (hF716.get (t := 124) (v := (.bool (decide ((((((d.write n b).1).write m q).1).sync.2 : Int) ≠ (0 : Int))))) rfl)).cons (hF716.get (t := 22) (v := (.int .i64 (((((d.write n b).1).write m q).1).sync.2))) rfl)).cons (hF716.get (t := 21) (v := (.pointer (some ⟨g674, 0, none⟩))) rfl)).cons (hF716.get (t := 115) (v := (.bool (decide (((((d.write n b).1).write m q).2 : Int) ≠ (0 : Int))))) rfl)).cons (hF716.get (t := 20) (v := (.int .i64 ((((d.write n b).1).write m q).2))) rfl)).cons (hF716.get (t := 19) (v := (.pointer (some ⟨g624, 0, none⟩))) rfl)).cons (hF716.get (t := 106) (v := (.bool false)) rfl)).cons (hF716.get (t := 18) (v := (.int .i64 ((((d.write n b).1).read n).2))) rfl)).cons (hF716.get (t := 17) (v := (.slice A209 (((((d.write n b).1).read n).1).length) c210)) rfl)).cons (hF716.get (t := 16) (v := (.int .i64 ((((d.write n b).1).read m).2))) rfl)).cons (hF716.get (t := 15) (v := (.slice A180 (((((d.write n b).1).read m).1).length) c181)) rfl)).cons (hF716.get (t := 61) (v := (.bool (decide (((d.write n b).2 : Int) ≠ (0 : Int))))) rfl)).cons (hF716.get (t := 14) (v := (.int .i64 ((d.write n b).2))) rfl)).cons (hF716.get (t := 13) (v := (.pointer (some ⟨g129, 0, none⟩))) rfl)).cons (hF716.get (t := 12) (v := (.int .i64 ((d.read m).2))) rfl)).cons (hF716.get (t := 11) (v := (.slice A80 (((d.read m).1).length) c81)) rfl)).cons (hF716.get (t := 42) (v := (.bool (decide ((128 : Int) < ((q.length : Nat) : Int))))) rfl)).cons (hF716.get (t := 29) (v := (.bool false)) rfl)).cons (hF716.get (t := 10) (v := (.bool false)) rfl)).cons (hF716.get (t := 5) (v := (.pointer (some ⟨g2, 0, none⟩))) rfl)).cons (hF716.get (t := 4) (v := (.slice E q.length g)) rfl)).cons (hF716.get (t := 3) (v := (.slice C b.length f)) rfl)).cons (hF716.get (t := 2) (v := (.int .i64 m)) rfl)).cons (hF716.get (t := 1) (v := (.int .i64 n)) rfl)).cons (hF716.get (t := 0) (v := (.agg #[(.slice A d.sectors.length c), (.slice B d.pending.length e), (.int .i64 d.left), (.bool d.stopped)])) rfl)), Ext.refl _, Nat.zero_le _⟩ ?_
                  rintro a717 w718 ⟨k, hF719, hx720, hp721⟩
                  have hL722 := hF719
                  have z723 := hx720.size
                  clear hF716
                  refine wp_seq_k (fun K724 hK724 => ?_)
                  refine wp_seq_k (fun K725 hK725 => ?_)
                  refine wp_region_lit ?_
                  refine wpl_op (i := 0) rfl (o_val (v := (.int .i64 (k : Nat))) hF719 rfl rfl rfl rfl (rn_move (hF719.get rfl)) ?_)
                  intro a726 hF727; clear hF719
                  refine wpl_op (i := 1) rfl (o_val (v := (.pointer (some ⟨g2, 0, none⟩))) hF727 rfl rfl rfl rfl (rn_field Try.underlying25 rfl (by kernel_rfl) (hF727.get rfl) rfl) ?_)
                  intro a728 hF729; clear hF727
                  have b730 : Blk w718 g2 25 [(.slice A d.sectors.length c), (.slice B d.pending.length e), (.int .i64 d.left), (.bool d.stopped)] := (((((((((((((b103.ext hx119).ext hx132).grownN hg139 (by omega)).ext hx187).ext hx216).ext hx234).ext hx614).ext hx627).grownN hg634 (by omega)).ext hx664).ext hx677).grownN hg684 (by omega)).ext hx720)
                  refine wpl_op (i := 2) rfl (o_val (v := (.slice A d.sectors.length c)) hF729 rfl rfl rfl rfl (rn_load (isAgg_no Try.underlying22 rfl) (hF729.get rfl) (b730.rule.1 0)) ?_)
                  intro a731 hF732; clear hF729
                  refine wpl_op (i := 3) rfl (o_val (v := (.int .i64 (d.sectors.length : Nat))) hF732 rfl rfl rfl rfl (rn_len_slice Try.underlying22 (hF732.get rfl)) ?_)
                  intro a733 hF734; clear hF732
                  refine wpl_op (i := 4) rfl (o_val (v := (.bool (decide (((k : Nat) : Int) < ((d.sectors.length : Nat) : Int))))) hF734 rfl rfl rfl rfl (rn_lss (hF734.get rfl) (hF734.get rfl)) ?_)
                  intro a735 hF736; clear hF734
                  refine wpList_nil ?_
                  refine hK725 _ _ ?_
                  clear hK725
                  have hF737 := (((((((((((((((((((((((((((hF736.nil.cons (hF736.get (t := 135) (v := (.bool (decide (((k : Nat) : Int) < ((d.sectors.length : Nat) : Int))))) rfl)).cons (hF736.get (t := 23) (v := (.int .i64 (k : Nat))) rfl)).cons (hF736.get (t := 124) (v := (.bool (decide ((((((d.write n b).1).write m q).1).sync.2 : Int) ≠ (0 : Int))))) rfl)).cons (hF736.get (t := 22) (v := (.int .i64 (((((d.write n b).1).write m q).1).sync.2))) rfl)).cons (hF736.get (t := 21) (v := (.pointer (some ⟨g674, 0, none⟩))) rfl)).cons (hF736.get (t := 115) (v := (.bool (decide (((((d.write n b).1).write m q).2 : Int) ≠ (0 : Int))))) rfl)).cons (hF736.get (t := 20) (v := (.int .i64 ((((d.write n b).1).write m q).2))) rfl)).cons (hF736.get (t := 19) (v := (.pointer (some ⟨g624, 0, none⟩))) rfl)).cons (hF736.get (t := 106) (v := (.bool false)) rfl)).cons (hF736.get (t := 18) (v := (.int .i64 ((((d.write n b).1).read n).2))) rfl)).cons (hF736.get (t := 17) (v := (.slice A209 (((((d.write n b).1).read n).1).length) c210)) rfl)).cons (hF736.get (t := 16) (v := (.int .i64 ((((d.write n b).1).read m).2))) rfl)).cons (hF736.get (t := 15) (v := (.slice A180 (((((d.write n b).1).read m).1).length) c181)) rfl)).cons (hF736.get (t := 61) (v := (.bool (decide (((d.write n b).2 : Int) ≠ (0 : Int))))) rfl)).cons (hF736.get (t := 14) (v := (.int .i64 ((d.write n b).2))) rfl)).cons (hF736.get (t := 13) (v := (.pointer (some ⟨g129, 0, none⟩))) rfl)).cons (hF736.get (t := 12) (v := (.int .i64 ((d.read m).2))) rfl)).cons (hF736.get (t := 11) (v := (.slice A80 (((d.read m).1).length) c81)) rfl)).cons (hF736.get (t := 42) (v := (.bool (decide ((128 : Int) < ((q.length : Nat) : Int))))) rfl)).cons (hF736.get (t := 29) (v := (.bool false)) rfl)).cons (hF736.get (t := 10) (v := (.bool false)) rfl)).cons (hF736.get (t := 5) (v := (.pointer (some ⟨g2, 0, none⟩))) rfl)).cons (hF736.get (t := 4) (v := (.slice E q.length g)) rfl)).cons (hF736.get (t := 3) (v := (.slice C b.length f)) rfl)).cons (hF736.get (t := 2) (v := (.int .i64 m)) rfl)).cons (hF736.get (t := 1) (v := (.int .i64 n)) rfl)).cons (hF736.get (t := 0) (v := (.agg #[(.slice A d.sectors.length c), (.slice B d.pending.length e), (.int .i64 d.left), (.bool d.stopped)])) rfl))
                  clear hF736
                  by_cases hc738 : ((k : Nat) : Int) < ((d.sectors.length : Nat) : Int)
                  · skip
                    have hdk : d.has (k : Nat) = true := has_iff.2 ⟨by omega, by omega⟩
                    have hyk := (write_has hv0).trans ((write_has hw0).trans hdk)
                    have hzk := (sync_has hs0).trans hyk
                    have hry := read_of hvr hyk
                    have hrz := read_of hsr hzk
                    refine wp_cond_true (c_true hF737 rfl (decide_eq_true hc738)) ?_
                    refine wp_skip ?_
                    refine hK724 _ _ ?_
                    clear hK724
                    refine wp_seq_k (fun K739 hK739 => ?_)
                    refine wp_block ?_
                    refine wp_seq_k (fun K740 hK740 => ?_)
                    refine wp_region_lit ?_
                    have b741 : Blk w718 g624 25 [(.slice A607 (((((d.write n b).1).write m q).1).sectors.length) c608), (.slice B609 (((((d.write n b).1).write m q).1).pending.length) e610), (.int .i64 (((((d.write n b).1).write m q).1).left)), (.bool (((((d.write n b).1).write m q).1).stopped))] := ((((b633.ext hx664).ext hx677).grownN hg684 (by omega)).ext hx720)
                    refine wpl_op (i := 0) rfl (o_val (v := (.agg #[(.slice A607 (((((d.write n b).1).write m q).1).sectors.length) c608), (.slice B609 (((((d.write n b).1).write m q).1).pending.length) e610), (.int .i64 (((((d.write n b).1).write m q).1).left)), (.bool (((((d.write n b).1).write m q).1).stopped))])) hF737 rfl rfl rfl rfl (rn_loadBlk (hF737.get rfl) b741 Try.underlying25 rfl (by kernel_rfl : (Try.prog.info? 25).map (·.size) = some 4)) ?_)
                    intro a742 hF743; clear hF737
                    refine wpl_op (i := 1) rfl (o_val (v := (.int .i64 (k : Nat))) hF743 rfl rfl rfl rfl (rn_move (hF743.get rfl)) ?_)
                    intro a744 hF745; clear hF743
                    have d746 := (hd611.pres (((((((Pres.refl w613).ext hx627).grownN hg634 (fun h => by simp only [Clip, Fr, Old] at h; omega)).ext hx664).ext hx677).grownN hg684 (fun h => by simp only [Clip, Fr, Old] at h; omega)).ext hx720))
                    refine wpl_op (i := 2) rfl (o_call hF745 rfl rfl rfl rfl (rn_call (args2 (hF745.get rfl) (hF745.get rfl)) rfl (by kernel_rfl)) (read_any (S := (Clip (Fr (fun b => (Clip (Fr (fun b => (Old w) b ∨ (Old w) b) w86) w118) b ∨ (Old w) b) w233) w613)) _ ((((d.write n b).1).write m q).1) _ _ d746) ?_)
                    rintro _ w753 ⟨v750, rfl, hb749, hx754⟩
                    obtain ⟨A747, c748, rfl, le751, le752⟩ := hb749.form
                    have hb749 := hb749.clip
                    refine ⟨_, rfl, ?_⟩; intro a755 hF756; clear hF745; have z757 := hx754.size
                    refine wpl_op (i := 3) rfl (o_val (v := (.tuple #[(.slice A747 (((((((d.write n b).1).write m q).1).read (k : Nat)).1).length) c748), (.int .i64 ((((((d.write n b).1).write m q).1).read (k : Nat)).2))])) hF756 rfl rfl rfl rfl (rn_move (hF756.get rfl)) ?_)
                    intro a758 hF759; clear hF756
                    refine wpl_op (i := 4) rfl (o_val (v := (.slice A747 (((((((d.write n b).1).write m q).1).read (k : Nat)).1).length) c748)) hF759 rfl rfl rfl rfl (rn_extract (hF759.get rfl) rfl) ?_)
                    intro a760 hF761; clear hF759
                    refine wpl_op (i := 5) rfl (o_val (v := (.int .i64 ((((((d.write n b).1).write m q).1).read (k : Nat)).2))) hF761 rfl rfl rfl rfl (rn_extract (hF761.get rfl) rfl) ?_)
                    intro a762 hF763; clear hF761
                    refine wpl_op (i := 6) rfl (o_val (v := (.slice A747 (((((((d.write n b).1).write m q).1).read (k : Nat)).1).length) c748)) hF763 rfl rfl rfl rfl (rn_assign (hF763.get rfl)) ?_)
                    intro a764 hF765; clear hF763
                    refine wpl_op (i := 7) rfl (o_val (v := (.int .i64 ((((((d.write n b).1).write m q).1).read (k : Nat)).2))) hF765 rfl rfl rfl rfl (rn_assign (hF765.get rfl)) ?_)
                    intro a766 hF767; clear hF765
                    refine wpList_nil ?_
                    refine hK740 _ _ ?_
                    clear hK740
                    have hF768 := (((((((((((((((((((((((((((((hF767.nil.cons (hF767.get (t := 25) (v := (.int .i64 ((((((d.write n b).1).write m q).1).read (k : Nat)).2))) rfl)).cons (hF767.get (t := 24) (v := (.slice A747 (((((((d.write n b).1).write m q).1).read (k : Nat)).1).length) c748)) rfl)).cons (hF767.get (t := 135) (v := (.bool (decide (((k : Nat) : Int) < ((d.sectors.length : Nat) : Int))))) rfl)).cons (hF767.get (t := 23) (v := (.int .i64 (k : Nat))) rfl)).cons (hF767.get (t := 124) (v := (.bool (decide ((((((d.write n b).1).write m q).1).sync.2 : Int) ≠ (0 : Int))))) rfl)).cons (hF767.get (t := 22) (v := (.int .i64 (((((d.write n b).1).write m q).1).sync.2))) rfl)).cons (hF767.get (t := 21) (v := (.pointer (some ⟨g674, 0, none⟩))) rfl)).cons (hF767.get (t := 115) (v := (.bool (decide (((((d.write n b).1).write m q).2 : Int) ≠ (0 : Int))))) rfl)).cons (hF767.get (t := 20) (v := (.int .i64 ((((d.write n b).1).write m q).2))) rfl)).cons (hF767.get (t := 19) (v := (.pointer (some ⟨g624, 0, none⟩))) rfl)).cons (hF767.get (t := 106) (v := (.bool false)) rfl)).cons (hF767.get (t := 18) (v := (.int .i64 ((((d.write n b).1).read n).2))) rfl)).cons (hF767.get (t := 17) (v := (.slice A209 (((((d.write n b).1).read n).1).length) c210)) rfl)).cons (hF767.get (t := 16) (v := (.int .i64 ((((d.write n b).1).read m).2))) rfl)).cons (hF767.get (t := 15) (v := (.slice A180 (((((d.write n b).1).read m).1).length) c181)) rfl)).cons (hF767.get (t := 61) (v := (.bool (decide (((d.write n b).2 : Int) ≠ (0 : Int))))) rfl)).cons (hF767.get (t := 14) (v := (.int .i64 ((d.write n b).2))) rfl)).cons (hF767.get (t := 13) (v := (.pointer (some ⟨g129, 0, none⟩))) rfl)).cons (hF767.get (t := 12) (v := (.int .i64 ((d.read m).2))) rfl)).cons (hF767.get (t := 11) (v := (.slice A80 (((d.read m).1).length) c81)) rfl)).cons (hF767.get (t := 42) (v := (.bool (decide ((128 : Int) < ((q.length : Nat) : Int))))) rfl)).cons (hF767.get (t := 29) (v := (.bool false)) rfl)).cons (hF767.get (t := 10) (v := (.bool false)) rfl)).cons (hF767.get (t := 5) (v := (.pointer (some ⟨g2, 0, none⟩))) rfl)).cons (hF767.get (t := 4) (v := (.slice E q.length g)) rfl)).cons (hF767.get (t := 3) (v := (.slice C b.length f)) rfl)).cons (hF767.get (t := 2) (v := (.int .i64 m)) rfl)).cons (hF767.get (t := 1) (v := (.int .i64 n)) rfl)).cons (hF767.get (t := 0) (v := (.agg #[(.slice A d.sectors.length c), (.slice B d.pending.length e), (.int .i64 d.left), (.bool d.stopped)])) rfl))
                    clear hF767
                    refine wp_seq_k (fun K769 hK769 => ?_)
                    refine wp_region_lit ?_
                    have b770 : Blk w753 g674 25 [(.slice A657 ((((((d.write n b).1).write m q).1).sync.1).sectors.length) c658), (.slice B659 ((((((d.write n b).1).write m q).1).sync.1).pending.length) e660), (.int .i64 ((((((d.write n b).1).write m q).1).sync.1).left)), (.bool ((((((d.write n b).1).write m q).1).sync.1).stopped))] := ((b683.ext hx720).ext hx754)
                    refine wpl_op (i := 0) rfl (o_val (v := (.agg #[(.slice A657 ((((((d.write n b).1).write m q).1).sync.1).sectors.length) c658), (.slice B659 ((((((d.write n b).1).write m q).1).sync.1).pending.length) e660), (.int .i64 ((((((d.write n b).1).write m q).1).sync.1).left)), (.bool ((((((d.write n b).1).write m q).1).sync.1).stopped))])) hF768 rfl rfl rfl rfl (rn_loadBlk (hF768.get rfl) b770 Try.underlying25 rfl (by kernel_rfl : (Try.prog.info? 25).map (·.size) = some 4)) ?_)
                    intro a771 hF772; clear hF768
                    refine wpl_op (i := 1) rfl (o_val (v := (.int .i64 (k : Nat))) hF772 rfl rfl rfl rfl (rn_move (hF772.get rfl)) ?_)
                    intro a773 hF774; clear hF772
                    have d775 := (hd661.pres (((((Pres.refl w663).ext hx677).grownN hg684 (fun h => by simp only [Clip, Fr, Old] at h; omega)).ext hx720).ext hx754))
                    refine wpl_op (i := 2) rfl (o_call hF774 rfl rfl rfl rfl (rn_call (args2 (hF774.get rfl) (hF774.get rfl)) rfl (by kernel_rfl)) (read_any (S := (Clip (Fr (Clip (Fr (fun b => (Clip (Fr (fun b => (Old w) b ∨ (Old w) b) w86) w118) b ∨ (Old w) b) w233) w613) w632) w663)) _ (((((d.write n b).1).write m q).1).sync.1) _ _ d775) ?_)
                    rintro _ w782 ⟨v779, rfl, hb778, hx783⟩
                    obtain ⟨A776, c777, rfl, le780, le781⟩ := hb778.form
                    have hb778 := hb778.clip
                    refine ⟨_, rfl, ?_⟩; intro a784 hF785; clear hF774; have z786 := hx783.size
                    refine wpl_op (i := 3) rfl (o_val (v := (.tuple #[(.slice A776 ((((((((d.write n b).1).write m q).1).sync.1).read (k : Nat)).1).length) c777), (.int .i64 (((((((d.write n b).1).write m q).1).sync.1).read (k : Nat)).2))])) hF785 rfl rfl rfl rfl (rn_move (hF785.get rfl)) ?_)
                    intro a787 hF788; clear hF785
                    refine wpl_op (i := 4) rfl (o_val (v := (.slice A776 ((((((((d.write n b).1).write m q).1).sync.1).read (k : Nat)).1).length) c777)) hF788 rfl rfl rfl rfl (rn_extract (hF788.get rfl) rfl) ?_)
                    intro a789 hF790; clear hF788
                    refine wpl_op (i := 5) rfl (o_val (v := (.int .i64 (((((((d.write n b).1).write m q).1).sync.1).read (k : Nat)).2))) hF790 rfl rfl rfl rfl (rn_extract (hF790.get rfl) rfl) ?_)
                    intro a791 hF792; clear hF790
                    refine wpl_op (i := 6) rfl (o_val (v := (.slice A776 ((((((((d.write n b).1).write m q).1).sync.1).read (k : Nat)).1).length) c777)) hF792 rfl rfl rfl rfl (rn_assign (hF792.get rfl)) ?_)
                    intro a793 hF794; clear hF792
                    refine wpl_op (i := 7) rfl (o_val (v := (.int .i64 (((((((d.write n b).1).write m q).1).sync.1).read (k : Nat)).2))) hF794 rfl rfl rfl rfl (rn_assign (hF794.get rfl)) ?_)
                    intro a795 hF796; clear hF794
                    refine wpList_nil ?_
                    refine hK769 _ _ ?_
                    clear hK769
                    have hF797 := (((((((((((((((((((((((((((((((hF796.nil.cons (hF796.get (t := 27) (v := (.int .i64 (((((((d.write n b).1).write m q).1).sync.1).read (k : Nat)).2))) rfl)).cons (hF796.get (t := 26) (v := (.slice A776 ((((((((d.write n b).1).write m q).1).sync.1).read (k : Nat)).1).length) c777)) rfl)).cons (hF796.get (t := 25) (v := (.int .i64 ((((((d.write n b).1).write m q).1).read (k : Nat)).2))) rfl)).cons (hF796.get (t := 24) (v := (.slice A747 (((((((d.write n b).1).write m q).1).read (k : Nat)).1).length) c748)) rfl)).cons (hF796.get (t := 135) (v := (.bool (decide (((k : Nat) : Int) < ((d.sectors.length : Nat) : Int))))) rfl)).cons (hF796.get (t := 23) (v := (.int .i64 (k : Nat))) rfl)).cons (hF796.get (t := 124) (v := (.bool (decide ((((((d.write n b).1).write m q).1).sync.2 : Int) ≠ (0 : Int))))) rfl)).cons (hF796.get (t := 22) (v := (.int .i64 (((((d.write n b).1).write m q).1).sync.2))) rfl)).cons (hF796.get (t := 21) (v := (.pointer (some ⟨g674, 0, none⟩))) rfl)).cons (hF796.get (t := 115) (v := (.bool (decide (((((d.write n b).1).write m q).2 : Int) ≠ (0 : Int))))) rfl)).cons (hF796.get (t := 20) (v := (.int .i64 ((((d.write n b).1).write m q).2))) rfl)).cons (hF796.get (t := 19) (v := (.pointer (some ⟨g624, 0, none⟩))) rfl)).cons (hF796.get (t := 106) (v := (.bool false)) rfl)).cons (hF796.get (t := 18) (v := (.int .i64 ((((d.write n b).1).read n).2))) rfl)).cons (hF796.get (t := 17) (v := (.slice A209 (((((d.write n b).1).read n).1).length) c210)) rfl)).cons (hF796.get (t := 16) (v := (.int .i64 ((((d.write n b).1).read m).2))) rfl)).cons (hF796.get (t := 15) (v := (.slice A180 (((((d.write n b).1).read m).1).length) c181)) rfl)).cons (hF796.get (t := 61) (v := (.bool (decide (((d.write n b).2 : Int) ≠ (0 : Int))))) rfl)).cons (hF796.get (t := 14) (v := (.int .i64 ((d.write n b).2))) rfl)).cons (hF796.get (t := 13) (v := (.pointer (some ⟨g129, 0, none⟩))) rfl)).cons (hF796.get (t := 12) (v := (.int .i64 ((d.read m).2))) rfl)).cons (hF796.get (t := 11) (v := (.slice A80 (((d.read m).1).length) c81)) rfl)).cons (hF796.get (t := 42) (v := (.bool (decide ((128 : Int) < ((q.length : Nat) : Int))))) rfl)).cons (hF796.get (t := 29) (v := (.bool false)) rfl)).cons (hF796.get (t := 10) (v := (.bool false)) rfl)).cons (hF796.get (t := 5) (v := (.pointer (some ⟨g2, 0, none⟩))) rfl)).cons (hF796.get (t := 4) (v := (.slice E q.length g)) rfl)).cons (hF796.get (t := 3) (v := (.slice C b.length f)) rfl)).cons (hF796.get (t := 2) (v := (.int .i64 m)) rfl)).cons (hF796.get (t := 1) (v := (.int .i64 n)) rfl)).cons (hF796.get (t := 0) (v := (.agg #[(.slice A d.sectors.length c), (.slice B d.pending.length e), (.int .i64 d.left), (.bool d.stopped)])) rfl))
                    clear hF796
                    refine wp_seq_k (fun K798 hK798 => ?_)
                    refine wp_region_lit ?_
                    refine wpl_op (i := 0) rfl (o_val (v := (.int .i64 ((((((d.write n b).1).write m q).1).read (k : Nat)).2))) hF797 rfl rfl rfl rfl (rn_move (hF797.get rfl)) ?_)
                    intro a799 hF800; clear hF797
                    refine wpl_op (i := 1) rfl (o_val (v := (.bool (decide (((((((d.write n b).1).write m q).1).read (k : Nat)).2 : Int) ≠ (0 : Int))))) hF800 rfl rfl rfl rfl (rn_neq (hF800.get rfl) rfl) ?_)
                    intro a801 hF802; clear hF800
                    refine wpl_op (i := 2) rfl (o_val (v := (.bool (decide (((((((d.write n b).1).write m q).1).read (k : Nat)).2 : Int) ≠ (0 : Int))))) hF802 rfl rfl rfl rfl (rn_move (hF802.get rfl)) ?_)
                    intro a803 hF804; clear hF802
                    refine wpl_op (i := 3) rfl (o_val (v := (.int .i64 (((((((d.write n b).1).write m q).1).sync.1).read (k : Nat)).2))) hF804 rfl (wanted_guard rfl rfl rfl hF804 rfl ((decide_eq_false (by rw [hry]; simp)) : decide (((((((d.write n b).1).write m q).1).read (k : Nat)).2 : Int) ≠ (0 : Int)) = false) rfl) rfl rfl (rn_move (hF804.get rfl)) ?_)
                    intro a806 hF807; clear hF804
                    refine wpl_op (i := 4) rfl (o_val (v := (.bool (decide ((((((((d.write n b).1).write m q).1).sync.1).read (k : Nat)).2 : Int) ≠ (0 : Int))))) hF807 rfl (wanted_guard rfl rfl rfl hF807 rfl ((decide_eq_false (by rw [hry]; simp)) : decide (((((((d.write n b).1).write m q).1).read (k : Nat)).2 : Int) ≠ (0 : Int)) = false) rfl) rfl rfl (rn_neq (hF807.get rfl) rfl) ?_)
                    intro a808 hF809; clear hF807
                    refine wpl_op (i := 5) rfl (o_val (v := (.bool (decide ((((((((d.write n b).1).write m q).1).sync.1).read (k : Nat)).2 : Int) ≠ (0 : Int))))) hF809 rfl rfl rfl rfl (rn_pickF (c_false hF809 rfl ((decide_eq_false (by rw [hry]; simp)) : decide (((((((d.write n b).1).write m q).1).read (k : Nat)).2 : Int) ≠ (0 : Int)) = false)) (hF809.get rfl)) ?_)
                    intro a810 hF811; clear hF809
                    refine wpl_op (i := 6) rfl (o_val (v := (.bool (decide ((((((((d.write n b).1).write m q).1).sync.1).read (k : Nat)).2 : Int) ≠ (0 : Int))))) hF811 rfl rfl rfl rfl (rn_move (hF811.get rfl)) ?_)
                    intro a812 hF813; clear hF811
                    refine wpl_op (i := 7) rfl (o_val (v := (.slice A747 (((((((d.write n b).1).write m q).1).read (k : Nat)).1).length) c748)) hF813 rfl (wanted_guard rfl rfl rfl hF813 rfl ((decide_eq_false (by rw [hrz]; simp)) : decide ((((((((d.write n b).1).write m q).1).sync.1).read (k : Nat)).2 : Int) ≠ (0 : Int)) = false) rfl) rfl rfl (rn_move (hF813.get rfl)) ?_)
                    intro a815 hF816; clear hF813
                    have d817 := (hb749.ext hx783)
                    refine wpl_op (i := 8) rfl (o_val (v := (strOf ((((((d.write n b).1).write m q).1).read (k : Nat)).1))) hF816 rfl (wanted_guard rfl rfl rfl hF816 rfl ((decide_eq_false (by rw [hrz]; simp)) : decide ((((((((d.write n b).1).write m q).1).sync.1).read (k : Nat)).2 : Int) ≠ (0 : Int)) = false) rfl) rfl rfl (rn_str (hF816.get rfl) d817 Try.underlying35 Try.underlying5 Try.underlying9) ?_)
                    intro a818 hF819; clear hF816
                    refine wpl_op (i := 9) rfl (o_val (v := (.slice A776 ((((((((d.write n b).1).write m q).1).sync.1).read (k : Nat)).1).length) c777)) hF819 rfl (wanted_guard rfl rfl rfl hF819 rfl ((decide_eq_false (by rw [hrz]; simp)) : decide ((((((((d.write n b).1).write m q).1).sync.1).read (k : Nat)).2 : Int) ≠ (0 : Int)) = false) rfl) rfl rfl (rn_move (hF819.get rfl)) ?_)
                    intro a820 hF821; clear hF819
                    refine wpl_op (i := 10) rfl (o_val (v := (strOf (((((((d.write n b).1).write m q).1).sync.1).read (k : Nat)).1))) hF821 rfl (wanted_guard rfl rfl rfl hF821 rfl ((decide_eq_false (by rw [hrz]; simp)) : decide ((((((((d.write n b).1).write m q).1).sync.1).read (k : Nat)).2 : Int) ≠ (0 : Int)) = false) rfl) rfl rfl (rn_str (hF821.get rfl) hb778 Try.underlying35 Try.underlying5 Try.underlying9) ?_)
                    intro a822 hF823; clear hF821
                    refine wpl_op (i := 11) rfl (o_val (v := (.bool (!decide (((((((d.write n b).1).write m q).1).read (k : Nat)).1) = (((((((d.write n b).1).write m q).1).sync.1).read (k : Nat)).1))))) hF823 rfl (wanted_guard rfl rfl rfl hF823 rfl ((decide_eq_false (by rw [hrz]; simp)) : decide ((((((((d.write n b).1).write m q).1).sync.1).read (k : Nat)).2 : Int) ≠ (0 : Int)) = false) rfl) rfl rfl (rn_nes (hF823.get rfl) (hF823.get rfl) rfl) ?_)
                    intro a824 hF825; clear hF823
                    refine wpl_op (i := 12) rfl (o_val (v := (.bool (!decide (((((((d.write n b).1).write m q).1).read (k : Nat)).1) = (((((((d.write n b).1).write m q).1).sync.1).read (k : Nat)).1))))) hF825 rfl rfl rfl rfl (rn_pickF (c_false hF825 rfl ((decide_eq_false (by rw [hrz]; simp)) : decide ((((((((d.write n b).1).write m q).1).sync.1).read (k : Nat)).2 : Int) ≠ (0 : Int)) = false)) (hF825.get rfl)) ?_)
                    intro a826 hF827; clear hF825
                    refine wpList_nil ?_
                    refine hK798 _ _ ?_
                    clear hK798
                    have hF828 := ((((((((((((((((((((((((((((((((hF827.nil.cons (hF827.get (t := 162) (v := (.bool (!decide (((((((d.write n b).1).write m q).1).read (k : Nat)).1) = (((((((d.write n b).1).write m q).1).sync.1).read (k : Nat)).1))))) rfl)).cons (hF827.get (t := 27) (v := (.int .i64 (((((((d.write n b).1).write m q).1).sync.1).read (k : Nat)).2))) rfl)).cons (hF827.get (t := 26) (v := (.slice A776 ((((((((d.write n b).1).write m q).1).sync.1).read (k : Nat)).1).length) c777)) rfl)).cons (hF827.get (t := 25) (v := (.int .i64 ((((((d.write n b).1).write m q).1).read (k : Nat)).2))) rfl)).cons (hF827.get (t := 24) (v := (.slice A747 (((((((d.write n b).1).write m q).1).read (k : Nat)).1).length) c748)) rfl)).cons (hF827.get (t := 135) (v := (.bool (decide (((k : Nat) : Int) < ((d.sectors.length : Nat) : Int))))) rfl)).cons (hF827.get (t := 23) (v := (.int .i64 (k : Nat))) rfl)).cons (hF827.get (t := 124) (v := (.bool (decide ((((((d.write n b).1).write m q).1).sync.2 : Int) ≠ (0 : Int))))) rfl)).cons (hF827.get (t := 22) (v := (.int .i64 (((((d.write n b).1).write m q).1).sync.2))) rfl)).cons (hF827.get (t := 21) (v := (.pointer (some ⟨g674, 0, none⟩))) rfl)).cons (hF827.get (t := 115) (v := (.bool (decide (((((d.write n b).1).write m q).2 : Int) ≠ (0 : Int))))) rfl)).cons (hF827.get (t := 20) (v := (.int .i64 ((((d.write n b).1).write m q).2))) rfl)).cons (hF827.get (t := 19) (v := (.pointer (some ⟨g624, 0, none⟩))) rfl)).cons (hF827.get (t := 106) (v := (.bool false)) rfl)).cons (hF827.get (t := 18) (v := (.int .i64 ((((d.write n b).1).read n).2))) rfl)).cons (hF827.get (t := 17) (v := (.slice A209 (((((d.write n b).1).read n).1).length) c210)) rfl)).cons (hF827.get (t := 16) (v := (.int .i64 ((((d.write n b).1).read m).2))) rfl)).cons (hF827.get (t := 15) (v := (.slice A180 (((((d.write n b).1).read m).1).length) c181)) rfl)).cons (hF827.get (t := 61) (v := (.bool (decide (((d.write n b).2 : Int) ≠ (0 : Int))))) rfl)).cons (hF827.get (t := 14) (v := (.int .i64 ((d.write n b).2))) rfl)).cons (hF827.get (t := 13) (v := (.pointer (some ⟨g129, 0, none⟩))) rfl)).cons (hF827.get (t := 12) (v := (.int .i64 ((d.read m).2))) rfl)).cons (hF827.get (t := 11) (v := (.slice A80 (((d.read m).1).length) c81)) rfl)).cons (hF827.get (t := 42) (v := (.bool (decide ((128 : Int) < ((q.length : Nat) : Int))))) rfl)).cons (hF827.get (t := 29) (v := (.bool false)) rfl)).cons (hF827.get (t := 10) (v := (.bool false)) rfl)).cons (hF827.get (t := 5) (v := (.pointer (some ⟨g2, 0, none⟩))) rfl)).cons (hF827.get (t := 4) (v := (.slice E q.length g)) rfl)).cons (hF827.get (t := 3) (v := (.slice C b.length f)) rfl)).cons (hF827.get (t := 2) (v := (.int .i64 m)) rfl)).cons (hF827.get (t := 1) (v := (.int .i64 n)) rfl)).cons (hF827.get (t := 0) (v := (.agg #[(.slice A d.sectors.length c), (.slice B d.pending.length e), (.int .i64 d.left), (.bool d.stopped)])) rfl))
                    clear hF827
                    refine wp_cond_false (c_false hF828 rfl (not_t ((decide_eq_true (by rw [hry, hrz]; exact (sync_look hs0 hyk).symm)) : decide (((((((d.write n b).1).write m q).1).read (k : Nat)).1) = (((((((d.write n b).1).write m q).1).sync.1).read (k : Nat)).1)) = true))) ?_
                    refine wp_skip ?_
                    refine hK739 _ _ ?_
                    clear hK739
                    refine wp_region_lit ?_
                    refine wpl_op (i := 0) rfl (o_val (v := (.int .i64 (k : Nat))) hF828 rfl rfl rfl rfl (rn_move (hF828.get rfl)) ?_)
                    intro a830 hF831; clear hF828
                    refine wpl_op (i := 1) rfl (o_val (v := (.int .i64 ((k : Nat) + 1))) hF831 rfl rfl rfl rfl (rn_add (hF831.get rfl) rfl (by omega) (by omega)) ?_)
                    intro a832 hF833; clear hF831
                    refine wpl_op (i := 2) rfl (o_val (v := (.int .i64 ((k : Nat) + 1))) hF833 rfl rfl rfl rfl (rn_assign (hF833.get rfl)) ?_)
                    intro a834 hF835; clear hF833
                    refine wpList_nil ?_
                    refine ⟨⟨k + 1, ((((((((((((((((((((((((((hF835.nil.cons (q_get hF835 (t := 23) rfl (by first | rfl | (congr 1; omega)))).cons (q_get hF835 (t := 124) rfl rfl)).cons (q_get hF835 (t := 22) rfl rfl)).cons (q_get hF835 (t := 21) rfl rfl)).cons (q_get hF835 (t := 115) rfl rfl)).cons (q_get hF835 (t := 20) rfl rfl)).cons (q_get hF835 (t := 19) rfl rfl)).cons (q_get hF835 (t := 106) rfl rfl)).cons (q_get hF835 (t := 18) rfl rfl)).cons (q_get hF835 (t := 17) rfl rfl)).cons (q_get hF835 (t := 16) rfl rfl)).cons (q_get hF835 (t := 15) rfl rfl)).cons (q_get hF835 (t := 61) rfl rfl)).cons (q_get hF835 (t := 14) rfl rfl)).cons (q_get hF835 (t := 13) rfl rfl)).cons (q_get hF835 (t := 12) rfl rfl)).cons (q_get hF835 (t := 11) rfl rfl)).cons (q_get hF835 (t := 42) rfl rfl)).cons (q_get hF835 (t := 29) rfl rfl)).cons (q_get hF835 (t := 10) rfl rfl)).cons (q_get hF835 (t := 5) rfl rfl)).cons (q_get hF835 (t := 4) rfl rfl)).cons (q_get hF835 (t := 3) rfl rfl)).cons (q_get hF835 (t := 2) rfl rfl)).cons (q_get hF835 (t := 1) rfl rfl)).cons (q_get hF835 (t := 0) rfl rfl)), ((((Ext.refl w682).trans hx720).trans hx754).trans hx783), by omega⟩, ?_⟩
                    rw [hF835.get (t := 23) rfl, hL722.get (t := 23) rfl]; simp [intOf]; omega
                  · skip
                    refine wp_cond_false (c_false hF737 rfl (decide_eq_false hc738)) ?_
                    refine wp_exit ?_
                    refine exit_then ?_
                    refine exit_then ?_
                    refine exit_here ?_
                    refine hK713 _ _ ?_
                    clear hK713
                    refine wp_seq_k (fun K836 hK836 => ?_)
                    refine wp_region_lit ?_
                    refine wpl_op (i := 0) rfl (o_val (v := (.pointer (some ⟨g674, 1, none⟩))) hF737 rfl rfl rfl rfl (rn_field Try.underlying25 rfl (by kernel_rfl) (hF737.get rfl) rfl) ?_)
                    intro a837 hF838; clear hF737
                    have b839 : Blk w718 g674 25 [(.slice A657 ((((((d.write n b).1).write m q).1).sync.1).sectors.length) c658), (.slice B659 ((((((d.write n b).1).write m q).1).sync.1).pending.length) e660), (.int .i64 ((((((d.write n b).1).write m q).1).sync.1).left)), (.bool ((((((d.write n b).1).write m q).1).sync.1).stopped))] := (b683.ext hx720)
                    refine wpl_op (i := 1) rfl (o_val (v := (.slice B659 ((((((d.write n b).1).write m q).1).sync.1).pending.length) e660)) hF838 rfl rfl rfl rfl (rn_load (isAgg_no Try.underlying23 rfl) (hF838.get rfl) (b839.rule.1 1)) ?_)
                    intro a840 hF841; clear hF838
                    refine wpl_op (i := 2) rfl (o_val (v := (.int .i64 ((((((d.write n b).1).write m q).1).sync.1).pending.length : Nat))) hF841 rfl rfl rfl rfl (rn_len_slice Try.underlying23 (hF841.get rfl)) ?_)
                    intro a842 hF843; clear hF841
                    refine wpl_op (i := 3) rfl (o_val (v := (.bool (decide ((((((((d.write n b).1).write m q).1).sync.1).pending.length : Nat) : Int) = (0 : Int))))) hF843 rfl rfl rfl rfl (rn_eql (hF843.get rfl) rfl) ?_)
                    intro a844 hF845; clear hF843
                    refine wpl_op (i := 4) rfl (o_val (v := (.bool (decide ((((((((d.write n b).1).write m q).1).sync.1).pending.length : Nat) : Int) = (0 : Int))))) hF845 rfl rfl rfl rfl (rn_move (hF845.get rfl)) ?_)
                    intro a846 hF847; clear hF845
                    refine wpl_op (i := 5) rfl (o_val (v := (.agg #[(.slice A657 ((((((d.write n b).1).write m q).1).sync.1).sectors.length) c658), (.slice B659 ((((((d.write n b).1).write m q).1).sync.1).pending.length) e660), (.int .i64 ((((((d.write n b).1).write m q).1).sync.1).left)), (.bool ((((((d.write n b).1).write m q).1).sync.1).stopped))])) hF847 rfl (wanted_guard rfl rfl rfl hF847 rfl ((decide_eq_true (by omega)) : decide ((((((((d.write n b).1).write m q).1).sync.1).pending.length : Nat) : Int) = (0 : Int)) = true) rfl) rfl rfl (rn_loadBlk (hF847.get rfl) b839 Try.underlying25 rfl (by kernel_rfl : (Try.prog.info? 25).map (·.size) = some 4)) ?_)
                    intro a849 hF850; clear hF847
                    have d851 := (hd661.pres ((((Pres.refl w663).ext hx677).grownN hg684 (fun h => by simp only [Clip, Fr, Old] at h; omega)).ext hx720))
                    refine wpl_op (i := 6) rfl (o_call hF850 rfl (wanted_guard rfl rfl rfl hF850 rfl ((decide_eq_true (by omega)) : decide ((((((((d.write n b).1).write m q).1).sync.1).pending.length : Nat) : Int) = (0 : Int)) = true) rfl) rfl rfl (rn_call (args1 (hF850.get rfl)) rfl (by kernel_rfl)) (check_any (S := (Clip (Fr (Clip (Fr (fun b => (Clip (Fr (fun b => (Old w) b ∨ (Old w) b) w86) w118) b ∨ (Old w) b) w233) w613) w632) w663)) _ (((((d.write n b).1).write m q).1).sync.1) _ d851) ?_)
                    rintro _ w852 ⟨rfl, hx853⟩
                    refine ⟨_, rfl, ?_⟩; intro a854 hF855; clear hF850; have z856 := hx853.size
                    refine wpl_op (i := 7) rfl (o_val (v := (.bool (decide (((((((d.write n b).1).write m q).1).sync.1).check : Int) = (0 : Int))))) hF855 rfl (wanted_guard rfl rfl rfl hF855 rfl ((decide_eq_true (by omega)) : decide ((((((((d.write n b).1).write m q).1).sync.1).pending.length : Nat) : Int) = (0 : Int)) = true) rfl) rfl rfl (rn_eql (hF855.get rfl) rfl) ?_)
                    intro a857 hF858; clear hF855
                    refine wpl_op (i := 8) rfl (o_val (v := (.bool (decide (((((((d.write n b).1).write m q).1).sync.1).check : Int) = (0 : Int))))) hF858 rfl rfl rfl rfl (rn_pickT (c_true hF858 rfl ((decide_eq_true (by omega)) : decide ((((((((d.write n b).1).write m q).1).sync.1).pending.length : Nat) : Int) = (0 : Int)) = true)) (hF858.get rfl)) ?_)
                    intro a859 hF860; clear hF858
                    refine wpl_op (i := 9) rfl (o_val (v := (.bool (decide (((((((d.write n b).1).write m q).1).sync.1).check : Int) = (0 : Int))))) hF860 rfl rfl rfl rfl (rn_assign (hF860.get rfl)) ?_)
                    intro a861 hF862; clear hF860
                    refine wpList_nil ?_
                    refine hK836 _ _ ?_
                    clear hK836
                    have hF863 := (((((((((((((((((((((((((((hF862.nil.cons (hF862.get (t := 135) (v := (.bool (decide (((k : Nat) : Int) < ((d.sectors.length : Nat) : Int))))) rfl)).cons (hF862.get (t := 23) (v := (.int .i64 (k : Nat))) rfl)).cons (hF862.get (t := 124) (v := (.bool (decide ((((((d.write n b).1).write m q).1).sync.2 : Int) ≠ (0 : Int))))) rfl)).cons (hF862.get (t := 22) (v := (.int .i64 (((((d.write n b).1).write m q).1).sync.2))) rfl)).cons (hF862.get (t := 21) (v := (.pointer (some ⟨g674, 0, none⟩))) rfl)).cons (hF862.get (t := 115) (v := (.bool (decide (((((d.write n b).1).write m q).2 : Int) ≠ (0 : Int))))) rfl)).cons (hF862.get (t := 20) (v := (.int .i64 ((((d.write n b).1).write m q).2))) rfl)).cons (hF862.get (t := 19) (v := (.pointer (some ⟨g624, 0, none⟩))) rfl)).cons (hF862.get (t := 106) (v := (.bool false)) rfl)).cons (hF862.get (t := 18) (v := (.int .i64 ((((d.write n b).1).read n).2))) rfl)).cons (hF862.get (t := 17) (v := (.slice A209 (((((d.write n b).1).read n).1).length) c210)) rfl)).cons (hF862.get (t := 16) (v := (.int .i64 ((((d.write n b).1).read m).2))) rfl)).cons (hF862.get (t := 15) (v := (.slice A180 (((((d.write n b).1).read m).1).length) c181)) rfl)).cons (hF862.get (t := 61) (v := (.bool (decide (((d.write n b).2 : Int) ≠ (0 : Int))))) rfl)).cons (hF862.get (t := 14) (v := (.int .i64 ((d.write n b).2))) rfl)).cons (hF862.get (t := 13) (v := (.pointer (some ⟨g129, 0, none⟩))) rfl)).cons (hF862.get (t := 12) (v := (.int .i64 ((d.read m).2))) rfl)).cons (hF862.get (t := 11) (v := (.slice A80 (((d.read m).1).length) c81)) rfl)).cons (hF862.get (t := 42) (v := (.bool (decide ((128 : Int) < ((q.length : Nat) : Int))))) rfl)).cons (hF862.get (t := 29) (v := (.bool false)) rfl)).cons (hF862.get (t := 10) (v := (.bool (decide (((((((d.write n b).1).write m q).1).sync.1).check : Int) = (0 : Int))))) rfl)).cons (hF862.get (t := 5) (v := (.pointer (some ⟨g2, 0, none⟩))) rfl)).cons (hF862.get (t := 4) (v := (.slice E q.length g)) rfl)).cons (hF862.get (t := 3) (v := (.slice C b.length f)) rfl)).cons (hF862.get (t := 2) (v := (.int .i64 m)) rfl)).cons (hF862.get (t := 1) (v := (.int .i64 n)) rfl)).cons (hF862.get (t := 0) (v := (.agg #[(.slice A d.sectors.length c), (.slice B d.pending.length e), (.int .i64 d.left), (.bool d.stopped)])) rfl))
                    clear hF862
                    refine wp_ret ?_
                    refine ret1 hF863 rfl rfl ?_
                    exact ⟨congrArg (fun b => Ending.returned (.bool b)) ((decide_eq_true (by exact runs_check hsr)) : decide (((((((d.write n b).1).write m q).1).sync.1).check : Int) = (0 : Int)) = true), (((((((((((((((((((Ext.refl w).trans hx5).trans hx15).trans hx28).trans hx87).trans hx119).trans hx132).grownN hg139 (by omega)).trans hx187).trans hx216).trans hx234).trans hx614).trans hx627).grownN hg634 (by omega)).trans hx664).trans hx677).grownN hg684 (by omega)).trans hx720).trans hx853)⟩
  · skip
    refine wpl_op (i := 4) rfl (o_skip hF35 rfl (unwanted_guard rfl rfl rfl hF35 rfl (not_f hc36) rfl) rfl rfl ?_)
    intro a864 hF865; clear hF35
    refine wpl_op (i := 5) rfl (o_skip hF865 rfl (unwanted_guard rfl rfl rfl hF865 rfl (not_f hc36) rfl) rfl rfl ?_)
    intro a866 hF867; clear hF865
    refine wpl_op (i := 6) rfl (o_skip hF867 rfl (unwanted_guard rfl rfl rfl hF867 rfl (not_f hc36) rfl) rfl rfl ?_)
    intro a868 hF869; clear hF867
    refine wpl_op (i := 7) rfl (o_val (v := (.bool true)) hF869 rfl rfl rfl rfl (rn_pickT (c_true hF869 rfl (not_f hc36)) rfl) ?_)
    intro a870 hF871; clear hF869
    refine wpl_op (i := 8) rfl (o_val (v := (.bool true)) hF871 rfl rfl rfl rfl (rn_move (hF871.get rfl)) ?_)
    intro a872 hF873; clear hF871
    refine wpl_op (i := 9) rfl (o_skip hF873 rfl (unwanted_guard rfl rfl rfl hF873 rfl rfl rfl) rfl rfl ?_)
    intro a874 hF875; clear hF873
    refine wpl_op (i := 10) rfl (o_skip hF875 rfl (unwanted_guard rfl rfl rfl hF875 rfl rfl rfl) rfl rfl ?_)
    intro a876 hF877; clear hF875
    refine wpl_op (i := 11) rfl (o_skip hF877 rfl (unwanted_guard rfl rfl rfl hF877 rfl rfl rfl) rfl rfl ?_)
    intro a878 hF879; clear hF877
    refine wpl_op (i := 12) rfl (o_val (v := (.bool true)) hF879 rfl rfl rfl rfl (rn_pickT (c_true hF879 rfl rfl) rfl) ?_)
    intro a880 hF881; clear hF879
    refine wpList_nil ?_
    refine hK22 _ _ ?_
    clear hK22
    have hF882 := (((((((((hF881.nil.cons (hF881.get (t := 42) (v := (.bool true)) rfl)).cons (hF881.get (t := 29) (v := (.bool false)) rfl)).cons (hF881.get (t := 10) (v := (.bool false)) rfl)).cons (hF881.get (t := 5) (v := (.pointer (some ⟨g2, 0, none⟩))) rfl)).cons (hF881.get (t := 4) (v := (.slice E q.length g)) rfl)).cons (hF881.get (t := 3) (v := (.slice C b.length f)) rfl)).cons (hF881.get (t := 2) (v := (.int .i64 m)) rfl)).cons (hF881.get (t := 1) (v := (.int .i64 n)) rfl)).cons (hF881.get (t := 0) (v := (.agg #[(.slice A d.sectors.length c), (.slice B d.pending.length e), (.int .i64 d.left), (.bool d.stopped)])) rfl))
    clear hF881
    refine wp_cond_true (c_true hF882 rfl rfl) ?_
    refine wp_seq_k (fun K883 hK883 => ?_)
    refine wp_region_lit ?_
    refine wpl_op (i := 0) rfl (o_val (v := (.bool true)) hF882 rfl rfl rfl rfl (rn_assign rfl) ?_)
    intro a884 hF885; clear hF882
    refine wpList_nil ?_
    refine hK883 _ _ ?_
    clear hK883
    refine wp_ret ?_
    refine ret1 hF885 rfl rfl ?_
    exact ⟨congrArg (fun b => Ending.returned (.bool b)) (rfl : true = true), ((((Ext.refl w).trans hx5).trans hx15).trans hx28)⟩

end Go.Proofs.Ytklhgghlkidfjaa
