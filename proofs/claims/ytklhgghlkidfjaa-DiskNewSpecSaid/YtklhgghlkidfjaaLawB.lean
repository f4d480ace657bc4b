/- The law DiskNewSpec, walked. -/
import Derived.Test.YtklhgghlkidfjaaLawA
import Derived.Test.YtklhgghlkidfjaaSane
namespace Go.Proofs.Ytklhgghlkidfjaa
open Go.RowKit

variable {S S' : Nat → Prop}

set_option maxRecDepth 100000 in
set_option maxHeartbeats 4000000 in
theorem newSpec_any (n : Int) (A : Option Addr) (c : Nat) (B : Option Addr) (e : Nat) (d : Dk) (w : World) (hd : RDk (Old w) w (.agg #[.slice A d.sectors.length c, .slice B d.pending.length e, .int .i64 d.left, .bool d.stopped]) d) (s1 : ∀ x ∈ d.sectors, x.length ≤ 140737488355328) (s2 : ∀ x ∈ d.pending, x.2.length ≤ 140737488355328) :
    Calls Try.prog 3 #[(.int .i64 n), (.agg #[(.slice A d.sectors.length c), (.slice B d.pending.length e), (.int .i64 d.left), (.bool d.stopped)])] w (RB w true) := by
  refine calls_enter (l := [(.int .i64 n), (.agg #[(.slice A d.sectors.length c), (.slice B d.pending.length e), (.int .i64 d.left), (.bool d.stopped)])]) Try.func3 rfl rfl rfl (fun a hF => ?_)
  refine wp_seq_k (fun K1 hK1 => ?_)
  refine wp_region_lit ?_
  refine wpl_op (i := 0) rfl (o_new (fun g => (.pointer (some ⟨g, 0, none⟩))) [(.slice A d.sectors.length c), (.slice B d.pending.length e), (.int .i64 d.left), (.bool d.stopped)] 25 hF rfl rfl rfl rfl (rn_box (hF.get rfl) (by kernel_rfl)) ?_)
  intro g2 w3 a8 hF9 z6 z7 b4 hx5; clear hF
  refine wpl_op (i := 1) rfl (o_val (v := (.bool false)) hF9 rfl rfl rfl rfl (rn_assign rfl) ?_)
  intro a10 hF11; clear hF9
  refine wpList_nil ?_
  refine hK1 _ _ ?_
  clear hK1
  refine wp_seq_k (fun K12 hK12 => ?_)
  refine wp_seq_k (fun K13 hK13 => ?_)
  refine wp_region_lit ?_
  refine wpl_op (i := 0) rfl (o_call hF11 rfl rfl rfl rfl (rn_call (args0 ) rfl (by kernel_rfl)) (sane_any _) ?_)
  rintro _ w14 ⟨rfl, hx15⟩
  refine ⟨_, rfl, ?_⟩; intro a16 hF17; clear hF11; have z18 := hx15.size
  refine wpl_op (i := 1) rfl (o_val (v := (.bool false)) hF17 rfl rfl rfl rfl (rn_not' (hF17.get rfl) rfl) ?_)
  intro a19 hF20; clear hF17
  refine wpList_nil ?_
  refine hK13 _ _ ?_
  clear hK13
  refine wp_cond_false (c_false hF20 rfl rfl) ?_
  refine wp_skip ?_
  refine hK12 _ _ ?_
  clear hK12
  refine wp_seq_k (fun K21 hK21 => ?_)
  refine wp_seq_k (fun K22 hK22 => ?_)
  refine wp_region_lit ?_
  refine wpl_op (i := 0) rfl (o_val (v := (.int .i64 n)) hF20 rfl rfl rfl rfl (rn_move (hF20.get rfl)) ?_)
  intro a23 hF24; clear hF20
  refine wpl_op (i := 1) rfl (o_val (v := (.bool (decide ((60 : Int) < (n : Int))))) hF24 rfl rfl rfl rfl (rn_gtr (hF24.get rfl) rfl) ?_)
  intro a25 hF26; clear hF24
  refine wpl_op (i := 2) rfl (o_val (v := (.bool (decide ((60 : Int) < (n : Int))))) hF26 rfl rfl rfl rfl (rn_move (hF26.get rfl)) ?_)
  intro a27 hF28; clear hF26
  by_cases hc29 : (60 : Int) < (n : Int)
  · skip
    refine wpl_op (i := 3) rfl (o_val (v := (.int .i64 n)) hF28 rfl (wanted_guard rfl rfl rfl hF28 rfl (decide_eq_true hc29) rfl) rfl rfl (rn_move (hF28.get rfl)) ?_)
    intro a30 hF31; clear hF28
    refine wpl_op (i := 4) rfl (o_val (v := (.bool (decide ((n : Int) ≤ (4096 : Int))))) hF31 rfl (wanted_guard rfl rfl rfl hF31 rfl (decide_eq_true hc29) rfl) rfl rfl (rn_leq (hF31.get rfl) rfl) ?_)
    intro a32 hF33; clear hF31
    refine wpl_op (i := 5) rfl (o_val (v := (.bool (decide ((n : Int) ≤ (4096 : Int))))) hF33 rfl rfl rfl rfl (rn_pickT (c_true hF33 rfl (decide_eq_true hc29)) (hF33.get rfl)) ?_)
    intro a34 hF35; clear hF33
    refine wpl_op (i := 6) rfl (o_val (v := (.bool (decide ((n : Int) ≤ (4096 : Int))))) hF35 rfl rfl rfl rfl (rn_move (hF35.get rfl)) ?_)
    intro a36 hF37; clear hF35
    by_cases hc38 : (n : Int) ≤ (4096 : Int)
    · skip
      refine wpl_op (i := 7) rfl (o_skip hF37 rfl (unwanted_guard rfl rfl rfl hF37 rfl (decide_eq_true hc38) rfl) rfl rfl ?_)
      intro a39 hF40; clear hF37
      refine wpl_op (i := 8) rfl (o_skip hF40 rfl (unwanted_guard rfl rfl rfl hF40 rfl (decide_eq_true hc38) rfl) rfl rfl ?_)
      intro a41 hF42; clear hF40
      refine wpl_op (i := 9) rfl (o_skip hF42 rfl (unwanted_guard rfl rfl rfl hF42 rfl (decide_eq_true hc38) rfl) rfl rfl ?_)
      intro a43 hF44; clear hF42
      refine wpl_op (i := 10) rfl (o_val (v := (.bool true)) hF44 rfl rfl rfl rfl (rn_pickT (c_true hF44 rfl (decide_eq_true hc38)) rfl) ?_)
      intro a45 hF46; clear hF44
      refine wpList_nil ?_
      refine hK22 _ _ ?_
      clear hK22
      have hF47 := ((((((hF46.nil.cons (hF46.get (t := 21) (v := (.bool true)) rfl)).cons (hF46.get (t := 10) (v := (.bool false)) rfl)).cons (hF46.get (t := 4) (v := (.bool false)) rfl)).cons (hF46.get (t := 3) (v := (.pointer (some ⟨g2, 0, none⟩))) rfl)).cons (hF46.get (t := 1) (v := (.agg #[(.slice A d.sectors.length c), (.slice B d.pending.length e), (.int .i64 d.left), (.bool d.stopped)])) rfl)).cons (hF46.get (t := 0) (v := (.int .i64 n)) rfl))
      clear hF46
      refine wp_cond_true (c_true hF47 rfl rfl) ?_
      refine wp_seq_k (fun K48 hK48 => ?_)
      refine wp_region_lit ?_
      refine wpl_op (i := 0) rfl (o_val (v := (.bool true)) hF47 rfl rfl rfl rfl (rn_assign rfl) ?_)
      intro a49 hF50; clear hF47
      refine wpList_nil ?_
      refine hK48 _ _ ?_
      clear hK48
      refine wp_ret ?_
      refine ret1 hF50 rfl rfl ?_
      exact ⟨congrArg (fun b => Ending.returned (.bool b)) (rfl : true = true), (((Ext.refl w).trans hx5).trans hx15)⟩
    · skip
      have b51 : Blk w14 g2 25 [(.slice A d.sectors.length c), (.slice B d.pending.length e), (.int .i64 d.left), (.bool d.stopped)] := (b4.ext hx15)
      refine wpl_op (i := 7) rfl (o_val (v := (.agg #[(.slice A d.sectors.length c), (.slice B d.pending.length e), (.int .i64 d.left), (.bool d.stopped)])) hF37 rfl (wanted_guard rfl rfl rfl hF37 rfl (decide_eq_false hc38) rfl) rfl rfl (rn_loadBlk (hF37.get rfl) b51 Try.underlying25 rfl (by kernel_rfl : (Try.prog.info? 25).map (·.size) = some 4)) ?_)
      intro a52 hF53; clear hF37
      have d54 := ((hd.ext hx5).ext hx15)
      refine wpl_op (i := 8) rfl (o_call hF53 rfl (wanted_guard rfl rfl rfl hF53 rfl (decide_eq_false hc38) rfl) rfl rfl (rn_call (args1 (hF53.get rfl)) rfl (by kernel_rfl)) (few_any (S := (Old w)) _ d _ d54 s1 s2) ?_)
      rintro _ w55 ⟨rfl, hx56⟩
      refine ⟨_, rfl, ?_⟩; intro a57 hF58; clear hF53; have z59 := hx56.size
      refine wpl_op (i := 9) rfl (o_val (v := (.bool (!d.few))) hF58 rfl (wanted_guard rfl rfl rfl hF58 rfl (decide_eq_false hc38) rfl) rfl rfl (rn_not' (hF58.get rfl) rfl) ?_)
      intro a60 hF61; clear hF58
      refine wpl_op (i := 10) rfl (o_val (v := (.bool (!d.few))) hF61 rfl rfl rfl rfl (rn_pickF (c_false hF61 rfl (decide_eq_false hc38)) (hF61.get rfl)) ?_)
      intro a62 hF63; clear hF61
      refine wpList_nil ?_
      refine hK22 _ _ ?_
      clear hK22
      have hF64 := ((((((hF63.nil.cons (hF63.get (t := 21) (v := (.bool (!d.few))) rfl)).cons (hF63.get (t := 10) (v := (.bool false)) rfl)).cons (hF63.get (t := 4) (v := (.bool false)) rfl)).cons (hF63.get (t := 3) (v := (.pointer (some ⟨g2, 0, none⟩))) rfl)).cons (hF63.get (t := 1) (v := (.agg #[(.slice A d.sectors.length c), (.slice B d.pending.length e), (.int .i64 d.left), (.bool d.stopped)])) rfl)).cons (hF63.get (t := 0) (v := (.int .i64 n)) rfl))
      clear hF63
      rcases Bool.eq_false_or_eq_true d.few with hc65 | hc65
      · skip
        refine wp_cond_false (c_false hF64 rfl (not_t hc65)) ?_
        refine wp_skip ?_
        refine hK21 _ _ ?_
        clear hK21
        refine wp_seq_k (fun K66 hK66 => ?_)
        refine wp_region_lit ?_
        refine wpl_op (i := 0) rfl (o_val (v := (.int .i64 n)) hF64 rfl rfl rfl rfl (rn_move (hF64.get rfl)) ?_)
        intro a67 hF68; clear hF64
        refine wpl_op (i := 1) rfl (o_call hF68 rfl rfl rfl rfl (rn_call (args1 (hF68.get rfl)) rfl (by kernel_rfl)) (new_any (S := fun _ => False) _ _) ?_)
        rintro _ w75 ⟨v74, rfl, hd73, hx76⟩
        obtain ⟨A69, c70, B71, e72, rfl, -, -⟩ := hd73.form
        have hd73 := hd73.clip
        refine ⟨_, rfl, ?_⟩; intro a77 hF78; clear hF68; have z79 := hx76.size
        refine wpl_op (i := 2) rfl (o_val (v := (.tuple #[(.agg #[(.slice A69 (((Dk.new n).1).sectors.length) c70), (.slice B71 (((Dk.new n).1).pending.length) e72), (.int .i64 (((Dk.new n).1).left)), (.bool (((Dk.new n).1).stopped))]), (.int .i64 ((Dk.new n).2))])) hF78 rfl rfl rfl rfl (rn_move (hF78.get rfl)) ?_)
        intro a80 hF81; clear hF78
        refine wpl_op (i := 3) rfl (o_val (v := (.agg #[(.slice A69 (((Dk.new n).1).sectors.length) c70), (.slice B71 (((Dk.new n).1).pending.length) e72), (.int .i64 (((Dk.new n).1).left)), (.bool (((Dk.new n).1).stopped))])) hF81 rfl rfl rfl rfl (rn_extract (hF81.get rfl) rfl) ?_)
        intro a82 hF83; clear hF81
        refine wpl_op (i := 4) rfl (o_val (v := (.int .i64 ((Dk.new n).2))) hF83 rfl rfl rfl rfl (rn_extract (hF83.get rfl) rfl) ?_)
        intro a84 hF85; clear hF83
        refine wpl_op (i := 5) rfl (o_new (fun g => (.pointer (some ⟨g, 0, none⟩))) [(.slice none 0 0), (.slice none 0 0), (.int .i64 0), (.bool false)] 25 hF85 rfl rfl rfl rfl (by kernel_rfl) ?_)
        intro g86 w87 a92 hF93 z90 z91 b88 hx89; clear hF85
        refine wpl_op (i := 6) rfl (o_store (cells := [(.slice A69 (((Dk.new n).1).sectors.length) c70), (.slice B71 (((Dk.new n).1).pending.length) e72), (.int .i64 (((Dk.new n).1).left)), (.bool (((Dk.new n).1).stopped))]) hF93 rfl rfl rfl rfl (hF93.get rfl) (hF93.get rfl) b88 (by kernel_rfl : (Try.prog.info? 25).map (·.size) = some 4) rfl (by simp [Value.oneCell']) ?_)
        intro w94 b95 hg96; have z97 := hg96.size
        refine wpl_op (i := 7) rfl (o_val (v := (.int .i64 ((Dk.new n).2))) hF93 rfl rfl rfl rfl (rn_assign (hF93.get rfl)) ?_)
        intro a98 hF99; clear hF93
        refine wpList_nil ?_
        refine hK66 _ _ ?_
        clear hK66
        have hF100 := ((((((((hF99.nil.cons (hF99.get (t := 6) (v := (.int .i64 ((Dk.new n).2))) rfl)).cons (hF99.get (t := 5) (v := (.pointer (some ⟨g86, 0, none⟩))) rfl)).cons (hF99.get (t := 21) (v := (.bool (!d.few))) rfl)).cons (hF99.get (t := 10) (v := (.bool false)) rfl)).cons (hF99.get (t := 4) (v := (.bool false)) rfl)).cons (hF99.get (t := 3) (v := (.pointer (some ⟨g2, 0, none⟩))) rfl)).cons (hF99.get (t := 1) (v := (.agg #[(.slice A d.sectors.length c), (.slice B d.pending.length e), (.int .i64 d.left), (.bool d.stopped)])) rfl)).cons (hF99.get (t := 0) (v := (.int .i64 n)) rfl))
        clear hF99
        refine wp_seq_k (fun K101 hK101 => ?_)
        refine wp_region_lit ?_
        refine wpl_op (i := 0) rfl (o_val (v := (.int .i64 n)) hF100 rfl rfl rfl rfl (rn_move (hF100.get rfl)) ?_)
        intro a102 hF103; clear hF100
        refine wpl_op (i := 1) rfl (o_call hF103 rfl rfl rfl rfl (rn_call (args1 (hF103.get rfl)) rfl (by kernel_rfl)) (rnew_any (S := fun _ => False) _ _) ?_)
        rintro _ w110 ⟨v109, rfl, hd108, hx111⟩
        obtain ⟨A104, c105, B106, e107, rfl, -, -⟩ := hd108.form
        have hd108 := hd108.clip
        refine ⟨_, rfl, ?_⟩; intro a112 hF113; clear hF103; have z114 := hx111.size
        refine wpl_op (i := 2) rfl (o_val (v := (.tuple #[(.agg #[(.slice A104 (((Dk.new n).1).sectors.length) c105), (.slice B106 (((Dk.new n).1).pending.length) e107), (.int .i64 (((Dk.new n).1).left)), (.bool (((Dk.new n).1).stopped))]), (.int .i64 ((Dk.new n).2))])) hF113 rfl rfl rfl rfl (rn_move (hF113.get rfl)) ?_)
        intro a115 hF116; clear hF113
        refine wpl_op (i := 3) rfl (o_val (v := (.agg #[(.slice A104 (((Dk.new n).1).sectors.length) c105), (.slice B106 (((Dk.new n).1).pending.length) e107), (.int .i64 (((Dk.new n).1).left)), (.bool (((Dk.new n).1).stopped))])) hF116 rfl rfl rfl rfl (rn_extract (hF116.get rfl) rfl) ?_)
        intro a117 hF118; clear hF116
        refine wpl_op (i := 4) rfl (o_val (v := (.int .i64 ((Dk.new n).2))) hF118 rfl rfl rfl rfl (rn_extract (hF118.get rfl) rfl) ?_)
        intro a119 hF120; clear hF118
        refine wpl_op (i := 5) rfl (o_new (fun g => (.pointer (some ⟨g, 0, none⟩))) [(.slice none 0 0), (.slice none 0 0), (.int .i64 0), (.bool false)] 25 hF120 rfl rfl rfl rfl (by kernel_rfl) ?_)
        intro g121 w122 a127 hF128 z125 z126 b123 hx124; clear hF120
        refine wpl_op (i := 6) rfl (o_store (cells := [(.slice A104 (((Dk.new n).1).sectors.length) c105), (.slice B106 (((Dk.new n).1).pending.length) e107), (.int .i64 (((Dk.new n).1).left)), (.bool (((Dk.new n).1).stopped))]) hF128 rfl rfl rfl rfl (hF128.get rfl) (hF128.get rfl) b123 (by kernel_rfl : (Try.prog.info? 25).map (·.size) = some 4) rfl (by simp [Value.oneCell']) ?_)
        intro w129 b130 hg131; have z132 := hg131.size
        refine wpl_op (i := 7) rfl (o_val (v := (.int .i64 ((Dk.new n).2))) hF128 rfl rfl rfl rfl (rn_assign (hF128.get rfl)) ?_)
        intro a133 hF134; clear hF128
        refine wpList_nil ?_
        refine hK101 _ _ ?_
        clear hK101
        have hF135 := ((((((((((hF134.nil.cons (hF134.get (t := 8) (v := (.int .i64 ((Dk.new n).2))) rfl)).cons (hF134.get (t := 7) (v := (.pointer (some ⟨g121, 0, none⟩))) rfl)).cons (hF134.get (t := 6) (v := (.int .i64 ((Dk.new n).2))) rfl)).cons (hF134.get (t := 5) (v := (.pointer (some ⟨g86, 0, none⟩))) rfl)).cons (hF134.get (t := 21) (v := (.bool (!d.few))) rfl)).cons (hF134.get (t := 10) (v := (.bool false)) rfl)).cons (hF134.get (t := 4) (v := (.bool false)) rfl)).cons (hF134.get (t := 3) (v := (.pointer (some ⟨g2, 0, none⟩))) rfl)).cons (hF134.get (t := 1) (v := (.agg #[(.slice A d.sectors.length c), (.slice B d.pending.length e), (.int .i64 d.left), (.bool d.stopped)])) rfl)).cons (hF134.get (t := 0) (v := (.int .i64 n)) rfl))
        clear hF134
        refine wp_seq_k (fun K136 hK136 => ?_)
        have hx138 : ∃ W, w129.drew = W ∧ Ext w129 W := ⟨_, rfl, (Ext.refl _).drew⟩
        obtain ⟨w137, e139, hx138⟩ := hx138
        have z140 := hx138.size
        refine any_start (fun W => Ext w137 W ∧ Blk W g86 25 [(.slice A69 (((Dk.new n).1).sectors.length) c70), (.slice B71 (((Dk.new n).1).pending.length) e72), (.int .i64 (((Dk.new n).1).left)), (.bool (((Dk.new n).1).stopped))] ∧ Blk W g121 25 [(.slice A104 (((Dk.new n).1).sectors.length) c105), (.slice B106 (((Dk.new n).1).pending.length) e107), (.int .i64 (((Dk.new n).1).left)), (.bool (((Dk.new n).1).stopped))] ∧ Blk W g2 25 [(.slice A d.sectors.length c), (.slice B d.pending.length e), (.int .i64 d.left), (.bool d.stopped)]) (fun i => false) 23 #[false, false, false, false, false, false, false, false, false, false, false, false, false, false, false, false, false, false, false, false, false, false, false] rfl rfl rfl ?_
        rw [e139]; clear e139
        have b142 : Blk w137 g86 25 [(.slice A69 (((Dk.new n).1).sectors.length) c70), (.slice B71 (((Dk.new n).1).pending.length) e72), (.int .i64 (((Dk.new n).1).left)), (.bool (((Dk.new n).1).stopped))] := ((((b95.ext hx111).ext hx124).grownN hg131 (by omega)).ext hx138)
        have b143 : Blk w137 g121 25 [(.slice A104 (((Dk.new n).1).sectors.length) c105), (.slice B106 (((Dk.new n).1).pending.length) e107), (.int .i64 (((Dk.new n).1).left)), (.bool (((Dk.new n).1).stopped))] := (b130.ext hx138)
        have b144 : Blk w137 g2 25 [(.slice A d.sectors.length c), (.slice B d.pending.length e), (.int .i64 d.left), (.bool d.stopped)] := ((((((((b51.ext hx56).ext hx76).ext hx89).grownN hg96 (by omega)).ext hx111).ext hx124).grownN hg131 (by omega)).ext hx138)
        have hS141 : Ext w137 w137 ∧ Blk w137 g86 25 [(.slice A69 (((Dk.new n).1).sectors.length) c70), (.slice B71 (((Dk.new n).1).pending.length) e72), (.int .i64 (((Dk.new n).1).left)), (.bool (((Dk.new n).1).stopped))] ∧ Blk w137 g121 25 [(.slice A104 (((Dk.new n).1).sectors.length) c105), (.slice B106 (((Dk.new n).1).pending.length) e107), (.int .i64 (((Dk.new n).1).left)), (.bool (((Dk.new n).1).stopped))] ∧ Blk w137 g2 25 [(.slice A d.sectors.length c), (.slice B d.pending.length e), (.int .i64 d.left), (.bool d.stopped)] := ⟨(Ext.refl w137), b142, b143, b144⟩
        refine any_val (i := 0) (v := (.agg #[(.slice A69 (((Dk.new n).1).sectors.length) c70), (.slice B71 (((Dk.new n).1).pending.length) e72), (.int .i64 (((Dk.new n).1).left)), (.bool (((Dk.new n).1).stopped))])) hF135 (by decide +kernel) (by decide +kernel) rfl rfl rfl rfl (fun _ _ _ _ h => h) rfl hS141 (fun W hW => (rn_loadBlk (hF135.get rfl) hW.2.1 Try.underlying25 rfl (by kernel_rfl : (Try.prog.info? 25).map (·.size) = some 4))) ?_
        intro a145 hF146; clear hF135
        refine any_val (i := 1) (v := (.agg #[(.slice A104 (((Dk.new n).1).sectors.length) c105), (.slice B106 (((Dk.new n).1).pending.length) e107), (.int .i64 (((Dk.new n).1).left)), (.bool (((Dk.new n).1).stopped))])) hF146 (by decide +kernel) (by decide +kernel) rfl rfl rfl rfl (fun _ _ _ _ h => h) rfl hS141 (fun W hW => (rn_loadBlk (hF146.get rfl) hW.2.2.1 Try.underlying25 rfl (by kernel_rfl : (Try.prog.info? 25).map (·.size) = some 4))) ?_
        intro a147 hF148; clear hF146
        refine any_one (i := 2) (by decide +kernel) rfl ?_
        have d149 := (hd73.pres (((((((Pres.refl w75).ext hx89).grownN hg96 (fun h => by simp only [Clip, Fr, Old] at h; omega)).ext hx111).ext hx124).grownN hg131 (fun h => by simp only [Clip, Fr, Old] at h; omega)).ext hx138))
        have d150 := (hd108.pres ((((Pres.refl w110).ext hx124).grownN hg131 (fun h => by simp only [Clip, Fr, Old] at h; omega)).ext hx138))
        refine o_call hF148 rfl rfl rfl rfl (rn_call (args2 (hF148.get rfl) (hF148.get rfl)) rfl (by kernel_rfl)) (same_any (S := fun _ => True) _ _ ((Dk.new n).1) ((Dk.new n).1) _ d149.all d150.all) ?_
        rintro _ w151 ⟨rfl, hx152⟩
        refine ⟨_, rfl, ?_⟩; intro a153 hF154; clear hF148; have z155 := hx152.size
        have b156 : Blk w151 g86 25 [(.slice A69 (((Dk.new n).1).sectors.length) c70), (.slice B71 (((Dk.new n).1).pending.length) e72), (.int .i64 (((Dk.new n).1).left)), (.bool (((Dk.new n).1).stopped))] := (b142.ext hx152)
        have b157 : Blk w151 g121 25 [(.slice A104 (((Dk.new n).1).sectors.length) c105), (.slice B106 (((Dk.new n).1).pending.length) e107), (.int .i64 (((Dk.new n).1).left)), (.bool (((Dk.new n).1).stopped))] := (b143.ext hx152)
        have b158 : Blk w151 g2 25 [(.slice A d.sectors.length c), (.slice B d.pending.length e), (.int .i64 d.left), (.bool d.stopped)] := (b144.ext hx152)
        refine ⟨fun _ _ => ⟨((Ext.refl w137).trans hx152), b156, b157, b158⟩, ?_⟩
        refine any_pure (i := 3) (v := (.bool (((Dk.new n).1).same ((Dk.new n).1)))) hF154 (by decide +kernel) (by decide +kernel) rfl rfl rfl rfl (fun _ _ _ _ h => h) rfl (fun W => (rn_move (hF154.get rfl))) ?_
        intro a159 hF160; clear hF154
        refine any_pure (i := 4) (v := (.int .i64 ((Dk.new n).2))) hF160 (by decide +kernel) (by decide +kernel) rfl rfl rfl rfl (fun _ _ _ _ h => h) (wanted_guard rfl rfl rfl hF160 rfl (same_self _) rfl) (fun W => (rn_move (hF160.get rfl))) ?_
        intro a161 hF162; clear hF160
        refine any_pure (i := 5) (v := (.int .i64 ((Dk.new n).2))) hF162 (by decide +kernel) (by decide +kernel) rfl rfl rfl rfl (fun _ _ _ _ h => h) (wanted_guard rfl rfl rfl hF162 rfl (same_self _) rfl) (fun W => (rn_move (hF162.get rfl))) ?_
        intro a163 hF164; clear hF162
        refine any_pure (i := 6) (v := (.bool (decide (((Dk.new n).2 : Int) = ((Dk.new n).2 : Int))))) hF164 (by decide +kernel) (by decide +kernel) rfl rfl rfl rfl (fun _ _ _ _ h => h) (wanted_guard rfl rfl rfl hF164 rfl (same_self _) rfl) (fun W => (rn_eql (hF164.get rfl) (hF164.get rfl))) ?_
        intro a165 hF166; clear hF164
        refine any_pure (i := 7) (v := (.bool (decide (((Dk.new n).2 : Int) = ((Dk.new n).2 : Int))))) hF166 (by decide +kernel) (by decide +kernel) rfl rfl rfl rfl (fun _ _ _ _ h => h) rfl (fun W => (rn_pickT (c_true hF166 rfl (same_self _)) (hF166.get rfl))) ?_
        intro a167 hF168; clear hF166
        refine any_pure (i := 8) (v := (.bool (decide (((Dk.new n).2 : Int) = ((Dk.new n).2 : Int))))) hF168 (by decide +kernel) (by decide +kernel) rfl rfl rfl rfl (fun _ _ _ _ h => h) rfl (fun W => (rn_move (hF168.get rfl))) ?_
        intro a169 hF170; clear hF168
        have hS172 : Ext w137 w151 ∧ Blk w151 g86 25 [(.slice A69 (((Dk.new n).1).sectors.length) c70), (.slice B71 (((Dk.new n).1).pending.length) e72), (.int .i64 (((Dk.new n).1).left)), (.bool (((Dk.new n).1).stopped))] ∧ Blk w151 g121 25 [(.slice A104 (((Dk.new n).1).sectors.length) c105), (.slice B106 (((Dk.new n).1).pending.length) e107), (.int .i64 (((Dk.new n).1).left)), (.bool (((Dk.new n).1).stopped))] ∧ Blk w151 g2 25 [(.slice A d.sectors.length c), (.slice B d.pending.length e), (.int .i64 d.left), (.bool d.stopped)] := ⟨((Ext.refl w137).trans hx152), b156, b157, b158⟩
        refine any_val (i := 9) (v := (.agg #[(.slice A d.sectors.length c), (.slice B d.pending.length e), (.int .i64 d.left), (.bool d.stopped)])) hF170 (by decide +kernel) (by decide +kernel) rfl rfl rfl rfl (fun _ _ _ _ h => h) (wanted_guard rfl rfl rfl hF170 rfl ((decide_eq_true rfl) : decide (((Dk.new n).2 : Int) = ((Dk.new n).2 : Int)) = true) rfl) hS172 (fun W hW => (rn_loadBlk (hF170.get rfl) hW.2.2.2 Try.underlying25 rfl (by kernel_rfl : (Try.prog.info? 25).map (·.size) = some 4))) ?_
        intro a173 hF174; clear hF170
        refine any_val (i := 11) (v := (.agg #[(.slice A d.sectors.length c), (.slice B d.pending.length e), (.int .i64 d.left), (.bool d.stopped)])) hF174 (by decide +kernel) (by decide +kernel) rfl rfl rfl rfl (fun _ _ _ _ h => h) (wanted_guard rfl rfl rfl hF174 rfl ((decide_eq_true rfl) : decide (((Dk.new n).2 : Int) = ((Dk.new n).2 : Int)) = true) rfl) hS172 (fun W hW => (rn_loadBlk (hF174.get rfl) hW.2.2.2 Try.underlying25 rfl (by kernel_rfl : (Try.prog.info? 25).map (·.size) = some 4))) ?_
        intro a175 hF176; clear hF174
        refine any_one (i := 10) (by decide +kernel) rfl ?_
        have d177 := (d54.pres ((((((((((Pres.refl w14).ext hx56).ext hx76).ext hx89).grownN hg96 (fun h => by simp only [Clip, Fr, Old] at h; omega)).ext hx111).ext hx124).grownN hg131 (fun h => by simp only [Clip, Fr, Old] at h; omega)).ext hx138).ext hx152))
        refine o_call hF176 rfl (wanted_guard rfl rfl rfl hF176 rfl ((decide_eq_true rfl) : decide (((Dk.new n).2 : Int) = ((Dk.new n).2 : Int)) = true) rfl) rfl rfl (rn_call (args1 (hF176.get rfl)) rfl (by kernel_rfl)) (check_any (S := (Old w)) _ d _ d177) ?_
        rintro _ w178 ⟨rfl, hx179⟩
        refine ⟨_, rfl, ?_⟩; intro a180 hF181; clear hF176; have z182 := hx179.size
        have b183 : Blk w178 g86 25 [(.slice A69 (((Dk.new n).1).sectors.length) c70), (.slice B71 (((Dk.new n).1).pending.length) e72), (.int .i64 (((Dk.new n).1).left)), (.bool (((Dk.new n).1).stopped))] := (b156.ext hx179)
        have b184 : Blk w178 g121 25 [(.slice A104 (((Dk.new n).1).sectors.length) c105), (.slice B106 (((Dk.new n).1).pending.length) e107), (.int .i64 (((Dk.new n).1).left)), (.bool (((Dk.new n).1).stopped))] := (b157.ext hx179)
        have b185 : Blk w178 g2 25 [(.slice A d.sectors.length c), (.slice B d.pending.length e), (.int .i64 d.left), (.bool d.stopped)] := (b158.ext hx179)
        refine ⟨fun _ _ => ⟨(((Ext.refl w137).trans hx152).trans hx179), b183, b184, b185⟩, ?_⟩
        refine any_one (i := 12) (by decide +kernel) rfl ?_
        have d186 := (d177.ext hx179)
        refine o_call hF181 rfl (wanted_guard rfl rfl rfl hF181 rfl ((decide_eq_true rfl) : decide (((Dk.new n).2 : Int) = ((Dk.new n).2 : Int)) = true) rfl) rfl rfl (rn_call (args1 (hF181.get rfl)) rfl (by kernel_rfl)) (rcheck_any (S := (Old w)) _ d _ d186) ?_
        rintro _ w187 ⟨rfl, hx188⟩
        refine ⟨_, rfl, ?_⟩; intro a189 hF190; clear hF181; have z191 := hx188.size
        have b192 : Blk w187 g86 25 [(.slice A69 (((Dk.new n).1).sectors.length) c70), (.slice B71 (((Dk.new n).1).pending.length) e72), (.int .i64 (((Dk.new n).1).left)), (.bool (((Dk.new n).1).stopped))] := (b183.ext hx188)
        have b193 : Blk w187 g121 25 [(.slice A104 (((Dk.new n).1).sectors.length) c105), (.slice B106 (((Dk.new n).1).pending.length) e107), (.int .i64 (((Dk.new n).1).left)), (.bool (((Dk.new n).1).stopped))] := (b184.ext hx188)
        have b194 : Blk w187 g2 25 [(.slice A d.sectors.length c), (.slice B d.pending.length e), (.int .i64 d.left), (.bool d.stopped)] := (b185.ext hx188)
        refine ⟨fun _ _ => ⟨((((Ext.refl w137).trans hx152).trans hx179).trans hx188), b192, b193, b194⟩, ?_⟩
        refine any_pure (i := 13) (v := (.bool (decide ((d.check : Int) = (d.check : Int))))) hF190 (by decide +kernel) (by decide +kernel) rfl rfl rfl rfl (fun _ _ _ _ h => h) (wanted_guard rfl rfl rfl hF190 rfl ((decide_eq_true rfl) : decide (((Dk.new n).2 : Int) = ((Dk.new n).2 : Int)) = true) rfl) (fun W => (rn_eql (hF190.get rfl) (hF190.get rfl))) ?_
        intro a195 hF196; clear hF190
        refine any_pure (i := 14) (v := (.bool (decide ((d.check : Int) = (d.check : Int))))) hF196 (by decide +kernel) (by decide +kernel) rfl rfl rfl rfl (fun _ _ _ _ h => h) rfl (fun W => (rn_pickT (c_true hF196 rfl ((decide_eq_true rfl) : decide (((Dk.new n).2 : Int) = ((Dk.new n).2 : Int)) = true)) (hF196.get rfl))) ?_
        intro a197 hF198; clear hF196
        refine any_pure (i := 15) (v := (.bool (decide ((d.check : Int) = (d.check : Int))))) hF198 (by decide +kernel) (by decide +kernel) rfl rfl rfl rfl (fun _ _ _ _ h => h) rfl (fun W => (rn_move (hF198.get rfl))) ?_
        intro a199 hF200; clear hF198
        have hS202 : Ext w137 w187 ∧ Blk w187 g86 25 [(.slice A69 (((Dk.new n).1).sectors.length) c70), (.slice B71 (((Dk.new n).1).pending.length) e72), (.int .i64 (((Dk.new n).1).left)), (.bool (((Dk.new n).1).stopped))] ∧ Blk w187 g121 25 [(.slice A104 (((Dk.new n).1).sectors.length) c105), (.slice B106 (((Dk.new n).1).pending.length) e107), (.int .i64 (((Dk.new n).1).left)), (.bool (((Dk.new n).1).stopped))] ∧ Blk w187 g2 25 [(.slice A d.sectors.length c), (.slice B d.pending.length e), (.int .i64 d.left), (.bool d.stopped)] := ⟨((((Ext.refl w137).trans hx152).trans hx179).trans hx188), b192, b193, b194⟩
        refine any_val (i := 16) (v := (.agg #[(.slice A d.sectors.length c), (.slice B d.pending.length e), (.int .i64 d.left), (.bool d.stopped)])) hF200 (by decide +kernel) (by decide +kernel) rfl rfl rfl rfl (fun _ _ _ _ h => h) (wanted_guard rfl rfl rfl hF200 rfl ((decide_eq_true rfl) : decide ((d.check : Int) = (d.check : Int)) = true) rfl) hS202 (fun W hW => (rn_loadBlk (hF200.get rfl) hW.2.2.2 Try.underlying25 rfl (by kernel_rfl : (Try.prog.info? 25).map (·.size) = some 4))) ?_
        intro a203 hF204; clear hF200
        refine any_val (i := 18) (v := (.agg #[(.slice A d.sectors.length c), (.slice B d.pending.length e), (.int .i64 d.left), (.bool d.stopped)])) hF204 (by decide +kernel) (by decide +kernel) rfl rfl rfl rfl (fun _ _ _ _ h => h) (wanted_guard rfl rfl rfl hF204 rfl ((decide_eq_true rfl) : decide ((d.check : Int) = (d.check : Int)) = true) rfl) hS202 (fun W hW => (rn_loadBlk (hF204.get rfl) hW.2.2.2 Try.underlying25 rfl (by kernel_rfl : (Try.prog.info? 25).map (·.size) = some 4))) ?_
        intro a205 hF206; clear hF204
        refine any_one (i := 17) (by decide +kernel) rfl ?_
        have d207 := (d186.ext hx188)
        refine o_call hF206 rfl (wanted_guard rfl rfl rfl hF206 rfl ((decide_eq_true rfl) : decide ((d.check : Int) = (d.check : Int)) = true) rfl) rfl rfl (rn_call (args1 (hF206.get rfl)) rfl (by kernel_rfl)) (restart_any (S := (Old w)) _ d _ d207) ?_
        rintro _ w214 ⟨v213, rfl, hd212, hx215⟩
        obtain ⟨A208, c209, B210, e211, rfl, -, -⟩ := hd212.form
        have hd212 := hd212.clip
        refine ⟨_, rfl, ?_⟩; intro a216 hF217; clear hF206; have z218 := hx215.size
        have b219 : Blk w214 g86 25 [(.slice A69 (((Dk.new n).1).sectors.length) c70), (.slice B71 (((Dk.new n).1).pending.length) e72), (.int .i64 (((Dk.new n).1).left)), (.bool (((Dk.new n).1).stopped))] := (b192.ext hx215)
        have b220 : Blk w214 g121 25 [(.slice A104 (((Dk.new n).1).sectors.length) c105), (.slice B106 (((Dk.new n).1).pending.length) e107), (.int .i64 (((Dk.new n).1).left)), (.bool (((Dk.new n).1).stopped))] := (b193.ext hx215)
        have b221 : Blk w214 g2 25 [(.slice A d.sectors.length c), (.slice B d.pending.length e), (.int .i64 d.left), (.bool d.stopped)] := (b194.ext hx215)
        refine ⟨fun _ _ => ⟨(((((Ext.refl w137).trans hx152).trans hx179).trans hx188).trans hx215), b219, b220, b221⟩, ?_⟩
        refine any_one (i := 19) (by decide +kernel) rfl ?_
        have d222 := (d207.ext hx215)
        refine o_call hF217 rfl (wanted_guard rfl rfl rfl hF217 rfl ((decide_eq_true rfl) : decide ((d.check : Int) = (d.check : Int)) = true) rfl) rfl rfl (rn_call (args1 (hF217.get rfl)) rfl (by kernel_rfl)) (rrestart_any (S := (Old w)) _ d _ d222) ?_
        rintro _ w229 ⟨v228, rfl, hd227, hx230⟩
        obtain ⟨A223, c224, B225, e226, rfl, -, -⟩ := hd227.form
        have hd227 := hd227.clip
        refine ⟨_, rfl, ?_⟩; intro a231 hF232; clear hF217; have z233 := hx230.size
        have b234 : Blk w229 g86 25 [(.slice A69 (((Dk.new n).1).sectors.length) c70), (.slice B71 (((Dk.new n).1).pending.length) e72), (.int .i64 (((Dk.new n).1).left)), (.bool (((Dk.new n).1).stopped))] := (b219.ext hx230)
        have b235 : Blk w229 g121 25 [(.slice A104 (((Dk.new n).1).sectors.length) c105), (.slice B106 (((Dk.new n).1).pending.length) e107), (.int .i64 (((Dk.new n).1).left)), (.bool (((Dk.new n).1).stopped))] := (b220.ext hx230)
        have b236 : Blk w229 g2 25 [(.slice A d.sectors.length c), (.slice B d.pending.length e), (.int .i64 d.left), (.bool d.stopped)] := (b221.ext hx230)
        refine ⟨fun _ _ => ⟨((((((Ext.refl w137).trans hx152).trans hx179).trans hx188).trans hx215).trans hx230), b234, b235, b236⟩, ?_⟩
        refine any_one (i := 20) (by decide +kernel) rfl ?_
        have d237 := (hd212.ext hx230)
        refine o_call hF232 rfl (wanted_guard rfl rfl rfl hF232 rfl ((decide_eq_true rfl) : decide ((d.check : Int) = (d.check : Int)) = true) rfl) rfl rfl (rn_call (args2 (hF232.get rfl) (hF232.get rfl)) rfl (by kernel_rfl)) (same_any (S := fun _ => True) _ _ d.restart d.restart _ d237.all hd227.all) ?_
        rintro _ w238 ⟨rfl, hx239⟩
        refine ⟨_, rfl, ?_⟩; intro a240 hF241; clear hF232; have z242 := hx239.size
        have b243 : Blk w238 g86 25 [(.slice A69 (((Dk.new n).1).sectors.length) c70), (.slice B71 (((Dk.new n).1).pending.length) e72), (.int .i64 (((Dk.new n).1).left)), (.bool (((Dk.new n).1).stopped))] := (b234.ext hx239)
        have b244 : Blk w238 g121 25 [(.slice A104 (((Dk.new n).1).sectors.length) c105), (.slice B106 (((Dk.new n).1).pending.length) e107), (.int .i64 (((Dk.new n).1).left)), (.bool (((Dk.new n).1).stopped))] := (b235.ext hx239)
        have b245 : Blk w238 g2 25 [(.slice A d.sectors.length c), (.slice B d.pending.length e), (.int .i64 d.left), (.bool d.stopped)] := (b236.ext hx239)
        refine ⟨fun _ _ => ⟨(((((((Ext.refl w137).trans hx152).trans hx179).trans hx188).trans hx215).trans hx230).trans hx239), b243, b244, b245⟩, ?_⟩
        refine any_pure (i := 21) (v := (.bool (d.restart.same d.restart))) hF241 (by decide +kernel) (by decide +kernel) rfl rfl rfl rfl (fun _ _ _ _ h => h) rfl (fun W => (rn_pickT (c_true hF241 rfl ((decide_eq_true rfl) : decide ((d.check : Int) = (d.check : Int)) = true)) (hF241.get rfl))) ?_
        intro a246 hF247; clear hF241
        refine any_pure (i := 22) (v := (.bool (d.restart.same d.restart))) hF247 (by decide +kernel) (by decide +kernel) rfl rfl rfl rfl (fun _ _ _ _ h => h) rfl (fun W => (rn_assign (hF247.get rfl))) ?_
        intro a248 hF249; clear hF247
        refine any_nil (by decide +kernel) ?_
        refine hK136 _ _ ?_
        clear hK136
        have hF250 := ((((((((((hF249.nil.cons (hF249.get (t := 8) (v := (.int .i64 ((Dk.new n).2))) rfl)).cons (hF249.get (t := 7) (v := (.pointer (some ⟨g121, 0, none⟩))) rfl)).cons (hF249.get (t := 6) (v := (.int .i64 ((Dk.new n).2))) rfl)).cons (hF249.get (t := 5) (v := (.pointer (some ⟨g86, 0, none⟩))) rfl)).cons (hF249.get (t := 21) (v := (.bool (!d.few))) rfl)).cons (hF249.get (t := 10) (v := (.bool false)) rfl)).cons (hF249.get (t := 4) (v := (.bool (d.restart.same d.restart))) rfl)).cons (hF249.get (t := 3) (v := (.pointer (some ⟨g2, 0, none⟩))) rfl)).cons (hF249.get (t := 1) (v := (.agg #[(.slice A d.sectors.length c), (.slice B d.pending.length e), (.int .i64 d.left), (.bool d.stopped)])) rfl)).cons (hF249.get (t := 0) (v := (.int .i64 n)) rfl))
        clear hF249
        refine wp_ret ?_
        refine ret1 hF250 rfl rfl ?_
        exact ⟨congrArg (fun b => Ending.returned (.bool b)) ((same_self _) : d.restart.same d.restart = true), (((((((((((((((((Ext.refl w).trans hx5).trans hx15).trans hx56).trans hx76).trans hx89).grownN hg96 (by omega)).trans hx111).trans hx124).grownN hg131 (by omega)).trans hx138).trans hx152).trans hx179).trans hx188).trans hx215).trans hx230).trans hx239)⟩
      · skip
        refine wp_cond_true (c_true hF64 rfl (not_f hc65)) ?_
        refine wp_seq_k (fun K251 hK251 => ?_)
        refine wp_region_lit ?_
        refine wpl_op (i := 0) rfl (o_val (v := (.bool true)) hF64 rfl rfl rfl rfl (rn_assign rfl) ?_)
        intro a252 hF253; clear hF64
        refine wpList_nil ?_
        refine hK251 _ _ ?_
        clear hK251
        refine wp_ret ?_
        refine ret1 hF253 rfl rfl ?_
        exact ⟨congrArg (fun b => Ending.returned (.bool b)) (rfl : true = true), ((((Ext.refl w).trans hx5).trans hx15).trans hx56)⟩
  · skip
    refine wpl_op (i := 3) rfl (o_skip hF28 rfl (unwanted_guard rfl rfl rfl hF28 rfl (decide_eq_false hc29) rfl) rfl rfl ?_)
    intro a254 hF255; clear hF28
    refine wpl_op (i := 4) rfl (o_skip hF255 rfl (unwanted_guard rfl rfl rfl hF255 rfl (decide_eq_false hc29) rfl) rfl rfl ?_)
    intro a256 hF257; clear hF255
    refine wpl_op (i := 5) rfl (o_val (v := (.bool false)) hF257 rfl rfl rfl rfl (rn_pickF (c_false hF257 rfl (decide_eq_false hc29)) rfl) ?_)
    intro a258 hF259; clear hF257
    refine wpl_op (i := 6) rfl (o_val (v := (.bool false)) hF259 rfl rfl rfl rfl (rn_move (hF259.get rfl)) ?_)
    intro a260 hF261; clear hF259
    have b262 : Blk w14 g2 25 [(.slice A d.sectors.length c), (.slice B d.pending.length e), (.int .i64 d.left), (.bool d.stopped)] := (b4.ext hx15)
    refine wpl_op (i := 7) rfl (o_val (v := (.agg #[(.slice A d.sectors.length c), (.slice B d.pending.length e), (.int .i64 d.left), (.bool d.stopped)])) hF261 rfl (wanted_guard rfl rfl rfl hF261 rfl rfl rfl) rfl rfl (rn_loadBlk (hF261.get rfl) b262 Try.underlying25 rfl (by kernel_rfl : (Try.prog.info? 25).map (·.size) = some 4)) ?_)
    intro a263 hF264; clear hF261
    have d265 := ((hd.ext hx5).ext hx15)
    refine wpl_op (i := 8) rfl (o_call hF264 rfl (wanted_guard rfl rfl rfl hF264 rfl rfl rfl) rfl rfl (rn_call (args1 (hF264.get rfl)) rfl (by kernel_rfl)) (few_any (S := (Old w)) _ d _ d265 s1 s2) ?_)
    rintro _ w266 ⟨rfl, hx267⟩
    refine ⟨_, rfl, ?_⟩; intro a268 hF269; clear hF264; have z270 := hx267.size
    refine wpl_op (i := 9) rfl (o_val (v := (.bool (!d.few))) hF269 rfl (wanted_guard rfl rfl rfl hF269 rfl rfl rfl) rfl rfl (rn_not' (hF269.get rfl) rfl) ?_)
    intro a271 hF272; clear hF269
    refine wpl_op (i := 10) rfl (o_val (v := (.bool (!d.few))) hF272 rfl rfl rfl rfl (rn_pickF (c_false hF272 rfl rfl) (hF272.get rfl)) ?_)
    intro a273 hF274; clear hF272
    refine wpList_nil ?_
    refine hK22 _ _ ?_
    clear hK22
    have hF275 := ((((((hF274.nil.cons (hF274.get (t := 21) (v := (.bool (!d.few))) rfl)).cons (hF274.get (t := 10) (v := (.bool false)) rfl)).cons (hF274.get (t := 4) (v := (.bool false)) rfl)).cons (hF274.get (t := 3) (v := (.pointer (some ⟨g2, 0, none⟩))) rfl)).cons (hF274.get (t := 1) (v := (.agg #[(.slice A d.sectors.length c), (.slice B d.pending.length e), (.int .i64 d.left), (.bool d.stopped)])) rfl)).cons (hF274.get (t := 0) (v := (.int .i64 n)) rfl))
    clear hF274
    rcases Bool.eq_false_or_eq_true d.few with hc276 | hc276
    · skip
      refine wp_cond_false (c_false hF275 rfl (not_t hc276)) ?_
      refine wp_skip ?_
      refine hK21 _ _ ?_
      clear hK21
      refine wp_seq_k (fun K277 hK277 => ?_)
      refine wp_region_lit ?_
      refine wpl_op (i := 0) rfl (o_val (v := (.int .i64 n)) hF275 rfl rfl rfl rfl (rn_move (hF275.get rfl)) ?_)
      intro a278 hF279; clear hF275
      refine wpl_op (i := 1) rfl (o_call hF279 rfl rfl rfl rfl (rn_call (args1 (hF279.get rfl)) rfl (by kernel_rfl)) (new_any (S := fun _ => False) _ _) ?_)
      rintro _ w286 ⟨v285, rfl, hd284, hx287⟩
      obtain ⟨A280, c281, B282, e283, rfl, -, -⟩ := hd284.form
      have hd284 := hd284.clip
      refine ⟨_, rfl, ?_⟩; intro a288 hF289; clear hF279; have z290 := hx287.size
      refine wpl_op (i := 2) rfl (o_val (v := (.tuple #[(.agg #[(.slice A280 (((Dk.new n).1).sectors.length) c281), (.slice B282 (((Dk.new n).1).pending.length) e283), (.int .i64 (((Dk.new n).1).left)), (.bool (((Dk.new n).1).stopped))]), (.int .i64 ((Dk.new n).2))])) hF289 rfl rfl rfl rfl (rn_move (hF289.get rfl)) ?_)
      intro a291 hF292; clear hF289
      refine wpl_op (i := 3) rfl (o_val (v := (.agg #[(.slice A280 (((Dk.new n).1).sectors.length) c281), (.slice B282 (((Dk.new n).1).pending.length) e283), (.int .i64 (((Dk.new n).1).left)), (.bool (((Dk.new n).1).stopped))])) hF292 rfl rfl rfl rfl (rn_extract (hF292.get rfl) rfl) ?_)
      intro a293 hF294; clear hF292
      refine wpl_op (i := 4) rfl (o_val (v := (.int .i64 ((Dk.new n).2))) hF294 rfl rfl rfl rfl (rn_extract (hF294.get rfl) rfl) ?_)
      intro a295 hF296; clear hF294
      refine wpl_op (i := 5) rfl (o_new (fun g => (.pointer (some ⟨g, 0, none⟩))) [(.slice none 0 0), (.slice none 0 0), (.int .i64 0), (.bool false)] 25 hF296 rfl rfl rfl rfl (by kernel_rfl) ?_)
      intro g297 w298 a303 hF304 z301 z302 b299 hx300; clear hF296
      refine wpl_op (i := 6) rfl (o_store (cells := [(.slice A280 (((Dk.new n).1).sectors.length) c281), (.slice B282 (((Dk.new n).1).pending.length) e283), (.int .i64 (((Dk.new n).1).left)), (.bool (((Dk.new n).1).stopped))]) hF304 rfl rfl rfl rfl (hF304.get rfl) (hF304.get rfl) b299 (by kernel_rfl : (Try.prog.info? 25).map (·.size) = some 4) rfl (by simp [Value.oneCell']) ?_)
      intro w305 b306 hg307; have z308 := hg307.size
      refine wpl_op (i := 7) rfl (o_val (v := (.int .i64 ((Dk.new n).2))) hF304 rfl rfl rfl rfl (rn_assign (hF304.get rfl)) ?_)
      intro a309 hF310; clear hF304
      refine wpList_nil ?_
      refine hK277 _ _ ?_
      clear hK277
      have hF311 := ((((((((hF310.nil.cons (hF310.get (t := 6) (v := (.int .i64 ((Dk.new n).2))) rfl)).cons (hF310.get (t := 5) (v := (.pointer (some ⟨g297, 0, none⟩))) rfl)).cons (hF310.get (t := 21) (v := (.bool (!d.few))) rfl)).cons (hF310.get (t := 10) (v := (.bool false)) rfl)).cons (hF310.get (t := 4) (v := (.bool false)) rfl)).cons (hF310.get (t := 3) (v := (.pointer (some ⟨g2, 0, none⟩))) rfl)).cons (hF310.get (t := 1) (v := (.agg #[(.slice A d.sectors.length c), (.slice B d.pending.length e), (.int .i64 d.left), (.bool d.stopped)])) rfl)).cons (hF310.get (t := 0) (v := (.int .i64 n)) rfl))
      clear hF310
      refine wp_seq_k (fun K312 hK312 => ?_)
      refine wp_region_lit ?_
      refine wpl_op (i := 0) rfl (o_val (v := (.int .i64 n)) hF311 rfl rfl rfl rfl (rn_move (hF311.get rfl)) ?_)
      intro a313 hF314; clear hF311
      refine wpl_op (i := 1) rfl (o_call hF314 rfl rfl rfl rfl (rn_call (args1 (hF314.get rfl)) rfl (by kernel_rfl)) (rnew_any (S := fun _ => False) _ _) ?_)
      rintro _ w321 ⟨v320, rfl, hd319, hx322⟩
      obtain ⟨A315, c316, B317, e318, rfl, -, -⟩ := hd319.form
      have hd319 := hd319.clip
      refine ⟨_, rfl, ?_⟩; intro a323 hF324; clear hF314; have z325 := hx322.size
      refine wpl_op (i := 2) rfl (o_val (v := (.tuple #[(.agg #[(.slice A315 (((Dk.new n).1).sectors.length) c316), (.slice B317 (((Dk.new n).1).pending.length) e318), (.int .i64 (((Dk.new n).1).left)), (.bool (((Dk.new n).1).stopped))]), (.int .i64 ((Dk.new n).2))])) hF324 rfl rfl rfl rfl (rn_move (hF324.get rfl)) ?_)
      intro a326 hF327; clear hF324
      refine wpl_op (i := 3) rfl (o_val (v := (.agg #[(.slice A315 (((Dk.new n).1).sectors.length) c316), (.slice B317 (((Dk.new n).1).pending.length) e318), (.int .i64 (((Dk.new n).1).left)), (.bool (((Dk.new n).1).stopped))])) hF327 rfl rfl rfl rfl (rn_extract (hF327.get rfl) rfl) ?_)
      intro a328 hF329; clear hF327
      refine wpl_op (i := 4) rfl (o_val (v := (.int .i64 ((Dk.new n).2))) hF329 rfl rfl rfl rfl (rn_extract (hF329.get rfl) rfl) ?_)
      intro a330 hF331; clear hF329
      refine wpl_op (i := 5) rfl (o_new (fun g => (.pointer (some ⟨g, 0, none⟩))) [(.slice none 0 0), (.slice none 0 0), (.int .i64 0), (.bool false)] 25 hF331 rfl rfl rfl rfl (by kernel_rfl) ?_)
      intro g332 w333 a338 hF339 z336 z337 b334 hx335; clear hF331
      refine wpl_op (i := 6) rfl (o_store (cells := [(.slice A315 (((Dk.new n).1).sectors.length) c316), (.slice B317 (((Dk.new n).1).pending.length) e318), (.int .i64 (((Dk.new n).1).left)), (.bool (((Dk.new n).1).stopped))]) hF339 rfl rfl rfl rfl (hF339.get rfl) (hF339.get rfl) b334 (by kernel_rfl : (Try.prog.info? 25).map (·.size) = some 4) rfl (by simp [Value.oneCell']) ?_)
      intro w340 b341 hg342; have z343 := hg342.size
      refine wpl_op (i := 7) rfl (o_val (v := (.int .i64 ((Dk.new n).2))) hF339 rfl rfl rfl rfl (rn_assign (hF339.get rfl)) ?_)
      intro a344 hF345; clear hF339
      refine wpList_nil ?_
      refine hK312 _ _ ?_
      clear hK312
      have hF346 := ((((((((((hF345.nil.cons (hF345.get (t := 8) (v := (.int .i64 ((Dk.new n).2))) rfl)).cons (hF345.get (t := 7) (v := (.pointer (some ⟨g332, 0, none⟩))) rfl)).cons (hF345.get (t := 6) (v := (.int .i64 ((Dk.new n).2))) rfl)).cons (hF345.get (t := 5) (v := (.pointer (some ⟨g297, 0, none⟩))) rfl)).cons (hF345.get (t := 21) (v := (.bool (!d.few))) rfl)).cons (hF345.get (t := 10) (v := (.bool false)) rfl)).cons (hF345.get (t := 4) (v := (.bool false)) rfl)).cons (hF345.get (t := 3) (v := (.pointer (some ⟨g2, 0, none⟩))) rfl)).cons (hF345.get (t := 1) (v := (.agg #[(.slice A d.sectors.length c), (.slice B d.pending.length e), (.int .i64 d.left), (.bool d.stopped)])) rfl)).cons (hF345.get (t := 0) (v := (.int .i64 n)) rfl))
      clear hF345
      refine wp_seq_k (fun K347 hK347 => ?_)
      have hx349 : ∃ W, w340.drew = W ∧ Ext w340 W := ⟨_, rfl, (Ext.refl _).drew⟩
      obtain ⟨w348, e350, hx349⟩ := hx349
      have z351 := hx349.size
      refine any_start (fun W => Ext w348 W ∧ Blk W g297 25 [(.slice A280 (((Dk.new n).1).sectors.length) c281), (.slice B282 (((Dk.new n).1).pending.length) e283), (.int .i64 (((Dk.new n).1).left)), (.bool (((Dk.new n).1).stopped))] ∧ Blk W g332 25 [(.slice A315 (((Dk.new n).1).sectors.length) c316), (.slice B317 (((Dk.new n).1).pending.length) e318), (.int .i64 (((Dk.new n).1).left)), (.bool (((Dk.new n).1).stopped))] ∧ Blk W g2 25 [(.slice A d.sectors.length c), (.slice B d.pending.length e), (.int .i64 d.left), (.bool d.stopped)]) (fun i => false) 23 #[false, false, false, false, false, false, false, false, false, false, false, false, false, false, false, false, false, false, false, false, false, false, false] rfl rfl rfl ?_
      rw [e350]; clear e350
      have b353 : Blk w348 g297 25 [(.slice A280 (((Dk.new n).1).sectors.length) c281), (.slice B282 (((Dk.new n).1).pending.length) e283), (.int .i64 (((Dk.new n).1).left)), (.bool (((Dk.new n).1).stopped))] := ((((b306.ext hx322).ext hx335).grownN hg342 (by omega)).ext hx349)
      have b354 : Blk w348 g332 25 [(.slice A315 (((Dk.new n).1).sectors.length) c316), (.slice B317 (((Dk.new n).1).pending.length) e318), (.int .i64 (((Dk.new n).1).left)), (.bool (((Dk.new n).1).stopped))] := (b341.ext hx349)
      have b355 : Blk w348 g2 25 [(.slice A d.sectors.length c), (.slice B d.pending.length e), (.int .i64 d.left), (.bool d.stopped)] := ((((((((b262.ext hx267).ext hx287).ext hx300).grownN hg307 (by omega)).ext hx322).ext hx335).grownN hg342 (by omega)).ext hx349)
      have hS352 : Ext w348 w348 ∧ Blk w348 g297 25 [(.slice A280 (((Dk.new n).1).sectors.length) c281), (.slice B282 (((Dk.new n).1).pending.length) e283), (.int .i64 (((Dk.new n).1).left)), (.bool (((Dk.new n).1).stopped))] ∧ Blk w348 g332 25 [(.slice A315 (((Dk.new n).1).sectors.length) c316), (.slice B317 (((Dk.new n).1).pending.length) e318), (.int .i64 (((Dk.new n).1).left)), (.bool (((Dk.new n).1).stopped))] ∧ Blk w348 g2 25 [(.slice A d.sectors.length c), (.slice B d.pending.length e), (.int .i64 d.left), (.bool d.stopped)] := ⟨(Ext.refl w348), b353, b354, b355⟩
      refine any_val (i := 0) (v := (.agg #[(.slice A280 (((Dk.new n).1).sectors.length) c281), (.slice B282 (((Dk.new n).1).pending.length) e283), (.int .i64 (((Dk.new n).1).left)), (.bool (((Dk.new n).1).stopped))])) hF346 (by decide +kernel) (by decide +kernel) rfl rfl rfl rfl (fun _ _ _ _ h => h) rfl hS352 (fun W hW => (rn_loadBlk (hF346.get rfl) hW.2.1 Try.underlying25 rfl (by kernel_rfl : (Try.prog.info? 25).map (·.size) = some 4))) ?_
      intro a356 hF357; clear hF346
      refine any_val (i := 1) (v := (.agg #[(.slice A315 (((Dk.new n).1).sectors.length) c316), (.slice B317 (((Dk.new n).1).pending.length) e318), (.int .i64 (((Dk.new n).1).left)), (.bool (((Dk.new n).1).stopped))])) hF357 (by decide +kernel) (by decide +kernel) rfl rfl rfl rfl (fun _ _ _ _ h => h) rfl hS352 (fun W hW => (rn_loadBlk (hF357.get rfl) hW.2.2.1 Try.underlying25 rfl (by kernel_rfl : (Try.prog.info? 25).map (·.size) = some 4))) ?_
      intro a358 hF359; clear hF357
      refine any_one (i := 2) (by decide +kernel) rfl ?_
      have d360 := (hd284.pres (((((((Pres.refl w286).ext hx300).grownN hg307 (fun h => by simp only [Clip, Fr, Old] at h; omega)).ext hx322).ext hx335).grownN hg342 (fun h => by simp only [Clip, Fr, Old] at h; omega)).ext hx349))
      have d361 := (hd319.pres ((((Pres.refl w321).ext hx335).grownN hg342 (fun h => by simp only [Clip, Fr, Old] at h; omega)).ext hx349))
      refine o_call hF359 rfl rfl rfl rfl (rn_call (args2 (hF359.get rfl) (hF359.get rfl)) rfl (by kernel_rfl)) (same_any (S := fun _ => True) _ _ ((Dk.new n).1) ((Dk.new n).1) _ d360.all d361.all) ?_
      rintro _ w362 ⟨rfl, hx363⟩
      refine ⟨_, rfl, ?_⟩; intro a364 hF365; clear hF359; have z366 := hx363.size
      have b367 : Blk w362 g297 25 [(.slice A280 (((Dk.new n).1).sectors.length) c281), (.slice B282 (((Dk.new n).1).pending.length) e283), (.int .i64 (((Dk.new n).1).left)), (.bool (((Dk.new n).1).stopped))] := (b353.ext hx363)
      have b368 : Blk w362 g332 25 [(.slice A315 (((Dk.new n).1).sectors.length) c316), (.slice B317 (((Dk.new n).1).pending.length) e318), (.int .i64 (((Dk.new n).1).left)), (.bool (((Dk.new n).1).stopped))] := (b354.ext hx363)
      have b369 : Blk w362 g2 25 [(.slice A d.sectors.length c), (.slice B d.pending.length e), (.int .i64 d.left), (.bool d.stopped)] := (b355.ext hx363)
      refine ⟨fun _ _ => ⟨((Ext.refl w348).trans hx363), b367, b368, b369⟩, ?_⟩
      refine any_pure (i := 3) (v := (.bool (((Dk.new n).1).same ((Dk.new n).1)))) hF365 (by decide +kernel) (by decide +kernel) rfl rfl rfl rfl (fun _ _ _ _ h => h) rfl (fun W => (rn_move (hF365.get rfl))) ?_
      intro a370 hF371; clear hF365
      refine any_pure (i := 4) (v := (.int .i64 ((Dk.new n).2))) hF371 (by decide +kernel) (by decide +kernel) rfl rfl rfl rfl (fun _ _ _ _ h => h) (wanted_guard rfl rfl rfl hF371 rfl (same_self _) rfl) (fun W => (rn_move (hF371.get rfl))) ?_
      intro a372 hF373; clear hF371
      refine any_pure (i := 5) (v := (.int .i64 ((Dk.new n).2))) hF373 (by decide +kernel) (by decide +kernel) rfl rfl rfl rfl (fun _ _ _ _ h => h) (wanted_guard rfl rfl rfl hF373 rfl (same_self _) rfl) (fun W => (rn_move (hF373.get rfl))) ?_
      intro a374 hF375; clear hF373
      refine any_pure (i := 6) (v := (.bool (decide (((Dk.new n).2 : Int) = ((Dk.new n).2 : Int))))) hF375 (by decide +kernel) (by decide +kernel) rfl rfl rfl rfl (fun _ _ _ _ h => h) (wanted_guard rfl rfl rfl hF375 rfl (same_self _) rfl) (fun W => (rn_eql (hF375.get rfl) (hF375.get rfl))) ?_
      intro a376 hF377; clear hF375
      refine any_pure (i := 7) (v := (.bool (decide (((Dk.new n).2 : Int) = ((Dk.new n).2 : Int))))) hF377 (by decide +kernel) (by decide +kernel) rfl rfl rfl rfl (fun _ _ _ _ h => h) rfl (fun W => (rn_pickT (c_true hF377 rfl (same_self _)) (hF377.get rfl))) ?_
      intro a378 hF379; clear hF377
      refine any_pure (i := 8) (v := (.bool (decide (((Dk.new n).2 : Int) = ((Dk.new n).2 : Int))))) hF379 (by decide +kernel) (by decide +kernel) rfl rfl rfl rfl (fun _ _ _ _ h => h) rfl (fun W => (rn_move (hF379.get rfl))) ?_
      intro a380 hF381; clear hF379
      have hS383 : Ext w348 w362 ∧ Blk w362 g297 25 [(.slice A280 (((Dk.new n).1).sectors.length) c281), (.slice B282 (((Dk.new n).1).pending.length) e283), (.int .i64 (((Dk.new n).1).left)), (.bool (((Dk.new n).1).stopped))] ∧ Blk w362 g332 25 [(.slice A315 (((Dk.new n).1).sectors.length) c316), (.slice B317 (((Dk.new n).1).pending.length) e318), (.int .i64 (((Dk.new n).1).left)), (.bool (((Dk.new n).1).stopped))] ∧ Blk w362 g2 25 [(.slice A d.sectors.length c), (.slice B d.pending.length e), (.int .i64 d.left), (.bool d.stopped)] := ⟨((Ext.refl w348).trans hx363), b367, b368, b369⟩
      refine any_val (i := 9) (v := (.agg #[(.slice A d.sectors.length c), (.slice B d.pending.length e), (.int .i64 d.left), (.bool d.stopped)])) hF381 (by decide +kernel) (by decide +kernel) rfl rfl rfl rfl (fun _ _ _ _ h => h) (wanted_guard rfl rfl rfl hF381 rfl ((decide_eq_true rfl) : decide (((Dk.new n).2 : Int) = ((Dk.new n).2 : Int)) = true) rfl) hS383 (fun W hW => (rn_loadBlk (hF381.get rfl) hW.2.2.2 Try.underlying25 rfl (by kernel_rfl : (Try.prog.info? 25).map (·.size) = some 4))) ?_
      intro a384 hF385; clear hF381
      refine any_val (i := 11) (v := (.agg #[(.slice A d.sectors.length c), (.slice B d.pending.length e), (.int .i64 d.left), (.bool d.stopped)])) hF385 (by decide +kernel) (by decide +kernel) rfl rfl rfl rfl (fun _ _ _ _ h => h) (wanted_guard rfl rfl rfl hF385 rfl ((decide_eq_true rfl) : decide (((Dk.new n).2 : Int) = ((Dk.new n).2 : Int)) = true) rfl) hS383 (fun W hW => (rn_loadBlk (hF385.get rfl) hW.2.2.2 Try.underlying25 rfl (by kernel_rfl : (Try.prog.info? 25).map (·.size) = some 4))) ?_
      intro a386 hF387; clear hF385
      refine any_one (i := 10) (by decide +kernel) rfl ?_
      have d388 := (d265.pres ((((((((((Pres.refl w14).ext hx267).ext hx287).ext hx300).grownN hg307 (fun h => by simp only [Clip, Fr, Old] at h; omega)).ext hx322).ext hx335).grownN hg342 (fun h => by simp only [Clip, Fr, Old] at h; omega)).ext hx349).ext hx363))
      refine o_call hF387 rfl (wanted_guard rfl rfl rfl hF387 rfl ((decide_eq_true rfl) : decide (((Dk.new n).2 : Int) = ((Dk.new n).2 : Int)) = true) rfl) rfl rfl (rn_call (args1 (hF387.get rfl)) rfl (by kernel_rfl)) (check_any (S := (Old w)) _ d _ d388) ?_
      rintro _ w389 ⟨rfl, hx390⟩
      refine ⟨_, rfl, ?_⟩; intro a391 hF392; clear hF387; have z393 := hx390.size
      have b394 : Blk w389 g297 25 [(.slice A280 (((Dk.new n).1).sectors.length) c281), (.slice B282 (((Dk.new n).1).pending.length) e283), (.int .i64 (((Dk.new n).1).left)), (.bool (((Dk.new n).1).stopped))] := (b367.ext hx390)
      have b395 : Blk w389 g332 25 [(.slice A315 (((Dk.new n).1).sectors.length) c316), (.slice B317 (((Dk.new n).1).pending.length) e318), (.int .i64 (((Dk.new n).1).left)), (.bool (((Dk.new n).1).stopped))] := (b368.ext hx390)
      have b396 : Blk w389 g2 25 [(.slice A d.sectors.length c), (.slice B d.pending.length e), (.int .i64 d.left), (.bool d.stopped)] := (b369.ext hx390)
      refine ⟨fun _ _ => ⟨(((Ext.refl w348).trans hx363).trans hx390), b394, b395, b396⟩, ?_⟩
      refine any_one (i := 12) (by decide +kernel) rfl ?_
      have d397 := (d388.ext hx390)
      refine o_call hF392 rfl (wanted_guard rfl rfl rfl hF392 rfl ((decide_eq_true rfl) : decide (((Dk.new n).2 : Int) = ((Dk.new n).2 : Int)) = true) rfl) rfl rfl (rn_call (args1 (hF392.get rfl)) rfl (by kernel_rfl)) (rcheck_any (S := (Old w)) _ d _ d397) ?_
      rintro _ w398 ⟨rfl, hx399⟩
      refine ⟨_, rfl, ?_⟩; intro a400 hF401; clear hF392; have z402 := hx399.size
      have b403 : Blk w398 g297 25 [(.slice A280 (((Dk.new n).1).sectors.length) c281), (.slice B282 (((Dk.new n).1).pending.length) e283), (.int .i64 (((Dk.new n).1).left)), (.bool (((Dk.new n).1).stopped))] := (b394.ext hx399)
      have b404 : Blk w398 g332 25 [(.slice A315 (((Dk.new n).1).sectors.length) c316), (.slice B317 (((Dk.new n).1).pending.length) e318), (.int .i64 (((Dk.new n).1).left)), (.bool (((Dk.new n).1).stopped))] := (b395.ext hx399)
      have b405 : Blk w398 g2 25 [(.slice A d.sectors.length c), (.slice B d.pending.length e), (.int .i64 d.left), (.bool d.stopped)] := (b396.ext hx399)
      refine ⟨fun _ _ => ⟨((((Ext.refl w348).trans hx363).trans hx390).trans hx399), b403, b404, b405⟩, ?_⟩
      refine any_pure (i := 13) (v := (.bool (decide ((d.check : Int) = (d.check : Int))))) hF401 (by decide +kernel) (by decide +kernel) rfl rfl rfl rfl (fun _ _ _ _ h => h) (wanted_guard rfl rfl rfl hF401 rfl ((decide_eq_true rfl) : decide (((Dk.new n).2 : Int) = ((Dk.new n).2 : Int)) = true) rfl) (fun W => (rn_eql (hF401.get rfl) (hF401.get rfl))) ?_
      intro a406 hF407; clear hF401
      refine any_pure (i := 14) (v := (.bool (decide ((d.check : Int) = (d.check : Int))))) hF407 (by decide +kernel) (by decide +kernel) rfl rfl rfl rfl (fun _ _ _ _ h => h) rfl (fun W => (rn_pickT (c_true hF407 rfl ((decide_eq_true rfl) : decide (((Dk.new n).2 : Int) = ((Dk.new n).2 : Int)) = true)) (hF407.get rfl))) ?_
      intro a408 hF409; clear hF407
      refine any_pure (i := 15) (v := (.bool (decide ((d.check : Int) = (d.check : Int))))) hF409 (by decide +kernel) (by decide +kernel) rfl rfl rfl rfl (fun _ _ _ _ h => h) rfl (fun W => (rn_move (hF409.get rfl))) ?_
      intro a410 hF411; clear hF409
      have hS413 : Ext w348 w398 ∧ Blk w398 g297 25 [(.slice A280 (((Dk.new n).1).sectors.length) c281), (.slice B282 (((Dk.new n).1).pending.length) e283), (.int .i64 (((Dk.new n).1).left)), (.bool (((Dk.new n).1).stopped))] ∧ Blk w398 g332 25 [(.slice A315 (((Dk.new n).1).sectors.length) c316), (.slice B317 (((Dk.new n).1).pending.length) e318), (.int .i64 (((Dk.new n).1).left)), (.bool (((Dk.new n).1).stopped))] ∧ Blk w398 g2 25 [(.slice A d.sectors.length c), (.slice B d.pending.length e), (.int .i64 d.left), (.bool d.stopped)] := ⟨((((Ext.refl w348).trans hx363).trans hx390).trans hx399), b403, b404, b405⟩
      refine any_val (i := 16) (v := (.agg #[(.slice A d.sectors.length c), (.slice B d.pending.length e), (.int .i64 d.left), (.bool d.stopped)])) hF411 (by decide +kernel) (by decide +kernel) rfl rfl rfl rfl (fun _ _ _ _ h => h) (wanted_guard rfl rfl rfl hF411 rfl ((decide_eq_true rfl) : decide ((d.check : Int) = (d.check : Int)) = true) rfl) hS413 (fun W hW => (rn_loadBlk (hF411.get rfl) hW.2.2.2 Try.underlying25 rfl (by kernel_rfl : (Try.prog.info? 25).map (·.size) = some 4))) ?_
      intro a414 hF415; clear hF411
      refine any_val (i := 18) (v := (.agg #[(.slice A d.sectors.length c), (.slice B d.pending.length e), (.int .i64 d.left), (.bool d.stopped)])) hF415 (by decide +kernel) (by decide +kernel) rfl rfl rfl rfl (fun _ _ _ _ h => h) (wanted_guard rfl rfl rfl hF415 rfl ((decide_eq_true rfl) : decide ((d.check : Int) = (d.check : Int)) = true) rfl) hS413 (fun W hW => (rn_loadBlk (hF415.get rfl) hW.2.2.2 Try.underlying25 rfl (by kernel_rfl : (Try.prog.info? 25).map (·.size) = some 4))) ?_
      intro a416 hF417; clear hF415
      refine any_one (i := 17) (by decide +kernel) rfl ?_
      have d418 := (d397.ext hx399)
      refine o_call hF417 rfl (wanted_guard rfl rfl rfl hF417 rfl ((decide_eq_true rfl) : decide ((d.check : Int) = (d.check : Int)) = true) rfl) rfl rfl (rn_call (args1 (hF417.get rfl)) rfl (by kernel_rfl)) (restart_any (S := (Old w)) _ d _ d418) ?_
      rintro _ w425 ⟨v424, rfl, hd423, hx426⟩
      obtain ⟨A419, c420, B421, e422, rfl, -, -⟩ := hd423.form
      have hd423 := hd423.clip
      refine ⟨_, rfl, ?_⟩; intro a427 hF428; clear hF417; have z429 := hx426.size
      have b430 : Blk w425 g297 25 [(.slice A280 (((Dk.new n).1).sectors.length) c281), (.slice B282 (((Dk.new n).1).pending.length) e283), (.int .i64 (((Dk.new n).1).left)), (.bool (((Dk.new n).1).stopped))] := (b403.ext hx426)
      have b431 : Blk w425 g332 25 [(.slice A315 (((Dk.new n).1).sectors.length) c316), (.slice B317 (((Dk.new n).1).pending.length) e318), (.int .i64 (((Dk.new n).1).left)), (.bool (((Dk.new n).1).stopped))] := (b404.ext hx426)
      have b432 : Blk w425 g2 25 [(.slice A d.sectors.length c), (.slice B d.pending.length e), (.int .i64 d.left), (.bool d.stopped)] := (b405.ext hx426)
      refine ⟨fun _ _ => ⟨(((((Ext.refl w348).trans hx363).trans hx390).trans hx399).trans hx426), b430, b431, b432⟩, ?_⟩
      refine any_one (i := 19) (by decide +kernel) rfl ?_
      have d433 := (d418.ext hx426)
      refine o_call hF428 rfl (wanted_guard rfl rfl rfl hF428 rfl ((decide_eq_true rfl) : decide ((d.check : Int) = (d.check : Int)) = true) rfl) rfl rfl (rn_call (args1 (hF428.get rfl)) rfl (by kernel_rfl)) (rrestart_any (S := (Old w)) _ d _ d433) ?_
      rintro _ w440 ⟨v439, rfl, hd438, hx441⟩
      obtain ⟨A434, c435, B436, e437, rfl, -, -⟩ := hd438.form
      have hd438 := hd438.clip
      refine ⟨_, rfl, ?_⟩; intro a442 hF443; clear hF428; have z444 := hx441.size
      have b445 : Blk w440 g297 25 [(.slice A280 (((Dk.new n).1).sectors.length) c281), (.slice B282 (((Dk.new n).1).pending.length) e283), (.int .i64 (((Dk.new n).1).left)), (.bool (((Dk.new n).1).stopped))] := (b430.ext hx441)
      have b446 : Blk w440 g332 25 [(.slice A315 (((Dk.new n).1).sectors.length) c316), (.slice B317 (((Dk.new n).1).pending.length) e318), (.int .i64 (((Dk.new n).1).left)), (.bool (((Dk.new n).1).stopped))] := (b431.ext hx441)
      have b447 : Blk w440 g2 25 [(.slice A d.sectors.length c), (.slice B d.pending.length e), (.int .i64 d.left), (.bool d.stopped)] := (b432.ext hx441)
      refine ⟨fun _ _ => ⟨((((((Ext.refl w348).trans hx363).trans hx390).trans hx399).trans hx426).trans hx441), b445, b446, b447⟩, ?_⟩
      refine any_one (i := 20) (by decide +kernel) rfl ?_
      have d448 := (hd423.ext hx441)
      refine o_call hF443 rfl (wanted_guard rfl rfl rfl hF443 rfl ((decide_eq_true rfl) : decide ((d.check : Int) = (d.check : Int)) = true) rfl) rfl rfl (rn_call (args2 (hF443.get rfl) (hF443.get rfl)) rfl (by kernel_rfl)) (same_any (S := fun _ => True) _ _ d.restart d.restart _ d448.all hd438.all) ?_
      rintro _ w449 ⟨rfl, hx450⟩
      refine ⟨_, rfl, ?_⟩; intro a451 hF452; clear hF443; have z453 := hx450.size
      have b454 : Blk w449 g297 25 [(.slice A280 (((Dk.new n).1).sectors.length) c281), (.slice B282 (((Dk.new n).1).pending.length) e283), (.int .i64 (((Dk.new n).1).left)), (.bool (((Dk.new n).1).stopped))] := (b445.ext hx450)
      have b455 : Blk w449 g332 25 [(.slice A315 (((Dk.new n).1).sectors.length) c316), (.slice B317 (((Dk.new n).1).pending.length) e318), (.int .i64 (((Dk.new n).1).left)), (.bool (((Dk.new n).1).stopped))] := (b446.ext hx450)
      have b456 : Blk w449 g2 25 [(.slice A d.sectors.length c), (.slice B d.pending.length e), (.int .i64 d.left), (.bool d.stopped)] := (b447.ext hx450)
      refine ⟨fun _ _ => ⟨(((((((Ext.refl w348).trans hx363).trans hx390).trans hx399).trans hx426).trans hx441).trans hx450), b454, b455, b456⟩, ?_⟩
      refine any_pure (i := 21) (v := (.bool (d.restart.same d.restart))) hF452 (by decide +kernel) (by decide +kernel) rfl rfl rfl rfl (fun _ _ _ _ h => h) rfl (fun W => (rn_pickT (c_true hF452 rfl ((decide_eq_true rfl) : decide ((d.check : Int) = (d.check : Int)) = true)) (hF452.get rfl))) ?_
      intro a457 hF458; clear hF452
      refine any_pure (i := 22) (v := (.bool (d.restart.same d.restart))) hF458 (by decide +kernel) (by decide +kernel) rfl rfl rfl rfl (fun _ _ _ _ h => h) rfl (fun W => (rn_assign (hF458.get rfl))) ?_
      intro a459 hF460; clear hF458
      refine any_nil (by decide +kernel) ?_
      refine hK347 _ _ ?_
      clear hK347
      have hF461 := ((((((((((hF460.nil.cons (hF460.get (t := 8) (v := (.int .i64 ((Dk.new n).2))) rfl)).cons (hF460.get (t := 7) (v := (.pointer (some ⟨g332, 0, none⟩))) rfl)).cons (hF460.get (t := 6) (v := (.int .i64 ((Dk.new n).2))) rfl)).cons (hF460.get (t := 5) (v := (.pointer (some ⟨g297, 0, none⟩))) rfl)).cons (hF460.get (t := 21) (v := (.bool (!d.few))) rfl)).cons (hF460.get (t := 10) (v := (.bool false)) rfl)).cons (hF460.get (t := 4) (v := (.bool (d.restart.same d.restart))) rfl)).cons (hF460.get (t := 3) (v := (.pointer (some ⟨g2, 0, none⟩))) rfl)).cons (hF460.get (t := 1) (v := (.agg #[(.slice A d.sectors.length c), (.slice B d.pending.length e), (.int .i64 d.left), (.bool d.stopped)])) rfl)).cons (hF460.get (t := 0) (v := (.int .i64 n)) rfl))
      clear hF460
      refine wp_ret ?_
      refine ret1 hF461 rfl rfl ?_
      exact ⟨congrArg (fun b => Ending.returned (.bool b)) ((same_self _) : d.restart.same d.restart = true), (((((((((((((((((Ext.refl w).trans hx5).trans hx15).trans hx267).trans hx287).trans hx300).grownN hg307 (by omega)).trans hx322).trans hx335).grownN hg342 (by omega)).trans hx349).trans hx363).trans hx390).trans hx399).trans hx426).trans hx441).trans hx450)⟩
    · skip
      refine wp_cond_true (c_true hF275 rfl (not_f hc276)) ?_
      refine wp_seq_k (fun K462 hK462 => ?_)
      refine wp_region_lit ?_
      refine wpl_op (i := 0) rfl (o_val (v := (.bool true)) hF275 rfl rfl rfl rfl (rn_assign rfl) ?_)
      intro a463 hF464; clear hF275
      refine wpList_nil ?_
      refine hK462 _ _ ?_
      clear hK462
      refine wp_ret ?_
      refine ret1 hF464 rfl rfl ?_
      exact ⟨congrArg (fun b => Ending.returned (.bool b)) (rfl : true = true), ((((Ext.refl w).trans hx5).trans hx15).trans hx267)⟩

end Go.Proofs.Ytklhgghlkidfjaa
