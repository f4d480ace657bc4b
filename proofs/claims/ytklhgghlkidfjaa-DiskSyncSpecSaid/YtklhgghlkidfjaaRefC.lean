/- Contract of the reference's Sync. -/
import Derived.Test.YtklhgghlkidfjaaRefC1
namespace Go.Proofs.Ytklhgghlkidfjaa
open Go.RowKit

variable {S S' : Nat → Prop}

set_option maxRecDepth 100000 in
set_option maxHeartbeats 4000000 in
theorem rsync_main (A : Option Addr) (c : Nat) (B : Option Addr) (e : Nat) (d : Dk) (w : World) (hd : RDk S w (.agg #[.slice A d.sectors.length c, .slice B d.pending.length e, .int .i64 d.left, .bool d.stopped]) d) (h1 : d.runs = true) :
    Calls Try.prog 24 #[.agg #[.slice A d.sectors.length c, .slice B d.pending.length e, .int .i64 d.left, .bool d.stopped]] w (RDE S w d.sync.1 d.sync.2) := by
  obtain ⟨f1, f2, f3, f4, f5, hst, f7, f8⟩ := runs_facts h1
  have hch : d.check = 0 := by rcases runs_cases d with ⟨_, h⟩ | ⟨_, _, h⟩ | ⟨h, _, _⟩ <;> simp_all
  obtain ⟨-, -, xs, hcel, hrs0⟩ := RSl.cel (RDk.len hd).1
  have hxl : xs.length = d.sectors.length := by have := hcel.1; omega
  have hrs : ∀ i (h : i < (performL d.sectors (d.pending.take 0)).length) (h' : i < xs.length), RBs S w xs[i] (performL d.sectors (d.pending.take 0))[i] := fun i h h' => by
    have h2 : i < d.sectors.length := h
    obtain ⟨x, hx, hr⟩ := hrs0 i h2
    rw [chunk_one h'] at hx
    injection hx with hx
    rw [hx]; exact hr
  refine calls_enter (l := [(.agg #[(.slice A d.sectors.length c), (.slice B d.pending.length e), (.int .i64 d.left), (.bool d.stopped)])]) Try.func24 rfl rfl rfl (fun a hF => ?_)
  refine wp_seq_k (fun K1 hK1 => ?_)
  refine wp_region_lit ?_
  refine wpl_op (i := 0) rfl (o_new (fun g => (.pointer (some ⟨g, 0, none⟩))) [(.slice A d.sectors.length c), (.slice B d.pending.length e), (.int .i64 d.left), (.bool d.stopped)] 25 hF rfl rfl rfl rfl (rn_box (hF.get rfl) (by kernel_rfl)) ?_)
  intro g2 w3 a8 hF9 z6 z7 b4 hx5; clear hF
  refine wpl_op (i := 1) rfl (o_new (fun g => (.pointer (some ⟨g, 0, none⟩))) [(.slice none 0 0), (.slice none 0 0), (.int .i64 0), (.bool false)] 25 hF9 rfl rfl rfl rfl (by kernel_rfl) ?_)
  intro g10 w11 a16 hF17 z14 z15 b12 hx13; clear hF9
  refine wpl_op (i := 2) rfl (o_val (v := (.int .i64 0)) hF17 rfl rfl rfl rfl (rn_assign rfl) ?_)
  intro a18 hF19; clear hF17
  refine wpList_nil ?_
  refine hK1 _ _ ?_
  clear hK1
  refine wp_seq_k (fun K20 hK20 => ?_)
  refine wp_seq_k (fun K21 hK21 => ?_)
  refine wp_region_lit ?_
  have b22 : Blk w11 g2 25 [(.slice A d.sectors.length c), (.slice B d.pending.length e), (.int .i64 d.left), (.bool d.stopped)] := (b4.ext hx13)
  refine wpl_op (i := 0) rfl (o_val (v := (.agg #[(.slice A d.sectors.length c), (.slice B d.pending.length e), (.int .i64 d.left), (.bool d.stopped)])) hF19 rfl rfl rfl rfl (rn_loadBlk (hF19.get rfl) b22 Try.underlying25 rfl (by kernel_rfl : (Try.prog.info? 25).map (·.size) = some 4)) ?_)
  intro a23 hF24; clear hF19
  have d25 := ((hd.ext hx5).ext hx13)
  refine wpl_op (i := 1) rfl (o_call hF24 rfl rfl rfl rfl (rn_call (args1 (hF24.get rfl)) rfl (by kernel_rfl)) (rcheck_any (S := S) _ d _ d25) ?_)
  rintro _ w26 ⟨rfl, hx27⟩
  refine ⟨_, rfl, ?_⟩; intro a28 hF29; clear hF24; have z30 := hx27.size
  refine wpl_op (i := 2) rfl (o_val (v := (.bool (decide ((d.check : Int) ≠ (0 : Int))))) hF29 rfl rfl rfl rfl (rn_neq (hF29.get rfl) rfl) ?_)
  intro a31 hF32; clear hF29
  refine wpl_op (i := 3) rfl (o_val (v := (.bool (decide ((d.check : Int) ≠ (0 : Int))))) hF32 rfl rfl rfl rfl (rn_move (hF32.get rfl)) ?_)
  intro a33 hF34; clear hF32
  refine wpl_op (i := 4) rfl (o_val (v := (.pointer (some ⟨g2, 3, none⟩))) hF34 rfl (wanted_guard rfl rfl rfl hF34 rfl ((decide_eq_false (by rw [hch]; simp)) : decide ((d.check : Int) ≠ (0 : Int)) = false) rfl) rfl rfl (rn_field Try.underlying25 rfl (by kernel_rfl) (hF34.get rfl) rfl) ?_)
  intro a36 hF37; clear hF34
  have b38 : Blk w26 g2 25 [(.slice A d.sectors.length c), (.slice B d.pending.length e), (.int .i64 d.left), (.bool d.stopped)] := (b22.ext hx27)
  refine wpl_op (i := 5) rfl (o_val (v := (.bool d.stopped)) hF37 rfl (wanted_guard rfl rfl rfl hF37 rfl ((decide_eq_false (by rw [hch]; simp)) : decide ((d.check : Int) ≠ (0 : Int)) = false) rfl) rfl rfl (rn_load (isAgg_no Try.underlying4 rfl) (hF37.get rfl) (b38.rule.1 3)) ?_)
  intro a39 hF40; clear hF37
  refine wpl_op (i := 6) rfl (o_val (v := (.bool d.stopped)) hF40 rfl rfl rfl rfl (rn_pickF (c_false hF40 rfl ((decide_eq_false (by rw [hch]; simp)) : decide ((d.check : Int) ≠ (0 : Int)) = false)) (hF40.get rfl)) ?_)
  intro a41 hF42; clear hF40
  refine wpList_nil ?_
  refine hK21 _ _ ?_
  clear hK21
  have hF43 := (((((hF42.nil.cons (hF42.get (t := 15) (v := (.bool d.stopped)) rfl)).cons (hF42.get (t := 3) (v := (.int .i64 0)) rfl)).cons (hF42.get (t := 2) (v := (.pointer (some ⟨g10, 0, none⟩))) rfl)).cons (hF42.get (t := 1) (v := (.pointer (some ⟨g2, 0, none⟩))) rfl)).cons (hF42.get (t := 0) (v := (.agg #[(.slice A d.sectors.length c), (.slice B d.pending.length e), (.int .i64 d.left), (.bool d.stopped)])) rfl))
  clear hF42
  refine wp_cond_false (c_false hF43 rfl (hst : d.stopped = false)) ?_
  refine wp_skip ?_
  refine hK20 _ _ ?_
  clear hK20
  refine wp_seq_k (fun K45 hK45 => ?_)
  refine wp_region_lit ?_
  refine wpl_op (i := 0) rfl (o_val (v := (.pointer (some ⟨g2, 1, none⟩))) hF43 rfl rfl rfl rfl (rn_field Try.underlying25 rfl (by kernel_rfl) (hF43.get rfl) rfl) ?_)
  intro a46 hF47; clear hF43
  refine wpl_op (i := 1) rfl (o_val (v := (.slice B d.pending.length e)) hF47 rfl rfl rfl rfl (rn_load (isAgg_no Try.underlying23 rfl) (hF47.get rfl) (b38.rule.1 1)) ?_)
  intro a48 hF49; clear hF47
  refine wpl_op (i := 2) rfl (o_val (v := (.int .i64 (d.pending.length : Nat))) hF49 rfl rfl rfl rfl (rn_len_slice Try.underlying23 (hF49.get rfl)) ?_)
  intro a50 hF51; clear hF49
  refine wpl_op (i := 3) rfl (o_val (v := (.int .i64 (d.pending.length : Nat))) hF51 rfl rfl rfl rfl (rn_assign (hF51.get rfl)) ?_)
  intro a52 hF53; clear hF51
  refine wpList_nil ?_
  refine hK45 _ _ ?_
  clear hK45
  refine wp_seq_k (fun K54 hK54 => ?_)
  refine wp_region_lit ?_
  refine wpl_op (i := 0) rfl (o_val (v := (.pointer (some ⟨g2, 2, none⟩))) hF53 rfl rfl rfl rfl (rn_field Try.underlying25 rfl (by kernel_rfl) (hF53.get rfl) rfl) ?_)
  intro a55 hF56; clear hF53
  refine wpl_op (i := 1) rfl (o_val (v := (.int .i64 d.left)) hF56 rfl rfl rfl rfl (rn_load (isAgg_no Try.underlying3 rfl) (hF56.get rfl) (b38.rule.1 2)) ?_)
  intro a57 hF58; clear hF56
  refine wpl_op (i := 2) rfl (o_val (v := (.bool (decide ((0 : Int) ≤ (d.left : Int))))) hF58 rfl rfl rfl rfl (rn_geq (hF58.get rfl) rfl) ?_)
  intro a59 hF60; clear hF58
  refine wpl_op (i := 3) rfl (o_val (v := (.bool (decide ((0 : Int) ≤ (d.left : Int))))) hF60 rfl rfl rfl rfl (rn_move (hF60.get rfl)) ?_)
  intro a61 hF62; clear hF60
  by_cases hc63 : (0 : Int) ≤ (d.left : Int)
  · skip
    refine wpl_op (i := 4) rfl (o_val (v := (.pointer (some ⟨g2, 2, none⟩))) hF62 rfl (wanted_guard rfl rfl rfl hF62 rfl (decide_eq_true hc63) rfl) rfl rfl (rn_field Try.underlying25 rfl (by kernel_rfl) (hF62.get rfl) rfl) ?_)
    intro a64 hF65; clear hF62
    refine wpl_op (i := 5) rfl (o_val (v := (.int .i64 d.left)) hF65 rfl (wanted_guard rfl rfl rfl hF65 rfl (decide_eq_true hc63) rfl) rfl rfl (rn_load (isAgg_no Try.underlying3 rfl) (hF65.get rfl) (b38.rule.1 2)) ?_)
    intro a66 hF67; clear hF65
    refine wpl_op (i := 6) rfl (o_val (v := (.int .i64 (d.pending.length : Nat))) hF67 rfl (wanted_guard rfl rfl rfl hF67 rfl (decide_eq_true hc63) rfl) rfl rfl (rn_move (hF67.get rfl)) ?_)
    intro a68 hF69; clear hF67
    refine wpl_op (i := 7) rfl (o_val (v := (.bool (decide ((d.left : Int) < ((d.pending.length : Nat) : Int))))) hF69 rfl (wanted_guard rfl rfl rfl hF69 rfl (decide_eq_true hc63) rfl) rfl rfl (rn_lss (hF69.get rfl) (hF69.get rfl)) ?_)
    intro a70 hF71; clear hF69
    refine wpl_op (i := 8) rfl (o_val (v := (.bool (decide ((d.left : Int) < ((d.pending.length : Nat) : Int))))) hF71 rfl rfl rfl rfl (rn_pickT (c_true hF71 rfl (decide_eq_true hc63)) (hF71.get rfl)) ?_)
    intro a72 hF73; clear hF71
    refine wpl_op (i := 9) rfl (o_val (v := (.bool (decide ((d.left : Int) < ((d.pending.length : Nat) : Int))))) hF73 rfl rfl rfl rfl (rn_assign (hF73.get rfl)) ?_)
    intro a74 hF75; clear hF73
    refine wpList_nil ?_
    refine hK54 _ _ ?_
    clear hK54
    have hF76 := (((((((hF75.nil.cons (hF75.get (t := 5) (v := (.bool (decide ((d.left : Int) < ((d.pending.length : Nat) : Int))))) rfl)).cons (hF75.get (t := 4) (v := (.int .i64 (d.pending.length : Nat))) rfl)).cons (hF75.get (t := 15) (v := (.bool d.stopped)) rfl)).cons (hF75.get (t := 3) (v := (.int .i64 0)) rfl)).cons (hF75.get (t := 2) (v := (.pointer (some ⟨g10, 0, none⟩))) rfl)).cons (hF75.get (t := 1) (v := (.pointer (some ⟨g2, 0, none⟩))) rfl)).cons (hF75.get (t := 0) (v := (.agg #[(.slice A d.sectors.length c), (.slice B d.pending.length e), (.int .i64 d.left), (.bool d.stopped)])) rfl))
    clear hF75
    refine wp_seq_k (fun K77 hK77 => ?_)
    refine wp_seq_k (fun K78 hK78 => ?_)
    refine wp_region_lit ?_
    refine wpl_op (i := 0) rfl (o_val (v := (.bool (decide ((d.left : Int) < ((d.pending.length : Nat) : Int))))) hF76 rfl rfl rfl rfl (rn_move (hF76.get rfl)) ?_)
    intro a79 hF80; clear hF76
    refine wpList_nil ?_
    refine hK78 _ _ ?_
    clear hK78
    by_cases hc81 : (d.left : Int) < ((d.pending.length : Nat) : Int)
    · skip
      refine wp_cond_true (c_true hF80 rfl (decide_eq_true hc81)) ?_
      refine wp_region_lit ?_
      refine wpl_op (i := 0) rfl (o_val (v := (.pointer (some ⟨g2, 2, none⟩))) hF80 rfl rfl rfl rfl (rn_field Try.underlying25 rfl (by kernel_rfl) (hF80.get rfl) rfl) ?_)
      intro a82 hF83; clear hF80
      refine wpl_op (i := 1) rfl (o_val (v := (.int .i64 d.left)) hF83 rfl rfl rfl rfl (rn_load (isAgg_no Try.underlying3 rfl) (hF83.get rfl) (b38.rule.1 2)) ?_)
      intro a84 hF85; clear hF83
      refine wpl_op (i := 2) rfl (o_val (v := (.int .i64 d.left)) hF85 rfl rfl rfl rfl (rn_assign (hF85.get rfl)) ?_)
      intro a86 hF87; clear hF85
      refine wpList_nil ?_
      refine hK77 _ _ ?_
      clear hK77
      refine wp_meet (fun a' W => ∃ (xg128 : Nat) (xg114 : Nat) (xc115 : Nat), Sl 95 [(0, (.agg #[(.slice A d.sectors.length c), (.slice B d.pending.length e), (.int .i64 d.left), (.bool d.stopped)])), (1, (.pointer (some ⟨g2, 0, none⟩))), (2, (.pointer (some ⟨g10, 0, none⟩))), (3, (.int .i64 0)), (15, (.bool d.stopped)), (4, (.int .i64 d.left)), (5, (.bool (decide ((d.left : Int) < ((d.pending.length : Nat) : Int))))), (29, (.bool (decide ((d.left : Int) < ((d.pending.length : Nat) : Int))))), (6, (.pointer (some ⟨xg128, 0, none⟩)))] a' ∧ Ext w26 W ∧ Blk W xg128 25 [(.slice (some ⟨xg114, 0, none⟩) d.sectors.length xc115), (.slice none 0 0), (.int .i64 d.left), (.bool false)] ∧ w26.heap.size ≤ xg128 ∧ W.ownsRow (w.heap.size + 2) 35 1 (.slice (some ⟨xg114, 0, none⟩) d.sectors.length xc115) d.sectors.length xs ∧ (w.heap.size + 2) ≤ xg114 ∧ xg114 ≠ g2 ∧ xg114 ≠ g10 ∧ xg114 ≠ xg128) ?_ ?_
      · skip
        have hx89 : ∃ W, w26.drew = W ∧ Ext w26 W := ⟨_, rfl, (Ext.refl _).drew⟩
        obtain ⟨w88, e90, hx89⟩ := hx89
        have z91 := hx89.size
        refine any_start (fun W => Ext w88 W ∧ Blk W g2 25 [(.slice A d.sectors.length c), (.slice B d.pending.length e), (.int .i64 d.left), (.bool d.stopped)]) (fun i => i == 8) 9 #[false, false, false, false, false, false, false, false, false] rfl rfl rfl ?_
        rw [e90]; clear e90
        refine any_pure (i := 1) (v := (.pointer (some ⟨g2, 0, none⟩))) hF87 (by decide +kernel) (by decide +kernel) rfl rfl rfl rfl (fun _ _ _ _ h => h) rfl (fun W => (rn_field Try.underlying25 rfl (by kernel_rfl) (hF87.get rfl) rfl)) ?_
        intro a92 hF93; clear hF87
        have b95 : Blk w88 g2 25 [(.slice A d.sectors.length c), (.slice B d.pending.length e), (.int .i64 d.left), (.bool d.stopped)] := (b38.ext hx89)
        have hS94 : Ext w88 w88 ∧ Blk w88 g2 25 [(.slice A d.sectors.length c), (.slice B d.pending.length e), (.int .i64 d.left), (.bool d.stopped)] := ⟨(Ext.refl w88), b95⟩
        refine any_val (i := 2) (v := (.slice A d.sectors.length c)) hF93 (by decide +kernel) (by decide +kernel) rfl rfl rfl rfl (fun _ _ _ _ h => h) rfl hS94 (fun W hW => (rn_load (isAgg_no Try.underlying22 rfl) (hF93.get rfl) (hW.2.rule.1 0))) ?_
        intro a96 hF97; clear hF93
        refine any_pure (i := 4) (v := (.pointer (some ⟨g2, 2, none⟩))) hF97 (by decide +kernel) (by decide +kernel) rfl rfl rfl rfl (fun _ _ _ _ h => h) rfl (fun W => (rn_field Try.underlying25 rfl (by kernel_rfl) (hF97.get rfl) rfl)) ?_
        intro a98 hF99; clear hF97
        refine any_val (i := 5) (v := (.int .i64 d.left)) hF99 (by decide +kernel) (by decide +kernel) rfl rfl rfl rfl (fun _ _ _ _ h => h) rfl hS94 (fun W hW => (rn_load (isAgg_no Try.underlying3 rfl) (hF99.get rfl) (hW.2.rule.1 2))) ?_
        intro a100 hF101; clear hF99
        refine any_two (i := 0) (k := 7) (by decide +kernel) rfl rfl ?_ ?_
        · skip
          refine o_new (fun g => (.slice (some ⟨g, 0, none⟩) 0 0)) [] 35 hF101 rfl rfl rfl rfl (rn_buildSlice (parts0 ) (by kernel_rfl)) ?_
          intro g102 w103 a108 hF109 z106 z107 b104 hx105; clear hF101
          have b110 : Blk w103 g2 25 [(.slice A d.sectors.length c), (.slice B d.pending.length e), (.int .i64 d.left), (.bool d.stopped)] := (b95.ext hx105)
          refine ⟨fun _ _ => ⟨((Ext.refl w88).trans hx105), b110⟩, ?_⟩
          refine any_two (i := 3) (k := 7) (by decide +kernel) rfl rfl ?_ ?_
          · skip
            refine o_appE (n := 0) (xs := []) (ys := xs) (base := (w.heap.size + 2)) elBss hF109 rfl rfl rfl rfl rfl (hF109.get rfl) (hF109.get rfl) (own_of_blk (n := 0) (cap := 0) (k := 1) (cur := []) b104 (Nat.le_refl _) (by omega) rfl (by omega : (w.heap.size + 2) ≤ g102)) (Cel.ext hcel ((((((Ext.refl w).trans hx5).trans hx13).trans hx27).trans hx89).trans hx105)) (by omega) (by omega) (by omega) ?_
            intro v118 w111 a116 hF117 r112 hg113 ho123
            simp only [Nat.zero_add, List.nil_append] at r112
            obtain ⟨g114, c115, rfl, hz119, hz120, hz121, hz122⟩ := own_form r112 (by omega)
            clear hF109
            have ho123 : g114 = g102 ∨ g114 = w103.heap.size := ho123.imp (fun h => Option.some.inj h) (fun h => Option.some.inj h)
            have hg113 : World.grownBy w103 w111 (some g102) := hg113
            have z124 := hg113.size
            have b125 : Blk w111 g2 25 [(.slice A d.sectors.length c), (.slice B d.pending.length e), (.int .i64 d.left), (.bool d.stopped)] := (b110.grownN hg113 (by omega))
            refine ⟨fun _ _ => ⟨(((Ext.refl w88).trans hx105).grownN hg113 (by omega)), b125⟩, ?_⟩
            refine any_pure (i := 6) (v := (.agg #[(.slice (some ⟨g114, 0, none⟩) d.sectors.length c115), (.slice none 0 0), (.int .i64 d.left), (.bool false)])) hF117 (by decide +kernel) (by decide +kernel) rfl rfl rfl rfl (fun _ _ _ _ h => h) rfl (fun W => (rn_build (parts2 (hF117.get rfl) (hF117.get rfl)) (by kernel_rfl))) ?_
            intro a126 hF127; clear hF117
            refine any_one (i := 7) (by decide +kernel) rfl ?_
            refine o_new (fun g => (.pointer (some ⟨g, 0, none⟩))) [(.slice none 0 0), (.slice none 0 0), (.int .i64 0), (.bool false)] 25 hF127 rfl rfl rfl rfl (by kernel_rfl) ?_
            intro g128 w129 a134 hF135 z132 z133 b130 hx131; clear hF127
            have b136 : Blk w129 g2 25 [(.slice A d.sectors.length c), (.slice B d.pending.length e), (.int .i64 d.left), (.bool d.stopped)] := (b125.ext hx131)
            refine ⟨fun _ _ => ⟨((((Ext.refl w88).trans hx105).grownN hg113 (by omega)).trans hx131), b136⟩, ?_⟩
            refine any_one (i := 8) (by decide +kernel) rfl ?_
            refine o_store (cells := [(.slice (some ⟨g114, 0, none⟩) d.sectors.length c115), (.slice none 0 0), (.int .i64 d.left), (.bool false)]) hF135 rfl rfl rfl rfl (hF135.get rfl) (hF135.get rfl) b130 (by kernel_rfl : (Try.prog.info? 25).map (·.size) = some 4) rfl (by simp [Value.oneCell']) ?_
            intro w137 b138 hg139; have z140 := hg139.size
            refine ⟨fun h => absurd h (by decide), ?_⟩
            refine any_nil (by decide +kernel) ?_
            have r141 := (own_grownE (own_ext r112 hx131) hg139 (by omega))
            exact ⟨g128, g114, c115, (((((((((hF135.nil.cons (hF135.get (t := 6) (v := (.pointer (some ⟨g128, 0, none⟩))) rfl)).cons (hF135.get (t := 29) (v := (.bool (decide ((d.left : Int) < ((d.pending.length : Nat) : Int))))) rfl)).cons (hF135.get (t := 5) (v := (.bool (decide ((d.left : Int) < ((d.pending.length : Nat) : Int))))) rfl)).cons (hF135.get (t := 4) (v := (.int .i64 d.left)) rfl)).cons (hF135.get (t := 15) (v := (.bool d.stopped)) rfl)).cons (hF135.get (t := 3) (v := (.int .i64 0)) rfl)).cons (hF135.get (t := 2) (v := (.pointer (some ⟨g10, 0, none⟩))) rfl)).cons (hF135.get (t := 1) (v := (.pointer (some ⟨g2, 0, none⟩))) rfl)).cons (hF135.get (t := 0) (v := (.agg #[(.slice A d.sectors.length c), (.slice B d.pending.length e), (.int .i64 d.left), (.bool d.stopped)])) rfl)), ((((((Ext.refl w26).trans hx89).trans hx105).grownN hg113 (by omega)).trans hx131).grownN hg139 (by omega)), b138, (by omega), r141, (by omega), (by omega), (by omega), (by omega)⟩
          · skip
            refine o_new (fun g => (.pointer (some ⟨g, 0, none⟩))) [(.slice none 0 0), (.slice none 0 0), (.int .i64 0), (.bool false)] 25 hF109 rfl rfl rfl rfl (by kernel_rfl) ?_
            intro g141 w142 a147 hF148 z145 z146 b143 hx144; clear hF109
            have b149 : Blk w142 g2 25 [(.slice A d.sectors.length c), (.slice B d.pending.length e), (.int .i64 d.left), (.bool d.stopped)] := (b110.ext hx144)
            refine ⟨fun _ _ => ⟨(((Ext.refl w88).trans hx105).trans hx144), b149⟩, ?_⟩
            refine any_one (i := 3) (by decide +kernel) rfl ?_
            have b155 : Blk w142 g102 35 [] := (b104.ext hx144)
            refine o_appE (n := 0) (xs := []) (ys := xs) (base := (w.heap.size + 2)) elBss hF148 rfl rfl rfl rfl rfl (hF148.get rfl) (hF148.get rfl) (own_of_blk (n := 0) (cap := 0) (k := 1) (cur := []) b155 (Nat.le_refl _) (by omega) rfl (by omega : (w.heap.size + 2) ≤ g102)) (Cel.ext hcel (((((((Ext.refl w).trans hx5).trans hx13).trans hx27).trans hx89).trans hx105).trans hx144)) (by omega) (by omega) (by omega) ?_
            intro v158 w150 a156 hF157 r151 hg152 ho163
            simp only [Nat.zero_add, List.nil_append] at r151
            obtain ⟨g153, c154, rfl, hz159, hz160, hz161, hz162⟩ := own_form r151 (by omega)
            clear hF148
            have ho163 : g153 = g102 ∨ g153 = w142.heap.size := ho163.imp (fun h => Option.some.inj h) (fun h => Option.some.inj h)
            have hg152 : World.grownBy w142 w150 (some g102) := hg152
            have z164 := hg152.size
            have b165 : Blk w150 g2 25 [(.slice A d.sectors.length c), (.slice B d.pending.length e), (.int .i64 d.left), (.bool d.stopped)] := (b149.grownN hg152 (by omega))
            refine ⟨fun _ _ => ⟨((((Ext.refl w88).trans hx105).trans hx144).grownN hg152 (by omega)), b165⟩, ?_⟩
            refine any_pure (i := 6) (v := (.agg #[(.slice (some ⟨g153, 0, none⟩) d.sectors.length c154), (.slice none 0 0), (.int .i64 d.left), (.bool false)])) hF157 (by decide +kernel) (by decide +kernel) rfl rfl rfl rfl (fun _ _ _ _ h => h) rfl (fun W => (rn_build (parts2 (hF157.get rfl) (hF157.get rfl)) (by kernel_rfl))) ?_
            intro a166 hF167; clear hF157
            refine any_one (i := 8) (by decide +kernel) rfl ?_
            have b171 : Blk w150 g141 25 [(.slice none 0 0), (.slice none 0 0), (.int .i64 0), (.bool false)] := (b143.grownN hg152 (by omega))
            refine o_store (cells := [(.slice (some ⟨g153, 0, none⟩) d.sectors.length c154), (.slice none 0 0), (.int .i64 d.left), (.bool false)]) hF167 rfl rfl rfl rfl (hF167.get rfl) (hF167.get rfl) b171 (by kernel_rfl : (Try.prog.info? 25).map (·.size) = some 4) rfl (by simp [Value.oneCell']) ?_
            intro w168 b169 hg170; have z172 := hg170.size
            refine ⟨fun h => absurd h (by decide), ?_⟩
            refine any_nil (by decide +kernel) ?_
            have r173 := (own_grownE r151 hg170 (by omega))
            exact ⟨g141, g153, c154, (((((((((hF167.nil.cons (hF167.get (t := 6) (v := (.pointer (some ⟨g141, 0, none⟩))) rfl)).cons (hF167.get (t := 29) (v := (.bool (decide ((d.left : Int) < ((d.pending.length : Nat) : Int))))) rfl)).cons (hF167.get (t := 5) (v := (.bool (decide ((d.left : Int) < ((d.pending.length : Nat) : Int))))) rfl)).cons (hF167.get (t := 4) (v := (.int .i64 d.left)) rfl)).cons (hF167.get (t := 15) (v := (.bool d.stopped)) rfl)).cons (hF167.get (t := 3) (v := (.int .i64 0)) rfl)).cons (hF167.get (t := 2) (v := (.pointer (some ⟨g10, 0, none⟩))) rfl)).cons (hF167.get (t := 1) (v := (.pointer (some ⟨g2, 0, none⟩))) rfl)).cons (hF167.get (t := 0) (v := (.agg #[(.slice A d.sectors.length c), (.slice B d.pending.length e), (.int .i64 d.left), (.bool d.stopped)])) rfl)), ((((((Ext.refl w26).trans hx89).trans hx105).trans hx144).grownN hg152 (by omega)).grownN hg170 (by omega)), b169, (by omega), r173, (by omega), (by omega), (by omega), (by omega)⟩
        · skip
          refine o_new (fun g => (.pointer (some ⟨g, 0, none⟩))) [(.slice none 0 0), (.slice none 0 0), (.int .i64 0), (.bool false)] 25 hF101 rfl rfl rfl rfl (by kernel_rfl) ?_
          intro g173 w174 a179 hF180 z177 z178 b175 hx176; clear hF101
          have b181 : Blk w174 g2 25 [(.slice A d.sectors.length c), (.slice B d.pending.length e), (.int .i64 d.left), (.bool d.stopped)] := (b95.ext hx176)
          refine ⟨fun _ _ => ⟨((Ext.refl w88).trans hx176), b181⟩, ?_⟩
          refine any_one (i := 0) (by decide +kernel) rfl ?_
          refine o_new (fun g => (.slice (some ⟨g, 0, none⟩) 0 0)) [] 35 hF180 rfl rfl rfl rfl (rn_buildSlice (parts0 ) (by kernel_rfl)) ?_
          intro g182 w183 a188 hF189 z186 z187 b184 hx185; clear hF180
          have b190 : Blk w183 g2 25 [(.slice A d.sectors.length c), (.slice B d.pending.length e), (.int .i64 d.left), (.bool d.stopped)] := (b181.ext hx185)
          refine ⟨fun _ _ => ⟨(((Ext.refl w88).trans hx176).trans hx185), b190⟩, ?_⟩
          refine any_one (i := 3) (by decide +kernel) rfl ?_
          refine o_appE (n := 0) (xs := []) (ys := xs) (base := (w.heap.size + 2)) elBss hF189 rfl rfl rfl rfl rfl (hF189.get rfl) (hF189.get rfl) (own_of_blk (n := 0) (cap := 0) (k := 1) (cur := []) b184 (Nat.le_refl _) (by omega) rfl (by omega : (w.heap.size + 2) ≤ g182)) (Cel.ext hcel (((((((Ext.refl w).trans hx5).trans hx13).trans hx27).trans hx89).trans hx176).trans hx185)) (by omega) (by omega) (by omega) ?_
          intro v198 w191 a196 hF197 r192 hg193 ho203
          simp only [Nat.zero_add, List.nil_append] at r192
          obtain ⟨g194, c195, rfl, hz199, hz200, hz201, hz202⟩ := own_form r192 (by omega)
          clear hF189
          have ho203 : g194 = g182 ∨ g194 = w183.heap.size := ho203.imp (fun h => Option.some.inj h) (fun h => Option.some.inj h)
          have hg193 : World.grownBy w183 w191 (some g182) := hg193
          have z204 := hg193.size
          have b205 : Blk w191 g2 25 [(.slice A d.sectors.length c), (.slice B d.pending.length e), (.int .i64 d.left), (.bool d.stopped)] := (b190.grownN hg193 (by omega))
          refine ⟨fun _ _ => ⟨((((Ext.refl w88).trans hx176).trans hx185).grownN hg193 (by omega)), b205⟩, ?_⟩
          refine any_pure (i := 6) (v := (.agg #[(.slice (some ⟨g194, 0, none⟩) d.sectors.length c195), (.slice none 0 0), (.int .i64 d.left), (.bool false)])) hF197 (by decide +kernel) (by decide +kernel) rfl rfl rfl rfl (fun _ _ _ _ h => h) rfl (fun W => (rn_build (parts2 (hF197.get rfl) (hF197.get rfl)) (by kernel_rfl))) ?_
          intro a206 hF207; clear hF197
          refine any_one (i := 8) (by decide +kernel) rfl ?_
          have b211 : Blk w191 g173 25 [(.slice none 0 0), (.slice none 0 0), (.int .i64 0), (.bool false)] := ((b175.ext hx185).grownN hg193 (by omega))
          refine o_store (cells := [(.slice (some ⟨g194, 0, none⟩) d.sectors.length c195), (.slice none 0 0), (.int .i64 d.left), (.bool false)]) hF207 rfl rfl rfl rfl (hF207.get rfl) (hF207.get rfl) b211 (by kernel_rfl : (Try.prog.info? 25).map (·.size) = some 4) rfl (by simp [Value.oneCell']) ?_
          intro w208 b209 hg210; have z212 := hg210.size
          refine ⟨fun h => absurd h (by decide), ?_⟩
          refine any_nil (by decide +kernel) ?_
          have r213 := (own_grownE r192 hg210 (by omega))
          exact ⟨g173, g194, c195, (((((((((hF207.nil.cons (hF207.get (t := 6) (v := (.pointer (some ⟨g173, 0, none⟩))) rfl)).cons (hF207.get (t := 29) (v := (.bool (decide ((d.left : Int) < ((d.pending.length : Nat) : Int))))) rfl)).cons (hF207.get (t := 5) (v := (.bool (decide ((d.left : Int) < ((d.pending.length : Nat) : Int))))) rfl)).cons (hF207.get (t := 4) (v := (.int .i64 d.left)) rfl)).cons (hF207.get (t := 15) (v := (.bool d.stopped)) rfl)).cons (hF207.get (t := 3) (v := (.int .i64 0)) rfl)).cons (hF207.get (t := 2) (v := (.pointer (some ⟨g10, 0, none⟩))) rfl)).cons (hF207.get (t := 1) (v := (.pointer (some ⟨g2, 0, none⟩))) rfl)).cons (hF207.get (t := 0) (v := (.agg #[(.slice A d.sectors.length c), (.slice B d.pending.length e), (.int .i64 d.left), (.bool d.stopped)])) rfl)), ((((((Ext.refl w26).trans hx89).trans hx176).trans hx185).grownN hg193 (by omega)).grownN hg210 (by omega)), b209, (by omega), r213, (by omega), (by omega), (by omega), (by omega)⟩
      · rintro a214 w215 ⟨xg128, xg114, xc115, hF216, hx217, b218, z224, f219, f220, f221, f222, f223⟩
        have z225 := hx217.size
        clear hF87
        have z226 := b218.lt
        refine wp_seq_k (fun K227 hK227 => ?_)
        refine wp_seq_k (fun K228 hK228 => ?_)
        refine wp_region_lit ?_
        refine wpl_op (i := 0) rfl (o_val (v := (.int .i64 0)) hF216 rfl rfl rfl rfl (rn_assign rfl) ?_)
        intro a229 hF230; clear hF216
        refine wpList_nil ?_
        refine hK228 _ _ ?_
        clear hK228
        refine wp_block ?_
        have b231 : Blk w215 g2 25 [(.slice A d.sectors.length c), (.slice B d.pending.length e), (.int .i64 d.left), (.bool d.stopped)] := (b38.ext hx217)
        have b232 : Blk w215 g10 25 [(.slice none 0 0), (.slice none 0 0), (.int .i64 0), (.bool false)] := ((b12.ext hx27).ext hx217)
        refine wp_loop (fun a' W => ∃ (k : Nat) (vs : List Value), Sl 95 [(0, (.agg #[(.slice A d.sectors.length c), (.slice B d.pending.length e), (.int .i64 d.left), (.bool d.stopped)])), (1, (.pointer (some ⟨g2, 0, none⟩))), (2, (.pointer (some ⟨g10, 0, none⟩))), (3, (.int .i64 0)), (15, (.bool d.stopped)), (4, (.int .i64 d.left)), (5, (.bool (decide ((d.left : Int) < ((d.pending.length : Nat) : Int))))), (29, (.bool (decide ((d.left : Int) < ((d.pending.length : Nat) : Int))))), (6, (.pointer (some ⟨xg128, 0, none⟩))), (7, (.int .i64 (k : Nat)))] a' ∧ (k : Int) ≤ d.left ∧ k ≤ d.pending.length ∧ Ext w W ∧ Blk W g2 25 [(.slice A d.sectors.length c), (.slice B d.pending.length e), (.int .i64 d.left), (.bool d.stopped)] ∧ Blk W g10 25 [(.slice none 0 0), (.slice none 0 0), (.int .i64 0), (.bool false)] ∧ Blk W xg128 25 [(.slice (some ⟨xg114, 0, none⟩) d.sectors.length xc115), (.slice none 0 0), (.int .i64 d.left), (.bool false)] ∧ W.ownsRow (w.heap.size + 2) 35 1 (.slice (some ⟨xg114, 0, none⟩) d.sectors.length xc115) d.sectors.length vs ∧ ∀ i (h : i < (performL d.sectors (d.pending.take k)).length) (h' : i < vs.length), RBs S w vs[i] (performL d.sectors (d.pending.take k))[i]) (fun a' _ => (d.left : Int).toNat - (intOf (a'.eval (.tmp 7))).toNat) ⟨0, xs, ((((((((((hF230.nil.cons (q_get hF230 (t := 7) rfl (by first | rfl | (congr 1; omega)))).cons (q_get hF230 (t := 6) rfl rfl)).cons (q_get hF230 (t := 29) rfl rfl)).cons (q_get hF230 (t := 5) rfl rfl)).cons (q_get hF230 (t := 4) rfl rfl)).cons (q_get hF230 (t := 15) rfl rfl)).cons (q_get hF230 (t := 3) rfl rfl)).cons (q_get hF230 (t := 2) rfl rfl)).cons (q_get hF230 (t := 1) rfl rfl)).cons (q_get hF230 (t := 0) rfl rfl)), (by omega), (by omega), (((((Ext.refl w).trans hx5).trans hx13).trans hx27).trans hx217), b231, b232, b218, f219, hrs⟩ ?_
        clear hF230
        rintro a233 w234 ⟨k, vs, hF235, hp237, hp238, hx236, b239, b240, b241, r242, hf243⟩
        have hL244 := hF235
        have z245 := hx236.size
        have z246 := b239.lt
        have z247 := b240.lt
        have z248 := b241.lt
        have z249 := own_lt r242
        refine wp_seq_k (fun K250 hK250 => ?_)
        refine wp_seq_k (fun K251 hK251 => ?_)
        refine wp_region_lit ?_
        refine wpl_op (i := 0) rfl (o_val (v := (.int .i64 (k : Nat))) hF235 rfl rfl rfl rfl (rn_move (hF235.get rfl)) ?_)
        intro a252 hF253; clear hF235
        refine wpl_op (i := 1) rfl (o_val (v := (.int .i64 d.left)) hF253 rfl rfl rfl rfl (rn_move (hF253.get rfl)) ?_)
        intro a254 hF255; clear hF253
        refine wpl_op (i := 2) rfl (o_val (v := (.bool (decide (((k : Nat) : Int) < (d.left : Int))))) hF255 rfl rfl rfl rfl (rn_lss (hF255.get rfl) (hF255.get rfl)) ?_)
        intro a256 hF257; clear hF255
        refine wpList_nil ?_
        refine hK251 _ _ ?_
        clear hK251
        by_cases hc258 : ((k : Nat) : Int) < (d.left : Int)
        · skip
          refine wp_cond_true (c_true hF257 rfl (decide_eq_true hc258)) ?_
          refine wp_skip ?_
          refine hK250 _ _ ?_
          clear hK250
          refine wp_seq_k (fun K259 hK259 => ?_)
          refine wp_block ?_
          have hx261 : ∃ W, w234.drew = W ∧ Ext w234 W := ⟨_, rfl, (Ext.refl _).drew⟩
          obtain ⟨w260, e262, hx261⟩ := hx261
          have z263 := hx261.size
          refine any_start (fun W => Ext w260 W ∧ Blk W xg128 25 [(.slice (some ⟨xg114, 0, none⟩) d.sectors.length xc115), (.slice none 0 0), (.int .i64 d.left), (.bool false)] ∧ Blk W g2 25 [(.slice A d.sectors.length c), (.slice B d.pending.length e), (.int .i64 d.left), (.bool d.stopped)]) (fun i => i == 15) 16 #[false, false, false, false, false, false, false, false, false, false, false, false, false, false, false, false] rfl rfl rfl ?_
          rw [e262]; clear e262
          refine any_pure (i := 0) (v := (.pointer (some ⟨xg128, 0, none⟩))) hF257 (by decide +kernel) (by decide +kernel) rfl rfl rfl rfl (fun _ _ _ _ h => h) rfl (fun W => (rn_field Try.underlying25 rfl (by kernel_rfl) (hF257.get rfl) rfl)) ?_
          intro a264 hF265; clear hF257
          have b267 : Blk w260 xg128 25 [(.slice (some ⟨xg114, 0, none⟩) d.sectors.length xc115), (.slice none 0 0), (.int .i64 d.left), (.bool false)] := (b241.ext hx261)
          have b268 : Blk w260 g2 25 [(.slice A d.sectors.length c), (.slice B d.pending.length e), (.int .i64 d.left), (.bool d.stopped)] := (b239.ext hx261)
          have hS266 : Ext w260 w260 ∧ Blk w260 xg128 25 [(.slice (some ⟨xg114, 0, none⟩) d.sectors.length xc115), (.slice none 0 0), (.int .i64 d.left), (.bool false)] ∧ Blk w260 g2 25 [(.slice A d.sectors.length c), (.slice B d.pending.length e), (.int .i64 d.left), (.bool d.stopped)] := ⟨(Ext.refl w260), b267, b268⟩
          refine any_val (i := 1) (v := (.slice (some ⟨xg114, 0, none⟩) d.sectors.length xc115)) hF265 (by decide +kernel) (by decide +kernel) rfl rfl rfl rfl (fun _ _ _ _ h => h) rfl hS266 (fun W hW => (rn_load (isAgg_no Try.underlying22 rfl) (hF265.get rfl) (hW.2.1.rule.1 0))) ?_
          intro a269 hF270; clear hF265
          refine any_pure (i := 2) (v := (.pointer (some ⟨g2, 1, none⟩))) hF270 (by decide +kernel) (by decide +kernel) rfl rfl rfl rfl (fun _ _ _ _ h => h) rfl (fun W => (rn_field Try.underlying25 rfl (by kernel_rfl) (hF270.get rfl) rfl)) ?_
          intro a271 hF272; clear hF270
          refine any_val (i := 3) (v := (.slice B d.pending.length e)) hF272 (by decide +kernel) (by decide +kernel) rfl rfl rfl rfl (fun _ _ _ _ h => h) rfl hS266 (fun W hW => (rn_load (isAgg_no Try.underlying23 rfl) (hF272.get rfl) (hW.2.2.rule.1 1))) ?_
          intro a273 hF274; clear hF272
          refine any_pure (i := 4) (v := (.int .i64 (k : Nat))) hF274 (by decide +kernel) (by decide +kernel) rfl rfl rfl rfl (fun _ _ _ _ h => h) rfl (fun W => (rn_move (hF274.get rfl))) ?_
          intro a275 hF276; clear hF274
          obtain ⟨x277, hi278, hm290⟩ := get_of_lt d.pending k (by omega)
          obtain ⟨hp291, hp292, hp293⟩ := f7 x277 hm290
          obtain ⟨b279, o280, A281, c282, hA283, hl284, hc287, hc285, hr286, le288, le289⟩ := RWs.get (RDk.len hd).2.1 hi278
          refine any_pure (i := 5) (v := (.pointer (some ⟨b279, o280 + k * 2, none⟩))) hF276 (by decide +kernel) (by decide +kernel) rfl rfl rfl rfl (fun _ _ _ _ h => h) rfl (fun W => (rn_index Try.underlying23 (by kernel_rfl : (Try.prog.info? 54).map (·.size) = some 2) ((hF276.get rfl).trans (by rw [hA283])) (hF276.get rfl) (by omega : (0 : Int) ≤ (k : Nat)) (by omega : ((k : Nat) : Int) < ((d.pending.length : Nat) : Int)))) ?_
          intro a294 hF295; clear hF276
          refine any_pure (i := 6) (v := (.pointer (some ⟨b279, o280 + k * 2, none⟩))) hF295 (by decide +kernel) (by decide +kernel) rfl rfl rfl rfl (fun _ _ _ _ h => h) rfl (fun W => (rn_field Try.underlying54 rfl (by kernel_rfl) (hF295.get rfl) rfl)) ?_
          intro a296 hF297; clear hF295
          refine any_val (i := 7) (v := (.int .i64 x277.1)) hF297 (by decide +kernel) (by decide +kernel) rfl rfl rfl rfl (fun _ _ _ _ h => h) rfl hS266 (fun W hW => (rn_load (isAgg_no Try.underlying3 rfl) (hF297.get rfl) (Ext.keep ((((Ext.refl w).trans hx236).trans hx261).trans hW.1) hc287))) ?_
          intro a298 hF299; clear hF297
          refine any_pure (i := 8) (v := (.pointer (some ⟨g2, 1, none⟩))) hF299 (by decide +kernel) (by decide +kernel) rfl rfl rfl rfl (fun _ _ _ _ h => h) rfl (fun W => (rn_field Try.underlying25 rfl (by kernel_rfl) (hF299.get rfl) rfl)) ?_
          intro a300 hF301; clear hF299
          refine any_val (i := 9) (v := (.slice B d.pending.length e)) hF301 (by decide +kernel) (by decide +kernel) rfl rfl rfl rfl (fun _ _ _ _ h => h) rfl hS266 (fun W hW => (rn_load (isAgg_no Try.underlying23 rfl) (hF301.get rfl) (hW.2.2.rule.1 1))) ?_
          intro a302 hF303; clear hF301
          refine any_pure (i := 10) (v := (.int .i64 (k : Nat))) hF303 (by decide +kernel) (by decide +kernel) rfl rfl rfl rfl (fun _ _ _ _ h => h) rfl (fun W => (rn_move (hF303.get rfl))) ?_
          intro a304 hF305; clear hF303
          refine any_pure (i := 11) (v := (.pointer (some ⟨b279, o280 + k * 2, none⟩))) hF305 (by decide +kernel) (by decide +kernel) rfl rfl rfl rfl (fun _ _ _ _ h => h) rfl (fun W => (rn_index Try.underlying23 (by kernel_rfl : (Try.prog.info? 54).map (·.size) = some 2) ((hF305.get rfl).trans (by rw [hA283])) (hF305.get rfl) (by omega : (0 : Int) ≤ (k : Nat)) (by omega : ((k : Nat) : Int) < ((d.pending.length : Nat) : Int)))) ?_
          intro a306 hF307; clear hF305
          refine any_pure (i := 12) (v := (.pointer (some ⟨b279, o280 + k * 2 + 1, none⟩))) hF307 (by decide +kernel) (by decide +kernel) rfl rfl rfl rfl (fun _ _ _ _ h => h) rfl (fun W => (rn_field Try.underlying54 rfl (by kernel_rfl) (hF307.get rfl) rfl)) ?_
          intro a308 hF309; clear hF307
          refine any_val (i := 13) (v := (.slice A281 x277.2.length c282)) hF309 (by decide +kernel) (by decide +kernel) rfl rfl rfl rfl (fun _ _ _ _ h => h) rfl hS266 (fun W hW => (rn_load (isAgg_no Try.underlying35 rfl) (hF309.get rfl) (Ext.keep ((((Ext.refl w).trans hx236).trans hx261).trans hW.1) hc285))) ?_
          intro a310 hF311; clear hF309
          refine any_pure (i := 14) (v := (.pointer (some ⟨xg114, 0 + (x277.1 : Int).toNat, none⟩))) hF311 (by decide +kernel) (by decide +kernel) rfl rfl rfl rfl (fun _ _ _ _ h => h) rfl (fun W => (rn_index1 Try.underlying22 (by kernel_rfl : (Try.prog.info? 35).map (·.size) = some 1) (hF311.get rfl) (hF311.get rfl) (by omega : (0 : Int) ≤ x277.1) (by omega : (x277.1 : Int) < ((d.sectors.length : Nat) : Int)))) ?_
          intro a312 hF313; clear hF311
          refine any_one (i := 15) (by decide +kernel) rfl ?_
          have r314 := (own_ext r242 hx261)
          refine o_storeRow hF313 rfl rfl rfl rfl (hF313.get rfl) (hF313.get rfl) r314 (by kernel_rfl : (Try.prog.info? 35).map (·.size) = some 1) (by omega) rfl ?_
          intro w315 r316 hg317; have z318 := hg317.size
          refine ⟨fun h => absurd h (by decide), ?_⟩
          refine any_nil (by decide +kernel) ?_
          refine hK259 _ _ ?_
          clear hK259
          have hF319 := (((((((((((hF313.nil.cons (hF313.get (t := 41) (v := (.bool (decide (((k : Nat) : Int) < (d.left : Int))))) rfl)).cons (hF313.get (t := 7) (v := (.int .i64 (k : Nat))) rfl)).cons (hF313.get (t := 6) (v := (.pointer (some ⟨xg128, 0, none⟩))) rfl)).cons (hF313.get (t := 29) (v := (.bool (decide ((d.left : Int) < ((d.pending.length : Nat) : Int))))) rfl)).cons (hF313.get (t := 5) (v := (.bool (decide ((d.left : Int) < ((d.pending.length : Nat) : Int))))) rfl)).cons (hF313.get (t := 4) (v := (.int .i64 d.left)) rfl)).cons (hF313.get (t := 15) (v := (.bool d.stopped)) rfl)).cons (hF313.get (t := 3) (v := (.int .i64 0)) rfl)).cons (hF313.get (t := 2) (v := (.pointer (some ⟨g10, 0, none⟩))) rfl)).cons (hF313.get (t := 1) (v := (.pointer (some ⟨g2, 0, none⟩))) rfl)).cons (hF313.get (t := 0) (v := (.agg #[(.slice A d.sectors.length c), (.slice B d.pending.length e), (.int .i64 d.left), (.bool d.stopped)])) rfl))
          clear hF313
          refine wp_region_lit ?_
          refine wpl_op (i := 0) rfl (o_val (v := (.int .i64 (k : Nat))) hF319 rfl rfl rfl rfl (rn_move (hF319.get rfl)) ?_)
          intro a320 hF321; clear hF319
          refine wpl_op (i := 1) rfl (o_val (v := (.int .i64 ((k : Nat) + 1))) hF321 rfl rfl rfl rfl (rn_add (hF321.get rfl) rfl (by omega) (by omega)) ?_)
          intro a322 hF323; clear hF321
          refine wpl_op (i := 2) rfl (o_val (v := (.int .i64 ((k : Nat) + 1))) hF323 rfl rfl rfl rfl (rn_assign (hF323.get rfl)) ?_)
          intro a324 hF325; clear hF323
          refine wpList_nil ?_
          have b326 : Blk w315 g2 25 [(.slice A d.sectors.length c), (.slice B d.pending.length e), (.int .i64 d.left), (.bool d.stopped)] := (b268.grownN hg317 (by omega))
          have b327 : Blk w315 g10 25 [(.slice none 0 0), (.slice none 0 0), (.int .i64 0), (.bool false)] := ((b240.ext hx261).grownN hg317 (by omega))
          have b328 : Blk w315 xg128 25 [(.slice (some ⟨xg114, 0, none⟩) d.sectors.length xc115), (.slice none 0 0), (.int .i64 d.left), (.bool false)] := (b267.grownN hg317 (by omega))
          refine ⟨⟨k + 1, (vs.set (0 + (x277.1 : Int).toNat) (.slice A281 x277.2.length c282)), ((((((((((hF325.nil.cons (q_get hF325 (t := 7) rfl (by first | rfl | (congr 1; omega)))).cons (q_get hF325 (t := 6) rfl rfl)).cons (q_get hF325 (t := 29) rfl rfl)).cons (q_get hF325 (t := 5) rfl rfl)).cons (q_get hF325 (t := 4) rfl rfl)).cons (q_get hF325 (t := 15) rfl rfl)).cons (q_get hF325 (t := 3) rfl rfl)).cons (q_get hF325 (t := 2) rfl rfl)).cons (q_get hF325 (t := 1) rfl rfl)).cons (q_get hF325 (t := 0) rfl rfl)), (by omega), (by omega), ((((Ext.refl w).trans hx236).trans hx261).grownN hg317 (by omega)), b326, b327, b328, r316, (perf_next hi278 hr286 rfl hf243)⟩, ?_⟩
          rw [hF325.get (t := 7) rfl, hL244.get (t := 7) rfl]; simp [intOf]; omega
        · skip
          refine wp_cond_false (c_false hF257 rfl (decide_eq_false hc258)) ?_
          refine wp_exit ?_
          refine exit_then ?_
          refine exit_then ?_
          refine exit_here ?_
          refine hK227 _ _ ?_
          clear hK227
          refine wp_seq_k (fun K329 hK329 => ?_)
          refine wp_seq_k (fun K330 hK330 => ?_)
          refine wp_region_lit ?_
          refine wpl_op (i := 0) rfl (o_val (v := (.bool (decide ((d.left : Int) < ((d.pending.length : Nat) : Int))))) hF257 rfl rfl rfl rfl (rn_move (hF257.get rfl)) ?_)
          intro a331 hF332; clear hF257
          refine wpList_nil ?_
          refine hK330 _ _ ?_
          clear hK330
          refine wp_cond_true (c_true hF332 rfl (decide_eq_true hc81)) ?_
          refine wp_seq_k (fun K333 hK333 => ?_)
          refine wp_region_lit ?_
          refine wpl_op (i := 0) rfl (o_val (v := (.pointer (some ⟨g2, 1, none⟩))) hF332 rfl rfl rfl rfl (rn_field Try.underlying25 rfl (by kernel_rfl) (hF332.get rfl) rfl) ?_)
          intro a334 hF335; clear hF332
          refine wpl_op (i := 1) rfl (o_val (v := (.slice B d.pending.length e)) hF335 rfl rfl rfl rfl (rn_load (isAgg_no Try.underlying23 rfl) (hF335.get rfl) (b239.rule.1 1)) ?_)
          intro a336 hF337; clear hF335
          refine wpl_op (i := 2) rfl (o_val (v := (.int .i64 d.left)) hF337 rfl rfl rfl rfl (rn_move (hF337.get rfl)) ?_)
          intro a338 hF339; clear hF337
          obtain ⟨x340, hi341, hm353⟩ := get_of_lt d.pending (d.left : Int).toNat (by omega)
          obtain ⟨hp354, hp355, hp356⟩ := f7 x340 hm353
          obtain ⟨b342, o343, A344, c345, hA346, hl347, hc350, hc348, hr349, le351, le352⟩ := RWs.get (RDk.len hd).2.1 hi341
          refine wpl_op (i := 3) rfl (o_val (v := (.pointer (some ⟨b342, o343 + (d.left : Int).toNat * 2, none⟩))) hF339 rfl rfl rfl rfl (rn_index Try.underlying23 (by kernel_rfl : (Try.prog.info? 54).map (·.size) = some 2) ((hF339.get rfl).trans (by rw [hA346])) (hF339.get rfl) (by omega : (0 : Int) ≤ d.left) (by omega : (d.left : Int) < ((d.pending.length : Nat) : Int))) ?_)
          intro a357 hF358; clear hF339
          refine wpl_op (i := 4) rfl (o_val (v := (.agg #[(.int .i64 x340.1), (.slice A344 x340.2.length c345)])) hF358 rfl rfl rfl rfl (rn_load2 (hF358.get rfl) Try.underlying54 rfl (by kernel_rfl : (Try.prog.info? 54).map (·.size) = some 2) (Ext.keep ((Ext.refl w).trans hx236) hc350) (Ext.keep ((Ext.refl w).trans hx236) hc348)) ?_)
          intro a359 hF360; clear hF358
          refine wpl_op (i := 5) rfl (o_new (fun g => (.pointer (some ⟨g, 0, none⟩))) [(.int .i64 0), (.slice none 0 0)] 54 hF360 rfl rfl rfl rfl (by kernel_rfl) ?_)
          intro g361 w362 a367 hF368 z365 z366 b363 hx364; clear hF360
          refine wpl_op (i := 6) rfl (o_store (cells := [(.int .i64 x340.1), (.slice A344 x340.2.length c345)]) hF368 rfl rfl rfl rfl (hF368.get rfl) (hF368.get rfl) b363 (by kernel_rfl : (Try.prog.info? 54).map (·.size) = some 2) rfl (by simp [Value.oneCell']) ?_)
          intro w369 b370 hg371; have z372 := hg371.size
          refine wpList_nil ?_
          refine hK333 _ _ ?_
          clear hK333
          have hF373 := (((((((((((((hF368.nil.cons (hF368.get (t := 8) (v := (.pointer (some ⟨g361, 0, none⟩))) rfl)).cons (hF368.get (t := 59) (v := (.bool (decide ((d.left : Int) < ((d.pending.length : Nat) : Int))))) rfl)).cons (hF368.get (t := 41) (v := (.bool (decide (((k : Nat) : Int) < (d.left : Int))))) rfl)).cons (hF368.get (t := 7) (v := (.int .i64 (k : Nat))) rfl)).cons (hF368.get (t := 6) (v := (.pointer (some ⟨xg128, 0, none⟩))) rfl)).cons (hF368.get (t := 29) (v := (.bool (decide ((d.left : Int) < ((d.pending.length : Nat) : Int))))) rfl)).cons (hF368.get (t := 5) (v := (.bool (decide ((d.left : Int) < ((d.pending.length : Nat) : Int))))) rfl)).cons (hF368.get (t := 4) (v := (.int .i64 d.left)) rfl)).cons (hF368.get (t := 15) (v := (.bool d.stopped)) rfl)).cons (hF368.get (t := 3) (v := (.int .i64 0)) rfl)).cons (hF368.get (t := 2) (v := (.pointer (some ⟨g10, 0, none⟩))) rfl)).cons (hF368.get (t := 1) (v := (.pointer (some ⟨g2, 0, none⟩))) rfl)).cons (hF368.get (t := 0) (v := (.agg #[(.slice A d.sectors.length c), (.slice B d.pending.length e), (.int .i64 d.left), (.bool d.stopped)])) rfl))
          clear hF368
          refine wp_seq_k (fun K374 hK374 => ?_)
          have hx376 : ∃ W, w369.drew = W ∧ Ext w369 W := ⟨_, rfl, (Ext.refl _).drew⟩
          obtain ⟨w375, e377, hx376⟩ := hx376
          have z378 := hx376.size
          have hvl : vs.length = (performL d.sectors (d.pending.take k)).length := by rw [performL_length]; have := r242.1; omega
          obtain ⟨Ao, co, old, hold, hvj, hro, leo, leo2⟩ := row_elem hf243 hvl (j := 0 + (x340.1 : Int).toNat) (by rw [performL_length]; omega)
          have hol : old.length = 128 := perform_len _ _ f8 (fun y hy => (f7 y (List.mem_of_mem_take hy)).2.2) _ (List.mem_of_getElem? hold)
          refine any_start (fun W => Ext w375 W ∧ Blk W xg128 25 [(.slice (some ⟨xg114, 0, none⟩) d.sectors.length xc115), (.slice none 0 0), (.int .i64 d.left), (.bool false)] ∧ Blk W g361 54 [(.int .i64 x340.1), (.slice A344 x340.2.length c345)] ∧ W.cell? ⟨xg114, 0 + (x340.1 : Int).toNat, none⟩ = some (.slice Ao old.length co)) (fun i => i == 18) 19 #[false, false, false, false, false, false, false, false, false, false, false, false, false, false, false, false, false, false, false] rfl rfl rfl ?_
          rw [e377]; clear e377
          refine any_pure (i := 0) (v := (.pointer (some ⟨xg128, 0, none⟩))) hF373 (by decide +kernel) (by decide +kernel) rfl rfl rfl rfl (fun _ _ _ _ h => h) rfl (fun W => (rn_field Try.underlying25 rfl (by kernel_rfl) (hF373.get rfl) rfl)) ?_
          intro a379 hF380; clear hF373
          have b382 : Blk w375 xg128 25 [(.slice (some ⟨xg114, 0, none⟩) d.sectors.length xc115), (.slice none 0 0), (.int .i64 d.left), (.bool false)] := (((b241.ext hx364).grownN hg371 (by omega)).ext hx376)
          have b383 : Blk w375 g361 54 [(.int .i64 x340.1), (.slice A344 x340.2.length c345)] := (b370.ext hx376)
          have r384 := (own_ext (own_grownE (own_ext r242 hx364) hg371 (by omega)) hx376)
          have hS381 : Ext w375 w375 ∧ Blk w375 xg128 25 [(.slice (some ⟨xg114, 0, none⟩) d.sectors.length xc115), (.slice none 0 0), (.int .i64 d.left), (.bool false)] ∧ Blk w375 g361 54 [(.int .i64 x340.1), (.slice A344 x340.2.length c345)] ∧ w375.cell? ⟨xg114, 0 + (x340.1 : Int).toNat, none⟩ = some (.slice Ao old.length co) := ⟨(Ext.refl w375), b382, b383, ((World.ownsRow.cellAt r384 (0 + (x340.1 : Int).toNat) (by omega)).trans hvj)⟩
          refine any_val (i := 1) (v := (.slice (some ⟨xg114, 0, none⟩) d.sectors.length xc115)) hF380 (by decide +kernel) (by decide +kernel) rfl rfl rfl rfl (fun _ _ _ _ h => h) rfl hS381 (fun W hW => (rn_load (isAgg_no Try.underlying22 rfl) (hF380.get rfl) (hW.2.1.rule.1 0))) ?_
          intro a385 hF386; clear hF380
          refine any_pure (i := 2) (v := (.pointer (some ⟨g361, 0, none⟩))) hF386 (by decide +kernel) (by decide +kernel) rfl rfl rfl rfl (fun _ _ _ _ h => h) rfl (fun W => (rn_field Try.underlying54 rfl (by kernel_rfl) (hF386.get rfl) rfl)) ?_
          intro a387 hF388; clear hF386
          refine any_val (i := 3) (v := (.int .i64 x340.1)) hF388 (by decide +kernel) (by decide +kernel) rfl rfl rfl rfl (fun _ _ _ _ h => h) rfl hS381 (fun W hW => (rn_load (isAgg_no Try.underlying3 rfl) (hF388.get rfl) (hW.2.2.1.rule.1 0))) ?_
          intro a389 hF390; clear hF388
          refine any_pure (i := 5) (v := (.pointer (some ⟨g361, 1, none⟩))) hF390 (by decide +kernel) (by decide +kernel) rfl rfl rfl rfl (fun _ _ _ _ h => h) rfl (fun W => (rn_field Try.underlying54 rfl (by kernel_rfl) (hF390.get rfl) rfl)) ?_
          intro a391 hF392; clear hF390
          refine any_val (i := 6) (v := (.slice A344 x340.2.length c345)) hF392 (by decide +kernel) (by decide +kernel) rfl rfl rfl rfl (fun _ _ _ _ h => h) rfl hS381 (fun W hW => (rn_load (isAgg_no Try.underlying35 rfl) (hF392.get rfl) (hW.2.2.1.rule.1 1))) ?_
          intro a393 hF394; clear hF392
          refine any_pure (i := 7) (v := (.slice A344 64 c345)) hF394 (by decide +kernel) (by decide +kernel) rfl rfl rfl rfl (fun _ _ _ _ h => h) rfl (fun W => (rn_sliceHi Try.underlying35 (by kernel_rfl : (Try.prog.info? 5).map (·.size) = some 1) (hF394.get rfl) rfl (by omega : (0 : Int) ≤ 64) (by omega : (64 : Int) ≤ ((c345 : Nat) : Int)))) ?_
          intro a395 hF396; clear hF394
          refine any_pure (i := 9) (v := (.pointer (some ⟨xg128, 0, none⟩))) hF396 (by decide +kernel) (by decide +kernel) rfl rfl rfl rfl (fun _ _ _ _ h => h) rfl (fun W => (rn_field Try.underlying25 rfl (by kernel_rfl) (hF396.get rfl) rfl)) ?_
          intro a397 hF398; clear hF396
          refine any_val (i := 10) (v := (.slice (some ⟨xg114, 0, none⟩) d.sectors.length xc115)) hF398 (by decide +kernel) (by decide +kernel) rfl rfl rfl rfl (fun _ _ _ _ h => h) rfl hS381 (fun W hW => (rn_load (isAgg_no Try.underlying22 rfl) (hF398.get rfl) (hW.2.1.rule.1 0))) ?_
          intro a399 hF400; clear hF398
          refine any_pure (i := 11) (v := (.pointer (some ⟨g361, 0, none⟩))) hF400 (by decide +kernel) (by decide +kernel) rfl rfl rfl rfl (fun _ _ _ _ h => h) rfl (fun W => (rn_field Try.underlying54 rfl (by kernel_rfl) (hF400.get rfl) rfl)) ?_
          intro a401 hF402; clear hF400
          refine any_val (i := 12) (v := (.int .i64 x340.1)) hF402 (by decide +kernel) (by decide +kernel) rfl rfl rfl rfl (fun _ _ _ _ h => h) rfl hS381 (fun W hW => (rn_load (isAgg_no Try.underlying3 rfl) (hF402.get rfl) (hW.2.2.1.rule.1 0))) ?_
          intro a403 hF404; clear hF402
          refine any_pure (i := 13) (v := (.pointer (some ⟨xg114, 0 + (x340.1 : Int).toNat, none⟩))) hF404 (by decide +kernel) (by decide +kernel) rfl rfl rfl rfl (fun _ _ _ _ h => h) rfl (fun W => (rn_index1 Try.underlying22 (by kernel_rfl : (Try.prog.info? 35).map (·.size) = some 1) (hF404.get rfl) (hF404.get rfl) (by omega : (0 : Int) ≤ x340.1) (by omega : (x340.1 : Int) < ((d.sectors.length : Nat) : Int)))) ?_
          intro a405 hF406; clear hF404
          refine any_val (i := 14) (v := (.slice Ao old.length co)) hF406 (by decide +kernel) (by decide +kernel) rfl rfl rfl rfl (fun _ _ _ _ h => h) rfl hS381 (fun W hW => (rn_load (isAgg_no Try.underlying35 rfl) (hF406.get rfl) hW.2.2.2)) ?_
          intro a407 hF408; clear hF406
          obtain ⟨b409, o410, hA411⟩ := RBs.addr hro (by omega)
          refine any_pure (i := 15) (v := (.slice (some ⟨b409, o410 + 64 * 1, none⟩) (old.length - 64) (co - 64))) hF408 (by decide +kernel) (by decide +kernel) rfl rfl rfl rfl (fun _ _ _ _ h => h) rfl (fun W => (rn_sliceLo (l := 64) Try.underlying35 (by kernel_rfl : (Try.prog.info? 5).map (·.size) = some 1) ((hF408.get rfl).trans (by rw [hA411])) rfl (by omega : 64 ≤ old.length) (by omega : 64 < co))) ?_
          intro a412 hF413; clear hF408
          refine any_one (i := 4) (by decide +kernel) rfl ?_
          refine o_new (fun g => (.slice (some ⟨g, 0, none⟩) 0 0)) [] 5 hF413 rfl rfl rfl rfl (rn_buildSlice (parts0 ) (by kernel_rfl)) ?_
          intro g414 w415 a420 hF421 z418 z419 b416 hx417; clear hF413
          have b422 : Blk w415 xg128 25 [(.slice (some ⟨xg114, 0, none⟩) d.sectors.length xc115), (.slice none 0 0), (.int .i64 d.left), (.bool false)] := (b382.ext hx417)
          have b423 : Blk w415 g361 54 [(.int .i64 x340.1), (.slice A344 x340.2.length c345)] := (b383.ext hx417)
          have r424 := (own_ext r384 hx417)
          refine ⟨fun _ _ => ⟨((Ext.refl w375).trans hx417), b422, b423, ((World.ownsRow.cellAt r424 (0 + (x340.1 : Int).toNat) (by omega)).trans hvj)⟩, ?_⟩
          refine any_one (i := 8) (by decide +kernel) rfl ?_
          refine o_appE (n := 0) (xs := []) (ys := (byteVals (x340.2.take 64))) (base := (w.heap.size + 2)) elBytes hF421 rfl rfl rfl rfl rfl (hF421.get rfl) (hF421.get rfl) (own_of_blk (n := 0) (cap := 0) (k := 1) (cur := []) b416 (Nat.le_refl _) (by omega) rfl (by omega : (w.heap.size + 2) ≤ g414)) (Cel.ext (RBs.takeCel hr349 (by omega)) ((((((Ext.refl w).trans hx236).trans hx364).grownN hg371 (by omega)).trans hx376).trans hx417)) (by omega) (by omega) (by omega) ?_
          intro v432 w425 a430 hF431 r426 hg427 ho437
          simp only [Nat.zero_add, List.nil_append] at r426
          obtain ⟨g428, c429, rfl, hz433, hz434, hz435, hz436⟩ := own_form r426 (by omega)
          clear hF421
          have ho437 : g428 = g414 ∨ g428 = w415.heap.size := ho437.imp (fun h => Option.some.inj h) (fun h => Option.some.inj h)
          have hg427 : World.grownBy w415 w425 (some g414) := hg427
          have z438 := hg427.size
          have b439 : Blk w425 xg128 25 [(.slice (some ⟨xg114, 0, none⟩) d.sectors.length xc115), (.slice none 0 0), (.int .i64 d.left), (.bool false)] := (b422.grownN hg427 (by omega))
          have b440 : Blk w425 g361 54 [(.int .i64 x340.1), (.slice A344 x340.2.length c345)] := (b423.grownN hg427 (by omega))
          have r441 := (own_grownE r424 hg427 (by omega))
          refine ⟨fun _ _ => ⟨(((Ext.refl w375).trans hx417).grownN hg427 (by omega)), b439, b440, ((World.ownsRow.cellAt r441 (0 + (x340.1 : Int).toNat) (by omega)).trans hvj)⟩, ?_⟩
          refine any_one (i := 16) (by decide +kernel) rfl ?_
          refine o_appE (n := 64) (xs := (byteVals (x340.2.take 64))) (ys := (byteVals (old.drop 64))) (base := (w.heap.size + 2)) elBytes hF431 rfl rfl rfl rfl rfl (hF431.get rfl) (hF431.get rfl) r426 (Cel.ext (RBs.dropCel (b := b409) (off := o410) (n := old.length) (hA411 ▸ hro) (by omega)) (((((((Ext.refl w).trans hx236).trans hx364).grownN hg371 (by omega)).trans hx376).trans hx417).grownN hg427 (by omega))) (by omega) (by omega) (by omega) ?_
          intro v449 w442 a447 hF448 r443 hg444 ho454
          obtain ⟨g445, c446, rfl, hz450, hz451, hz452, hz453⟩ := own_form r443 (by omega)
          clear hF431
          have ho454 : g445 = g428 ∨ g445 = w425.heap.size := ho454.imp (fun h => Option.some.inj h) (fun h => Option.some.inj h)
          have hg444 : World.grownBy w425 w442 (some g428) := hg444
          have z455 := hg444.size
          have b456 : Blk w442 xg128 25 [(.slice (some ⟨xg114, 0, none⟩) d.sectors.length xc115), (.slice none 0 0), (.int .i64 d.left), (.bool false)] := (b439.grownN hg444 (by omega))
          have b457 : Blk w442 g361 54 [(.int .i64 x340.1), (.slice A344 x340.2.length c345)] := (b440.grownN hg444 (by omega))
          have r458 := (own_grownE r441 hg444 (by omega))
          refine ⟨fun _ _ => ⟨((((Ext.refl w375).trans hx417).grownN hg427 (by omega)).grownN hg444 (by omega)), b456, b457, ((World.ownsRow.cellAt r458 (0 + (x340.1 : Int).toNat) (by omega)).trans hvj)⟩, ?_⟩
          refine any_pure (i := 17) (v := (.pointer (some ⟨xg114, 0 + (x340.1 : Int).toNat, none⟩))) hF448 (by decide +kernel) (by decide +kernel) rfl rfl rfl rfl (fun _ _ _ _ h => h) rfl (fun W => (rn_index1 Try.underlying22 (by kernel_rfl : (Try.prog.info? 35).map (·.size) = some 1) (hF448.get rfl) (hF448.get rfl) (by omega : (0 : Int) ≤ x340.1) (by omega : (x340.1 : Int) < ((d.sectors.length : Nat) : Int)))) ?_
          intro a459 hF460; clear hF448
          refine any_one (i := 18) (by decide +kernel) rfl ?_
          refine o_storeRow hF460 rfl rfl rfl rfl (hF460.get rfl) (hF460.get rfl) r458 (by kernel_rfl : (Try.prog.info? 35).map (·.size) = some 1) (by omega) rfl ?_
          intro w461 r462 hg463; have z464 := hg463.size
          refine ⟨fun h => absurd h (by decide), ?_⟩
          refine any_nil (by decide +kernel) ?_
          refine hK374 _ _ ?_
          clear hK374
          have hF465 := (((((((((((((hF460.nil.cons (hF460.get (t := 8) (v := (.pointer (some ⟨g361, 0, none⟩))) rfl)).cons (hF460.get (t := 59) (v := (.bool (decide ((d.left : Int) < ((d.pending.length : Nat) : Int))))) rfl)).cons (hF460.get (t := 41) (v := (.bool (decide (((k : Nat) : Int) < (d.left : Int))))) rfl)).cons (hF460.get (t := 7) (v := (.int .i64 (k : Nat))) rfl)).cons (hF460.get (t := 6) (v := (.pointer (some ⟨xg128, 0, none⟩))) rfl)).cons (hF460.get (t := 29) (v := (.bool (decide ((d.left : Int) < ((d.pending.length : Nat) : Int))))) rfl)).cons (hF460.get (t := 5) (v := (.bool (decide ((d.left : Int) < ((d.pending.length : Nat) : Int))))) rfl)).cons (hF460.get (t := 4) (v := (.int .i64 d.left)) rfl)).cons (hF460.get (t := 15) (v := (.bool d.stopped)) rfl)).cons (hF460.get (t := 3) (v := (.int .i64 0)) rfl)).cons (hF460.get (t := 2) (v := (.pointer (some ⟨g10, 0, none⟩))) rfl)).cons (hF460.get (t := 1) (v := (.pointer (some ⟨g2, 0, none⟩))) rfl)).cons (hF460.get (t := 0) (v := (.agg #[(.slice A d.sectors.length c), (.slice B d.pending.length e), (.int .i64 d.left), (.bool d.stopped)])) rfl))
          clear hF460
          refine wp_seq_k (fun K466 hK466 => ?_)
          refine wp_region_lit ?_
          refine wpl_op (i := 0) rfl (o_val (v := (.pointer (some ⟨xg128, 2, none⟩))) hF465 rfl rfl rfl rfl (rn_field Try.underlying25 rfl (by kernel_rfl) (hF465.get rfl) rfl) ?_)
          intro a467 hF468; clear hF465
          have b472 : Blk w461 xg128 25 [(.slice (some ⟨xg114, 0, none⟩) d.sectors.length xc115), (.slice none 0 0), (.int .i64 d.left), (.bool false)] := (b456.grownN hg463 (by omega))
          refine wpl_op (i := 1) rfl (o_store1 (new := [(.slice (some ⟨xg114, 0, none⟩) d.sectors.length xc115), (.slice none 0 0), (.int .i64 0), (.bool false)]) hF468 rfl rfl rfl rfl (hF468.get rfl) rfl b472 (by kernel_rfl : (Try.prog.info? 3).map (·.size) = some 1) (by simp) rfl rfl ?_)
          intro w469 b470 hg471; have z473 := hg471.size
          refine wpList_nil ?_
          refine hK466 _ _ ?_
          clear hK466
          refine wp_seq_k (fun K474 hK474 => ?_)
          refine wp_region_lit ?_
          refine wpl_op (i := 0) rfl (o_val (v := (.pointer (some ⟨xg128, 3, none⟩))) hF468 rfl rfl rfl rfl (rn_field Try.underlying25 rfl (by kernel_rfl) (hF468.get rfl) rfl) ?_)
          intro a475 hF476; clear hF468
          refine wpl_op (i := 1) rfl (o_store1 (new := [(.slice (some ⟨xg114, 0, none⟩) d.sectors.length xc115), (.slice none 0 0), (.int .i64 0), (.bool true)]) hF476 rfl rfl rfl rfl (hF476.get rfl) rfl b470 (by kernel_rfl : (Try.prog.info? 4).map (·.size) = some 1) (by simp) rfl rfl ?_)
          intro w477 b478 hg479; have z480 := hg479.size
          refine wpList_nil ?_
          refine hK474 _ _ ?_
          clear hK474
          refine wp_seq_k (fun K481 hK481 => ?_)
          refine wp_region_lit ?_
          refine wpl_op (i := 0) rfl (o_val (v := (.agg #[(.slice (some ⟨xg114, 0, none⟩) d.sectors.length xc115), (.slice none 0 0), (.int .i64 0), (.bool true)])) hF476 rfl rfl rfl rfl (rn_loadBlk (hF476.get rfl) b478 Try.underlying25 rfl (by kernel_rfl : (Try.prog.info? 25).map (·.size) = some 4)) ?_)
          intro a482 hF483; clear hF476
          have b487 : Blk w477 g10 25 [(.slice none 0 0), (.slice none 0 0), (.int .i64 0), (.bool false)] := (((((((((b240.ext hx364).grownN hg371 (by omega)).ext hx376).ext hx417).grownN hg427 (by omega)).grownN hg444 (by omega)).grownN hg463 (by omega)).grownN hg471 (by omega)).grownN hg479 (by omega))
          refine wpl_op (i := 1) rfl (o_store (cells := [(.slice (some ⟨xg114, 0, none⟩) d.sectors.length xc115), (.slice none 0 0), (.int .i64 0), (.bool true)]) hF483 rfl rfl rfl rfl (hF483.get rfl) (hF483.get rfl) b487 (by kernel_rfl : (Try.prog.info? 25).map (·.size) = some 4) rfl (by simp [Value.oneCell']) ?_)
          intro w484 b485 hg486; have z488 := hg486.size
          refine wpl_op (i := 2) rfl (o_val (v := (.int .i64 380)) hF483 rfl rfl rfl rfl (rn_assign rfl) ?_)
          intro a489 hF490; clear hF483
          refine wpList_nil ?_
          refine hK481 _ _ ?_
          clear hK481
          refine wp_ret ?_
          refine retC1 hF490 rfl rfl rfl b485 Try.underlying25 rfl (by kernel_rfl : (Try.prog.info? 25).map (·.size) = some 4) ?_
          have r491 := (own_grownE (own_grownE (own_grownE r462 hg471 (by omega)) hg479 (by omega)) hg486 (by omega))
          have hkk : d.left.toNat = k := by omega
          have hgd : d.pending.getD d.left.toNat (0, []) = x340 := by rw [List.getD_eq_getElem?_getD, hi341]; rfl
          have hold0 := hold
          rw [Nat.zero_add] at hold0
          have r492 := (own_grownE (own_grownE (own_grownE (own_grownE r443 hg463 (by omega)) hg471 (by omega)) hg479 (by omega)) hg486 (by omega))
          exact rsync_fin (l := 0) (s := true) (n := 380) ((((((((((((Ext.refl w).trans hx236).trans hx364).grownN hg371 (by omega)).trans hx376).trans hx417).grownN hg427 (by omega)).grownN hg444 (by omega)).grownN hg463 (by omega)).grownN hg471 (by omega)).grownN hg479 (by omega)).grownN hg486 (by omega)) r491 (by omega) (rsync_torn ((((((((((((Ext.refl w).trans hx236).trans hx364).grownN hg371 (by omega)).trans hx376).trans hx417).grownN hg427 (by omega)).grownN hg444 (by omega)).grownN hg463 (by omega)).grownN hg471 (by omega)).grownN hg479 (by omega)).grownN hg486 (by omega)) hf243 r492 (by omega)) (by rw [List.length_set, performL_length]) (by unfold Dk.sync Dk.syncStop; rw [if_neg (by rw [h1]; simp), if_pos (by omega), hgd, hkk, List.getD_eq_getElem?_getD, hold0, Option.getD_some, Nat.zero_add])
    · skip
      refine wp_cond_false (c_false hF80 rfl (decide_eq_false hc81)) ?_
      refine wp_skip ?_
      refine hK77 _ _ ?_
      clear hK77
      refine wp_meet (fun a' W => ∃ (xg533 : Nat) (xg519 : Nat) (xc520 : Nat), Sl 95 [(0, (.agg #[(.slice A d.sectors.length c), (.slice B d.pending.length e), (.int .i64 d.left), (.bool d.stopped)])), (1, (.pointer (some ⟨g2, 0, none⟩))), (2, (.pointer (some ⟨g10, 0, none⟩))), (3, (.int .i64 0)), (15, (.bool d.stopped)), (4, (.int .i64 (d.pending.length : Nat))), (5, (.bool (decide ((d.left : Int) < ((d.pending.length : Nat) : Int))))), (29, (.bool (decide ((d.left : Int) < ((d.pending.length : Nat) : Int))))), (6, (.pointer (some ⟨xg533, 0, none⟩)))] a' ∧ Ext w26 W ∧ Blk W xg533 25 [(.slice (some ⟨xg519, 0, none⟩) d.sectors.length xc520), (.slice none 0 0), (.int .i64 d.left), (.bool false)] ∧ w26.heap.size ≤ xg533 ∧ W.ownsRow (w.heap.size + 2) 35 1 (.slice (some ⟨xg519, 0, none⟩) d.sectors.length xc520) d.sectors.length xs ∧ (w.heap.size + 2) ≤ xg519 ∧ xg519 ≠ g2 ∧ xg519 ≠ g10 ∧ xg519 ≠ xg533) ?_ ?_
      · skip
        have hx494 : ∃ W, w26.drew = W ∧ Ext w26 W := ⟨_, rfl, (Ext.refl _).drew⟩
        obtain ⟨w493, e495, hx494⟩ := hx494
        have z496 := hx494.size
        refine any_start (fun W => Ext w493 W ∧ Blk W g2 25 [(.slice A d.sectors.length c), (.slice B d.pending.length e), (.int .i64 d.left), (.bool d.stopped)]) (fun i => i == 8) 9 #[false, false, false, false, false, false, false, false, false] rfl rfl rfl ?_
        rw [e495]; clear e495
        refine any_pure (i := 1) (v := (.pointer (some ⟨g2, 0, none⟩))) hF80 (by decide +kernel) (by decide +kernel) rfl rfl rfl rfl (fun _ _ _ _ h => h) rfl (fun W => (rn_field Try.underlying25 rfl (by kernel_rfl) (hF80.get rfl) rfl)) ?_
        intro a497 hF498; clear hF80
        have b500 : Blk w493 g2 25 [(.slice A d.sectors.length c), (.slice B d.pending.length e), (.int .i64 d.left), (.bool d.stopped)] := (b38.ext hx494)
        have hS499 : Ext w493 w493 ∧ Blk w493 g2 25 [(.slice A d.sectors.length c), (.slice B d.pending.length e), (.int .i64 d.left), (.bool d.stopped)] := ⟨(Ext.refl w493), b500⟩
        refine any_val (i := 2) (v := (.slice A d.sectors.length c)) hF498 (by decide +kernel) (by decide +kernel) rfl rfl rfl rfl (fun _ _ _ _ h => h) rfl hS499 (fun W hW => (rn_load (isAgg_no Try.underlying22 rfl) (hF498.get rfl) (hW.2.rule.1 0))) ?_
        intro a501 hF502; clear hF498
        refine any_pure (i := 4) (v := (.pointer (some ⟨g2, 2, none⟩))) hF502 (by decide +kernel) (by decide +kernel) rfl rfl rfl rfl (fun _ _ _ _ h => h) rfl (fun W => (rn_field Try.underlying25 rfl (by kernel_rfl) (hF502.get rfl) rfl)) ?_
        intro a503 hF504; clear hF502
        refine any_val (i := 5) (v := (.int .i64 d.left)) hF504 (by decide +kernel) (by decide +kernel) rfl rfl rfl rfl (fun _ _ _ _ h => h) rfl hS499 (fun W hW => (rn_load (isAgg_no Try.underlying3 rfl) (hF504.get rfl) (hW.2.rule.1 2))) ?_
        intro a505 hF506; clear hF504
        refine any_two (i := 0) (k := 7) (by decide +kernel) rfl rfl ?_ ?_
        · skip
          refine o_new (fun g => (.slice (some ⟨g, 0, none⟩) 0 0)) [] 35 hF506 rfl rfl rfl rfl (rn_buildSlice (parts0 ) (by kernel_rfl)) ?_
          intro g507 w508 a513 hF514 z511 z512 b509 hx510; clear hF506
          have b515 : Blk w508 g2 25 [(.slice A d.sectors.length c), (.slice B d.pending.length e), (.int .i64 d.left), (.bool d.stopped)] := (b500.ext hx510)
          refine ⟨fun _ _ => ⟨((Ext.refl w493).trans hx510), b515⟩, ?_⟩
          refine any_two (i := 3) (k := 7) (by decide +kernel) rfl rfl ?_ ?_
          · skip
            refine o_appE (n := 0) (xs := []) (ys := xs) (base := (w.heap.size + 2)) elBss hF514 rfl rfl rfl rfl rfl (hF514.get rfl) (hF514.get rfl) (own_of_blk (n := 0) (cap := 0) (k := 1) (cur := []) b509 (Nat.le_refl _) (by omega) rfl (by omega : (w.heap.size + 2) ≤ g507)) (Cel.ext hcel ((((((Ext.refl w).trans hx5).trans hx13).trans hx27).trans hx494).trans hx510)) (by omega) (by omega) (by omega) ?_
            intro v523 w516 a521 hF522 r517 hg518 ho528
            simp only [Nat.zero_add, List.nil_append] at r517
            obtain ⟨g519, c520, rfl, hz524, hz525, hz526, hz527⟩ := own_form r517 (by omega)
            clear hF514
            have ho528 : g519 = g507 ∨ g519 = w508.heap.size := ho528.imp (fun h => Option.some.inj h) (fun h => Option.some.inj h)
            have hg518 : World.grownBy w508 w516 (some g507) := hg518
            have z529 := hg518.size
            have b530 : Blk w516 g2 25 [(.slice A d.sectors.length c), (.slice B d.pending.length e), (.int .i64 d.left), (.bool d.stopped)] := (b515.grownN hg518 (by omega))
            refine ⟨fun _ _ => ⟨(((Ext.refl w493).trans hx510).grownN hg518 (by omega)), b530⟩, ?_⟩
            refine any_pure (i := 6) (v := (.agg #[(.slice (some ⟨g519, 0, none⟩) d.sectors.length c520), (.slice none 0 0), (.int .i64 d.left), (.bool false)])) hF522 (by decide +kernel) (by decide +kernel) rfl rfl rfl rfl (fun _ _ _ _ h => h) rfl (fun W => (rn_build (parts2 (hF522.get rfl) (hF522.get rfl)) (by kernel_rfl))) ?_
            intro a531 hF532; clear hF522
            refine any_one (i := 7) (by decide +kernel) rfl ?_
            refine o_new (fun g => (.pointer (some ⟨g, 0, none⟩))) [(.slice none 0 0), (.slice none 0 0), (.int .i64 0), (.bool false)] 25 hF532 rfl rfl rfl rfl (by kernel_rfl) ?_
            intro g533 w534 a539 hF540 z537 z538 b535 hx536; clear hF532
            have b541 : Blk w534 g2 25 [(.slice A d.sectors.length c), (.slice B d.pending.length e), (.int .i64 d.left), (.bool d.stopped)] := (b530.ext hx536)
            refine ⟨fun _ _ => ⟨((((Ext.refl w493).trans hx510).grownN hg518 (by omega)).trans hx536), b541⟩, ?_⟩
            refine any_one (i := 8) (by decide +kernel) rfl ?_
            refine o_store (cells := [(.slice (some ⟨g519, 0, none⟩) d.sectors.length c520), (.slice none 0 0), (.int .i64 d.left), (.bool false)]) hF540 rfl rfl rfl rfl (hF540.get rfl) (hF540.get rfl) b535 (by kernel_rfl : (Try.prog.info? 25).map (·.size) = some 4) rfl (by simp [Value.oneCell']) ?_
            intro w542 b543 hg544; have z545 := hg544.size
            refine ⟨fun h => absurd h (by decide), ?_⟩
            refine any_nil (by decide +kernel) ?_
            have r546 := (own_grownE (own_ext r517 hx536) hg544 (by omega))
            exact ⟨g533, g519, c520, (((((((((hF540.nil.cons (hF540.get (t := 6) (v := (.pointer (some ⟨g533, 0, none⟩))) rfl)).cons (hF540.get (t := 29) (v := (.bool (decide ((d.left : Int) < ((d.pending.length : Nat) : Int))))) rfl)).cons (hF540.get (t := 5) (v := (.bool (decide ((d.left : Int) < ((d.pending.length : Nat) : Int))))) rfl)).cons (hF540.get (t := 4) (v := (.int .i64 (d.pending.length : Nat))) rfl)).cons (hF540.get (t := 15) (v := (.bool d.stopped)) rfl)).cons (hF540.get (t := 3) (v := (.int .i64 0)) rfl)).cons (hF540.get (t := 2) (v := (.pointer (some ⟨g10, 0, none⟩))) rfl)).cons (hF540.get (t := 1) (v := (.pointer (some ⟨g2, 0, none⟩))) rfl)).cons (hF540.get (t := 0) (v := (.agg #[(.slice A d.sectors.length c), (.slice B d.pending.length e), (.int .i64 d.left), (.bool d.stopped)])) rfl)), ((((((Ext.refl w26).trans hx494).trans hx510).grownN hg518 (by omega)).trans hx536).grownN hg544 (by omega)), b543, (by omega), r546, (by omega), (by omega), (by omega), (by omega)⟩
          · skip
            refine o_new (fun g => (.pointer (some ⟨g, 0, none⟩))) [(.slice none 0 0), (.slice none 0 0), (.int .i64 0), (.bool false)] 25 hF514 rfl rfl rfl rfl (by kernel_rfl) ?_
            intro g546 w547 a552 hF553 z550 z551 b548 hx549; clear hF514
            have b554 : Blk w547 g2 25 [(.slice A d.sectors.length c), (.slice B d.pending.length e), (.int .i64 d.left), (.bool d.stopped)] := (b515.ext hx549)
            refine ⟨fun _ _ => ⟨(((Ext.refl w493).trans hx510).trans hx549), b554⟩, ?_⟩
            refine any_one (i := 3) (by decide +kernel) rfl ?_
            have b560 : Blk w547 g507 35 [] := (b509.ext hx549)
            refine o_appE (n := 0) (xs := []) (ys := xs) (base := (w.heap.size + 2)) elBss hF553 rfl rfl rfl rfl rfl (hF553.get rfl) (hF553.get rfl) (own_of_blk (n := 0) (cap := 0) (k := 1) (cur := []) b560 (Nat.le_refl _) (by omega) rfl (by omega : (w.heap.size + 2) ≤ g507)) (Cel.ext hcel (((((((Ext.refl w).trans hx5).trans hx13).trans hx27).trans hx494).trans hx510).trans hx549)) (by omega) (by omega) (by omega) ?_
            intro v563 w555 a561 hF562 r556 hg557 ho568
            simp only [Nat.zero_add, List.nil_append] at r556
            obtain ⟨g558, c559, rfl, hz564, hz565, hz566, hz567⟩ := own_form r556 (by omega)
            clear hF553
            have ho568 : g558 = g507 ∨ g558 = w547.heap.size := ho568.imp (fun h => Option.some.inj h) (fun h => Option.some.inj h)
            have hg557 : World.grownBy w547 w555 (some g507) := hg557
            have z569 := hg557.size
            have b570 : Blk w555 g2 25 [(.slice A d.sectors.length c), (.slice B d.pending.length e), (.int .i64 d.left), (.bool d.stopped)] := (b554.grownN hg557 (by omega))
            refine ⟨fun _ _ => ⟨((((Ext.refl w493).trans hx510).trans hx549).grownN hg557 (by omega)), b570⟩, ?_⟩
            refine any_pure (i := 6) (v := (.agg #[(.slice (some ⟨g558, 0, none⟩) d.sectors.length c559), (.slice none 0 0), (.int .i64 d.left), (.bool false)])) hF562 (by decide +kernel) (by decide +kernel) rfl rfl rfl rfl (fun _ _ _ _ h => h) rfl (fun W => (rn_build (parts2 (hF562.get rfl) (hF562.get rfl)) (by kernel_rfl))) ?_
            intro a571 hF572; clear hF562
            refine any_one (i := 8) (by decide +kernel) rfl ?_
            have b576 : Blk w555 g546 25 [(.slice none 0 0), (.slice none 0 0), (.int .i64 0), (.bool false)] := (b548.grownN hg557 (by omega))
            refine o_store (cells := [(.slice (some ⟨g558, 0, none⟩) d.sectors.length c559), (.slice none 0 0), (.int .i64 d.left), (.bool false)]) hF572 rfl rfl rfl rfl (hF572.get rfl) (hF572.get rfl) b576 (by kernel_rfl : (Try.prog.info? 25).map (·.size) = some 4) rfl (by simp [Value.oneCell']) ?_
            intro w573 b574 hg575; have z577 := hg575.size
            refine ⟨fun h => absurd h (by decide), ?_⟩
            refine any_nil (by decide +kernel) ?_
            have r578 := (own_grownE r556 hg575 (by omega))
            exact ⟨g546, g558, c559, (((((((((hF572.nil.cons (hF572.get (t := 6) (v := (.pointer (some ⟨g546, 0, none⟩))) rfl)).cons (hF572.get (t := 29) (v := (.bool (decide ((d.left : Int) < ((d.pending.length : Nat) : Int))))) rfl)).cons (hF572.get (t := 5) (v := (.bool (decide ((d.left : Int) < ((d.pending.length : Nat) : Int))))) rfl)).cons (hF572.get (t := 4) (v := (.int .i64 (d.pending.length : Nat))) rfl)).cons (hF572.get (t := 15) (v := (.bool d.stopped)) rfl)).cons (hF572.get (t := 3) (v := (.int .i64 0)) rfl)).cons (hF572.get (t := 2) (v := (.pointer (some ⟨g10, 0, none⟩))) rfl)).cons (hF572.get (t := 1) (v := (.pointer (some ⟨g2, 0, none⟩))) rfl)).cons (hF572.get (t := 0) (v := (.agg #[(.slice A d.sectors.length c), (.slice B d.pending.length e), (.int .i64 d.left), (.bool d.stopped)])) rfl)), ((((((Ext.refl w26).trans hx494).trans hx510).trans hx549).grownN hg557 (by omega)).grownN hg575 (by omega)), b574, (by omega), r578, (by omega), (by omega), (by omega), (by omega)⟩
        · skip
          refine o_new (fun g => (.pointer (some ⟨g, 0, none⟩))) [(.slice none 0 0), (.slice none 0 0), (.int .i64 0), (.bool false)] 25 hF506 rfl rfl rfl rfl (by kernel_rfl) ?_
          intro g578 w579 a584 hF585 z582 z583 b580 hx581; clear hF506
          have b586 : Blk w579 g2 25 [(.slice A d.sectors.length c), (.slice B d.pending.length e), (.int .i64 d.left), (.bool d.stopped)] := (b500.ext hx581)
          refine ⟨fun _ _ => ⟨((Ext.refl w493).trans hx581), b586⟩, ?_⟩
          refine any_one (i := 0) (by decide +kernel) rfl ?_
          refine o_new (fun g => (.slice (some ⟨g, 0, none⟩) 0 0)) [] 35 hF585 rfl rfl rfl rfl (rn_buildSlice (parts0 ) (by kernel_rfl)) ?_
          intro g587 w588 a593 hF594 z591 z592 b589 hx590; clear hF585
          have b595 : Blk w588 g2 25 [(.slice A d.sectors.length c), (.slice B d.pending.length e), (.int .i64 d.left), (.bool d.stopped)] := (b586.ext hx590)
          refine ⟨fun _ _ => ⟨(((Ext.refl w493).trans hx581).trans hx590), b595⟩, ?_⟩
          refine any_one (i := 3) (by decide +kernel) rfl ?_
          refine o_appE (n := 0) (xs := []) (ys := xs) (base := (w.heap.size + 2)) elBss hF594 rfl rfl rfl rfl rfl (hF594.get rfl) (hF594.get rfl) (own_of_blk (n := 0) (cap := 0) (k := 1) (cur := []) b589 (Nat.le_refl _) (by omega) rfl (by omega : (w.heap.size + 2) ≤ g587)) (Cel.ext hcel (((((((Ext.refl w).trans hx5).trans hx13).trans hx27).trans hx494).trans hx581).trans hx590)) (by omega) (by omega) (by omega) ?_
          intro v603 w596 a601 hF602 r597 hg598 ho608
          simp only [Nat.zero_add, List.nil_append] at r597
          obtain ⟨g599, c600, rfl, hz604, hz605, hz606, hz607⟩ := own_form r597 (by omega)
          clear hF594
          have ho608 : g599 = g587 ∨ g599 = w588.heap.size := ho608.imp (fun h => Option.some.inj h) (fun h => Option.some.inj h)
          have hg598 : World.grownBy w588 w596 (some g587) := hg598
          have z609 := hg598.size
          have b610 : Blk w596 g2 25 [(.slice A d.sectors.length c), (.slice B d.pending.length e), (.int .i64 d.left), (.bool d.stopped)] := (b595.grownN hg598 (by omega))
          refine ⟨fun _ _ => ⟨((((Ext.refl w493).trans hx581).trans hx590).grownN hg598 (by omega)), b610⟩, ?_⟩
          refine any_pure (i := 6) (v := (.agg #[(.slice (some ⟨g599, 0, none⟩) d.sectors.length c600), (.slice none 0 0), (.int .i64 d.left), (.bool false)])) hF602 (by decide +kernel) (by decide +kernel) rfl rfl rfl rfl (fun _ _ _ _ h => h) rfl (fun W => (rn_build (parts2 (hF602.get rfl) (hF602.get rfl)) (by kernel_rfl))) ?_
          intro a611 hF612; clear hF602
          refine any_one (i := 8) (by decide +kernel) rfl ?_
          have b616 : Blk w596 g578 25 [(.slice none 0 0), (.slice none 0 0), (.int .i64 0), (.bool false)] := ((b580.ext hx590).grownN hg598 (by omega))
          refine o_store (cells := [(.slice (some ⟨g599, 0, none⟩) d.sectors.length c600), (.slice none 0 0), (.int .i64 d.left), (.bool false)]) hF612 rfl rfl rfl rfl (hF612.get rfl) (hF612.get rfl) b616 (by kernel_rfl : (Try.prog.info? 25).map (·.size) = some 4) rfl (by simp [Value.oneCell']) ?_
          intro w613 b614 hg615; have z617 := hg615.size
          refine ⟨fun h => absurd h (by decide), ?_⟩
          refine any_nil (by decide +kernel) ?_
          have r618 := (own_grownE r597 hg615 (by omega))
          exact ⟨g578, g599, c600, (((((((((hF612.nil.cons (hF612.get (t := 6) (v := (.pointer (some ⟨g578, 0, none⟩))) rfl)).cons (hF612.get (t := 29) (v := (.bool (decide ((d.left : Int) < ((d.pending.length : Nat) : Int))))) rfl)).cons (hF612.get (t := 5) (v := (.bool (decide ((d.left : Int) < ((d.pending.length : Nat) : Int))))) rfl)).cons (hF612.get (t := 4) (v := (.int .i64 (d.pending.length : Nat))) rfl)).cons (hF612.get (t := 15) (v := (.bool d.stopped)) rfl)).cons (hF612.get (t := 3) (v := (.int .i64 0)) rfl)).cons (hF612.get (t := 2) (v := (.pointer (some ⟨g10, 0, none⟩))) rfl)).cons (hF612.get (t := 1) (v := (.pointer (some ⟨g2, 0, none⟩))) rfl)).cons (hF612.get (t := 0) (v := (.agg #[(.slice A d.sectors.length c), (.slice B d.pending.length e), (.int .i64 d.left), (.bool d.stopped)])) rfl)), ((((((Ext.refl w26).trans hx494).trans hx581).trans hx590).grownN hg598 (by omega)).grownN hg615 (by omega)), b614, (by omega), r618, (by omega), (by omega), (by omega), (by omega)⟩
      · rintro a619 w620 ⟨xg533, xg519, xc520, hF621, hx622, b623, z629, f624, f625, f626, f627, f628⟩
        have z630 := hx622.size
        clear hF80
        have z631 := b623.lt
        refine wp_seq_k (fun K632 hK632 => ?_)
        refine wp_seq_k (fun K633 hK633 => ?_)
        refine wp_region_lit ?_
        refine wpl_op (i := 0) rfl (o_val (v := (.int .i64 0)) hF621 rfl rfl rfl rfl (rn_assign rfl) ?_)
        intro a634 hF635; clear hF621
        refine wpList_nil ?_
        refine hK633 _ _ ?_
        clear hK633
        refine wp_block ?_
        have b636 : Blk w620 g2 25 [(.slice A d.sectors.length c), (.slice B d.pending.length e), (.int .i64 d.left), (.bool d.stopped)] := (b38.ext hx622)
        have b637 : Blk w620 g10 25 [(.slice none 0 0), (.slice none 0 0), (.int .i64 0), (.bool false)] := ((b12.ext hx27).ext hx622)
        refine wp_loop (fun a' W => ∃ (k : Nat) (vs : List Value), Sl 95 [(0, (.agg #[(.slice A d.sectors.length c), (.slice B d.pending.length e), (.int .i64 d.left), (.bool d.stopped)])), (1, (.pointer (some ⟨g2, 0, none⟩))), (2, (.pointer (some ⟨g10, 0, none⟩))), (3, (.int .i64 0)), (15, (.bool d.stopped)), (4, (.int .i64 (d.pending.length : Nat))), (5, (.bool (decide ((d.left : Int) < ((d.pending.length : Nat) : Int))))), (29, (.bool (decide ((d.left : Int) < ((d.pending.length : Nat) : Int))))), (6, (.pointer (some ⟨xg533, 0, none⟩))), (7, (.int .i64 (k : Nat)))] a' ∧ (k : Int) ≤ (d.pending.length : Nat) ∧ k ≤ d.pending.length ∧ Ext w W ∧ Blk W g2 25 [(.slice A d.sectors.length c), (.slice B d.pending.length e), (.int .i64 d.left), (.bool d.stopped)] ∧ Blk W g10 25 [(.slice none 0 0), (.slice none 0 0), (.int .i64 0), (.bool false)] ∧ Blk W xg533 25 [(.slice (some ⟨xg519, 0, none⟩) d.sectors.length xc520), (.slice none 0 0), (.int .i64 d.left), (.bool false)] ∧ W.ownsRow (w.heap.size + 2) 35 1 (.slice (some ⟨xg519, 0, none⟩) d.sectors.length xc520) d.sectors.length vs ∧ ∀ i (h : i < (performL d.sectors (d.pending.take k)).length) (h' : i < vs.length), RBs S w vs[i] (performL d.sectors (d.pending.take k))[i]) (fun a' _ => ((d.pending.length : Nat) : Int).toNat - (intOf (a'.eval (.tmp 7))).toNat) ⟨0, xs, ((((((((((hF635.nil.cons (q_get hF635 (t := 7) rfl (by first | rfl | (congr 1; omega)))).cons (q_get hF635 (t := 6) rfl rfl)).cons (q_get hF635 (t := 29) rfl rfl)).cons (q_get hF635 (t := 5) rfl rfl)).cons (q_get hF635 (t := 4) rfl rfl)).cons (q_get hF635 (t := 15) rfl rfl)).cons (q_get hF635 (t := 3) rfl rfl)).cons (q_get hF635 (t := 2) rfl rfl)).cons (q_get hF635 (t := 1) rfl rfl)).cons (q_get hF635 (t := 0) rfl rfl)), (by omega), (by omega), (((((Ext.refl w).trans hx5).trans hx13).trans hx27).trans hx622), b636, b637, b623, f624, hrs⟩ ?_
        clear hF635
        rintro a638 w639 ⟨k, vs, hF640, hp642, hp643, hx641, b644, b645, b646, r647, hf648⟩
        have hL649 := hF640
        have z650 := hx641.size
        have z651 := b644.lt
        have z652 := b645.lt
        have z653 := b646.lt
        have z654 := own_lt r647
        refine wp_seq_k (fun K655 hK655 => ?_)
        refine wp_seq_k (fun K656 hK656 => ?_)
        refine wp_region_lit ?_
        refine wpl_op (i := 0) rfl (o_val (v := (.int .i64 (k : Nat))) hF640 rfl rfl rfl rfl (rn_move (hF640.get rfl)) ?_)
        intro a657 hF658; clear hF640
        refine wpl_op (i := 1) rfl (o_val (v := (.int .i64 (d.pending.length : Nat))) hF658 rfl rfl rfl rfl (rn_move (hF658.get rfl)) ?_)
        intro a659 hF660; clear hF658
        refine wpl_op (i := 2) rfl (o_val (v := (.bool (decide (((k : Nat) : Int) < ((d.pending.length : Nat) : Int))))) hF660 rfl rfl rfl rfl (rn_lss (hF660.get rfl) (hF660.get rfl)) ?_)
        intro a661 hF662; clear hF660
        refine wpList_nil ?_
        refine hK656 _ _ ?_
        clear hK656
        by_cases hc663 : ((k : Nat) : Int) < ((d.pending.length : Nat) : Int)
        · skip
          refine wp_cond_true (c_true hF662 rfl (decide_eq_true hc663)) ?_
          refine wp_skip ?_
          refine hK655 _ _ ?_
          clear hK655
          refine wp_seq_k (fun K664 hK664 => ?_)
          refine wp_block ?_
          have hx666 : ∃ W, w639.drew = W ∧ Ext w639 W := ⟨_, rfl, (Ext.refl _).drew⟩
          obtain ⟨w665, e667, hx666⟩ := hx666
          have z668 := hx666.size
          refine any_start (fun W => Ext w665 W ∧ Blk W xg533 25 [(.slice (some ⟨xg519, 0, none⟩) d.sectors.length xc520), (.slice none 0 0), (.int .i64 d.left), (.bool false)] ∧ Blk W g2 25 [(.slice A d.sectors.length c), (.slice B d.pending.length e), (.int .i64 d.left), (.bool d.stopped)]) (fun i => i == 15) 16 #[false, false, false, false, false, false, false, false, false, false, false, false, false, false, false, false] rfl rfl rfl ?_
          rw [e667]; clear e667
          refine any_pure (i := 0) (v := (.pointer (some ⟨xg533, 0, none⟩))) hF662 (by decide +kernel) (by decide +kernel) rfl rfl rfl rfl (fun _ _ _ _ h => h) rfl (fun W => (rn_field Try.underlying25 rfl (by kernel_rfl) (hF662.get rfl) rfl)) ?_
          intro a669 hF670; clear hF662
          have b672 : Blk w665 xg533 25 [(.slice (some ⟨xg519, 0, none⟩) d.sectors.length xc520), (.slice none 0 0), (.int .i64 d.left), (.bool false)] := (b646.ext hx666)
          have b673 : Blk w665 g2 25 [(.slice A d.sectors.length c), (.slice B d.pending.length e), (.int .i64 d.left), (.bool d.stopped)] := (b644.ext hx666)
          have hS671 : Ext w665 w665 ∧ Blk w665 xg533 25 [(.slice (some ⟨xg519, 0, none⟩) d.sectors.length xc520), (.slice none 0 0), (.int .i64 d.left), (.bool false)] ∧ Blk w665 g2 25 [(.slice A d.sectors.length c), (.slice B d.pending.length e), (.int .i64 d.left), (.bool d.stopped)] := ⟨(Ext.refl w665), b672, b673⟩
          refine any_val (i := 1) (v := (.slice (some ⟨xg519, 0, none⟩) d.sectors.length xc520)) hF670 (by decide +kernel) (by decide +kernel) rfl rfl rfl rfl (fun _ _ _ _ h => h) rfl hS671 (fun W hW => (rn_load (isAgg_no Try.underlying22 rfl) (hF670.get rfl) (hW.2.1.rule.1 0))) ?_
          intro a674 hF675; clear hF670
          refine any_pure (i := 2) (v := (.pointer (some ⟨g2, 1, none⟩))) hF675 (by decide +kernel) (by decide +kernel) rfl rfl rfl rfl (fun _ _ _ _ h => h) rfl (fun W => (rn_field Try.underlying25 rfl (by kernel_rfl) (hF675.get rfl) rfl)) ?_
          intro a676 hF677; clear hF675
          refine any_val (i := 3) (v := (.slice B d.pending.length e)) hF677 (by decide +kernel) (by decide +kernel) rfl rfl rfl rfl (fun _ _ _ _ h => h) rfl hS671 (fun W hW => (rn_load (isAgg_no Try.underlying23 rfl) (hF677.get rfl) (hW.2.2.rule.1 1))) ?_
          intro a678 hF679; clear hF677
          refine any_pure (i := 4) (v := (.int .i64 (k : Nat))) hF679 (by decide +kernel) (by decide +kernel) rfl rfl rfl rfl (fun _ _ _ _ h => h) rfl (fun W => (rn_move (hF679.get rfl))) ?_
          intro a680 hF681; clear hF679
          obtain ⟨x682, hi683, hm695⟩ := get_of_lt d.pending k (by omega)
          obtain ⟨hp696, hp697, hp698⟩ := f7 x682 hm695
          obtain ⟨b684, o685, A686, c687, hA688, hl689, hc692, hc690, hr691, le693, le694⟩ := RWs.get (RDk.len hd).2.1 hi683
          refine any_pure (i := 5) (v := (.pointer (some ⟨b684, o685 + k * 2, none⟩))) hF681 (by decide +kernel) (by decide +kernel) rfl rfl rfl rfl (fun _ _ _ _ h => h) rfl (fun W => (rn_index Try.underlying23 (by kernel_rfl : (Try.prog.info? 54).map (·.size) = some 2) ((hF681.get rfl).trans (by rw [hA688])) (hF681.get rfl) (by omega : (0 : Int) ≤ (k : Nat)) (by omega : ((k : Nat) : Int) < ((d.pending.length : Nat) : Int)))) ?_
          intro a699 hF700; clear hF681
          refine any_pure (i := 6) (v := (.pointer (some ⟨b684, o685 + k * 2, none⟩))) hF700 (by decide +kernel) (by decide +kernel) rfl rfl rfl rfl (fun _ _ _ _ h => h) rfl (fun W => (rn_field Try.underlying54 rfl (by kernel_rfl) (hF700.get rfl) rfl)) ?_
          intro a701 hF702; clear hF700
          refine any_val (i := 7) (v := (.int .i64 x682.1)) hF702 (by decide +kernel) (by decide +kernel) rfl rfl rfl rfl (fun _ _ _ _ h => h) rfl hS671 (fun W hW => (rn_load (isAgg_no Try.underlying3 rfl) (hF702.get rfl) (Ext.keep ((((Ext.refl w).trans hx641).trans hx666).trans hW.1) hc692))) ?_
          intro a703 hF704; clear hF702
          refine any_pure (i := 8) (v := (.pointer (some ⟨g2, 1, none⟩))) hF704 (by decide +kernel) (by decide +kernel) rfl rfl rfl rfl (fun _ _ _ _ h => h) rfl (fun W => (rn_field Try.underlying25 rfl (by kernel_rfl) (hF704.get rfl) rfl)) ?_
          intro a705 hF706; clear hF704
          refine any_val (i := 9) (v := (.slice B d.pending.length e)) hF706 (by decide +kernel) (by decide +kernel) rfl rfl rfl rfl (fun _ _ _ _ h => h) rfl hS671 (fun W hW => (rn_load (isAgg_no Try.underlying23 rfl) (hF706.get rfl) (hW.2.2.rule.1 1))) ?_
          intro a707 hF708; clear hF706
          refine any_pure (i := 10) (v := (.int .i64 (k : Nat))) hF708 (by decide +kernel) (by decide +kernel) rfl rfl rfl rfl (fun _ _ _ _ h => h) rfl (fun W => (rn_move (hF708.get rfl))) ?_
          intro a709 hF710; clear hF708
          refine any_pure (i := 11) (v := (.pointer (some ⟨b684, o685 + k * 2, none⟩))) hF710 (by decide +kernel) (by decide +kernel) rfl rfl rfl rfl (fun _ _ _ _ h => h) rfl (fun W => (rn_index Try.underlying23 (by kernel_rfl : (Try.prog.info? 54).map (·.size) = some 2) ((hF710.get rfl).trans (by rw [hA688])) (hF710.get rfl) (by omega : (0 : Int) ≤ (k : Nat)) (by omega : ((k : Nat) : Int) < ((d.pending.length : Nat) : Int)))) ?_
          intro a711 hF712; clear hF710
          refine any_pure (i := 12) (v := (.pointer (some ⟨b684, o685 + k * 2 + 1, none⟩))) hF712 (by decide +kernel) (by decide +kernel) rfl rfl rfl rfl (fun _ _ _ _ h => h) rfl (fun W => (rn_field Try.underlying54 rfl (by kernel_rfl) (hF712.get rfl) rfl)) ?_
          intro a713 hF714; clear hF712
          refine any_val (i := 13) (v := (.slice A686 x682.2.length c687)) hF714 (by decide +kernel) (by decide +kernel) rfl rfl rfl rfl (fun _ _ _ _ h => h) rfl hS671 (fun W hW => (rn_load (isAgg_no Try.underlying35 rfl) (hF714.get rfl) (Ext.keep ((((Ext.refl w).trans hx641).trans hx666).trans hW.1) hc690))) ?_
          intro a715 hF716; clear hF714
          refine any_pure (i := 14) (v := (.pointer (some ⟨xg519, 0 + (x682.1 : Int).toNat, none⟩))) hF716 (by decide +kernel) (by decide +kernel) rfl rfl rfl rfl (fun _ _ _ _ h => h) rfl (fun W => (rn_index1 Try.underlying22 (by kernel_rfl : (Try.prog.info? 35).map (·.size) = some 1) (hF716.get rfl) (hF716.get rfl) (by omega : (0 : Int) ≤ x682.1) (by omega : (x682.1 : Int) < ((d.sectors.length : Nat) : Int)))) ?_
          intro a717 hF718; clear hF716
          refine any_one (i := 15) (by decide +kernel) rfl ?_
          have r719 := (own_ext r647 hx666)
          refine o_storeRow hF718 rfl rfl rfl rfl (hF718.get rfl) (hF718.get rfl) r719 (by kernel_rfl : (Try.prog.info? 35).map (·.size) = some 1) (by omega) rfl ?_
          intro w720 r721 hg722; have z723 := hg722.size
          refine ⟨fun h => absurd h (by decide), ?_⟩
          refine any_nil (by decide +kernel) ?_
          refine hK664 _ _ ?_
          clear hK664
          have hF724 := (((((((((((hF718.nil.cons (hF718.get (t := 41) (v := (.bool (decide (((k : Nat) : Int) < ((d.pending.length : Nat) : Int))))) rfl)).cons (hF718.get (t := 7) (v := (.int .i64 (k : Nat))) rfl)).cons (hF718.get (t := 6) (v := (.pointer (some ⟨xg533, 0, none⟩))) rfl)).cons (hF718.get (t := 29) (v := (.bool (decide ((d.left : Int) < ((d.pending.length : Nat) : Int))))) rfl)).cons (hF718.get (t := 5) (v := (.bool (decide ((d.left : Int) < ((d.pending.length : Nat) : Int))))) rfl)).cons (hF718.get (t := 4) (v := (.int .i64 (d.pending.length : Nat))) rfl)).cons (hF718.get (t := 15) (v := (.bool d.stopped)) rfl)).cons (hF718.get (t := 3) (v := (.int .i64 0)) rfl)).cons (hF718.get (t := 2) (v := (.pointer (some ⟨g10, 0, none⟩))) rfl)).cons (hF718.get (t := 1) (v := (.pointer (some ⟨g2, 0, none⟩))) rfl)).cons (hF718.get (t := 0) (v := (.agg #[(.slice A d.sectors.length c), (.slice B d.pending.length e), (.int .i64 d.left), (.bool d.stopped)])) rfl))
          clear hF718
          refine wp_region_lit ?_
          refine wpl_op (i := 0) rfl (o_val (v := (.int .i64 (k : Nat))) hF724 rfl rfl rfl rfl (rn_move (hF724.get rfl)) ?_)
          intro a725 hF726; clear hF724
          refine wpl_op (i := 1) rfl (o_val (v := (.int .i64 ((k : Nat) + 1))) hF726 rfl rfl rfl rfl (rn_add (hF726.get rfl) rfl (by omega) (by omega)) ?_)
          intro a727 hF728; clear hF726
          refine wpl_op (i := 2) rfl (o_val (v := (.int .i64 ((k : Nat) + 1))) hF728 rfl rfl rfl rfl (rn_assign (hF728.get rfl)) ?_)
          intro a729 hF730; clear hF728
          refine wpList_nil ?_
          have b731 : Blk w720 g2 25 [(.slice A d.sectors.length c), (.slice B d.pending.length e), (.int .i64 d.left), (.bool d.stopped)] := (b673.grownN hg722 (by omega))
          have b732 : Blk w720 g10 25 [(.slice none 0 0), (.slice none 0 0), (.int .i64 0), (.bool false)] := ((b645.ext hx666).grownN hg722 (by omega))
          have b733 : Blk w720 xg533 25 [(.slice (some ⟨xg519, 0, none⟩) d.sectors.length xc520), (.slice none 0 0), (.int .i64 d.left), (.bool false)] := (b672.grownN hg722 (by omega))
          refine ⟨⟨k + 1, (vs.set (0 + (x682.1 : Int).toNat) (.slice A686 x682.2.length c687)), ((((((((((hF730.nil.cons (q_get hF730 (t := 7) rfl (by first | rfl | (congr 1; omega)))).cons (q_get hF730 (t := 6) rfl rfl)).cons (q_get hF730 (t := 29) rfl rfl)).cons (q_get hF730 (t := 5) rfl rfl)).cons (q_get hF730 (t := 4) rfl rfl)).cons (q_get hF730 (t := 15) rfl rfl)).cons (q_get hF730 (t := 3) rfl rfl)).cons (q_get hF730 (t := 2) rfl rfl)).cons (q_get hF730 (t := 1) rfl rfl)).cons (q_get hF730 (t := 0) rfl rfl)), (by omega), (by omega), ((((Ext.refl w).trans hx641).trans hx666).grownN hg722 (by omega)), b731, b732, b733, r721, (perf_next hi683 hr691 rfl hf648)⟩, ?_⟩
          rw [hF730.get (t := 7) rfl, hL649.get (t := 7) rfl]; simp [intOf]; omega
        · skip
          refine wp_cond_false (c_false hF662 rfl (decide_eq_false hc663)) ?_
          refine wp_exit ?_
          refine exit_then ?_
          refine exit_then ?_
          refine exit_here ?_
          refine hK632 _ _ ?_
          clear hK632
          refine wp_seq_k (fun K734 hK734 => ?_)
          refine wp_seq_k (fun K735 hK735 => ?_)
          refine wp_region_lit ?_
          refine wpl_op (i := 0) rfl (o_val (v := (.bool (decide ((d.left : Int) < ((d.pending.length : Nat) : Int))))) hF662 rfl rfl rfl rfl (rn_move (hF662.get rfl)) ?_)
          intro a736 hF737; clear hF662
          refine wpList_nil ?_
          refine hK735 _ _ ?_
          clear hK735
          refine wp_cond_false (c_false hF737 rfl (decide_eq_false hc81)) ?_
          refine wp_skip ?_
          refine hK734 _ _ ?_
          clear hK734
          refine wp_seq_k (fun K738 hK738 => ?_)
          refine wp_seq_k (fun K739 hK739 => ?_)
          refine wp_region_lit ?_
          refine wpl_op (i := 0) rfl (o_val (v := (.pointer (some ⟨xg533, 2, none⟩))) hF737 rfl rfl rfl rfl (rn_field Try.underlying25 rfl (by kernel_rfl) (hF737.get rfl) rfl) ?_)
          intro a740 hF741; clear hF737
          refine wpl_op (i := 1) rfl (o_val (v := (.int .i64 d.left)) hF741 rfl rfl rfl rfl (rn_load (isAgg_no Try.underlying3 rfl) (hF741.get rfl) (b646.rule.1 2)) ?_)
          intro a742 hF743; clear hF741
          refine wpl_op (i := 2) rfl (o_val (v := (.bool (decide ((0 : Int) ≤ (d.left : Int))))) hF743 rfl rfl rfl rfl (rn_geq (hF743.get rfl) rfl) ?_)
          intro a744 hF745; clear hF743
          refine wpList_nil ?_
          refine hK739 _ _ ?_
          clear hK739
          have hF746 := (((((((((((((hF745.nil.cons (hF745.get (t := 88) (v := (.bool (decide ((0 : Int) ≤ (d.left : Int))))) rfl)).cons (hF745.get (t := 59) (v := (.bool (decide ((d.left : Int) < ((d.pending.length : Nat) : Int))))) rfl)).cons (hF745.get (t := 41) (v := (.bool (decide (((k : Nat) : Int) < ((d.pending.length : Nat) : Int))))) rfl)).cons (hF745.get (t := 7) (v := (.int .i64 (k : Nat))) rfl)).cons (hF745.get (t := 6) (v := (.pointer (some ⟨xg533, 0, none⟩))) rfl)).cons (hF745.get (t := 29) (v := (.bool (decide ((d.left : Int) < ((d.pending.length : Nat) : Int))))) rfl)).cons (hF745.get (t := 5) (v := (.bool (decide ((d.left : Int) < ((d.pending.length : Nat) : Int))))) rfl)).cons (hF745.get (t := 4) (v := (.int .i64 (d.pending.length : Nat))) rfl)).cons (hF745.get (t := 15) (v := (.bool d.stopped)) rfl)).cons (hF745.get (t := 3) (v := (.int .i64 0)) rfl)).cons (hF745.get (t := 2) (v := (.pointer (some ⟨g10, 0, none⟩))) rfl)).cons (hF745.get (t := 1) (v := (.pointer (some ⟨g2, 0, none⟩))) rfl)).cons (hF745.get (t := 0) (v := (.agg #[(.slice A d.sectors.length c), (.slice B d.pending.length e), (.int .i64 d.left), (.bool d.stopped)])) rfl))
          clear hF745
          refine wp_cond_true (c_true hF746 rfl (decide_eq_true hc63)) ?_
          refine wp_region_lit ?_
          refine wpl_op (i := 0) rfl (o_val (v := (.pointer (some ⟨xg533, 2, none⟩))) hF746 rfl rfl rfl rfl (rn_field Try.underlying25 rfl (by kernel_rfl) (hF746.get rfl) rfl) ?_)
          intro a747 hF748; clear hF746
          refine wpl_op (i := 1) rfl (o_val (v := (.int .i64 d.left)) hF748 rfl rfl rfl rfl (rn_load (isAgg_no Try.underlying3 rfl) (hF748.get rfl) (b646.rule.1 2)) ?_)
          intro a749 hF750; clear hF748
          refine wpl_op (i := 2) rfl (o_val (v := (.int .i64 (d.pending.length : Nat))) hF750 rfl rfl rfl rfl (rn_move (hF750.get rfl)) ?_)
          intro a751 hF752; clear hF750
          refine wpl_op (i := 3) rfl (o_val (v := (.int .i64 (d.left - (d.pending.length : Nat)))) hF752 rfl rfl rfl rfl (rn_sub (hF752.get rfl) (hF752.get rfl) (by omega) (by omega)) ?_)
          intro a753 hF754; clear hF752
          refine wpl_op (i := 4) rfl (o_val (v := (.pointer (some ⟨xg533, 2, none⟩))) hF754 rfl rfl rfl rfl (rn_field Try.underlying25 rfl (by kernel_rfl) (hF754.get rfl) rfl) ?_)
          intro a755 hF756; clear hF754
          refine wpl_op (i := 5) rfl (o_store1 (new := [(.slice (some ⟨xg519, 0, none⟩) d.sectors.length xc520), (.slice none 0 0), (.int .i64 (d.left - (d.pending.length : Nat))), (.bool false)]) hF756 rfl rfl rfl rfl (hF756.get rfl) (hF756.get rfl) b646 (by kernel_rfl : (Try.prog.info? 3).map (·.size) = some 1) (by simp) rfl rfl ?_)
          intro w757 b758 hg759; have z760 := hg759.size
          refine wpList_nil ?_
          refine hK738 _ _ ?_
          clear hK738
          have hF761 := (((((((((((((hF756.nil.cons (hF756.get (t := 88) (v := (.bool (decide ((0 : Int) ≤ (d.left : Int))))) rfl)).cons (hF756.get (t := 59) (v := (.bool (decide ((d.left : Int) < ((d.pending.length : Nat) : Int))))) rfl)).cons (hF756.get (t := 41) (v := (.bool (decide (((k : Nat) : Int) < ((d.pending.length : Nat) : Int))))) rfl)).cons (hF756.get (t := 7) (v := (.int .i64 (k : Nat))) rfl)).cons (hF756.get (t := 6) (v := (.pointer (some ⟨xg533, 0, none⟩))) rfl)).cons (hF756.get (t := 29) (v := (.bool (decide ((d.left : Int) < ((d.pending.length : Nat) : Int))))) rfl)).cons (hF756.get (t := 5) (v := (.bool (decide ((d.left : Int) < ((d.pending.length : Nat) : Int))))) rfl)).cons (hF756.get (t := 4) (v := (.int .i64 (d.pending.length : Nat))) rfl)).cons (hF756.get (t := 15) (v := (.bool d.stopped)) rfl)).cons (hF756.get (t := 3) (v := (.int .i64 0)) rfl)).cons (hF756.get (t := 2) (v := (.pointer (some ⟨g10, 0, none⟩))) rfl)).cons (hF756.get (t := 1) (v := (.pointer (some ⟨g2, 0, none⟩))) rfl)).cons (hF756.get (t := 0) (v := (.agg #[(.slice A d.sectors.length c), (.slice B d.pending.length e), (.int .i64 d.left), (.bool d.stopped)])) rfl))
          clear hF756
          refine wp_seq_k (fun K762 hK762 => ?_)
          refine wp_region_lit ?_
          refine wpl_op (i := 0) rfl (o_val (v := (.agg #[(.slice (some ⟨xg519, 0, none⟩) d.sectors.length xc520), (.slice none 0 0), (.int .i64 (d.left - (d.pending.length : Nat))), (.bool false)])) hF761 rfl rfl rfl rfl (rn_loadBlk (hF761.get rfl) b758 Try.underlying25 rfl (by kernel_rfl : (Try.prog.info? 25).map (·.size) = some 4)) ?_)
          intro a763 hF764; clear hF761
          have b768 : Blk w757 g10 25 [(.slice none 0 0), (.slice none 0 0), (.int .i64 0), (.bool false)] := (b645.grownN hg759 (by omega))
          refine wpl_op (i := 1) rfl (o_store (cells := [(.slice (some ⟨xg519, 0, none⟩) d.sectors.length xc520), (.slice none 0 0), (.int .i64 (d.left - (d.pending.length : Nat))), (.bool false)]) hF764 rfl rfl rfl rfl (hF764.get rfl) (hF764.get rfl) b768 (by kernel_rfl : (Try.prog.info? 25).map (·.size) = some 4) rfl (by simp [Value.oneCell']) ?_)
          intro w765 b766 hg767; have z769 := hg767.size
          refine wpl_op (i := 2) rfl (o_val (v := (.int .i64 0)) hF764 rfl rfl rfl rfl (rn_assign rfl) ?_)
          intro a770 hF771; clear hF764
          refine wpList_nil ?_
          refine hK762 _ _ ?_
          clear hK762
          refine wp_ret ?_
          refine retC1 hF771 rfl rfl rfl b766 Try.underlying25 rfl (by kernel_rfl : (Try.prog.info? 25).map (·.size) = some 4) ?_
          have r772 := (own_grownE (own_grownE r647 hg759 (by omega)) hg767 (by omega))
          have hkk : k = d.pending.length := by omega
          have htk : d.pending.take k = d.pending := List.take_of_length_le (by omega)
          have hpf := hf648
          rw [htk] at hpf
          exact rsync_fin (l := (d.left - (d.pending.length : Nat))) (s := false) (n := 0) ((((Ext.refl w).trans hx641).grownN hg759 (by omega)).grownN hg767 (by omega)) r772 (by omega) (fun i h h' => ((hpf i h h').ext ((((Ext.refl w).trans hx641).grownN hg759 (by omega)).grownN hg767 (by omega))).up) (performL_length _ _) (by unfold Dk.sync Dk.syncOk; rw [if_neg (by rw [h1]; simp), if_neg (by omega)]; first | rw [if_pos (by omega)] | rw [if_neg (by omega)])
  · skip
    refine wpl_op (i := 4) rfl (o_skip hF62 rfl (unwanted_guard rfl rfl rfl hF62 rfl (decide_eq_false hc63) rfl) rfl rfl ?_)
    intro a773 hF774; clear hF62
    refine wpl_op (i := 5) rfl (o_skip hF774 rfl (unwanted_guard rfl rfl rfl hF774 rfl (decide_eq_false hc63) rfl) rfl rfl ?_)
    intro a775 hF776; clear hF774
    refine wpl_op (i := 6) rfl (o_skip hF776 rfl (unwanted_guard rfl rfl rfl hF776 rfl (decide_eq_false hc63) rfl) rfl rfl ?_)
    intro a777 hF778; clear hF776
    refine wpl_op (i := 7) rfl (o_skip hF778 rfl (unwanted_guard rfl rfl rfl hF778 rfl (decide_eq_false hc63) rfl) rfl rfl ?_)
    intro a779 hF780; clear hF778
    refine wpl_op (i := 8) rfl (o_val (v := (.bool false)) hF780 rfl rfl rfl rfl (rn_pickF (c_false hF780 rfl (decide_eq_false hc63)) rfl) ?_)
    intro a781 hF782; clear hF780
    refine wpl_op (i := 9) rfl (o_val (v := (.bool false)) hF782 rfl rfl rfl rfl (rn_assign (hF782.get rfl)) ?_)
    intro a783 hF784; clear hF782
    refine wpList_nil ?_
    refine hK54 _ _ ?_
    clear hK54
    have hF785 := (((((((hF784.nil.cons (hF784.get (t := 5) (v := (.bool false)) rfl)).cons (hF784.get (t := 4) (v := (.int .i64 (d.pending.length : Nat))) rfl)).cons (hF784.get (t := 15) (v := (.bool d.stopped)) rfl)).cons (hF784.get (t := 3) (v := (.int .i64 0)) rfl)).cons (hF784.get (t := 2) (v := (.pointer (some ⟨g10, 0, none⟩))) rfl)).cons (hF784.get (t := 1) (v := (.pointer (some ⟨g2, 0, none⟩))) rfl)).cons (hF784.get (t := 0) (v := (.agg #[(.slice A d.sectors.length c), (.slice B d.pending.length e), (.int .i64 d.left), (.bool d.stopped)])) rfl))
    clear hF784
    refine wp_seq_k (fun K786 hK786 => ?_)
    refine wp_seq_k (fun K787 hK787 => ?_)
    refine wp_region_lit ?_
    refine wpl_op (i := 0) rfl (o_val (v := (.bool false)) hF785 rfl rfl rfl rfl (rn_move (hF785.get rfl)) ?_)
    intro a788 hF789; clear hF785
    refine wpList_nil ?_
    refine hK787 _ _ ?_
    clear hK787
    refine wp_cond_false (c_false hF789 rfl rfl) ?_
    refine wp_skip ?_
    refine hK786 _ _ ?_
    clear hK786
    refine wp_meet (fun a' W => ∃ (xg830 : Nat) (xg816 : Nat) (xc817 : Nat), Sl 95 [(0, (.agg #[(.slice A d.sectors.length c), (.slice B d.pending.length e), (.int .i64 d.left), (.bool d.stopped)])), (1, (.pointer (some ⟨g2, 0, none⟩))), (2, (.pointer (some ⟨g10, 0, none⟩))), (3, (.int .i64 0)), (15, (.bool d.stopped)), (4, (.int .i64 (d.pending.length : Nat))), (5, (.bool false)), (29, (.bool false)), (6, (.pointer (some ⟨xg830, 0, none⟩)))] a' ∧ Ext w26 W ∧ Blk W xg830 25 [(.slice (some ⟨xg816, 0, none⟩) d.sectors.length xc817), (.slice none 0 0), (.int .i64 d.left), (.bool false)] ∧ w26.heap.size ≤ xg830 ∧ W.ownsRow (w.heap.size + 2) 35 1 (.slice (some ⟨xg816, 0, none⟩) d.sectors.length xc817) d.sectors.length xs ∧ (w.heap.size + 2) ≤ xg816 ∧ xg816 ≠ g2 ∧ xg816 ≠ g10 ∧ xg816 ≠ xg830) ?_ ?_
    · skip
      have hx791 : ∃ W, w26.drew = W ∧ Ext w26 W := ⟨_, rfl, (Ext.refl _).drew⟩
      obtain ⟨w790, e792, hx791⟩ := hx791
      have z793 := hx791.size
      refine any_start (fun W => Ext w790 W ∧ Blk W g2 25 [(.slice A d.sectors.length c), (.slice B d.pending.length e), (.int .i64 d.left), (.bool d.stopped)]) (fun i => i == 8) 9 #[false, false, false, false, false, false, false, false, false] rfl rfl rfl ?_
      rw [e792]; clear e792
      refine any_pure (i := 1) (v := (.pointer (some ⟨g2, 0, none⟩))) hF789 (by decide +kernel) (by decide +kernel) rfl rfl rfl rfl (fun _ _ _ _ h => h) rfl (fun W => (rn_field Try.underlying25 rfl (by kernel_rfl) (hF789.get rfl) rfl)) ?_
      intro a794 hF795; clear hF789
      have b797 : Blk w790 g2 25 [(.slice A d.sectors.length c), (.slice B d.pending.length e), (.int .i64 d.left), (.bool d.stopped)] := (b38.ext hx791)
      have hS796 : Ext w790 w790 ∧ Blk w790 g2 25 [(.slice A d.sectors.length c), (.slice B d.pending.length e), (.int .i64 d.left), (.bool d.stopped)] := ⟨(Ext.refl w790), b797⟩
      refine any_val (i := 2) (v := (.slice A d.sectors.length c)) hF795 (by decide +kernel) (by decide +kernel) rfl rfl rfl rfl (fun _ _ _ _ h => h) rfl hS796 (fun W hW => (rn_load (isAgg_no Try.underlying22 rfl) (hF795.get rfl) (hW.2.rule.1 0))) ?_
      intro a798 hF799; clear hF795
      refine any_pure (i := 4) (v := (.pointer (some ⟨g2, 2, none⟩))) hF799 (by decide +kernel) (by decide +kernel) rfl rfl rfl rfl (fun _ _ _ _ h => h) rfl (fun W => (rn_field Try.underlying25 rfl (by kernel_rfl) (hF799.get rfl) rfl)) ?_
      intro a800 hF801; clear hF799
      refine any_val (i := 5) (v := (.int .i64 d.left)) hF801 (by decide +kernel) (by decide +kernel) rfl rfl rfl rfl (fun _ _ _ _ h => h) rfl hS796 (fun W hW => (rn_load (isAgg_no Try.underlying3 rfl) (hF801.get rfl) (hW.2.rule.1 2))) ?_
      intro a802 hF803; clear hF801
      refine any_two (i := 0) (k := 7) (by decide +kernel) rfl rfl ?_ ?_
      · skip
        refine o_new (fun g => (.slice (some ⟨g, 0, none⟩) 0 0)) [] 35 hF803 rfl rfl rfl rfl (rn_buildSlice (parts0 ) (by kernel_rfl)) ?_
        intro g804 w805 a810 hF811 z808 z809 b806 hx807; clear hF803
        have b812 : Blk w805 g2 25 [(.slice A d.sectors.length c), (.slice B d.pending.length e), (.int .i64 d.left), (.bool d.stopped)] := (b797.ext hx807)
        refine ⟨fun _ _ => ⟨((Ext.refl w790).trans hx807), b812⟩, ?_⟩
        refine any_two (i := 3) (k := 7) (by decide +kernel) rfl rfl ?_ ?_
        · skip
          refine o_appE (n := 0) (xs := []) (ys := xs) (base := (w.heap.size + 2)) elBss hF811 rfl rfl rfl rfl rfl (hF811.get rfl) (hF811.get rfl) (own_of_blk (n := 0) (cap := 0) (k := 1) (cur := []) b806 (Nat.le_refl _) (by omega) rfl (by omega : (w.heap.size + 2) ≤ g804)) (Cel.ext hcel ((((((Ext.refl w).trans hx5).trans hx13).trans hx27).trans hx791).trans hx807)) (by omega) (by omega) (by omega) ?_
          intro v820 w813 a818 hF819 r814 hg815 ho825
          simp only [Nat.zero_add, List.nil_append] at r814
          obtain ⟨g816, c817, rfl, hz821, hz822, hz823, hz824⟩ := own_form r814 (by omega)
          clear hF811
          have ho825 : g816 = g804 ∨ g816 = w805.heap.size := ho825.imp (fun h => Option.some.inj h) (fun h => Option.some.inj h)
          have hg815 : World.grownBy w805 w813 (some g804) := hg815
          have z826 := hg815.size
          have b827 : Blk w813 g2 25 [(.slice A d.sectors.length c), (.slice B d.pending.length e), (.int .i64 d.left), (.bool d.stopped)] := (b812.grownN hg815 (by omega))
          refine ⟨fun _ _ => ⟨(((Ext.refl w790).trans hx807).grownN hg815 (by omega)), b827⟩, ?_⟩
          refine any_pure (i := 6) (v := (.agg #[(.slice (some ⟨g816, 0, none⟩) d.sectors.length c817), (.slice none 0 0), (.int .i64 d.left), (.bool false)])) hF819 (by decide +kernel) (by decide +kernel) rfl rfl rfl rfl (fun _ _ _ _ h => h) rfl (fun W => (rn_build (parts2 (hF819.get rfl) (hF819.get rfl)) (by kernel_rfl))) ?_
          intro a828 hF829; clear hF819
          refine any_one (i := 7) (by decide +kernel) rfl ?_
          refine o_new (fun g => (.pointer (some ⟨g, 0, none⟩))) [(.slice none 0 0), (.slice none 0 0), (.int .i64 0), (.bool false)] 25 hF829 rfl rfl rfl rfl (by kernel_rfl) ?_
          intro g830 w831 a836 hF837 z834 z835 b832 hx833; clear hF829
          have b838 : Blk w831 g2 25 [(.slice A d.sectors.length c), (.slice B d.pending.length e), (.int .i64 d.left), (.bool d.stopped)] := (b827.ext hx833)
          refine ⟨fun _ _ => ⟨((((Ext.refl w790).trans hx807).grownN hg815 (by omega)).trans hx833), b838⟩, ?_⟩
          refine any_one (i := 8) (by decide +kernel) rfl ?_
          refine o_store (cells := [(.slice (some ⟨g816, 0, none⟩) d.sectors.length c817), (.slice none 0 0), (.int .i64 d.left), (.bool false)]) hF837 rfl rfl rfl rfl (hF837.get rfl) (hF837.get rfl) b832 (by kernel_rfl : (Try.prog.info? 25).map (·.size) = some 4) rfl (by simp [Value.oneCell']) ?_
          intro w839 b840 hg841; have z842 := hg841.size
          refine ⟨fun h => absurd h (by decide), ?_⟩
          refine any_nil (by decide +kernel) ?_
          have r843 := (own_grownE (own_ext r814 hx833) hg841 (by omega))
          exact ⟨g830, g816, c817, (((((((((hF837.nil.cons (hF837.get (t := 6) (v := (.pointer (some ⟨g830, 0, none⟩))) rfl)).cons (hF837.get (t := 29) (v := (.bool false)) rfl)).cons (hF837.get (t := 5) (v := (.bool false)) rfl)).cons (hF837.get (t := 4) (v := (.int .i64 (d.pending.length : Nat))) rfl)).cons (hF837.get (t := 15) (v := (.bool d.stopped)) rfl)).cons (hF837.get (t := 3) (v := (.int .i64 0)) rfl)).cons (hF837.get (t := 2) (v := (.pointer (some ⟨g10, 0, none⟩))) rfl)).cons (hF837.get (t := 1) (v := (.pointer (some ⟨g2, 0, none⟩))) rfl)).cons (hF837.get (t := 0) (v := (.agg #[(.slice A d.sectors.length c), (.slice B d.pending.length e), (.int .i64 d.left), (.bool d.stopped)])) rfl)), ((((((Ext.refl w26).trans hx791).trans hx807).grownN hg815 (by omega)).trans hx833).grownN hg841 (by omega)), b840, (by omega), r843, (by omega), (by omega), (by omega), (by omega)⟩
        · skip
          refine o_new (fun g => (.pointer (some ⟨g, 0, none⟩))) [(.slice none 0 0), (.slice none 0 0), (.int .i64 0), (.bool false)] 25 hF811 rfl rfl rfl rfl (by kernel_rfl) ?_
          intro g843 w844 a849 hF850 z847 z848 b845 hx846; clear hF811
          have b851 : Blk w844 g2 25 [(.slice A d.sectors.length c), (.slice B d.pending.length e), (.int .i64 d.left), (.bool d.stopped)] := (b812.ext hx846)
          refine ⟨fun _ _ => ⟨(((Ext.refl w790).trans hx807).trans hx846), b851⟩, ?_⟩
          refine any_one (i := 3) (by decide +kernel) rfl ?_
          have b857 : Blk w844 g804 35 [] := (b806.ext hx846)
          refine o_appE (n := 0) (xs := []) (ys := xs) (base := (w.heap.size + 2)) elBss hF850 rfl rfl rfl rfl rfl (hF850.get rfl) (hF850.get rfl) (own_of_blk (n := 0) (cap := 0) (k := 1) (cur := []) b857 (Nat.le_refl _) (by omega) rfl (by omega : (w.heap.size + 2) ≤ g804)) (Cel.ext hcel (((((((Ext.refl w).trans hx5).trans hx13).trans hx27).trans hx791).trans hx807).trans hx846)) (by omega) (by omega) (by omega) ?_
          intro v860 w852 a858 hF859 r853 hg854 ho865
          simp only [Nat.zero_add, List.nil_append] at r853
          obtain ⟨g855, c856, rfl, hz861, hz862, hz863, hz864⟩ := own_form r853 (by omega)
          clear hF850
          have ho865 : g855 = g804 ∨ g855 = w844.heap.size := ho865.imp (fun h => Option.some.inj h) (fun h => Option.some.inj h)
          have hg854 : World.grownBy w844 w852 (some g804) := hg854
          have z866 := hg854.size
          have b867 : Blk w852 g2 25 [(.slice A d.sectors.length c), (.slice B d.pending.length e), (.int .i64 d.left), (.bool d.stopped)] := (b851.grownN hg854 (by omega))
          refine ⟨fun _ _ => ⟨((((Ext.refl w790).trans hx807).trans hx846).grownN hg854 (by omega)), b867⟩, ?_⟩
          refine any_pure (i := 6) (v := (.agg #[(.slice (some ⟨g855, 0, none⟩) d.sectors.length c856), (.slice none 0 0), (.int .i64 d.left), (.bool false)])) hF859 (by decide +kernel) (by decide +kernel) rfl rfl rfl rfl (fun _ _ _ _ h => h) rfl (fun W => (rn_build (parts2 (hF859.get rfl) (hF859.get rfl)) (by kernel_rfl))) ?_
          intro a868 hF869; clear hF859
          refine any_one (i := 8) (by decide +kernel) rfl ?_
          have b873 : Blk w852 g843 25 [(.slice none 0 0), (.slice none 0 0), (.int .i64 0), (.bool false)] := (b845.grownN hg854 (by omega))
          refine o_store (cells := [(.slice (some ⟨g855, 0, none⟩) d.sectors.length c856), (.slice none 0 0), (.int .i64 d.left), (.bool false)]) hF869 rfl rfl rfl rfl (hF869.get rfl) (hF869.get rfl) b873 (by kernel_rfl : (Try.prog.info? 25).map (·.size) = some 4) rfl (by simp [Value.oneCell']) ?_
          intro w870 b871 hg872; have z874 := hg872.size
          refine ⟨fun h => absurd h (by decide), ?_⟩
          refine any_nil (by decide +kernel) ?_
          have r875 := (own_grownE r853 hg872 (by omega))
          exact ⟨g843, g855, c856, (((((((((hF869.nil.cons (hF869.get (t := 6) (v := (.pointer (some ⟨g843, 0, none⟩))) rfl)).cons (hF869.get (t := 29) (v := (.bool false)) rfl)).cons (hF869.get (t := 5) (v := (.bool false)) rfl)).cons (hF869.get (t := 4) (v := (.int .i64 (d.pending.length : Nat))) rfl)).cons (hF869.get (t := 15) (v := (.bool d.stopped)) rfl)).cons (hF869.get (t := 3) (v := (.int .i64 0)) rfl)).cons (hF869.get (t := 2) (v := (.pointer (some ⟨g10, 0, none⟩))) rfl)).cons (hF869.get (t := 1) (v := (.pointer (some ⟨g2, 0, none⟩))) rfl)).cons (hF869.get (t := 0) (v := (.agg #[(.slice A d.sectors.length c), (.slice B d.pending.length e), (.int .i64 d.left), (.bool d.stopped)])) rfl)), ((((((Ext.refl w26).trans hx791).trans hx807).trans hx846).grownN hg854 (by omega)).grownN hg872 (by omega)), b871, (by omega), r875, (by omega), (by omega), (by omega), (by omega)⟩
      · skip
        refine o_new (fun g => (.pointer (some ⟨g, 0, none⟩))) [(.slice none 0 0), (.slice none 0 0), (.int .i64 0), (.bool false)] 25 hF803 rfl rfl rfl rfl (by kernel_rfl) ?_
        intro g875 w876 a881 hF882 z879 z880 b877 hx878; clear hF803
        have b883 : Blk w876 g2 25 [(.slice A d.sectors.length c), (.slice B d.pending.length e), (.int .i64 d.left), (.bool d.stopped)] := (b797.ext hx878)
        refine ⟨fun _ _ => ⟨((Ext.refl w790).trans hx878), b883⟩, ?_⟩
        refine any_one (i := 0) (by decide +kernel) rfl ?_
        refine o_new (fun g => (.slice (some ⟨g, 0, none⟩) 0 0)) [] 35 hF882 rfl rfl rfl rfl (rn_buildSlice (parts0 ) (by kernel_rfl)) ?_
        intro g884 w885 a890 hF891 z888 z889 b886 hx887; clear hF882
        have b892 : Blk w885 g2 25 [(.slice A d.sectors.length c), (.slice B d.pending.length e), (.int .i64 d.left), (.bool d.stopped)] := (b883.ext hx887)
        refine ⟨fun _ _ => ⟨(((Ext.refl w790).trans hx878).trans hx887), b892⟩, ?_⟩
        refine any_one (i := 3) (by decide +kernel) rfl ?_
        refine o_appE (n := 0) (xs := []) (ys := xs) (base := (w.heap.size + 2)) elBss hF891 rfl rfl rfl rfl rfl (hF891.get rfl) (hF891.get rfl) (own_of_blk (n := 0) (cap := 0) (k := 1) (cur := []) b886 (Nat.le_refl _) (by omega) rfl (by omega : (w.heap.size + 2) ≤ g884)) (Cel.ext hcel (((((((Ext.refl w).trans hx5).trans hx13).trans hx27).trans hx791).trans hx878).trans hx887)) (by omega) (by omega) (by omega) ?_
        intro v900 w893 a898 hF899 r894 hg895 ho905
        simp only [Nat.zero_add, List.nil_append] at r894
        obtain ⟨g896, c897, rfl, hz901, hz902, hz903, hz904⟩ := own_form r894 (by omega)
        clear hF891
        have ho905 : g896 = g884 ∨ g896 = w885.heap.size := ho905.imp (fun h => Option.some.inj h) (fun h => Option.some.inj h)
        have hg895 : World.grownBy w885 w893 (some g884) := hg895
        have z906 := hg895.size
        have b907 : Blk w893 g2 25 [(.slice A d.sectors.length c), (.slice B d.pending.length e), (.int .i64 d.left), (.bool d.stopped)] := (b892.grownN hg895 (by omega))
        refine ⟨fun _ _ => ⟨((((Ext.refl w790).trans hx878).trans hx887).grownN hg895 (by omega)), b907⟩, ?_⟩
        refine any_pure (i := 6) (v := (.agg #[(.slice (some ⟨g896, 0, none⟩) d.sectors.length c897), (.slice none 0 0), (.int .i64 d.left), (.bool false)])) hF899 (by decide +kernel) (by decide +kernel) rfl rfl rfl rfl (fun _ _ _ _ h => h) rfl (fun W => (rn_build (parts2 (hF899.get rfl) (hF899.get rfl)) (by kernel_rfl))) ?_
        intro a908 hF909; clear hF899
        refine any_one (i := 8) (by decide +kernel) rfl ?_
        have b913 : Blk w893 g875 25 [(.slice none 0 0), (.slice none 0 0), (.int .i64 0), (.bool false)] := ((b877.ext hx887).grownN hg895 (by omega))
        refine o_store (cells := [(.slice (some ⟨g896, 0, none⟩) d.sectors.length c897), (.slice none 0 0), (.int .i64 d.left), (.bool false)]) hF909 rfl rfl rfl rfl (hF909.get rfl) (hF909.get rfl) b913 (by kernel_rfl : (Try.prog.info? 25).map (·.size) = some 4) rfl (by simp [Value.oneCell']) ?_
        intro w910 b911 hg912; have z914 := hg912.size
        refine ⟨fun h => absurd h (by decide), ?_⟩
        refine any_nil (by decide +kernel) ?_
        have r915 := (own_grownE r894 hg912 (by omega))
        exact ⟨g875, g896, c897, (((((((((hF909.nil.cons (hF909.get (t := 6) (v := (.pointer (some ⟨g875, 0, none⟩))) rfl)).cons (hF909.get (t := 29) (v := (.bool false)) rfl)).cons (hF909.get (t := 5) (v := (.bool false)) rfl)).cons (hF909.get (t := 4) (v := (.int .i64 (d.pending.length : Nat))) rfl)).cons (hF909.get (t := 15) (v := (.bool d.stopped)) rfl)).cons (hF909.get (t := 3) (v := (.int .i64 0)) rfl)).cons (hF909.get (t := 2) (v := (.pointer (some ⟨g10, 0, none⟩))) rfl)).cons (hF909.get (t := 1) (v := (.pointer (some ⟨g2, 0, none⟩))) rfl)).cons (hF909.get (t := 0) (v := (.agg #[(.slice A d.sectors.length c), (.slice B d.pending.length e), (.int .i64 d.left), (.bool d.stopped)])) rfl)), ((((((Ext.refl w26).trans hx791).trans hx878).trans hx887).grownN hg895 (by omega)).grownN hg912 (by omega)), b911, (by omega), r915, (by omega), (by omega), (by omega), (by omega)⟩
    · rintro a916 w917 ⟨xg830, xg816, xc817, hF918, hx919, b920, z926, f921, f922, f923, f924, f925⟩
      have z927 := hx919.size
      clear hF789
      have z928 := b920.lt
      refine wp_seq_k (fun K929 hK929 => ?_)
      refine wp_seq_k (fun K930 hK930 => ?_)
      refine wp_region_lit ?_
      refine wpl_op (i := 0) rfl (o_val (v := (.int .i64 0)) hF918 rfl rfl rfl rfl (rn_assign rfl) ?_)
      intro a931 hF932; clear hF918
      refine wpList_nil ?_
      refine hK930 _ _ ?_
      clear hK930
      refine wp_block ?_
      have b933 : Blk w917 g2 25 [(.slice A d.sectors.length c), (.slice B d.pending.length e), (.int .i64 d.left), (.bool d.stopped)] := (b38.ext hx919)
      have b934 : Blk w917 g10 25 [(.slice none 0 0), (.slice none 0 0), (.int .i64 0), (.bool false)] := ((b12.ext hx27).ext hx919)
      refine wp_loop (fun a' W => ∃ (k : Nat) (vs : List Value), Sl 95 [(0, (.agg #[(.slice A d.sectors.length c), (.slice B d.pending.length e), (.int .i64 d.left), (.bool d.stopped)])), (1, (.pointer (some ⟨g2, 0, none⟩))), (2, (.pointer (some ⟨g10, 0, none⟩))), (3, (.int .i64 0)), (15, (.bool d.stopped)), (4, (.int .i64 (d.pending.length : Nat))), (5, (.bool false)), (29, (.bool false)), (6, (.pointer (some ⟨xg830, 0, none⟩))), (7, (.int .i64 (k : Nat)))] a' ∧ (k : Int) ≤ (d.pending.length : Nat) ∧ k ≤ d.pending.length ∧ Ext w W ∧ Blk W g2 25 [(.slice A d.sectors.length c), (.slice B d.pending.length e), (.int .i64 d.left), (.bool d.stopped)] ∧ Blk W g10 25 [(.slice none 0 0), (.slice none 0 0), (.int .i64 0), (.bool false)] ∧ Blk W xg830 25 [(.slice (some ⟨xg816, 0, none⟩) d.sectors.length xc817), (.slice none 0 0), (.int .i64 d.left), (.bool false)] ∧ W.ownsRow (w.heap.size + 2) 35 1 (.slice (some ⟨xg816, 0, none⟩) d.sectors.length xc817) d.sectors.length vs ∧ ∀ i (h : i < (performL d.sectors (d.pending.take k)).length) (h' : i < vs.length), RBs S w vs[i] (performL d.sectors (d.pending.take k))[i]) (fun a' _ => ((d.pending.length : Nat) : Int).toNat - (intOf (a'.eval (.tmp 7))).toNat) ⟨0, xs, ((((((((((hF932.nil.cons (q_get hF932 (t := 7) rfl (by first | rfl | (congr 1; omega)))).cons (q_get hF932 (t := 6) rfl rfl)).cons (q_get hF932 (t := 29) rfl rfl)).cons (q_get hF932 (t := 5) rfl rfl)).cons (q_get hF932 (t := 4) rfl rfl)).cons (q_get hF932 (t := 15) rfl rfl)).cons (q_get hF932 (t := 3) rfl rfl)).cons (q_get hF932 (t := 2) rfl rfl)).cons (q_get hF932 (t := 1) rfl rfl)).cons (q_get hF932 (t := 0) rfl rfl)), (by omega), (by omega), (((((Ext.refl w).trans hx5).trans hx13).trans hx27).trans hx919), b933, b934, b920, f921, hrs⟩ ?_
      clear hF932
      rintro a935 w936 ⟨k, vs, hF937, hp939, hp940, hx938, b941, b942, b943, r944, hf945⟩
      have hL946 := hF937
      have z947 := hx938.size
      have z948 := b941.lt
      have z949 := b942.lt
      have z950 := b943.lt
      have z951 := own_lt r944
      refine wp_seq_k (fun K952 hK952 => ?_)
      refine wp_seq_k (fun K953 hK953 => ?_)
      refine wp_region_lit ?_
      refine wpl_op (i := 0) rfl (o_val (v := (.int .i64 (k : Nat))) hF937 rfl rfl rfl rfl (rn_move (hF937.get rfl)) ?_)
      intro a954 hF955; clear hF937
      refine wpl_op (i := 1) rfl (o_val (v := (.int .i64 (d.pending.length : Nat))) hF955 rfl rfl rfl rfl (rn_move (hF955.get rfl)) ?_)
      intro a956 hF957; clear hF955
      refine wpl_op (i := 2) rfl (o_val (v := (.bool (decide (((k : Nat) : Int) < ((d.pending.length : Nat) : Int))))) hF957 rfl rfl rfl rfl (rn_lss (hF957.get rfl) (hF957.get rfl)) ?_)
      intro a958 hF959; clear hF957
      refine wpList_nil ?_
      refine hK953 _ _ ?_
      clear hK953
      by_cases hc960 : ((k : Nat) : Int) < ((d.pending.length : Nat) : Int)
      · skip
        refine wp_cond_true (c_true hF959 rfl (decide_eq_true hc960)) ?_
        refine wp_skip ?_
        refine hK952 _ _ ?_
        clear hK952
        refine wp_seq_k (fun K961 hK961 => ?_)
        refine wp_block ?_
        have hx963 : ∃ W, w936.drew = W ∧ Ext w936 W := ⟨_, rfl, (Ext.refl _).drew⟩
        obtain ⟨w962, e964, hx963⟩ := hx963
        have z965 := hx963.size
        refine any_start (fun W => Ext w962 W ∧ Blk W xg830 25 [(.slice (some ⟨xg816, 0, none⟩) d.sectors.length xc817), (.slice none 0 0), (.int .i64 d.left), (.bool false)] ∧ Blk W g2 25 [(.slice A d.sectors.length c), (.slice B d.pending.length e), (.int .i64 d.left), (.bool d.stopped)]) (fun i => i == 15) 16 #[false, false, false, false, false, false, false, false, false, false, false, false, false, false, false, false] rfl rfl rfl ?_
        rw [e964]; clear e964
        refine any_pure (i := 0) (v := (.pointer (some ⟨xg830, 0, none⟩))) hF959 (by decide +kernel) (by decide +kernel) rfl rfl rfl rfl (fun _ _ _ _ h => h) rfl (fun W => (rn_field Try.underlying25 rfl (by kernel_rfl) (hF959.get rfl) rfl)) ?_
        intro a966 hF967; clear hF959
        have b969 : Blk w962 xg830 25 [(.slice (some ⟨xg816, 0, none⟩) d.sectors.length xc817), (.slice none 0 0), (.int .i64 d.left), (.bool false)] := (b943.ext hx963)
        have b970 : Blk w962 g2 25 [(.slice A d.sectors.length c), (.slice B d.pending.length e), (.int .i64 d.left), (.bool d.stopped)] := (b941.ext hx963)
        have hS968 : Ext w962 w962 ∧ Blk w962 xg830 25 [(.slice (some ⟨xg816, 0, none⟩) d.sectors.length xc817), (.slice none 0 0), (.int .i64 d.left), (.bool false)] ∧ Blk w962 g2 25 [(.slice A d.sectors.length c), (.slice B d.pending.length e), (.int .i64 d.left), (.bool d.stopped)] := ⟨(Ext.refl w962), b969, b970⟩
        refine any_val (i := 1) (v := (.slice (some ⟨xg816, 0, none⟩) d.sectors.length xc817)) hF967 (by decide +kernel) (by decide +kernel) rfl rfl rfl rfl (fun _ _ _ _ h => h) rfl hS968 (fun W hW => (rn_load (isAgg_no Try.underlying22 rfl) (hF967.get rfl) (hW.2.1.rule.1 0))) ?_
        intro a971 hF972; clear hF967
        refine any_pure (i := 2) (v := (.pointer (some ⟨g2, 1, none⟩))) hF972 (by decide +kernel) (by decide +kernel) rfl rfl rfl rfl (fun _ _ _ _ h => h) rfl (fun W => (rn_field Try.underlying25 rfl (by kernel_rfl) (hF972.get rfl) rfl)) ?_
        intro a973 hF974; clear hF972
        refine any_val (i := 3) (v := (.slice B d.pending.length e)) hF974 (by decide +kernel) (by decide +kernel) rfl rfl rfl rfl (fun _ _ _ _ h => h) rfl hS968 (fun W hW => (rn_load (isAgg_no Try.underlying23 rfl) (hF974.get rfl) (hW.2.2.rule.1 1))) ?_
        intro a975 hF976; clear hF974
        refine any_pure (i := 4) (v := (.int .i64 (k : Nat))) hF976 (by decide +kernel) (by decide +kernel) rfl rfl rfl rfl (fun _ _ _ _ h => h) rfl (fun W => (rn_move (hF976.get rfl))) ?_
        intro a977 hF978; clear hF976
        obtain ⟨x979, hi980, hm992⟩ := get_of_lt d.pending k (by omega)
        obtain ⟨hp993, hp994, hp995⟩ := f7 x979 hm992
        obtain ⟨b981, o982, A983, c984, hA985, hl986, hc989, hc987, hr988, le990, le991⟩ := RWs.get (RDk.len hd).2.1 hi980
        refine any_pure (i := 5) (v := (.pointer (some ⟨b981, o982 + k * 2, none⟩))) hF978 (by decide +kernel) (by decide +kernel) rfl rfl rfl rfl (fun _ _ _ _ h => h) rfl (fun W => (rn_index Try.underlying23 (by kernel_rfl : (Try.prog.info? 54).map (·.size) = some 2) ((hF978.get rfl).trans (by rw [hA985])) (hF978.get rfl) (by omega : (0 : Int) ≤ (k : Nat)) (by omega : ((k : Nat) : Int) < ((d.pending.length : Nat) : Int)))) ?_
        intro a996 hF997; clear hF978
        refine any_pure (i := 6) (v := (.pointer (some ⟨b981, o982 + k * 2, none⟩))) hF997 (by decide +kernel) (by decide +kernel) rfl rfl rfl rfl (fun _ _ _ _ h => h) rfl (fun W => (rn_field Try.underlying54 rfl (by kernel_rfl) (hF997.get rfl) rfl)) ?_
        intro a998 hF999; clear hF997
        refine any_val (i := 7) (v := (.int .i64 x979.1)) hF999 (by decide +kernel) (by decide +kernel) rfl rfl rfl rfl (fun _ _ _ _ h => h) rfl hS968 (fun W hW => (rn_load (isAgg_no Try.underlying3 rfl) (hF999.get rfl) (Ext.keep ((((Ext.refl w).trans hx938).trans hx963).trans hW.1) hc989))) ?_
        intro a1000 hF1001; clear hF999
        refine any_pure (i := 8) (v := (.pointer (some ⟨g2, 1, none⟩))) hF1001 (by decide +kernel) (by decide +kernel) rfl rfl rfl rfl (fun _ _ _ _ h => h) rfl (fun W => (rn_field Try.underlying25 rfl (by kernel_rfl) (hF1001.get rfl) rfl)) ?_
        intro a1002 hF1003; clear hF1001
        refine any_val (i := 9) (v := (.slice B d.pending.length e)) hF1003 (by decide +kernel) (by decide +kernel) rfl rfl rfl rfl (fun _ _ _ _ h => h) rfl hS968 (fun W hW => (rn_load (isAgg_no Try.underlying23 rfl) (hF1003.get rfl) (hW.2.2.rule.1 1))) ?_
        intro a1004 hF1005; clear hF1003
        refine any_pure (i := 10) (v := (.int .i64 (k : Nat))) hF1005 (by decide +kernel) (by decide +kernel) rfl rfl rfl rfl (fun _ _ _ _ h => h) rfl (fun W => (rn_move (hF1005.get rfl))) ?_
        intro a1006 hF1007; clear hF1005
        refine any_pure (i := 11) (v := (.pointer (some ⟨b981, o982 + k * 2, none⟩))) hF1007 (by decide +kernel) (by decide +kernel) rfl rfl rfl rfl (fun _ _ _ _ h => h) rfl (fun W => (rn_index Try.underlying23 (by kernel_rfl : (Try.prog.info? 54).map (·.size) = some 2) ((hF1007.get rfl).trans (by rw [hA985])) (hF1007.get rfl) (by omega : (0 : Int) ≤ (k : Nat)) (by omega : ((k : Nat) : Int) < ((d.pending.length : Nat) : Int)))) ?_
        intro a1008 hF1009; clear hF1007
        refine any_pure (i := 12) (v := (.pointer (some ⟨b981, o982 + k * 2 + 1, none⟩))) hF1009 (by decide +kernel) (by decide +kernel) rfl rfl rfl rfl (fun _ _ _ _ h => h) rfl (fun W => (rn_field Try.underlying54 rfl (by kernel_rfl) (hF1009.get rfl) rfl)) ?_
        intro a1010 hF1011; clear hF1009
        refine any_val (i := 13) (v := (.slice A983 x979.2.length c984)) hF1011 (by decide +kernel) (by decide +kernel) rfl rfl rfl rfl (fun _ _ _ _ h => h) rfl hS968 (fun W hW => (rn_load (isAgg_no Try.underlying35 rfl) (hF1011.get rfl) (Ext.keep ((((Ext.refl w).trans hx938).trans hx963).trans hW.1) hc987))) ?_
        intro a1012 hF1013; clear hF1011
        refine any_pure (i := 14) (v := (.pointer (some ⟨xg816, 0 + (x979.1 : Int).toNat, none⟩))) hF1013 (by decide +kernel) (by decide +kernel) rfl rfl rfl rfl (fun _ _ _ _ h => h) rfl (fun W => (rn_index1 Try.underlying22 (by kernel_rfl : (Try.prog.info? 35).map (·.size) = some 1) (hF1013.get rfl) (hF1013.get rfl) (by omega : (0 : Int) ≤ x979.1) (by omega : (x979.1 : Int) < ((d.sectors.length : Nat) : Int)))) ?_
        intro a1014 hF1015; clear hF1013
        refine any_one (i := 15) (by decide +kernel) rfl ?_
        have r1016 := (own_ext r944 hx963)
        refine o_storeRow hF1015 rfl rfl rfl rfl (hF1015.get rfl) (hF1015.get rfl) r1016 (by kernel_rfl : (Try.prog.info? 35).map (·.size) = some 1) (by omega) rfl ?_
        intro w1017 r1018 hg1019; have z1020 := hg1019.size
        refine ⟨fun h => absurd h (by decide), ?_⟩
        refine any_nil (by decide +kernel) ?_
        refine hK961 _ _ ?_
        clear hK961
        have hF1021 := (((((((((((hF1015.nil.cons (hF1015.get (t := 41) (v := (.bool (decide (((k : Nat) : Int) < ((d.pending.length : Nat) : Int))))) rfl)).cons (hF1015.get (t := 7) (v := (.int .i64 (k : Nat))) rfl)).cons (hF1015.get (t := 6) (v := (.pointer (some ⟨xg830, 0, none⟩))) rfl)).cons (hF1015.get (t := 29) (v := (.bool false)) rfl)).cons (hF1015.get (t := 5) (v := (.bool false)) rfl)).cons (hF1015.get (t := 4) (v := (.int .i64 (d.pending.length : Nat))) rfl)).cons (hF1015.get (t := 15) (v := (.bool d.stopped)) rfl)).cons (hF1015.get (t := 3) (v := (.int .i64 0)) rfl)).cons (hF1015.get (t := 2) (v := (.pointer (some ⟨g10, 0, none⟩))) rfl)).cons (hF1015.get (t := 1) (v := (.pointer (some ⟨g2, 0, none⟩))) rfl)).cons (hF1015.get (t := 0) (v := (.agg #[(.slice A d.sectors.length c), (.slice B d.pending.length e), (.int .i64 d.left), (.bool d.stopped)])) rfl))
        clear hF1015
        refine wp_region_lit ?_
        refine wpl_op (i := 0) rfl (o_val (v := (.int .i64 (k : Nat))) hF1021 rfl rfl rfl rfl (rn_move (hF1021.get rfl)) ?_)
        intro a1022 hF1023; clear hF1021
        refine wpl_op (i := 1) rfl (o_val (v := (.int .i64 ((k : Nat) + 1))) hF1023 rfl rfl rfl rfl (rn_add (hF1023.get rfl) rfl (by omega) (by omega)) ?_)
        intro a1024 hF1025; clear hF1023
        refine wpl_op (i := 2) rfl (o_val (v := (.int .i64 ((k : Nat) + 1))) hF1025 rfl rfl rfl rfl (rn_assign (hF1025.get rfl)) ?_)
        intro a1026 hF1027; clear hF1025
        refine wpList_nil ?_
        have b1028 : Blk w1017 g2 25 [(.slice A d.sectors.length c), (.slice B d.pending.length e), (.int .i64 d.left), (.bool d.stopped)] := (b970.grownN hg1019 (by omega))
        have b1029 : Blk w1017 g10 25 [(.slice none 0 0), (.slice none 0 0), (.int .i64 0), (.bool false)] := ((b942.ext hx963).grownN hg1019 (by omega))
        have b1030 : Blk w1017 xg830 25 [(.slice (some ⟨xg816, 0, none⟩) d.sectors.length xc817), (.slice none 0 0), (.int .i64 d.left), (.bool false)] := (b969.grownN hg1019 (by omega))
        refine ⟨⟨k + 1, (vs.set (0 + (x979.1 : Int).toNat) (.slice A983 x979.2.length c984)), ((((((((((hF1027.nil.cons (q_get hF1027 (t := 7) rfl (by first | rfl | (congr 1; omega)))).cons (q_get hF1027 (t := 6) rfl rfl)).cons (q_get hF1027 (t := 29) rfl rfl)).cons (q_get hF1027 (t := 5) rfl rfl)).cons (q_get hF1027 (t := 4) rfl rfl)).cons (q_get hF1027 (t := 15) rfl rfl)).cons (q_get hF1027 (t := 3) rfl rfl)).cons (q_get hF1027 (t := 2) rfl rfl)).cons (q_get hF1027 (t := 1) rfl rfl)).cons (q_get hF1027 (t := 0) rfl rfl)), (by omega), (by omega), ((((Ext.refl w).trans hx938).trans hx963).grownN hg1019 (by omega)), b1028, b1029, b1030, r1018, (perf_next hi980 hr988 rfl hf945)⟩, ?_⟩
        rw [hF1027.get (t := 7) rfl, hL946.get (t := 7) rfl]; simp [intOf]; omega
      · skip
        refine wp_cond_false (c_false hF959 rfl (decide_eq_false hc960)) ?_
        refine wp_exit ?_
        refine exit_then ?_
        refine exit_then ?_
        refine exit_here ?_
        refine hK929 _ _ ?_
        clear hK929
        refine wp_seq_k (fun K1031 hK1031 => ?_)
        refine wp_seq_k (fun K1032 hK1032 => ?_)
        refine wp_region_lit ?_
        refine wpl_op (i := 0) rfl (o_val (v := (.bool false)) hF959 rfl rfl rfl rfl (rn_move (hF959.get rfl)) ?_)
        intro a1033 hF1034; clear hF959
        refine wpList_nil ?_
        refine hK1032 _ _ ?_
        clear hK1032
        refine wp_cond_false (c_false hF1034 rfl rfl) ?_
        refine wp_skip ?_
        refine hK1031 _ _ ?_
        clear hK1031
        refine wp_seq_k (fun K1035 hK1035 => ?_)
        refine wp_seq_k (fun K1036 hK1036 => ?_)
        refine wp_region_lit ?_
        refine wpl_op (i := 0) rfl (o_val (v := (.pointer (some ⟨xg830, 2, none⟩))) hF1034 rfl rfl rfl rfl (rn_field Try.underlying25 rfl (by kernel_rfl) (hF1034.get rfl) rfl) ?_)
        intro a1037 hF1038; clear hF1034
        refine wpl_op (i := 1) rfl (o_val (v := (.int .i64 d.left)) hF1038 rfl rfl rfl rfl (rn_load (isAgg_no Try.underlying3 rfl) (hF1038.get rfl) (b943.rule.1 2)) ?_)
        intro a1039 hF1040; clear hF1038
        refine wpl_op (i := 2) rfl (o_val (v := (.bool (decide ((0 : Int) ≤ (d.left : Int))))) hF1040 rfl rfl rfl rfl (rn_geq (hF1040.get rfl) rfl) ?_)
        intro a1041 hF1042; clear hF1040
        refine wpList_nil ?_
        refine hK1036 _ _ ?_
        clear hK1036
        have hF1043 := (((((((((((((hF1042.nil.cons (hF1042.get (t := 88) (v := (.bool (decide ((0 : Int) ≤ (d.left : Int))))) rfl)).cons (hF1042.get (t := 59) (v := (.bool false)) rfl)).cons (hF1042.get (t := 41) (v := (.bool (decide (((k : Nat) : Int) < ((d.pending.length : Nat) : Int))))) rfl)).cons (hF1042.get (t := 7) (v := (.int .i64 (k : Nat))) rfl)).cons (hF1042.get (t := 6) (v := (.pointer (some ⟨xg830, 0, none⟩))) rfl)).cons (hF1042.get (t := 29) (v := (.bool false)) rfl)).cons (hF1042.get (t := 5) (v := (.bool false)) rfl)).cons (hF1042.get (t := 4) (v := (.int .i64 (d.pending.length : Nat))) rfl)).cons (hF1042.get (t := 15) (v := (.bool d.stopped)) rfl)).cons (hF1042.get (t := 3) (v := (.int .i64 0)) rfl)).cons (hF1042.get (t := 2) (v := (.pointer (some ⟨g10, 0, none⟩))) rfl)).cons (hF1042.get (t := 1) (v := (.pointer (some ⟨g2, 0, none⟩))) rfl)).cons (hF1042.get (t := 0) (v := (.agg #[(.slice A d.sectors.length c), (.slice B d.pending.length e), (.int .i64 d.left), (.bool d.stopped)])) rfl))
        clear hF1042
        refine wp_cond_false (c_false hF1043 rfl (decide_eq_false hc63)) ?_
        refine wp_skip ?_
        refine hK1035 _ _ ?_
        clear hK1035
        refine wp_seq_k (fun K1044 hK1044 => ?_)
        refine wp_region_lit ?_
        refine wpl_op (i := 0) rfl (o_val (v := (.agg #[(.slice (some ⟨xg816, 0, none⟩) d.sectors.length xc817), (.slice none 0 0), (.int .i64 d.left), (.bool false)])) hF1043 rfl rfl rfl rfl (rn_loadBlk (hF1043.get rfl) b943 Try.underlying25 rfl (by kernel_rfl : (Try.prog.info? 25).map (·.size) = some 4)) ?_)
        intro a1045 hF1046; clear hF1043
        refine wpl_op (i := 1) rfl (o_store (cells := [(.slice (some ⟨xg816, 0, none⟩) d.sectors.length xc817), (.slice none 0 0), (.int .i64 d.left), (.bool false)]) hF1046 rfl rfl rfl rfl (hF1046.get rfl) (hF1046.get rfl) b942 (by kernel_rfl : (Try.prog.info? 25).map (·.size) = some 4) rfl (by simp [Value.oneCell']) ?_)
        intro w1047 b1048 hg1049; have z1050 := hg1049.size
        refine wpl_op (i := 2) rfl (o_val (v := (.int .i64 0)) hF1046 rfl rfl rfl rfl (rn_assign rfl) ?_)
        intro a1051 hF1052; clear hF1046
        refine wpList_nil ?_
        refine hK1044 _ _ ?_
        clear hK1044
        refine wp_ret ?_
        refine retC1 hF1052 rfl rfl rfl b1048 Try.underlying25 rfl (by kernel_rfl : (Try.prog.info? 25).map (·.size) = some 4) ?_
        have r1053 := (own_grownE r944 hg1049 (by omega))
        have hkk : k = d.pending.length := by omega
        have htk : d.pending.take k = d.pending := List.take_of_length_le (by omega)
        have hpf := hf945
        rw [htk] at hpf
        exact rsync_fin (l := d.left) (s := false) (n := 0) (((Ext.refl w).trans hx938).grownN hg1049 (by omega)) r1053 (by omega) (fun i h h' => ((hpf i h h').ext (((Ext.refl w).trans hx938).grownN hg1049 (by omega))).up) (performL_length _ _) (by unfold Dk.sync Dk.syncOk; rw [if_neg (by rw [h1]; simp), if_neg (by omega)]; first | rw [if_pos (by omega)] | rw [if_neg (by omega)])

theorem rsync_any (v : Value) (d : Dk) (w : World) (hd : RDk S w v d) : Calls Try.prog 24 #[v] w (RDE S w d.sync.1 d.sync.2) := by
  cases hr : d.runs
  · have he : d.sync = (Dk.zero, 380) := by unfold Dk.sync; rw [if_pos hr]
    rw [he]; exact rsync_bad v d w hd hr
  · obtain ⟨A, c, B, e, rfl, -, -⟩ := hd.form
    exact rsync_main A c B e d w hd hr

end Go.Proofs.Ytklhgghlkidfjaa
