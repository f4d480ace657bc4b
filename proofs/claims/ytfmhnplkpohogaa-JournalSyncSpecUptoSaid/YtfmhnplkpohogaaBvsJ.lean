/- Several texts in one: RefC, JrQ, JrN, JrX. -/
import Derived.Test.YtfmhnplkpohogaaBvsD
import Derived.Test.YtfmhnplkpohogaaBvsA
import Derived.Test.YtfmhnplkpohogaaBvsB
import Derived.Test.YtfmhnplkpohogaaBvsI
import Derived.KernelRfl
set_option linter.unusedVariables false
set_option linter.unusedSimpArgs false
namespace Go.Proofs.Ytfmhnplkpohogaa
set_option maxRecDepth 100000
open Go.RowKit

variable {S S' : Nat → Prop}

set_option maxRecDepth 100000 in
set_option maxHeartbeats 4000000 in
theorem rsync_main (A : Option Addr) (c : Nat) (B : Option Addr) (e : Nat) (d : Dk) (w : World) (hd : RDk S w (.agg #[.slice A d.sectors.length c, .slice B d.pending.length e, .int .i64 d.left, .bool d.stopped]) d) (h1 : d.runs = true) :
    Calls Try.prog 48 #[.agg #[.slice A d.sectors.length c, .slice B d.pending.length e, .int .i64 d.left, .bool d.stopped]] w (RDE S w d.sync.1 d.sync.2) := by
  obtain ⟨f1, f2, f3, f4, f5, hst, f7, f8⟩ := runs_facts h1
  have hch : d.check = 0 := by rcases runs_cases d with ⟨_, h⟩ | ⟨_, _, h⟩ | ⟨h, _, _⟩ <;> simp_all
  obtain ⟨-, -, xs, hcel, hrs0⟩ := RSl.cel (RDk.len hd).1
  have hxl : xs.length = d.sectors.length := by have := hcel.1; omega
  have hrs : ∀ i (h : i < (performL d.sectors (d.pending.take 0)).length) (h' : i < xs.length), RBs S w xs[i] (performL d.sectors (d.pending.take 0))[i] := fun i h h' => by
    have h2 : i < d.sectors.length := h
    obtain ⟨x, hx, hr⟩ := hrs0 i h2
    rw [chunk_one h'] at hx
    injection hx with hx
    rw [hx]; exact hr
  refine calls_enter (l := [(.agg #[(.slice A d.sectors.length c), (.slice B d.pending.length e), (.int .i64 d.left), (.bool d.stopped)])]) Try.func48 rfl rfl rfl (fun a hF => ?_)
  refine wp_seq_k (fun K1 hK1 => ?_)
  refine wp_region_lit ?_
  refine wpl_op (i := 0) rfl (o_new (fun g => (.pointer (some ⟨g, 0, none⟩))) [(.slice A d.sectors.length c), (.slice B d.pending.length e), (.int .i64 d.left), (.bool d.stopped)] 25 hF rfl rfl rfl rfl (rn_box (hF.get rfl) (by kernel_rfl)) ?_)
  intro g2 w3 a8 F9 z6 z7 b4 hx5; clear hF
  refine wpl_op (i := 1) rfl (o_new (fun g => (.pointer (some ⟨g, 0, none⟩))) [(.slice none 0 0), (.slice none 0 0), (.int .i64 0), (.bool false)] 25 F9 rfl rfl rfl rfl (by kernel_rfl) ?_)
  intro g10 w11 a16 F17 z14 z15 b12 hx13; clear F9
  refine qv 2 (.int .i64 0) F17 rfl (rn_assign rfl) fun _ F19 => ?_; clear F17
  refine wpList_nil ?_
  refine hK1 _ _ ?_
  clear hK1
  refine wp_seq_k (fun K20 hK20 => ?_)
  refine wp_seq_k (fun K21 hK21 => ?_)
  refine wp_region_lit ?_
  have b22 := (b4.ext hx13)
  refine qv 0 (.agg #[(.slice A d.sectors.length c), (.slice B d.pending.length e), (.int .i64 d.left), (.bool d.stopped)]) F19 rfl (rn_loadBlk (F19.get rfl) b22 Try.underlying25 rfl inf25) fun _ F24 => ?_; clear F19
  have d25 := ((hd.ext hx5).ext hx13)
  refine wpl_op (i := 1) rfl (o_call F24 rfl rfl rfl rfl (rn_call (args1 (F24.get rfl)) rfl (by kernel_rfl)) (rcheck_any (S := S) _ d _ d25) ?_)
  rintro _ w26 ⟨rfl, hx27⟩
  refine ⟨_, rfl, ?_⟩; intro a28 F29; clear F24; have z30 := hx27.size
  refine qv 2 (.bool (decide ((d.check : Int) ≠ (0 : Int)))) F29 rfl (rn_neq (F29.get rfl) rfl) fun _ F32 => ?_; clear F29
  refine qv 3 (.bool (decide ((d.check : Int) ≠ (0 : Int)))) F32 rfl (rn_move (F32.get rfl)) fun _ F34 => ?_; clear F32
  refine qg 4 (.pointer (some ⟨g2, 3, none⟩)) F34 ((decide_eq_false (by rw [hch]; simp)) : decide ((d.check : Int) ≠ (0 : Int)) = false) (rn_field Try.underlying25 rfl (by kernel_rfl) (F34.get rfl) rfl) fun _ F37 => ?_; clear F34
  have b38 := (b22.ext hx27)
  refine qg 5 (.bool d.stopped) F37 ((decide_eq_false (by rw [hch]; simp)) : decide ((d.check : Int) ≠ (0 : Int)) = false) (rn_load (isAgg_no Try.underlying4 rfl) (F37.get rfl) (b38.rule.1 3)) fun _ F40 => ?_; clear F37
  refine qv 6 (.bool d.stopped) F40 rfl (rn_pickF (c_false F40 rfl ((decide_eq_false (by rw [hch]; simp)) : decide ((d.check : Int) ≠ (0 : Int)) = false)) (F40.get rfl)) fun _ F42 => ?_; clear F40
  refine wpList_nil ?_
  refine hK21 _ _ ?_
  clear hK21
  have F43 := (((((F42.nil.c F42 15 rfl).c F42 3 rfl).c F42 2 rfl).c F42 1 rfl).c F42 0 rfl)
  clear F42
  refine wp_cond_false (c_false F43 rfl (hst : d.stopped = false)) ?_
  refine wp_skip ?_
  refine hK20 _ _ ?_
  clear hK20
  refine wp_seq_k (fun K45 hK45 => ?_)
  refine wp_region_lit ?_
  refine qv 0 (.pointer (some ⟨g2, 1, none⟩)) F43 rfl (rn_field Try.underlying25 rfl (by kernel_rfl) (F43.get rfl) rfl) fun _ F47 => ?_; clear F43
  refine qv 1 (.slice B d.pending.length e) F47 rfl (rn_load (isAgg_no Try.underlying23 rfl) (F47.get rfl) (b38.rule.1 1)) fun _ F49 => ?_; clear F47
  refine qv 2 (.int .i64 (d.pending.length : Nat)) F49 rfl (rn_len_slice Try.underlying23 (F49.get rfl)) fun _ F51 => ?_; clear F49
  refine qv 3 (.int .i64 (d.pending.length : Nat)) F51 rfl (rn_assign (F51.get rfl)) fun _ F53 => ?_; clear F51
  refine wpList_nil ?_
  refine hK45 _ _ ?_
  clear hK45
  refine wp_seq_k (fun K54 hK54 => ?_)
  refine wp_region_lit ?_
  refine qv 0 (.pointer (some ⟨g2, 2, none⟩)) F53 rfl (rn_field Try.underlying25 rfl (by kernel_rfl) (F53.get rfl) rfl) fun _ F56 => ?_; clear F53
  refine qv 1 (.int .i64 d.left) F56 rfl (rn_load (isAgg_no Try.underlying3 rfl) (F56.get rfl) (b38.rule.1 2)) fun _ F58 => ?_; clear F56
  refine qv 2 (.bool (decide ((0 : Int) ≤ (d.left : Int)))) F58 rfl (rn_geq (F58.get rfl) rfl) fun _ F60 => ?_; clear F58
  refine qv 3 (.bool (decide ((0 : Int) ≤ (d.left : Int)))) F60 rfl (rn_move (F60.get rfl)) fun _ F62 => ?_; clear F60
  by_cases hc63 : (0 : Int) ≤ (d.left : Int)
  · skip
    refine qg 4 (.pointer (some ⟨g2, 2, none⟩)) F62 (decide_eq_true hc63) (rn_field Try.underlying25 rfl (by kernel_rfl) (F62.get rfl) rfl) fun _ F65 => ?_; clear F62
    refine qg 5 (.int .i64 d.left) F65 (decide_eq_true hc63) (rn_load (isAgg_no Try.underlying3 rfl) (F65.get rfl) (b38.rule.1 2)) fun _ F67 => ?_; clear F65
    refine qg 6 (.int .i64 (d.pending.length : Nat)) F67 (decide_eq_true hc63) (rn_move (F67.get rfl)) fun _ F69 => ?_; clear F67
    refine qg 7 (.bool (decide ((d.left : Int) < ((d.pending.length : Nat) : Int)))) F69 (decide_eq_true hc63) (rn_lss (F69.get rfl) (F69.get rfl)) fun _ F71 => ?_; clear F69
    refine qv 8 (.bool (decide ((d.left : Int) < ((d.pending.length : Nat) : Int)))) F71 rfl (rn_pickT (c_true F71 rfl (decide_eq_true hc63)) (F71.get rfl)) fun _ F73 => ?_; clear F71
    refine qv 9 (.bool (decide ((d.left : Int) < ((d.pending.length : Nat) : Int)))) F73 rfl (rn_assign (F73.get rfl)) fun _ F75 => ?_; clear F73
    refine wpList_nil ?_
    refine hK54 _ _ ?_
    clear hK54
    have F76 := (((((((F75.nil.c F75 5 rfl).c F75 4 rfl).c F75 15 rfl).c F75 3 rfl).c F75 2 rfl).c F75 1 rfl).c F75 0 rfl)
    clear F75
    refine wp_seq_k (fun K77 hK77 => ?_)
    refine wp_seq_k (fun K78 hK78 => ?_)
    refine wp_region_lit ?_
    refine qv 0 (.bool (decide ((d.left : Int) < ((d.pending.length : Nat) : Int)))) F76 rfl (rn_move (F76.get rfl)) fun _ F80 => ?_; clear F76
    refine wpList_nil ?_
    refine hK78 _ _ ?_
    clear hK78
    by_cases hc81 : (d.left : Int) < ((d.pending.length : Nat) : Int)
    · skip
      refine wp_cond_true (c_true F80 rfl (decide_eq_true hc81)) ?_
      refine wp_region_lit ?_
      refine qv 0 (.pointer (some ⟨g2, 2, none⟩)) F80 rfl (rn_field Try.underlying25 rfl (by kernel_rfl) (F80.get rfl) rfl) fun _ F83 => ?_; clear F80
      refine qv 1 (.int .i64 d.left) F83 rfl (rn_load (isAgg_no Try.underlying3 rfl) (F83.get rfl) (b38.rule.1 2)) fun _ F85 => ?_; clear F83
      refine qv 2 (.int .i64 d.left) F85 rfl (rn_assign (F85.get rfl)) fun _ F87 => ?_; clear F85
      refine wpList_nil ?_
      refine hK77 _ _ ?_
      clear hK77
      refine wp_meet (fun a' W => ∃ (xg128 : Nat) (xg114 : Nat) (xc115 : Nat), Sl 95 [(0, (.agg #[(.slice A d.sectors.length c), (.slice B d.pending.length e), (.int .i64 d.left), (.bool d.stopped)])), (1, (.pointer (some ⟨g2, 0, none⟩))), (2, (.pointer (some ⟨g10, 0, none⟩))), (3, (.int .i64 0)), (15, (.bool d.stopped)), (4, (.int .i64 d.left)), (5, (.bool (decide ((d.left : Int) < ((d.pending.length : Nat) : Int))))), (29, (.bool (decide ((d.left : Int) < ((d.pending.length : Nat) : Int))))), (6, (.pointer (some ⟨xg128, 0, none⟩)))] a' ∧ Ext w26 W ∧ Blk W xg128 25 [(.slice (some ⟨xg114, 0, none⟩) d.sectors.length xc115), (.slice none 0 0), (.int .i64 d.left), (.bool false)] ∧ w26.heap.size ≤ xg128 ∧ W.ownsRow (w.heap.size + 2) 35 1 (.slice (some ⟨xg114, 0, none⟩) d.sectors.length xc115) d.sectors.length xs ∧ (w.heap.size + 2) ≤ xg114 ∧ xg114 ≠ g2 ∧ xg114 ≠ g10 ∧ xg114 ≠ xg128) ?_ ?_
      · skip
        have hx89 : ∃ W, w26.drew = W ∧ Ext w26 W := ⟨_, rfl, (Ext.refl _).drew⟩
        obtain ⟨w88, e90, hx89⟩ := hx89
        have z91 := hx89.size
        refine any_start (fun W => Ext w88 W ∧ Blk W g2 25 [(.slice A d.sectors.length c), (.slice B d.pending.length e), (.int .i64 d.left), (.bool d.stopped)]) (fun i => i == 8) 9 #[false, false, false, false, false, false, false, false, false] rfl rfl rfl ?_
        rw [e90]; clear e90
        refine qp 1 (.pointer (some ⟨g2, 0, none⟩)) F87 rfl rfl (fun W => (rn_field Try.underlying25 rfl (by kernel_rfl) (F87.get rfl) rfl)) fun _ F93 => ?_; clear F87
        have b95 := (b38.ext hx89)
        have hS94 : Ext w88 w88 ∧ Blk w88 g2 25 [(.slice A d.sectors.length c), (.slice B d.pending.length e), (.int .i64 d.left), (.bool d.stopped)] := ⟨(Ext.refl w88), b95⟩
        refine qs 2 (.slice A d.sectors.length c) F93 rfl rfl hS94 (fun W hW => (rn_load (isAgg_no Try.underlying22 rfl) (F93.get rfl) (hW.2.rule.1 0))) fun _ F97 => ?_; clear F93
        refine qp 4 (.pointer (some ⟨g2, 2, none⟩)) F97 rfl rfl (fun W => (rn_field Try.underlying25 rfl (by kernel_rfl) (F97.get rfl) rfl)) fun _ F99 => ?_; clear F97
        refine qs 5 (.int .i64 d.left) F99 rfl rfl hS94 (fun W hW => (rn_load (isAgg_no Try.underlying3 rfl) (F99.get rfl) (hW.2.rule.1 2))) fun _ F101 => ?_; clear F99
        refine any_two (i := 0) (k := 7) (by decide +kernel) rfl rfl ?_ ?_
        · skip
          refine o_new (fun g => (.slice (some ⟨g, 0, none⟩) 0 0)) [] 35 F101 rfl rfl rfl rfl (rn_buildSlice (parts0 ) (by kernel_rfl)) ?_
          intro g102 w103 a108 F109 z106 z107 b104 hx105; clear F101
          have b110 := (b95.ext hx105)
          refine ⟨fun _ _ => ⟨((Ext.refl w88).trans hx105), b110⟩, ?_⟩
          refine any_two (i := 3) (k := 7) (by decide +kernel) rfl rfl ?_ ?_
          · skip
            refine o_appE (n := 0) (xs := []) (ys := xs) (base := (w.heap.size + 2)) elBss F109 rfl rfl rfl rfl rfl (F109.get rfl) (F109.get rfl) (own_of_blk (n := 0) (cap := 0) (k := 1) (cur := []) b104 (Nat.le_refl _) (by omega) rfl (by omega : (w.heap.size + 2) ≤ g102)) (Cel.ext hcel ((((((Ext.refl w).trans hx5).trans hx13).trans hx27).trans hx89).trans hx105)) (by omega) (by omega) (by omega) ?_
            intro v118 w111 a116 F117 r112 hg113 ho123
            simp only [Nat.zero_add, List.nil_append] at r112
            obtain ⟨g114, c115, rfl, hz119, hz120, hz121, hz122⟩ := own_form r112 (by omega)
            clear F109
            have ho123 : g114 = g102 ∨ g114 = w103.heap.size := ho123.imp (fun h => Option.some.inj h) (fun h => Option.some.inj h)
            have hg113 : World.grownBy w103 w111 (some g102) := hg113
            have z124 := hg113.size
            have b125 := (b110.grownN hg113 (by omega))
            refine ⟨fun _ _ => ⟨(((Ext.refl w88).trans hx105).grownN hg113 (by omega)), b125⟩, ?_⟩
            refine qp 6 (.agg #[(.slice (some ⟨g114, 0, none⟩) d.sectors.length c115), (.slice none 0 0), (.int .i64 d.left), (.bool false)]) F117 rfl rfl (fun W => (rn_build (parts2 (F117.get rfl) (F117.get rfl)) (by kernel_rfl))) fun _ F127 => ?_; clear F117
            refine any_one (i := 7) (by decide +kernel) rfl ?_
            refine o_new (fun g => (.pointer (some ⟨g, 0, none⟩))) [(.slice none 0 0), (.slice none 0 0), (.int .i64 0), (.bool false)] 25 F127 rfl rfl rfl rfl (by kernel_rfl) ?_
            intro g128 w129 a134 F135 z132 z133 b130 hx131; clear F127
            have b136 := (b125.ext hx131)
            refine ⟨fun _ _ => ⟨((((Ext.refl w88).trans hx105).grownN hg113 (by omega)).trans hx131), b136⟩, ?_⟩
            refine any_one (i := 8) (by decide +kernel) rfl ?_
            refine o_store (cells := [(.slice (some ⟨g114, 0, none⟩) d.sectors.length c115), (.slice none 0 0), (.int .i64 d.left), (.bool false)]) F135 rfl rfl rfl rfl (F135.get rfl) (F135.get rfl) b130 inf25 rfl (by simp [Value.oneCell']) ?_
            intro w137 b138 hg139; have z140 := hg139.size
            refine ⟨fun h => absurd h (by decide), ?_⟩
            refine any_nil (by decide +kernel) ?_
            have r141 := (own_grownE (own_ext r112 hx131) hg139 (by omega))
            exact ⟨g128, g114, c115, (((((((((F135.nil.c F135 6 rfl).c F135 29 rfl).c F135 5 rfl).c F135 4 rfl).c F135 15 rfl).c F135 3 rfl).c F135 2 rfl).c F135 1 rfl).c F135 0 rfl), ((((((Ext.refl w26).trans hx89).trans hx105).grownN hg113 (by omega)).trans hx131).grownN hg139 (by omega)), b138, (by omega), r141, (by omega), (by omega), (by omega), (by omega)⟩
          · skip
            refine o_new (fun g => (.pointer (some ⟨g, 0, none⟩))) [(.slice none 0 0), (.slice none 0 0), (.int .i64 0), (.bool false)] 25 F109 rfl rfl rfl rfl (by kernel_rfl) ?_
            intro g141 w142 a147 F148 z145 z146 b143 hx144; clear F109
            have b149 := (b110.ext hx144)
            refine ⟨fun _ _ => ⟨(((Ext.refl w88).trans hx105).trans hx144), b149⟩, ?_⟩
            refine any_one (i := 3) (by decide +kernel) rfl ?_
            have b155 := (b104.ext hx144)
            refine o_appE (n := 0) (xs := []) (ys := xs) (base := (w.heap.size + 2)) elBss F148 rfl rfl rfl rfl rfl (F148.get rfl) (F148.get rfl) (own_of_blk (n := 0) (cap := 0) (k := 1) (cur := []) b155 (Nat.le_refl _) (by omega) rfl (by omega : (w.heap.size + 2) ≤ g102)) (Cel.ext hcel (((((((Ext.refl w).trans hx5).trans hx13).trans hx27).trans hx89).trans hx105).trans hx144)) (by omega) (by omega) (by omega) ?_
            intro v158 w150 a156 F157 r151 hg152 ho163
            simp only [Nat.zero_add, List.nil_append] at r151
            obtain ⟨g153, c154, rfl, hz159, hz160, hz161, hz162⟩ := own_form r151 (by omega)
            clear F148
            have ho163 : g153 = g102 ∨ g153 = w142.heap.size := ho163.imp (fun h => Option.some.inj h) (fun h => Option.some.inj h)
            have hg152 : World.grownBy w142 w150 (some g102) := hg152
            have z164 := hg152.size
            have b165 := (b149.grownN hg152 (by omega))
            refine ⟨fun _ _ => ⟨((((Ext.refl w88).trans hx105).trans hx144).grownN hg152 (by omega)), b165⟩, ?_⟩
            refine qp 6 (.agg #[(.slice (some ⟨g153, 0, none⟩) d.sectors.length c154), (.slice none 0 0), (.int .i64 d.left), (.bool false)]) F157 rfl rfl (fun W => (rn_build (parts2 (F157.get rfl) (F157.get rfl)) (by kernel_rfl))) fun _ F167 => ?_; clear F157
            refine any_one (i := 8) (by decide +kernel) rfl ?_
            have b171 := (b143.grownN hg152 (by omega))
            refine o_store (cells := [(.slice (some ⟨g153, 0, none⟩) d.sectors.length c154), (.slice none 0 0), (.int .i64 d.left), (.bool false)]) F167 rfl rfl rfl rfl (F167.get rfl) (F167.get rfl) b171 inf25 rfl (by simp [Value.oneCell']) ?_
            intro w168 b169 hg170; have z172 := hg170.size
            refine ⟨fun h => absurd h (by decide), ?_⟩
            refine any_nil (by decide +kernel) ?_
            have r173 := (own_grownE r151 hg170 (by omega))
            exact ⟨g141, g153, c154, (((((((((F167.nil.c F167 6 rfl).c F167 29 rfl).c F167 5 rfl).c F167 4 rfl).c F167 15 rfl).c F167 3 rfl).c F167 2 rfl).c F167 1 rfl).c F167 0 rfl), ((((((Ext.refl w26).trans hx89).trans hx105).trans hx144).grownN hg152 (by omega)).grownN hg170 (by omega)), b169, (by omega), r173, (by omega), (by omega), (by omega), (by omega)⟩
        · skip
          refine o_new (fun g => (.pointer (some ⟨g, 0, none⟩))) [(.slice none 0 0), (.slice none 0 0), (.int .i64 0), (.bool false)] 25 F101 rfl rfl rfl rfl (by kernel_rfl) ?_
          intro g173 w174 a179 F180 z177 z178 b175 hx176; clear F101
          have b181 := (b95.ext hx176)
          refine ⟨fun _ _ => ⟨((Ext.refl w88).trans hx176), b181⟩, ?_⟩
          refine any_one (i := 0) (by decide +kernel) rfl ?_
          refine o_new (fun g => (.slice (some ⟨g, 0, none⟩) 0 0)) [] 35 F180 rfl rfl rfl rfl (rn_buildSlice (parts0 ) (by kernel_rfl)) ?_
          intro g182 w183 a188 F189 z186 z187 b184 hx185; clear F180
          have b190 := (b181.ext hx185)
          refine ⟨fun _ _ => ⟨(((Ext.refl w88).trans hx176).trans hx185), b190⟩, ?_⟩
          refine any_one (i := 3) (by decide +kernel) rfl ?_
          refine o_appE (n := 0) (xs := []) (ys := xs) (base := (w.heap.size + 2)) elBss F189 rfl rfl rfl rfl rfl (F189.get rfl) (F189.get rfl) (own_of_blk (n := 0) (cap := 0) (k := 1) (cur := []) b184 (Nat.le_refl _) (by omega) rfl (by omega : (w.heap.size + 2) ≤ g182)) (Cel.ext hcel (((((((Ext.refl w).trans hx5).trans hx13).trans hx27).trans hx89).trans hx176).trans hx185)) (by omega) (by omega) (by omega) ?_
          intro v198 w191 a196 F197 r192 hg193 ho203
          simp only [Nat.zero_add, List.nil_append] at r192
          obtain ⟨g194, c195, rfl, hz199, hz200, hz201, hz202⟩ := own_form r192 (by omega)
          clear F189
          have ho203 : g194 = g182 ∨ g194 = w183.heap.size := ho203.imp (fun h => Option.some.inj h) (fun h => Option.some.inj h)
          have hg193 : World.grownBy w183 w191 (some g182) := hg193
          have z204 := hg193.size
          have b205 := (b190.grownN hg193 (by omega))
          refine ⟨fun _ _ => ⟨((((Ext.refl w88).trans hx176).trans hx185).grownN hg193 (by omega)), b205⟩, ?_⟩
          refine qp 6 (.agg #[(.slice (some ⟨g194, 0, none⟩) d.sectors.length c195), (.slice none 0 0), (.int .i64 d.left), (.bool false)]) F197 rfl rfl (fun W => (rn_build (parts2 (F197.get rfl) (F197.get rfl)) (by kernel_rfl))) fun _ F207 => ?_; clear F197
          refine any_one (i := 8) (by decide +kernel) rfl ?_
          have b211 := ((b175.ext hx185).grownN hg193 (by omega))
          refine o_store (cells := [(.slice (some ⟨g194, 0, none⟩) d.sectors.length c195), (.slice none 0 0), (.int .i64 d.left), (.bool false)]) F207 rfl rfl rfl rfl (F207.get rfl) (F207.get rfl) b211 inf25 rfl (by simp [Value.oneCell']) ?_
          intro w208 b209 hg210; have z212 := hg210.size
          refine ⟨fun h => absurd h (by decide), ?_⟩
          refine any_nil (by decide +kernel) ?_
          have r213 := (own_grownE r192 hg210 (by omega))
          exact ⟨g173, g194, c195, (((((((((F207.nil.c F207 6 rfl).c F207 29 rfl).c F207 5 rfl).c F207 4 rfl).c F207 15 rfl).c F207 3 rfl).c F207 2 rfl).c F207 1 rfl).c F207 0 rfl), ((((((Ext.refl w26).trans hx89).trans hx176).trans hx185).grownN hg193 (by omega)).grownN hg210 (by omega)), b209, (by omega), r213, (by omega), (by omega), (by omega), (by omega)⟩
      · rintro a214 w215 ⟨xg128, xg114, xc115, F216, hx217, b218, z224, f219, f220, f221, f222, f223⟩
        have z225 := hx217.size
        clear F87
        have z226 := b218.lt
        refine wp_seq_k (fun K227 hK227 => ?_)
        refine wp_seq_k (fun K228 hK228 => ?_)
        refine wp_region_lit ?_
        refine qv 0 (.int .i64 0) F216 rfl (rn_assign rfl) fun _ F230 => ?_; clear F216
        refine wpList_nil ?_
        refine hK228 _ _ ?_
        clear hK228
        refine wp_block ?_
        have b231 := (b38.ext hx217)
        have b232 := ((b12.ext hx27).ext hx217)
        refine wp_loop (fun a' W => ∃ (k : Nat) (vs : List Value), Sl 95 [(0, (.agg #[(.slice A d.sectors.length c), (.slice B d.pending.length e), (.int .i64 d.left), (.bool d.stopped)])), (1, (.pointer (some ⟨g2, 0, none⟩))), (2, (.pointer (some ⟨g10, 0, none⟩))), (3, (.int .i64 0)), (15, (.bool d.stopped)), (4, (.int .i64 d.left)), (5, (.bool (decide ((d.left : Int) < ((d.pending.length : Nat) : Int))))), (29, (.bool (decide ((d.left : Int) < ((d.pending.length : Nat) : Int))))), (6, (.pointer (some ⟨xg128, 0, none⟩))), (7, (.int .i64 (k : Nat)))] a' ∧ (k : Int) ≤ d.left ∧ k ≤ d.pending.length ∧ Ext w W ∧ Blk W g2 25 [(.slice A d.sectors.length c), (.slice B d.pending.length e), (.int .i64 d.left), (.bool d.stopped)] ∧ Blk W g10 25 [(.slice none 0 0), (.slice none 0 0), (.int .i64 0), (.bool false)] ∧ Blk W xg128 25 [(.slice (some ⟨xg114, 0, none⟩) d.sectors.length xc115), (.slice none 0 0), (.int .i64 d.left), (.bool false)] ∧ W.ownsRow (w.heap.size + 2) 35 1 (.slice (some ⟨xg114, 0, none⟩) d.sectors.length xc115) d.sectors.length vs ∧ ∀ i (h : i < (performL d.sectors (d.pending.take k)).length) (h' : i < vs.length), RBs S w vs[i] (performL d.sectors (d.pending.take k))[i]) (fun a' _ => (d.left : Int).toNat - (intOf (a'.eval (.tmp 7))).toNat) ⟨0, xs, ((((((((((F230.nil.cons (q_get F230 (t := 7) rfl (by first | rfl | (congr 1; omega)))).cons (q_get F230 (t := 6) rfl rfl)).cons (q_get F230 (t := 29) rfl rfl)).cons (q_get F230 (t := 5) rfl rfl)).cons (q_get F230 (t := 4) rfl rfl)).cons (q_get F230 (t := 15) rfl rfl)).cons (q_get F230 (t := 3) rfl rfl)).cons (q_get F230 (t := 2) rfl rfl)).cons (q_get F230 (t := 1) rfl rfl)).cons (q_get F230 (t := 0) rfl rfl)), (by omega), (by omega), (((((Ext.refl w).trans hx5).trans hx13).trans hx27).trans hx217), b231, b232, b218, f219, hrs⟩ ?_
        clear F230
        rintro a233 w234 ⟨k, vs, F235, hp237, hp238, hx236, b239, b240, b241, r242, hf243⟩
        have hL244 := F235
        have z245 := hx236.size
        have z246 := b239.lt
        have z247 := b240.lt
        have z248 := b241.lt
        have z249 := own_lt r242
        refine wp_seq_k (fun K250 hK250 => ?_)
        refine wp_seq_k (fun K251 hK251 => ?_)
        refine wp_region_lit ?_
        refine qv 0 (.int .i64 (k : Nat)) F235 rfl (rn_move (F235.get rfl)) fun _ F253 => ?_; clear F235
        refine qv 1 (.int .i64 d.left) F253 rfl (rn_move (F253.get rfl)) fun _ F255 => ?_; clear F253
        refine qv 2 (.bool (decide (((k : Nat) : Int) < (d.left : Int)))) F255 rfl (rn_lss (F255.get rfl) (F255.get rfl)) fun _ F257 => ?_; clear F255
        refine wpList_nil ?_
        refine hK251 _ _ ?_
        clear hK251
        by_cases hc258 : ((k : Nat) : Int) < (d.left : Int)
        · skip
          refine wp_cond_true (c_true F257 rfl (decide_eq_true hc258)) ?_
          refine wp_skip ?_
          refine hK250 _ _ ?_
          clear hK250
          refine wp_seq_k (fun K259 hK259 => ?_)
          refine wp_block ?_
          have hx261 : ∃ W, w234.drew = W ∧ Ext w234 W := ⟨_, rfl, (Ext.refl _).drew⟩
          obtain ⟨w260, e262, hx261⟩ := hx261
          have z263 := hx261.size
          refine any_start (fun W => Ext w260 W ∧ Blk W xg128 25 [(.slice (some ⟨xg114, 0, none⟩) d.sectors.length xc115), (.slice none 0 0), (.int .i64 d.left), (.bool false)] ∧ Blk W g2 25 [(.slice A d.sectors.length c), (.slice B d.pending.length e), (.int .i64 d.left), (.bool d.stopped)]) (fun i => i == 15) 16 #[false, false, false, false, false, false, false, false, false, false, false, false, false, false, false, false] rfl rfl rfl ?_
          rw [e262]; clear e262
          refine qp 0 (.pointer (some ⟨xg128, 0, none⟩)) F257 rfl rfl (fun W => (rn_field Try.underlying25 rfl (by kernel_rfl) (F257.get rfl) rfl)) fun _ F265 => ?_; clear F257
          have b267 := (b241.ext hx261)
          have b268 := (b239.ext hx261)
          have hS266 : Ext w260 w260 ∧ Blk w260 xg128 25 [(.slice (some ⟨xg114, 0, none⟩) d.sectors.length xc115), (.slice none 0 0), (.int .i64 d.left), (.bool false)] ∧ Blk w260 g2 25 [(.slice A d.sectors.length c), (.slice B d.pending.length e), (.int .i64 d.left), (.bool d.stopped)] := ⟨(Ext.refl w260), b267, b268⟩
          refine qs 1 (.slice (some ⟨xg114, 0, none⟩) d.sectors.length xc115) F265 rfl rfl hS266 (fun W hW => (rn_load (isAgg_no Try.underlying22 rfl) (F265.get rfl) (hW.2.1.rule.1 0))) fun _ F270 => ?_; clear F265
          refine qp 2 (.pointer (some ⟨g2, 1, none⟩)) F270 rfl rfl (fun W => (rn_field Try.underlying25 rfl (by kernel_rfl) (F270.get rfl) rfl)) fun _ F272 => ?_; clear F270
          refine qs 3 (.slice B d.pending.length e) F272 rfl rfl hS266 (fun W hW => (rn_load (isAgg_no Try.underlying23 rfl) (F272.get rfl) (hW.2.2.rule.1 1))) fun _ F274 => ?_; clear F272
          refine qp 4 (.int .i64 (k : Nat)) F274 rfl rfl (fun W => (rn_move (F274.get rfl))) fun _ F276 => ?_; clear F274
          obtain ⟨x277, hi278, hm290⟩ := get_of_lt d.pending k (by omega)
          obtain ⟨hp291, hp292, hp293⟩ := f7 x277 hm290
          obtain ⟨b279, o280, A281, c282, hA283, hl284, hc287, hc285, hr286, le288, le289⟩ := RWs.get (RDk.len hd).2.1 hi278
          refine qp 5 (.pointer (some ⟨b279, o280 + k * 2, none⟩)) F276 rfl rfl (fun W => (rn_index Try.underlying23 inf76 ((F276.get rfl).trans (by rw [hA283])) (F276.get rfl) (by omega : (0 : Int) ≤ (k : Nat)) (by omega : ((k : Nat) : Int) < ((d.pending.length : Nat) : Int)))) fun _ F295 => ?_; clear F276
          refine qp 6 (.pointer (some ⟨b279, o280 + k * 2, none⟩)) F295 rfl rfl (fun W => (rn_field Try.underlying76 rfl (by kernel_rfl) (F295.get rfl) rfl)) fun _ F297 => ?_; clear F295
          refine qs 7 (.int .i64 x277.1) F297 rfl rfl hS266 (fun W hW => (rn_load (isAgg_no Try.underlying3 rfl) (F297.get rfl) (Ext.keep ((((Ext.refl w).trans hx236).trans hx261).trans hW.1) hc287))) fun _ F299 => ?_; clear F297
          refine qp 8 (.pointer (some ⟨g2, 1, none⟩)) F299 rfl rfl (fun W => (rn_field Try.underlying25 rfl (by kernel_rfl) (F299.get rfl) rfl)) fun _ F301 => ?_; clear F299
          refine qs 9 (.slice B d.pending.length e) F301 rfl rfl hS266 (fun W hW => (rn_load (isAgg_no Try.underlying23 rfl) (F301.get rfl) (hW.2.2.rule.1 1))) fun _ F303 => ?_; clear F301
          refine qp 10 (.int .i64 (k : Nat)) F303 rfl rfl (fun W => (rn_move (F303.get rfl))) fun _ F305 => ?_; clear F303
          refine qp 11 (.pointer (some ⟨b279, o280 + k * 2, none⟩)) F305 rfl rfl (fun W => (rn_index Try.underlying23 inf76 ((F305.get rfl).trans (by rw [hA283])) (F305.get rfl) (by omega : (0 : Int) ≤ (k : Nat)) (by omega : ((k : Nat) : Int) < ((d.pending.length : Nat) : Int)))) fun _ F307 => ?_; clear F305
          refine qp 12 (.pointer (some ⟨b279, o280 + k * 2 + 1, none⟩)) F307 rfl rfl (fun W => (rn_field Try.underlying76 rfl (by kernel_rfl) (F307.get rfl) rfl)) fun _ F309 => ?_; clear F307
          refine qs 13 (.slice A281 x277.2.length c282) F309 rfl rfl hS266 (fun W hW => (rn_load (isAgg_no Try.underlying35 rfl) (F309.get rfl) (Ext.keep ((((Ext.refl w).trans hx236).trans hx261).trans hW.1) hc285))) fun _ F311 => ?_; clear F309
          refine qp 14 (.pointer (some ⟨xg114, 0 + (x277.1 : Int).toNat, none⟩)) F311 rfl rfl (fun W => (rn_index1 Try.underlying22 inf35 (F311.get rfl) (F311.get rfl) (by omega : (0 : Int) ≤ x277.1) (by omega : (x277.1 : Int) < ((d.sectors.length : Nat) : Int)))) fun _ F313 => ?_; clear F311
          refine any_one (i := 15) (by decide +kernel) rfl ?_
          have r314 := (own_ext r242 hx261)
          refine o_storeRow F313 rfl rfl rfl rfl (F313.get rfl) (F313.get rfl) r314 inf35 (by omega) rfl ?_
          intro w315 r316 hg317; have z318 := hg317.size
          refine ⟨fun h => absurd h (by decide), ?_⟩
          refine any_nil (by decide +kernel) ?_
          refine hK259 _ _ ?_
          clear hK259
          have F319 := (((((((((((F313.nil.c F313 41 rfl).c F313 7 rfl).c F313 6 rfl).c F313 29 rfl).c F313 5 rfl).c F313 4 rfl).c F313 15 rfl).c F313 3 rfl).c F313 2 rfl).c F313 1 rfl).c F313 0 rfl)
          clear F313
          refine wp_region_lit ?_
          refine qv 0 (.int .i64 (k : Nat)) F319 rfl (rn_move (F319.get rfl)) fun _ F321 => ?_; clear F319
          refine qv 1 (.int .i64 ((k : Nat) + 1)) F321 rfl (rn_add (F321.get rfl) rfl (by omega) (by omega)) fun _ F323 => ?_; clear F321
          refine qv 2 (.int .i64 ((k : Nat) + 1)) F323 rfl (rn_assign (F323.get rfl)) fun _ F325 => ?_; clear F323
          refine wpList_nil ?_
          have b326 := (b268.grownN hg317 (by omega))
          have b327 := ((b240.ext hx261).grownN hg317 (by omega))
          have b328 := (b267.grownN hg317 (by omega))
          refine ⟨⟨k + 1, (vs.set (0 + (x277.1 : Int).toNat) (.slice A281 x277.2.length c282)), ((((((((((F325.nil.cons (q_get F325 (t := 7) rfl (by first | rfl | (congr 1; omega)))).cons (q_get F325 (t := 6) rfl rfl)).cons (q_get F325 (t := 29) rfl rfl)).cons (q_get F325 (t := 5) rfl rfl)).cons (q_get F325 (t := 4) rfl rfl)).cons (q_get F325 (t := 15) rfl rfl)).cons (q_get F325 (t := 3) rfl rfl)).cons (q_get F325 (t := 2) rfl rfl)).cons (q_get F325 (t := 1) rfl rfl)).cons (q_get F325 (t := 0) rfl rfl)), (by omega), (by omega), ((((Ext.refl w).trans hx236).trans hx261).grownN hg317 (by omega)), b326, b327, b328, r316, (perf_next hi278 hr286 rfl hf243)⟩, ?_⟩
          rw [F325.get (t := 7) rfl, hL244.get (t := 7) rfl]; simp [intOf]; omega
        · skip
          refine wp_cond_false (c_false F257 rfl (decide_eq_false hc258)) ?_
          refine wp_exit ?_
          refine exit_then ?_
          refine exit_then ?_
          refine exit_here ?_
          refine hK227 _ _ ?_
          clear hK227
          refine wp_seq_k (fun K329 hK329 => ?_)
          refine wp_seq_k (fun K330 hK330 => ?_)
          refine wp_region_lit ?_
          refine qv 0 (.bool (decide ((d.left : Int) < ((d.pending.length : Nat) : Int)))) F257 rfl (rn_move (F257.get rfl)) fun _ F332 => ?_; clear F257
          refine wpList_nil ?_
          refine hK330 _ _ ?_
          clear hK330
          refine wp_cond_true (c_true F332 rfl (decide_eq_true hc81)) ?_
          refine wp_seq_k (fun K333 hK333 => ?_)
          refine wp_region_lit ?_
          refine qv 0 (.pointer (some ⟨g2, 1, none⟩)) F332 rfl (rn_field Try.underlying25 rfl (by kernel_rfl) (F332.get rfl) rfl) fun _ F335 => ?_; clear F332
          refine qv 1 (.slice B d.pending.length e) F335 rfl (rn_load (isAgg_no Try.underlying23 rfl) (F335.get rfl) (b239.rule.1 1)) fun _ F337 => ?_; clear F335
          refine qv 2 (.int .i64 d.left) F337 rfl (rn_move (F337.get rfl)) fun _ F339 => ?_; clear F337
          obtain ⟨x340, hi341, hm353⟩ := get_of_lt d.pending (d.left : Int).toNat (by omega)
          obtain ⟨hp354, hp355, hp356⟩ := f7 x340 hm353
          obtain ⟨b342, o343, A344, c345, hA346, hl347, hc350, hc348, hr349, le351, le352⟩ := RWs.get (RDk.len hd).2.1 hi341
          refine qv 3 (.pointer (some ⟨b342, o343 + (d.left : Int).toNat * 2, none⟩)) F339 rfl (rn_index Try.underlying23 inf76 ((F339.get rfl).trans (by rw [hA346])) (F339.get rfl) (by omega : (0 : Int) ≤ d.left) (by omega : (d.left : Int) < ((d.pending.length : Nat) : Int))) fun _ F358 => ?_; clear F339
          refine qv 4 (.agg #[(.int .i64 x340.1), (.slice A344 x340.2.length c345)]) F358 rfl (rn_load2 (F358.get rfl) Try.underlying76 rfl inf76 (Ext.keep ((Ext.refl w).trans hx236) hc350) (Ext.keep ((Ext.refl w).trans hx236) hc348)) fun _ F360 => ?_; clear F358
          refine wpl_op (i := 5) rfl (o_new (fun g => (.pointer (some ⟨g, 0, none⟩))) [(.int .i64 0), (.slice none 0 0)] 76 F360 rfl rfl rfl rfl (by kernel_rfl) ?_)
          intro g361 w362 a367 F368 z365 z366 b363 hx364; clear F360
          refine wpl_op (i := 6) rfl (o_store (cells := [(.int .i64 x340.1), (.slice A344 x340.2.length c345)]) F368 rfl rfl rfl rfl (F368.get rfl) (F368.get rfl) b363 inf76 rfl (by simp [Value.oneCell']) ?_)
          intro w369 b370 hg371; have z372 := hg371.size
          refine wpList_nil ?_
          refine hK333 _ _ ?_
          clear hK333
          have F373 := (((((((((((((F368.nil.c F368 8 rfl).c F368 59 rfl).c F368 41 rfl).c F368 7 rfl).c F368 6 rfl).c F368 29 rfl).c F368 5 rfl).c F368 4 rfl).c F368 15 rfl).c F368 3 rfl).c F368 2 rfl).c F368 1 rfl).c F368 0 rfl)
          clear F368
          refine wp_seq_k (fun K374 hK374 => ?_)
          have hx376 : ∃ W, w369.drew = W ∧ Ext w369 W := ⟨_, rfl, (Ext.refl _).drew⟩
          obtain ⟨w375, e377, hx376⟩ := hx376
          have z378 := hx376.size
          have hvl : vs.length = (performL d.sectors (d.pending.take k)).length := by rw [performL_length]; have := r242.1; omega
          obtain ⟨Ao, co, old, hold, hvj, hro, leo, leo2⟩ := row_elem hf243 hvl (j := 0 + (x340.1 : Int).toNat) (by rw [performL_length]; omega)
          have hol : old.length = 128 := perform_len _ _ f8 (fun y hy => (f7 y (List.mem_of_mem_take hy)).2.2) _ (List.mem_of_getElem? hold)
          refine any_start (fun W => Ext w375 W ∧ Blk W xg128 25 [(.slice (some ⟨xg114, 0, none⟩) d.sectors.length xc115), (.slice none 0 0), (.int .i64 d.left), (.bool false)] ∧ Blk W g361 76 [(.int .i64 x340.1), (.slice A344 x340.2.length c345)] ∧ W.cell? ⟨xg114, 0 + (x340.1 : Int).toNat, none⟩ = some (.slice Ao old.length co)) (fun i => i == 18) 19 #[false, false, false, false, false, false, false, false, false, false, false, false, false, false, false, false, false, false, false] rfl rfl rfl ?_
          rw [e377]; clear e377
          refine qp 0 (.pointer (some ⟨xg128, 0, none⟩)) F373 rfl rfl (fun W => (rn_field Try.underlying25 rfl (by kernel_rfl) (F373.get rfl) rfl)) fun _ F380 => ?_; clear F373
          have b382 := (((b241.ext hx364).grownN hg371 (by omega)).ext hx376)
          have b383 := (b370.ext hx376)
          have r384 := (own_ext (own_grownE (own_ext r242 hx364) hg371 (by omega)) hx376)
          have hS381 : Ext w375 w375 ∧ Blk w375 xg128 25 [(.slice (some ⟨xg114, 0, none⟩) d.sectors.length xc115), (.slice none 0 0), (.int .i64 d.left), (.bool false)] ∧ Blk w375 g361 76 [(.int .i64 x340.1), (.slice A344 x340.2.length c345)] ∧ w375.cell? ⟨xg114, 0 + (x340.1 : Int).toNat, none⟩ = some (.slice Ao old.length co) := ⟨(Ext.refl w375), b382, b383, ((World.ownsRow.cellAt r384 (0 + (x340.1 : Int).toNat) (by omega)).trans hvj)⟩
          refine qs 1 (.slice (some ⟨xg114, 0, none⟩) d.sectors.length xc115) F380 rfl rfl hS381 (fun W hW => (rn_load (isAgg_no Try.underlying22 rfl) (F380.get rfl) (hW.2.1.rule.1 0))) fun _ F386 => ?_; clear F380
          refine qp 2 (.pointer (some ⟨g361, 0, none⟩)) F386 rfl rfl (fun W => (rn_field Try.underlying76 rfl (by kernel_rfl) (F386.get rfl) rfl)) fun _ F388 => ?_; clear F386
          refine qs 3 (.int .i64 x340.1) F388 rfl rfl hS381 (fun W hW => (rn_load (isAgg_no Try.underlying3 rfl) (F388.get rfl) (hW.2.2.1.rule.1 0))) fun _ F390 => ?_; clear F388
          refine qp 5 (.pointer (some ⟨g361, 1, none⟩)) F390 rfl rfl (fun W => (rn_field Try.underlying76 rfl (by kernel_rfl) (F390.get rfl) rfl)) fun _ F392 => ?_; clear F390
          refine qs 6 (.slice A344 x340.2.length c345) F392 rfl rfl hS381 (fun W hW => (rn_load (isAgg_no Try.underlying35 rfl) (F392.get rfl) (hW.2.2.1.rule.1 1))) fun _ F394 => ?_; clear F392
          refine qp 7 (.slice A344 64 c345) F394 rfl rfl (fun W => (rn_sliceHi Try.underlying35 inf5 (F394.get rfl) rfl (by omega : (0 : Int) ≤ 64) (by omega : (64 : Int) ≤ ((c345 : Nat) : Int)))) fun _ F396 => ?_; clear F394
          refine qp 9 (.pointer (some ⟨xg128, 0, none⟩)) F396 rfl rfl (fun W => (rn_field Try.underlying25 rfl (by kernel_rfl) (F396.get rfl) rfl)) fun _ F398 => ?_; clear F396
          refine qs 10 (.slice (some ⟨xg114, 0, none⟩) d.sectors.length xc115) F398 rfl rfl hS381 (fun W hW => (rn_load (isAgg_no Try.underlying22 rfl) (F398.get rfl) (hW.2.1.rule.1 0))) fun _ F400 => ?_; clear F398
          refine qp 11 (.pointer (some ⟨g361, 0, none⟩)) F400 rfl rfl (fun W => (rn_field Try.underlying76 rfl (by kernel_rfl) (F400.get rfl) rfl)) fun _ F402 => ?_; clear F400
          refine qs 12 (.int .i64 x340.1) F402 rfl rfl hS381 (fun W hW => (rn_load (isAgg_no Try.underlying3 rfl) (F402.get rfl) (hW.2.2.1.rule.1 0))) fun _ F404 => ?_; clear F402
          refine qp 13 (.pointer (some ⟨xg114, 0 + (x340.1 : Int).toNat, none⟩)) F404 rfl rfl (fun W => (rn_index1 Try.underlying22 inf35 (F404.get rfl) (F404.get rfl) (by omega : (0 : Int) ≤ x340.1) (by omega : (x340.1 : Int) < ((d.sectors.length : Nat) : Int)))) fun _ F406 => ?_; clear F404
          refine qs 14 (.slice Ao old.length co) F406 rfl rfl hS381 (fun W hW => (rn_load (isAgg_no Try.underlying35 rfl) (F406.get rfl) hW.2.2.2)) fun _ F408 => ?_; clear F406
          obtain ⟨b409, o410, hA411⟩ := RBs.addr hro (by omega)
          refine qp 15 (.slice (some ⟨b409, o410 + 64 * 1, none⟩) (old.length - 64) (co - 64)) F408 rfl rfl (fun W => (rn_sliceLo (l := 64) Try.underlying35 inf5 ((F408.get rfl).trans (by rw [hA411])) rfl (by omega : 64 ≤ old.length) (by omega : 64 < co))) fun _ F413 => ?_; clear F408
          refine any_one (i := 4) (by decide +kernel) rfl ?_
          refine o_new (fun g => (.slice (some ⟨g, 0, none⟩) 0 0)) [] 5 F413 rfl rfl rfl rfl (rn_buildSlice (parts0 ) (by kernel_rfl)) ?_
          intro g414 w415 a420 F421 z418 z419 b416 hx417; clear F413
          have b422 := (b382.ext hx417)
          have b423 := (b383.ext hx417)
          have r424 := (own_ext r384 hx417)
          refine ⟨fun _ _ => ⟨((Ext.refl w375).trans hx417), b422, b423, ((World.ownsRow.cellAt r424 (0 + (x340.1 : Int).toNat) (by omega)).trans hvj)⟩, ?_⟩
          refine any_one (i := 8) (by decide +kernel) rfl ?_
          refine o_appE (n := 0) (xs := []) (ys := (byteVals (x340.2.take 64))) (base := (w.heap.size + 2)) elBytes F421 rfl rfl rfl rfl rfl (F421.get rfl) (F421.get rfl) (own_of_blk (n := 0) (cap := 0) (k := 1) (cur := []) b416 (Nat.le_refl _) (by omega) rfl (by omega : (w.heap.size + 2) ≤ g414)) (Cel.ext (RBs.takeCel hr349 (by omega)) ((((((Ext.refl w).trans hx236).trans hx364).grownN hg371 (by omega)).trans hx376).trans hx417)) (by omega) (by omega) (by omega) ?_
          intro v432 w425 a430 F431 r426 hg427 ho437
          simp only [Nat.zero_add, List.nil_append] at r426
          obtain ⟨g428, c429, rfl, hz433, hz434, hz435, hz436⟩ := own_form r426 (by omega)
          clear F421
          have ho437 : g428 = g414 ∨ g428 = w415.heap.size := ho437.imp (fun h => Option.some.inj h) (fun h => Option.some.inj h)
          have hg427 : World.grownBy w415 w425 (some g414) := hg427
          have z438 := hg427.size
          have b439 := (b422.grownN hg427 (by omega))
          have b440 := (b423.grownN hg427 (by omega))
          have r441 := (own_grownE r424 hg427 (by omega))
          refine ⟨fun _ _ => ⟨(((Ext.refl w375).trans hx417).grownN hg427 (by omega)), b439, b440, ((World.ownsRow.cellAt r441 (0 + (x340.1 : Int).toNat) (by omega)).trans hvj)⟩, ?_⟩
          refine any_one (i := 16) (by decide +kernel) rfl ?_
          refine o_appE (n := 64) (xs := (byteVals (x340.2.take 64))) (ys := (byteVals (old.drop 64))) (base := (w.heap.size + 2)) elBytes F431 rfl rfl rfl rfl rfl (F431.get rfl) (F431.get rfl) r426 (Cel.ext (RBs.dropCel (b := b409) (off := o410) (n := old.length) (hA411 ▸ hro) (by omega)) (((((((Ext.refl w).trans hx236).trans hx364).grownN hg371 (by omega)).trans hx376).trans hx417).grownN hg427 (by omega))) (by omega) (by omega) (by omega) ?_
          intro v449 w442 a447 F448 r443 hg444 ho454
          obtain ⟨g445, c446, rfl, hz450, hz451, hz452, hz453⟩ := own_form r443 (by omega)
          clear F431
          have ho454 : g445 = g428 ∨ g445 = w425.heap.size := ho454.imp (fun h => Option.some.inj h) (fun h => Option.some.inj h)
          have hg444 : World.grownBy w425 w442 (some g428) := hg444
          have z455 := hg444.size
          have b456 := (b439.grownN hg444 (by omega))
          have b457 := (b440.grownN hg444 (by omega))
          have r458 := (own_grownE r441 hg444 (by omega))
          refine ⟨fun _ _ => ⟨((((Ext.refl w375).trans hx417).grownN hg427 (by omega)).grownN hg444 (by omega)), b456, b457, ((World.ownsRow.cellAt r458 (0 + (x340.1 : Int).toNat) (by omega)).trans hvj)⟩, ?_⟩
          refine qp 17 (.pointer (some ⟨xg114, 0 + (x340.1 : Int).toNat, none⟩)) F448 rfl rfl (fun W => (rn_index1 Try.underlying22 inf35 (F448.get rfl) (F448.get rfl) (by omega : (0 : Int) ≤ x340.1) (by omega : (x340.1 : Int) < ((d.sectors.length : Nat) : Int)))) fun _ F460 => ?_; clear F448
          refine any_one (i := 18) (by decide +kernel) rfl ?_
          refine o_storeRow F460 rfl rfl rfl rfl (F460.get rfl) (F460.get rfl) r458 inf35 (by omega) rfl ?_
          intro w461 r462 hg463; have z464 := hg463.size
          refine ⟨fun h => absurd h (by decide), ?_⟩
          refine any_nil (by decide +kernel) ?_
          refine hK374 _ _ ?_
          clear hK374
          have F465 := (((((((((((((F460.nil.c F460 8 rfl).c F460 59 rfl).c F460 41 rfl).c F460 7 rfl).c F460 6 rfl).c F460 29 rfl).c F460 5 rfl).c F460 4 rfl).c F460 15 rfl).c F460 3 rfl).c F460 2 rfl).c F460 1 rfl).c F460 0 rfl)
          clear F460
          refine wp_seq_k (fun K466 hK466 => ?_)
          refine wp_region_lit ?_
          refine qv 0 (.pointer (some ⟨xg128, 2, none⟩)) F465 rfl (rn_field Try.underlying25 rfl (by kernel_rfl) (F465.get rfl) rfl) fun _ F468 => ?_; clear F465
          have b472 := (b456.grownN hg463 (by omega))
          refine wpl_op (i := 1) rfl (o_store1 (new := [(.slice (some ⟨xg114, 0, none⟩) d.sectors.length xc115), (.slice none 0 0), (.int .i64 0), (.bool false)]) F468 rfl rfl rfl rfl (F468.get rfl) rfl b472 inf3 (by simp) rfl rfl ?_)
          intro w469 b470 hg471; have z473 := hg471.size
          refine wpList_nil ?_
          refine hK466 _ _ ?_
          clear hK466
          refine wp_seq_k (fun K474 hK474 => ?_)
          refine wp_region_lit ?_
          refine qv 0 (.pointer (some ⟨xg128, 3, none⟩)) F468 rfl (rn_field Try.underlying25 rfl (by kernel_rfl) (F468.get rfl) rfl) fun _ F476 => ?_; clear F468
          refine wpl_op (i := 1) rfl (o_store1 (new := [(.slice (some ⟨xg114, 0, none⟩) d.sectors.length xc115), (.slice none 0 0), (.int .i64 0), (.bool true)]) F476 rfl rfl rfl rfl (F476.get rfl) rfl b470 inf4 (by simp) rfl rfl ?_)
          intro w477 b478 hg479; have z480 := hg479.size
          refine wpList_nil ?_
          refine hK474 _ _ ?_
          clear hK474
          refine wp_seq_k (fun K481 hK481 => ?_)
          refine wp_region_lit ?_
          refine qv 0 (.agg #[(.slice (some ⟨xg114, 0, none⟩) d.sectors.length xc115), (.slice none 0 0), (.int .i64 0), (.bool true)]) F476 rfl (rn_loadBlk (F476.get rfl) b478 Try.underlying25 rfl inf25) fun _ F483 => ?_; clear F476
          have b487 := (((((((((b240.ext hx364).grownN hg371 (by omega)).ext hx376).ext hx417).grownN hg427 (by omega)).grownN hg444 (by omega)).grownN hg463 (by omega)).grownN hg471 (by omega)).grownN hg479 (by omega))
          refine wpl_op (i := 1) rfl (o_store (cells := [(.slice (some ⟨xg114, 0, none⟩) d.sectors.length xc115), (.slice none 0 0), (.int .i64 0), (.bool true)]) F483 rfl rfl rfl rfl (F483.get rfl) (F483.get rfl) b487 inf25 rfl (by simp [Value.oneCell']) ?_)
          intro w484 b485 hg486; have z488 := hg486.size
          refine qv 2 (.int .i64 380) F483 rfl (rn_assign rfl) fun _ F490 => ?_; clear F483
          refine wpList_nil ?_
          refine hK481 _ _ ?_
          clear hK481
          refine wp_ret ?_
          refine retC1 F490 rfl rfl rfl b485 Try.underlying25 rfl inf25 ?_
          have r491 := (own_grownE (own_grownE (own_grownE r462 hg471 (by omega)) hg479 (by omega)) hg486 (by omega))
          have hkk : d.left.toNat = k := by omega
          have hgd : d.pending.getD d.left.toNat (0, []) = x340 := by rw [List.getD_eq_getElem?_getD, hi341]; rfl
          have hold0 := hold
          rw [Nat.zero_add] at hold0
          have r492 := (own_grownE (own_grownE (own_grownE (own_grownE r443 hg463 (by omega)) hg471 (by omega)) hg479 (by omega)) hg486 (by omega))
          exact rsync_fin (l := 0) (s := true) (n := 380) ((((((((((((Ext.refl w).trans hx236).trans hx364).grownN hg371 (by omega)).trans hx376).trans hx417).grownN hg427 (by omega)).grownN hg444 (by omega)).grownN hg463 (by omega)).grownN hg471 (by omega)).grownN hg479 (by omega)).grownN hg486 (by omega)) r491 (by omega) (rsync_torn ((((((((((((Ext.refl w).trans hx236).trans hx364).grownN hg371 (by omega)).trans hx376).trans hx417).grownN hg427 (by omega)).grownN hg444 (by omega)).grownN hg463 (by omega)).grownN hg471 (by omega)).grownN hg479 (by omega)).grownN hg486 (by omega)) hf243 r492 (by omega)) (by rw [List.length_set, performL_length]) (by unfold Dk.sync Dk.syncStop; rw [if_neg (by rw [h1]; simp), if_pos (by omega), hgd, hkk, List.getD_eq_getElem?_getD, hold0, Option.getD_some, Nat.zero_add])
    · skip
      refine wp_cond_false (c_false F80 rfl (decide_eq_false hc81)) ?_
      refine wp_skip ?_
      refine hK77 _ _ ?_
      clear hK77
      refine wp_meet (fun a' W => ∃ (xg533 : Nat) (xg519 : Nat) (xc520 : Nat), Sl 95 [(0, (.agg #[(.slice A d.sectors.length c), (.slice B d.pending.length e), (.int .i64 d.left), (.bool d.stopped)])), (1, (.pointer (some ⟨g2, 0, none⟩))), (2, (.pointer (some ⟨g10, 0, none⟩))), (3, (.int .i64 0)), (15, (.bool d.stopped)), (4, (.int .i64 (d.pending.length : Nat))), (5, (.bool (decide ((d.left : Int) < ((d.pending.length : Nat) : Int))))), (29, (.bool (decide ((d.left : Int) < ((d.pending.length : Nat) : Int))))), (6, (.pointer (some ⟨xg533, 0, none⟩)))] a' ∧ Ext w26 W ∧ Blk W xg533 25 [(.slice (some ⟨xg519, 0, none⟩) d.sectors.length xc520), (.slice none 0 0), (.int .i64 d.left), (.bool false)] ∧ w26.heap.size ≤ xg533 ∧ W.ownsRow (w.heap.size + 2) 35 1 (.slice (some ⟨xg519, 0, none⟩) d.sectors.length xc520) d.sectors.length xs ∧ (w.heap.size + 2) ≤ xg519 ∧ xg519 ≠ g2 ∧ xg519 ≠ g10 ∧ xg519 ≠ xg533) ?_ ?_
      · skip
        have hx494 : ∃ W, w26.drew = W ∧ Ext w26 W := ⟨_, rfl, (Ext.refl _).drew⟩
        obtain ⟨w493, e495, hx494⟩ := hx494
        have z496 := hx494.size
        refine any_start (fun W => Ext w493 W ∧ Blk W g2 25 [(.slice A d.sectors.length c), (.slice B d.pending.length e), (.int .i64 d.left), (.bool d.stopped)]) (fun i => i == 8) 9 #[false, false, false, false, false, false, false, false, false] rfl rfl rfl ?_
        rw [e495]; clear e495
        refine qp 1 (.pointer (some ⟨g2, 0, none⟩)) F80 rfl rfl (fun W => (rn_field Try.underlying25 rfl (by kernel_rfl) (F80.get rfl) rfl)) fun _ F498 => ?_; clear F80
        have b500 := (b38.ext hx494)
        have hS499 : Ext w493 w493 ∧ Blk w493 g2 25 [(.slice A d.sectors.length c), (.slice B d.pending.length e), (.int .i64 d.left), (.bool d.stopped)] := ⟨(Ext.refl w493), b500⟩
        refine qs 2 (.slice A d.sectors.length c) F498 rfl rfl hS499 (fun W hW => (rn_load (isAgg_no Try.underlying22 rfl) (F498.get rfl) (hW.2.rule.1 0))) fun _ F502 => ?_; clear F498
        refine qp 4 (.pointer (some ⟨g2, 2, none⟩)) F502 rfl rfl (fun W => (rn_field Try.underlying25 rfl (by kernel_rfl) (F502.get rfl) rfl)) fun _ F504 => ?_; clear F502
        refine qs 5 (.int .i64 d.left) F504 rfl rfl hS499 (fun W hW => (rn_load (isAgg_no Try.underlying3 rfl) (F504.get rfl) (hW.2.rule.1 2))) fun _ F506 => ?_; clear F504
        refine any_two (i := 0) (k := 7) (by decide +kernel) rfl rfl ?_ ?_
        · skip
          refine o_new (fun g => (.slice (some ⟨g, 0, none⟩) 0 0)) [] 35 F506 rfl rfl rfl rfl (rn_buildSlice (parts0 ) (by kernel_rfl)) ?_
          intro g507 w508 a513 F514 z511 z512 b509 hx510; clear F506
          have b515 := (b500.ext hx510)
          refine ⟨fun _ _ => ⟨((Ext.refl w493).trans hx510), b515⟩, ?_⟩
          refine any_two (i := 3) (k := 7) (by decide +kernel) rfl rfl ?_ ?_
          · skip
            refine o_appE (n := 0) (xs := []) (ys := xs) (base := (w.heap.size + 2)) elBss F514 rfl rfl rfl rfl rfl (F514.get rfl) (F514.get rfl) (own_of_blk (n := 0) (cap := 0) (k := 1) (cur := []) b509 (Nat.le_refl _) (by omega) rfl (by omega : (w.heap.size + 2) ≤ g507)) (Cel.ext hcel ((((((Ext.refl w).trans hx5).trans hx13).trans hx27).trans hx494).trans hx510)) (by omega) (by omega) (by omega) ?_
            intro v523 w516 a521 F522 r517 hg518 ho528
            simp only [Nat.zero_add, List.nil_append] at r517
            obtain ⟨g519, c520, rfl, hz524, hz525, hz526, hz527⟩ := own_form r517 (by omega)
            clear F514
            have ho528 : g519 = g507 ∨ g519 = w508.heap.size := ho528.imp (fun h => Option.some.inj h) (fun h => Option.some.inj h)
            have hg518 : World.grownBy w508 w516 (some g507) := hg518
            have z529 := hg518.size
            have b530 := (b515.grownN hg518 (by omega))
            refine ⟨fun _ _ => ⟨(((Ext.refl w493).trans hx510).grownN hg518 (by omega)), b530⟩, ?_⟩
            refine qp 6 (.agg #[(.slice (some ⟨g519, 0, none⟩) d.sectors.length c520), (.slice none 0 0), (.int .i64 d.left), (.bool false)]) F522 rfl rfl (fun W => (rn_build (parts2 (F522.get rfl) (F522.get rfl)) (by kernel_rfl))) fun _ F532 => ?_; clear F522
            refine any_one (i := 7) (by decide +kernel) rfl ?_
            refine o_new (fun g => (.pointer (some ⟨g, 0, none⟩))) [(.slice none 0 0), (.slice none 0 0), (.int .i64 0), (.bool false)] 25 F532 rfl rfl rfl rfl (by kernel_rfl) ?_
            intro g533 w534 a539 F540 z537 z538 b535 hx536; clear F532
            have b541 := (b530.ext hx536)
            refine ⟨fun _ _ => ⟨((((Ext.refl w493).trans hx510).grownN hg518 (by omega)).trans hx536), b541⟩, ?_⟩
            refine any_one (i := 8) (by decide +kernel) rfl ?_
            refine o_store (cells := [(.slice (some ⟨g519, 0, none⟩) d.sectors.length c520), (.slice none 0 0), (.int .i64 d.left), (.bool false)]) F540 rfl rfl rfl rfl (F540.get rfl) (F540.get rfl) b535 inf25 rfl (by simp [Value.oneCell']) ?_
            intro w542 b543 hg544; have z545 := hg544.size
            refine ⟨fun h => absurd h (by decide), ?_⟩
            refine any_nil (by decide +kernel) ?_
            have r546 := (own_grownE (own_ext r517 hx536) hg544 (by omega))
            exact ⟨g533, g519, c520, (((((((((F540.nil.c F540 6 rfl).c F540 29 rfl).c F540 5 rfl).c F540 4 rfl).c F540 15 rfl).c F540 3 rfl).c F540 2 rfl).c F540 1 rfl).c F540 0 rfl), ((((((Ext.refl w26).trans hx494).trans hx510).grownN hg518 (by omega)).trans hx536).grownN hg544 (by omega)), b543, (by omega), r546, (by omega), (by omega), (by omega), (by omega)⟩
          · skip
            refine o_new (fun g => (.pointer (some ⟨g, 0, none⟩))) [(.slice none 0 0), (.slice none 0 0), (.int .i64 0), (.bool false)] 25 F514 rfl rfl rfl rfl (by kernel_rfl) ?_
            intro g546 w547 a552 F553 z550 z551 b548 hx549; clear F514
            have b554 := (b515.ext hx549)
            refine ⟨fun _ _ => ⟨(((Ext.refl w493).trans hx510).trans hx549), b554⟩, ?_⟩
            refine any_one (i := 3) (by decide +kernel) rfl ?_
            have b560 := (b509.ext hx549)
            refine o_appE (n := 0) (xs := []) (ys := xs) (base := (w.heap.size + 2)) elBss F553 rfl rfl rfl rfl rfl (F553.get rfl) (F553.get rfl) (own_of_blk (n := 0) (cap := 0) (k := 1) (cur := []) b560 (Nat.le_refl _) (by omega) rfl (by omega : (w.heap.size + 2) ≤ g507)) (Cel.ext hcel (((((((Ext.refl w).trans hx5).trans hx13).trans hx27).trans hx494).trans hx510).trans hx549)) (by omega) (by omega) (by omega) ?_
            intro v563 w555 a561 F562 r556 hg557 ho568
            simp only [Nat.zero_add, List.nil_append] at r556
            obtain ⟨g558, c559, rfl, hz564, hz565, hz566, hz567⟩ := own_form r556 (by omega)
            clear F553
            have ho568 : g558 = g507 ∨ g558 = w547.heap.size := ho568.imp (fun h => Option.some.inj h) (fun h => Option.some.inj h)
            have hg557 : World.grownBy w547 w555 (some g507) := hg557
            have z569 := hg557.size
            have b570 := (b554.grownN hg557 (by omega))
            refine ⟨fun _ _ => ⟨((((Ext.refl w493).trans hx510).trans hx549).grownN hg557 (by omega)), b570⟩, ?_⟩
            refine qp 6 (.agg #[(.slice (some ⟨g558, 0, none⟩) d.sectors.length c559), (.slice none 0 0), (.int .i64 d.left), (.bool false)]) F562 rfl rfl (fun W => (rn_build (parts2 (F562.get rfl) (F562.get rfl)) (by kernel_rfl))) fun _ F572 => ?_; clear F562
            refine any_one (i := 8) (by decide +kernel) rfl ?_
            have b576 := (b548.grownN hg557 (by omega))
            refine o_store (cells := [(.slice (some ⟨g558, 0, none⟩) d.sectors.length c559), (.slice none 0 0), (.int .i64 d.left), (.bool false)]) F572 rfl rfl rfl rfl (F572.get rfl) (F572.get rfl) b576 inf25 rfl (by simp [Value.oneCell']) ?_
            intro w573 b574 hg575; have z577 := hg575.size
            refine ⟨fun h => absurd h (by decide), ?_⟩
            refine any_nil (by decide +kernel) ?_
            have r578 := (own_grownE r556 hg575 (by omega))
            exact ⟨g546, g558, c559, (((((((((F572.nil.c F572 6 rfl).c F572 29 rfl).c F572 5 rfl).c F572 4 rfl).c F572 15 rfl).c F572 3 rfl).c F572 2 rfl).c F572 1 rfl).c F572 0 rfl), ((((((Ext.refl w26).trans hx494).trans hx510).trans hx549).grownN hg557 (by omega)).grownN hg575 (by omega)), b574, (by omega), r578, (by omega), (by omega), (by omega), (by omega)⟩
        · skip
          refine o_new (fun g => (.pointer (some ⟨g, 0, none⟩))) [(.slice none 0 0), (.slice none 0 0), (.int .i64 0), (.bool false)] 25 F506 rfl rfl rfl rfl (by kernel_rfl) ?_
          intro g578 w579 a584 F585 z582 z583 b580 hx581; clear F506
          have b586 := (b500.ext hx581)
          refine ⟨fun _ _ => ⟨((Ext.refl w493).trans hx581), b586⟩, ?_⟩
          refine any_one (i := 0) (by decide +kernel) rfl ?_
          refine o_new (fun g => (.slice (some ⟨g, 0, none⟩) 0 0)) [] 35 F585 rfl rfl rfl rfl (rn_buildSlice (parts0 ) (by kernel_rfl)) ?_
          intro g587 w588 a593 F594 z591 z592 b589 hx590; clear F585
          have b595 := (b586.ext hx590)
          refine ⟨fun _ _ => ⟨(((Ext.refl w493).trans hx581).trans hx590), b595⟩, ?_⟩
          refine any_one (i := 3) (by decide +kernel) rfl ?_
          refine o_appE (n := 0) (xs := []) (ys := xs) (base := (w.heap.size + 2)) elBss F594 rfl rfl rfl rfl rfl (F594.get rfl) (F594.get rfl) (own_of_blk (n := 0) (cap := 0) (k := 1) (cur := []) b589 (Nat.le_refl _) (by omega) rfl (by omega : (w.heap.size + 2) ≤ g587)) (Cel.ext hcel (((((((Ext.refl w).trans hx5).trans hx13).trans hx27).trans hx494).trans hx581).trans hx590)) (by omega) (by omega) (by omega) ?_
          intro v603 w596 a601 F602 r597 hg598 ho608
          simp only [Nat.zero_add, List.nil_append] at r597
          obtain ⟨g599, c600, rfl, hz604, hz605, hz606, hz607⟩ := own_form r597 (by omega)
          clear F594
          have ho608 : g599 = g587 ∨ g599 = w588.heap.size := ho608.imp (fun h => Option.some.inj h) (fun h => Option.some.inj h)
          have hg598 : World.grownBy w588 w596 (some g587) := hg598
          have z609 := hg598.size
          have b610 := (b595.grownN hg598 (by omega))
          refine ⟨fun _ _ => ⟨((((Ext.refl w493).trans hx581).trans hx590).grownN hg598 (by omega)), b610⟩, ?_⟩
          refine qp 6 (.agg #[(.slice (some ⟨g599, 0, none⟩) d.sectors.length c600), (.slice none 0 0), (.int .i64 d.left), (.bool false)]) F602 rfl rfl (fun W => (rn_build (parts2 (F602.get rfl) (F602.get rfl)) (by kernel_rfl))) fun _ F612 => ?_; clear F602
          refine any_one (i := 8) (by decide +kernel) rfl ?_
          have b616 := ((b580.ext hx590).grownN hg598 (by omega))
          refine o_store (cells := [(.slice (some ⟨g599, 0, none⟩) d.sectors.length c600), (.slice none 0 0), (.int .i64 d.left), (.bool false)]) F612 rfl rfl rfl rfl (F612.get rfl) (F612.get rfl) b616 inf25 rfl (by simp [Value.oneCell']) ?_
          intro w613 b614 hg615; have z617 := hg615.size
          refine ⟨fun h => absurd h (by decide), ?_⟩
          refine any_nil (by decide +kernel) ?_
          have r618 := (own_grownE r597 hg615 (by omega))
          exact ⟨g578, g599, c600, (((((((((F612.nil.c F612 6 rfl).c F612 29 rfl).c F612 5 rfl).c F612 4 rfl).c F612 15 rfl).c F612 3 rfl).c F612 2 rfl).c F612 1 rfl).c F612 0 rfl), ((((((Ext.refl w26).trans hx494).trans hx581).trans hx590).grownN hg598 (by omega)).grownN hg615 (by omega)), b614, (by omega), r618, (by omega), (by omega), (by omega), (by omega)⟩
      · rintro a619 w620 ⟨xg533, xg519, xc520, F621, hx622, b623, z629, f624, f625, f626, f627, f628⟩
        have z630 := hx622.size
        clear F80
        have z631 := b623.lt
        refine wp_seq_k (fun K632 hK632 => ?_)
        refine wp_seq_k (fun K633 hK633 => ?_)
        refine wp_region_lit ?_
        refine qv 0 (.int .i64 0) F621 rfl (rn_assign rfl) fun _ F635 => ?_; clear F621
        refine wpList_nil ?_
        refine hK633 _ _ ?_
        clear hK633
        refine wp_block ?_
        have b636 := (b38.ext hx622)
        have b637 := ((b12.ext hx27).ext hx622)
        refine wp_loop (fun a' W => ∃ (k : Nat) (vs : List Value), Sl 95 [(0, (.agg #[(.slice A d.sectors.length c), (.slice B d.pending.length e), (.int .i64 d.left), (.bool d.stopped)])), (1, (.pointer (some ⟨g2, 0, none⟩))), (2, (.pointer (some ⟨g10, 0, none⟩))), (3, (.int .i64 0)), (15, (.bool d.stopped)), (4, (.int .i64 (d.pending.length : Nat))), (5, (.bool (decide ((d.left : Int) < ((d.pending.length : Nat) : Int))))), (29, (.bool (decide ((d.left : Int) < ((d.pending.length : Nat) : Int))))), (6, (.pointer (some ⟨xg533, 0, none⟩))), (7, (.int .i64 (k : Nat)))] a' ∧ (k : Int) ≤ (d.pending.length : Nat) ∧ k ≤ d.pending.length ∧ Ext w W ∧ Blk W g2 25 [(.slice A d.sectors.length c), (.slice B d.pending.length e), (.int .i64 d.left), (.bool d.stopped)] ∧ Blk W g10 25 [(.slice none 0 0), (.slice none 0 0), (.int .i64 0), (.bool false)] ∧ Blk W xg533 25 [(.slice (some ⟨xg519, 0, none⟩) d.sectors.length xc520), (.slice none 0 0), (.int .i64 d.left), (.bool false)] ∧ W.ownsRow (w.heap.size + 2) 35 1 (.slice (some ⟨xg519, 0, none⟩) d.sectors.length xc520) d.sectors.length vs ∧ ∀ i (h : i < (performL d.sectors (d.pending.take k)).length) (h' : i < vs.length), RBs S w vs[i] (performL d.sectors (d.pending.take k))[i]) (fun a' _ => ((d.pending.length : Nat) : Int).toNat - (intOf (a'.eval (.tmp 7))).toNat) ⟨0, xs, ((((((((((F635.nil.cons (q_get F635 (t := 7) rfl (by first | rfl | (congr 1; omega)))).cons (q_get F635 (t := 6) rfl rfl)).cons (q_get F635 (t := 29) rfl rfl)).cons (q_get F635 (t := 5) rfl rfl)).cons (q_get F635 (t := 4) rfl rfl)).cons (q_get F635 (t := 15) rfl rfl)).cons (q_get F635 (t := 3) rfl rfl)).cons (q_get F635 (t := 2) rfl rfl)).cons (q_get F635 (t := 1) rfl rfl)).cons (q_get F635 (t := 0) rfl rfl)), (by omega), (by omega), (((((Ext.refl w).trans hx5).trans hx13).trans hx27).trans hx622), b636, b637, b623, f624, hrs⟩ ?_
        clear F635
        rintro a638 w639 ⟨k, vs, F640, hp642, hp643, hx641, b644, b645, b646, r647, hf648⟩
        have hL649 := F640
        have z650 := hx641.size
        have z651 := b644.lt
        have z652 := b645.lt
        have z653 := b646.lt
        have z654 := own_lt r647
        refine wp_seq_k (fun K655 hK655 => ?_)
        refine wp_seq_k (fun K656 hK656 => ?_)
        refine wp_region_lit ?_
        refine qv 0 (.int .i64 (k : Nat)) F640 rfl (rn_move (F640.get rfl)) fun _ F658 => ?_; clear F640
        refine qv 1 (.int .i64 (d.pending.length : Nat)) F658 rfl (rn_move (F658.get rfl)) fun _ F660 => ?_; clear F658
        refine qv 2 (.bool (decide (((k : Nat) : Int) < ((d.pending.length : Nat) : Int)))) F660 rfl (rn_lss (F660.get rfl) (F660.get rfl)) fun _ F662 => ?_; clear F660
        refine wpList_nil ?_
        refine hK656 _ _ ?_
        clear hK656
        by_cases hc663 : ((k : Nat) : Int) < ((d.pending.length : Nat) : Int)
        · skip
          refine wp_cond_true (c_true F662 rfl (decide_eq_true hc663)) ?_
          refine wp_skip ?_
          refine hK655 _ _ ?_
          clear hK655
          refine wp_seq_k (fun K664 hK664 => ?_)
          refine wp_block ?_
          have hx666 : ∃ W, w639.drew = W ∧ Ext w639 W := ⟨_, rfl, (Ext.refl _).drew⟩
          obtain ⟨w665, e667, hx666⟩ := hx666
          have z668 := hx666.size
          refine any_start (fun W => Ext w665 W ∧ Blk W xg533 25 [(.slice (some ⟨xg519, 0, none⟩) d.sectors.length xc520), (.slice none 0 0), (.int .i64 d.left), (.bool false)] ∧ Blk W g2 25 [(.slice A d.sectors.length c), (.slice B d.pending.length e), (.int .i64 d.left), (.bool d.stopped)]) (fun i => i == 15) 16 #[false, false, false, false, false, false, false, false, false, false, false, false, false, false, false, false] rfl rfl rfl ?_
          rw [e667]; clear e667
          refine qp 0 (.pointer (some ⟨xg533, 0, none⟩)) F662 rfl rfl (fun W => (rn_field Try.underlying25 rfl (by kernel_rfl) (F662.get rfl) rfl)) fun _ F670 => ?_; clear F662
          have b672 := (b646.ext hx666)
          have b673 := (b644.ext hx666)
          have hS671 : Ext w665 w665 ∧ Blk w665 xg533 25 [(.slice (some ⟨xg519, 0, none⟩) d.sectors.length xc520), (.slice none 0 0), (.int .i64 d.left), (.bool false)] ∧ Blk w665 g2 25 [(.slice A d.sectors.length c), (.slice B d.pending.length e), (.int .i64 d.left), (.bool d.stopped)] := ⟨(Ext.refl w665), b672, b673⟩
          refine qs 1 (.slice (some ⟨xg519, 0, none⟩) d.sectors.length xc520) F670 rfl rfl hS671 (fun W hW => (rn_load (isAgg_no Try.underlying22 rfl) (F670.get rfl) (hW.2.1.rule.1 0))) fun _ F675 => ?_; clear F670
          refine qp 2 (.pointer (some ⟨g2, 1, none⟩)) F675 rfl rfl (fun W => (rn_field Try.underlying25 rfl (by kernel_rfl) (F675.get rfl) rfl)) fun _ F677 => ?_; clear F675
          refine qs 3 (.slice B d.pending.length e) F677 rfl rfl hS671 (fun W hW => (rn_load (isAgg_no Try.underlying23 rfl) (F677.get rfl) (hW.2.2.rule.1 1))) fun _ F679 => ?_; clear F677
          refine qp 4 (.int .i64 (k : Nat)) F679 rfl rfl (fun W => (rn_move (F679.get rfl))) fun _ F681 => ?_; clear F679
          obtain ⟨x682, hi683, hm695⟩ := get_of_lt d.pending k (by omega)
          obtain ⟨hp696, hp697, hp698⟩ := f7 x682 hm695
          obtain ⟨b684, o685, A686, c687, hA688, hl689, hc692, hc690, hr691, le693, le694⟩ := RWs.get (RDk.len hd).2.1 hi683
          refine qp 5 (.pointer (some ⟨b684, o685 + k * 2, none⟩)) F681 rfl rfl (fun W => (rn_index Try.underlying23 inf76 ((F681.get rfl).trans (by rw [hA688])) (F681.get rfl) (by omega : (0 : Int) ≤ (k : Nat)) (by omega : ((k : Nat) : Int) < ((d.pending.length : Nat) : Int)))) fun _ F700 => ?_; clear F681
          refine qp 6 (.pointer (some ⟨b684, o685 + k * 2, none⟩)) F700 rfl rfl (fun W => (rn_field Try.underlying76 rfl (by kernel_rfl) (F700.get rfl) rfl)) fun _ F702 => ?_; clear F700
          refine qs 7 (.int .i64 x682.1) F702 rfl rfl hS671 (fun W hW => (rn_load (isAgg_no Try.underlying3 rfl) (F702.get rfl) (Ext.keep ((((Ext.refl w).trans hx641).trans hx666).trans hW.1) hc692))) fun _ F704 => ?_; clear F702
          refine qp 8 (.pointer (some ⟨g2, 1, none⟩)) F704 rfl rfl (fun W => (rn_field Try.underlying25 rfl (by kernel_rfl) (F704.get rfl) rfl)) fun _ F706 => ?_; clear F704
          refine qs 9 (.slice B d.pending.length e) F706 rfl rfl hS671 (fun W hW => (rn_load (isAgg_no Try.underlying23 rfl) (F706.get rfl) (hW.2.2.rule.1 1))) fun _ F708 => ?_; clear F706
          refine qp 10 (.int .i64 (k : Nat)) F708 rfl rfl (fun W => (rn_move (F708.get rfl))) fun _ F710 => ?_; clear F708
          refine qp 11 (.pointer (some ⟨b684, o685 + k * 2, none⟩)) F710 rfl rfl (fun W => (rn_index Try.underlying23 inf76 ((F710.get rfl).trans (by rw [hA688])) (F710.get rfl) (by omega : (0 : Int) ≤ (k : Nat)) (by omega : ((k : Nat) : Int) < ((d.pending.length : Nat) : Int)))) fun _ F712 => ?_; clear F710
          refine qp 12 (.pointer (some ⟨b684, o685 + k * 2 + 1, none⟩)) F712 rfl rfl (fun W => (rn_field Try.underlying76 rfl (by kernel_rfl) (F712.get rfl) rfl)) fun _ F714 => ?_; clear F712
          refine qs 13 (.slice A686 x682.2.length c687) F714 rfl rfl hS671 (fun W hW => (rn_load (isAgg_no Try.underlying35 rfl) (F714.get rfl) (Ext.keep ((((Ext.refl w).trans hx641).trans hx666).trans hW.1) hc690))) fun _ F716 => ?_; clear F714
          refine qp 14 (.pointer (some ⟨xg519, 0 + (x682.1 : Int).toNat, none⟩)) F716 rfl rfl (fun W => (rn_index1 Try.underlying22 inf35 (F716.get rfl) (F716.get rfl) (by omega : (0 : Int) ≤ x682.1) (by omega : (x682.1 : Int) < ((d.sectors.length : Nat) : Int)))) fun _ F718 => ?_; clear F716
          refine any_one (i := 15) (by decide +kernel) rfl ?_
          have r719 := (own_ext r647 hx666)
          refine o_storeRow F718 rfl rfl rfl rfl (F718.get rfl) (F718.get rfl) r719 inf35 (by omega) rfl ?_
          intro w720 r721 hg722; have z723 := hg722.size
          refine ⟨fun h => absurd h (by decide), ?_⟩
          refine any_nil (by decide +kernel) ?_
          refine hK664 _ _ ?_
          clear hK664
          have F724 := (((((((((((F718.nil.c F718 41 rfl).c F718 7 rfl).c F718 6 rfl).c F718 29 rfl).c F718 5 rfl).c F718 4 rfl).c F718 15 rfl).c F718 3 rfl).c F718 2 rfl).c F718 1 rfl).c F718 0 rfl)
          clear F718
          refine wp_region_lit ?_
          refine qv 0 (.int .i64 (k : Nat)) F724 rfl (rn_move (F724.get rfl)) fun _ F726 => ?_; clear F724
          refine qv 1 (.int .i64 ((k : Nat) + 1)) F726 rfl (rn_add (F726.get rfl) rfl (by omega) (by omega)) fun _ F728 => ?_; clear F726
          refine qv 2 (.int .i64 ((k : Nat) + 1)) F728 rfl (rn_assign (F728.get rfl)) fun _ F730 => ?_; clear F728
          refine wpList_nil ?_
          have b731 := (b673.grownN hg722 (by omega))
          have b732 := ((b645.ext hx666).grownN hg722 (by omega))
          have b733 := (b672.grownN hg722 (by omega))
          refine ⟨⟨k + 1, (vs.set (0 + (x682.1 : Int).toNat) (.slice A686 x682.2.length c687)), ((((((((((F730.nil.cons (q_get F730 (t := 7) rfl (by first | rfl | (congr 1; omega)))).cons (q_get F730 (t := 6) rfl rfl)).cons (q_get F730 (t := 29) rfl rfl)).cons (q_get F730 (t := 5) rfl rfl)).cons (q_get F730 (t := 4) rfl rfl)).cons (q_get F730 (t := 15) rfl rfl)).cons (q_get F730 (t := 3) rfl rfl)).cons (q_get F730 (t := 2) rfl rfl)).cons (q_get F730 (t := 1) rfl rfl)).cons (q_get F730 (t := 0) rfl rfl)), (by omega), (by omega), ((((Ext.refl w).trans hx641).trans hx666).grownN hg722 (by omega)), b731, b732, b733, r721, (perf_next hi683 hr691 rfl hf648)⟩, ?_⟩
          rw [F730.get (t := 7) rfl, hL649.get (t := 7) rfl]; simp [intOf]; omega
        · skip
          refine wp_cond_false (c_false F662 rfl (decide_eq_false hc663)) ?_
          refine wp_exit ?_
          refine exit_then ?_
          refine exit_then ?_
          refine exit_here ?_
          refine hK632 _ _ ?_
          clear hK632
          refine wp_seq_k (fun K734 hK734 => ?_)
          refine wp_seq_k (fun K735 hK735 => ?_)
          refine wp_region_lit ?_
          refine qv 0 (.bool (decide ((d.left : Int) < ((d.pending.length : Nat) : Int)))) F662 rfl (rn_move (F662.get rfl)) fun _ F737 => ?_; clear F662
          refine wpList_nil ?_
          refine hK735 _ _ ?_
          clear hK735
          refine wp_cond_false (c_false F737 rfl (decide_eq_false hc81)) ?_
          refine wp_skip ?_
          refine hK734 _ _ ?_
          clear hK734
          refine wp_seq_k (fun K738 hK738 => ?_)
          refine wp_seq_k (fun K739 hK739 => ?_)
          refine wp_region_lit ?_
          refine qv 0 (.pointer (some ⟨xg533, 2, none⟩)) F737 rfl (rn_field Try.underlying25 rfl (by kernel_rfl) (F737.get rfl) rfl) fun _ F741 => ?_; clear F737
          refine qv 1 (.int .i64 d.left) F741 rfl (rn_load (isAgg_no Try.underlying3 rfl) (F741.get rfl) (b646.rule.1 2)) fun _ F743 => ?_; clear F741
          refine qv 2 (.bool (decide ((0 : Int) ≤ (d.left : Int)))) F743 rfl (rn_geq (F743.get rfl) rfl) fun _ F745 => ?_; clear F743
          refine wpList_nil ?_
          refine hK739 _ _ ?_
          clear hK739
          have F746 := (((((((((((((F745.nil.c F745 88 rfl).c F745 59 rfl).c F745 41 rfl).c F745 7 rfl).c F745 6 rfl).c F745 29 rfl).c F745 5 rfl).c F745 4 rfl).c F745 15 rfl).c F745 3 rfl).c F745 2 rfl).c F745 1 rfl).c F745 0 rfl)
          clear F745
          refine wp_cond_true (c_true F746 rfl (decide_eq_true hc63)) ?_
          refine wp_region_lit ?_
          refine qv 0 (.pointer (some ⟨xg533, 2, none⟩)) F746 rfl (rn_field Try.underlying25 rfl (by kernel_rfl) (F746.get rfl) rfl) fun _ F748 => ?_; clear F746
          refine qv 1 (.int .i64 d.left) F748 rfl (rn_load (isAgg_no Try.underlying3 rfl) (F748.get rfl) (b646.rule.1 2)) fun _ F750 => ?_; clear F748
          refine qv 2 (.int .i64 (d.pending.length : Nat)) F750 rfl (rn_move (F750.get rfl)) fun _ F752 => ?_; clear F750
          refine qv 3 (.int .i64 (d.left - (d.pending.length : Nat))) F752 rfl (rn_sub (F752.get rfl) (F752.get rfl) (by omega) (by omega)) fun _ F754 => ?_; clear F752
          refine qv 4 (.pointer (some ⟨xg533, 2, none⟩)) F754 rfl (rn_field Try.underlying25 rfl (by kernel_rfl) (F754.get rfl) rfl) fun _ F756 => ?_; clear F754
          refine wpl_op (i := 5) rfl (o_store1 (new := [(.slice (some ⟨xg519, 0, none⟩) d.sectors.length xc520), (.slice none 0 0), (.int .i64 (d.left - (d.pending.length : Nat))), (.bool false)]) F756 rfl rfl rfl rfl (F756.get rfl) (F756.get rfl) b646 inf3 (by simp) rfl rfl ?_)
          intro w757 b758 hg759; have z760 := hg759.size
          refine wpList_nil ?_
          refine hK738 _ _ ?_
          clear hK738
          have F761 := (((((((((((((F756.nil.c F756 88 rfl).c F756 59 rfl).c F756 41 rfl).c F756 7 rfl).c F756 6 rfl).c F756 29 rfl).c F756 5 rfl).c F756 4 rfl).c F756 15 rfl).c F756 3 rfl).c F756 2 rfl).c F756 1 rfl).c F756 0 rfl)
          clear F756
          refine wp_seq_k (fun K762 hK762 => ?_)
          refine wp_region_lit ?_
          refine qv 0 (.agg #[(.slice (some ⟨xg519, 0, none⟩) d.sectors.length xc520), (.slice none 0 0), (.int .i64 (d.left - (d.pending.length : Nat))), (.bool false)]) F761 rfl (rn_loadBlk (F761.get rfl) b758 Try.underlying25 rfl inf25) fun _ F764 => ?_; clear F761
          have b768 := (b645.grownN hg759 (by omega))
          refine wpl_op (i := 1) rfl (o_store (cells := [(.slice (some ⟨xg519, 0, none⟩) d.sectors.length xc520), (.slice none 0 0), (.int .i64 (d.left - (d.pending.length : Nat))), (.bool false)]) F764 rfl rfl rfl rfl (F764.get rfl) (F764.get rfl) b768 inf25 rfl (by simp [Value.oneCell']) ?_)
          intro w765 b766 hg767; have z769 := hg767.size
          refine qv 2 (.int .i64 0) F764 rfl (rn_assign rfl) fun _ F771 => ?_; clear F764
          refine wpList_nil ?_
          refine hK762 _ _ ?_
          clear hK762
          refine wp_ret ?_
          refine retC1 F771 rfl rfl rfl b766 Try.underlying25 rfl inf25 ?_
          have r772 := (own_grownE (own_grownE r647 hg759 (by omega)) hg767 (by omega))
          have hkk : k = d.pending.length := by omega
          have htk : d.pending.take k = d.pending := List.take_of_length_le (by omega)
          have hpf := hf648
          rw [htk] at hpf
          exact rsync_fin (l := (d.left - (d.pending.length : Nat))) (s := false) (n := 0) ((((Ext.refl w).trans hx641).grownN hg759 (by omega)).grownN hg767 (by omega)) r772 (by omega) (fun i h h' => ((hpf i h h').ext ((((Ext.refl w).trans hx641).grownN hg759 (by omega)).grownN hg767 (by omega))).up) (performL_length _ _) (by unfold Dk.sync Dk.syncOk; rw [if_neg (by rw [h1]; simp), if_neg (by omega)]; first | rw [if_pos (by omega)] | rw [if_neg (by omega)])
  · skip
    refine qu 4 F62 (decide_eq_false hc63) fun _ F774 => ?_; clear F62
    refine qu 5 F774 (decide_eq_false hc63) fun _ F776 => ?_; clear F774
    refine qu 6 F776 (decide_eq_false hc63) fun _ F778 => ?_; clear F776
    refine qu 7 F778 (decide_eq_false hc63) fun _ F780 => ?_; clear F778
    refine qv 8 (.bool false) F780 rfl (rn_pickF (c_false F780 rfl (decide_eq_false hc63)) rfl) fun _ F782 => ?_; clear F780
    refine qv 9 (.bool false) F782 rfl (rn_assign (F782.get rfl)) fun _ F784 => ?_; clear F782
    refine wpList_nil ?_
    refine hK54 _ _ ?_
    clear hK54
    have F785 := (((((((F784.nil.c F784 5 rfl).c F784 4 rfl).c F784 15 rfl).c F784 3 rfl).c F784 2 rfl).c F784 1 rfl).c F784 0 rfl)
    clear F784
    refine wp_seq_k (fun K786 hK786 => ?_)
    refine wp_seq_k (fun K787 hK787 => ?_)
    refine wp_region_lit ?_
    refine qv 0 (.bool false) F785 rfl (rn_move (F785.get rfl)) fun _ F789 => ?_; clear F785
    refine wpList_nil ?_
    refine hK787 _ _ ?_
    clear hK787
    refine wp_cond_false (c_false F789 rfl rfl) ?_
    refine wp_skip ?_
    refine hK786 _ _ ?_
    clear hK786
    refine wp_meet (fun a' W => ∃ (xg830 : Nat) (xg816 : Nat) (xc817 : Nat), Sl 95 [(0, (.agg #[(.slice A d.sectors.length c), (.slice B d.pending.length e), (.int .i64 d.left), (.bool d.stopped)])), (1, (.pointer (some ⟨g2, 0, none⟩))), (2, (.pointer (some ⟨g10, 0, none⟩))), (3, (.int .i64 0)), (15, (.bool d.stopped)), (4, (.int .i64 (d.pending.length : Nat))), (5, (.bool false)), (29, (.bool false)), (6, (.pointer (some ⟨xg830, 0, none⟩)))] a' ∧ Ext w26 W ∧ Blk W xg830 25 [(.slice (some ⟨xg816, 0, none⟩) d.sectors.length xc817), (.slice none 0 0), (.int .i64 d.left), (.bool false)] ∧ w26.heap.size ≤ xg830 ∧ W.ownsRow (w.heap.size + 2) 35 1 (.slice (some ⟨xg816, 0, none⟩) d.sectors.length xc817) d.sectors.length xs ∧ (w.heap.size + 2) ≤ xg816 ∧ xg816 ≠ g2 ∧ xg816 ≠ g10 ∧ xg816 ≠ xg830) ?_ ?_
    · skip
      have hx791 : ∃ W, w26.drew = W ∧ Ext w26 W := ⟨_, rfl, (Ext.refl _).drew⟩
      obtain ⟨w790, e792, hx791⟩ := hx791
      have z793 := hx791.size
      refine any_start (fun W => Ext w790 W ∧ Blk W g2 25 [(.slice A d.sectors.length c), (.slice B d.pending.length e), (.int .i64 d.left), (.bool d.stopped)]) (fun i => i == 8) 9 #[false, false, false, false, false, false, false, false, false] rfl rfl rfl ?_
      rw [e792]; clear e792
      refine qp 1 (.pointer (some ⟨g2, 0, none⟩)) F789 rfl rfl (fun W => (rn_field Try.underlying25 rfl (by kernel_rfl) (F789.get rfl) rfl)) fun _ F795 => ?_; clear F789
      have b797 := (b38.ext hx791)
      have hS796 : Ext w790 w790 ∧ Blk w790 g2 25 [(.slice A d.sectors.length c), (.slice B d.pending.length e), (.int .i64 d.left), (.bool d.stopped)] := ⟨(Ext.refl w790), b797⟩
      refine qs 2 (.slice A d.sectors.length c) F795 rfl rfl hS796 (fun W hW => (rn_load (isAgg_no Try.underlying22 rfl) (F795.get rfl) (hW.2.rule.1 0))) fun _ F799 => ?_; clear F795
      refine qp 4 (.pointer (some ⟨g2, 2, none⟩)) F799 rfl rfl (fun W => (rn_field Try.underlying25 rfl (by kernel_rfl) (F799.get rfl) rfl)) fun _ F801 => ?_; clear F799
      refine qs 5 (.int .i64 d.left) F801 rfl rfl hS796 (fun W hW => (rn_load (isAgg_no Try.underlying3 rfl) (F801.get rfl) (hW.2.rule.1 2))) fun _ F803 => ?_; clear F801
      refine any_two (i := 0) (k := 7) (by decide +kernel) rfl rfl ?_ ?_
      · skip
        refine o_new (fun g => (.slice (some ⟨g, 0, none⟩) 0 0)) [] 35 F803 rfl rfl rfl rfl (rn_buildSlice (parts0 ) (by kernel_rfl)) ?_
        intro g804 w805 a810 F811 z808 z809 b806 hx807; clear F803
        have b812 := (b797.ext hx807)
        refine ⟨fun _ _ => ⟨((Ext.refl w790).trans hx807), b812⟩, ?_⟩
        refine any_two (i := 3) (k := 7) (by decide +kernel) rfl rfl ?_ ?_
        · skip
          refine o_appE (n := 0) (xs := []) (ys := xs) (base := (w.heap.size + 2)) elBss F811 rfl rfl rfl rfl rfl (F811.get rfl) (F811.get rfl) (own_of_blk (n := 0) (cap := 0) (k := 1) (cur := []) b806 (Nat.le_refl _) (by omega) rfl (by omega : (w.heap.size + 2) ≤ g804)) (Cel.ext hcel ((((((Ext.refl w).trans hx5).trans hx13).trans hx27).trans hx791).trans hx807)) (by omega) (by omega) (by omega) ?_
          intro v820 w813 a818 F819 r814 hg815 ho825
          simp only [Nat.zero_add, List.nil_append] at r814
          obtain ⟨g816, c817, rfl, hz821, hz822, hz823, hz824⟩ := own_form r814 (by omega)
          clear F811
          have ho825 : g816 = g804 ∨ g816 = w805.heap.size := ho825.imp (fun h => Option.some.inj h) (fun h => Option.some.inj h)
          have hg815 : World.grownBy w805 w813 (some g804) := hg815
          have z826 := hg815.size
          have b827 := (b812.grownN hg815 (by omega))
          refine ⟨fun _ _ => ⟨(((Ext.refl w790).trans hx807).grownN hg815 (by omega)), b827⟩, ?_⟩
          refine qp 6 (.agg #[(.slice (some ⟨g816, 0, none⟩) d.sectors.length c817), (.slice none 0 0), (.int .i64 d.left), (.bool false)]) F819 rfl rfl (fun W => (rn_build (parts2 (F819.get rfl) (F819.get rfl)) (by kernel_rfl))) fun _ F829 => ?_; clear F819
          refine any_one (i := 7) (by decide +kernel) rfl ?_
          refine o_new (fun g => (.pointer (some ⟨g, 0, none⟩))) [(.slice none 0 0), (.slice none 0 0), (.int .i64 0), (.bool false)] 25 F829 rfl rfl rfl rfl (by kernel_rfl) ?_
          intro g830 w831 a836 F837 z834 z835 b832 hx833; clear F829
          have b838 := (b827.ext hx833)
          refine ⟨fun _ _ => ⟨((((Ext.refl w790).trans hx807).grownN hg815 (by omega)).trans hx833), b838⟩, ?_⟩
          refine any_one (i := 8) (by decide +kernel) rfl ?_
          refine o_store (cells := [(.slice (some ⟨g816, 0, none⟩) d.sectors.length c817), (.slice none 0 0), (.int .i64 d.left), (.bool false)]) F837 rfl rfl rfl rfl (F837.get rfl) (F837.get rfl) b832 inf25 rfl (by simp [Value.oneCell']) ?_
          intro w839 b840 hg841; have z842 := hg841.size
          refine ⟨fun h => absurd h (by decide), ?_⟩
          refine any_nil (by decide +kernel) ?_
          have r843 := (own_grownE (own_ext r814 hx833) hg841 (by omega))
          exact ⟨g830, g816, c817, (((((((((F837.nil.c F837 6 rfl).c F837 29 rfl).c F837 5 rfl).c F837 4 rfl).c F837 15 rfl).c F837 3 rfl).c F837 2 rfl).c F837 1 rfl).c F837 0 rfl), ((((((Ext.refl w26).trans hx791).trans hx807).grownN hg815 (by omega)).trans hx833).grownN hg841 (by omega)), b840, (by omega), r843, (by omega), (by omega), (by omega), (by omega)⟩
        · skip
          refine o_new (fun g => (.pointer (some ⟨g, 0, none⟩))) [(.slice none 0 0), (.slice none 0 0), (.int .i64 0), (.bool false)] 25 F811 rfl rfl rfl rfl (by kernel_rfl) ?_
          intro g843 w844 a849 F850 z847 z848 b845 hx846; clear F811
          have b851 := (b812.ext hx846)
          refine ⟨fun _ _ => ⟨(((Ext.refl w790).trans hx807).trans hx846), b851⟩, ?_⟩
          refine any_one (i := 3) (by decide +kernel) rfl ?_
          have b857 := (b806.ext hx846)
          refine o_appE (n := 0) (xs := []) (ys := xs) (base := (w.heap.size + 2)) elBss F850 rfl rfl rfl rfl rfl (F850.get rfl) (F850.get rfl) (own_of_blk (n := 0) (cap := 0) (k := 1) (cur := []) b857 (Nat.le_refl _) (by omega) rfl (by omega : (w.heap.size + 2) ≤ g804)) (Cel.ext hcel (((((((Ext.refl w).trans hx5).trans hx13).trans hx27).trans hx791).trans hx807).trans hx846)) (by omega) (by omega) (by omega) ?_
          intro v860 w852 a858 F859 r853 hg854 ho865
          simp only [Nat.zero_add, List.nil_append] at r853
          obtain ⟨g855, c856, rfl, hz861, hz862, hz863, hz864⟩ := own_form r853 (by omega)
          clear F850
          have ho865 : g855 = g804 ∨ g855 = w844.heap.size := ho865.imp (fun h => Option.some.inj h) (fun h => Option.some.inj h)
          have hg854 : World.grownBy w844 w852 (some g804) := hg854
          have z866 := hg854.size
          have b867 := (b851.grownN hg854 (by omega))
          refine ⟨fun _ _ => ⟨((((Ext.refl w790).trans hx807).trans hx846).grownN hg854 (by omega)), b867⟩, ?_⟩
          refine qp 6 (.agg #[(.slice (some ⟨g855, 0, none⟩) d.sectors.length c856), (.slice none 0 0), (.int .i64 d.left), (.bool false)]) F859 rfl rfl (fun W => (rn_build (parts2 (F859.get rfl) (F859.get rfl)) (by kernel_rfl))) fun _ F869 => ?_; clear F859
          refine any_one (i := 8) (by decide +kernel) rfl ?_
          have b873 := (b845.grownN hg854 (by omega))
          refine o_store (cells := [(.slice (some ⟨g855, 0, none⟩) d.sectors.length c856), (.slice none 0 0), (.int .i64 d.left), (.bool false)]) F869 rfl rfl rfl rfl (F869.get rfl) (F869.get rfl) b873 inf25 rfl (by simp [Value.oneCell']) ?_
          intro w870 b871 hg872; have z874 := hg872.size
          refine ⟨fun h => absurd h (by decide), ?_⟩
          refine any_nil (by decide +kernel) ?_
          have r875 := (own_grownE r853 hg872 (by omega))
          exact ⟨g843, g855, c856, (((((((((F869.nil.c F869 6 rfl).c F869 29 rfl).c F869 5 rfl).c F869 4 rfl).c F869 15 rfl).c F869 3 rfl).c F869 2 rfl).c F869 1 rfl).c F869 0 rfl), ((((((Ext.refl w26).trans hx791).trans hx807).trans hx846).grownN hg854 (by omega)).grownN hg872 (by omega)), b871, (by omega), r875, (by omega), (by omega), (by omega), (by omega)⟩
      · skip
        refine o_new (fun g => (.pointer (some ⟨g, 0, none⟩))) [(.slice none 0 0), (.slice none 0 0), (.int .i64 0), (.bool false)] 25 F803 rfl rfl rfl rfl (by kernel_rfl) ?_
        intro g875 w876 a881 F882 z879 z880 b877 hx878; clear F803
        have b883 := (b797.ext hx878)
        refine ⟨fun _ _ => ⟨((Ext.refl w790).trans hx878), b883⟩, ?_⟩
        refine any_one (i := 0) (by decide +kernel) rfl ?_
        refine o_new (fun g => (.slice (some ⟨g, 0, none⟩) 0 0)) [] 35 F882 rfl rfl rfl rfl (rn_buildSlice (parts0 ) (by kernel_rfl)) ?_
        intro g884 w885 a890 F891 z888 z889 b886 hx887; clear F882
        have b892 := (b883.ext hx887)
        refine ⟨fun _ _ => ⟨(((Ext.refl w790).trans hx878).trans hx887), b892⟩, ?_⟩
        refine any_one (i := 3) (by decide +kernel) rfl ?_
        refine o_appE (n := 0) (xs := []) (ys := xs) (base := (w.heap.size + 2)) elBss F891 rfl rfl rfl rfl rfl (F891.get rfl) (F891.get rfl) (own_of_blk (n := 0) (cap := 0) (k := 1) (cur := []) b886 (Nat.le_refl _) (by omega) rfl (by omega : (w.heap.size + 2) ≤ g884)) (Cel.ext hcel (((((((Ext.refl w).trans hx5).trans hx13).trans hx27).trans hx791).trans hx878).trans hx887)) (by omega) (by omega) (by omega) ?_
        intro v900 w893 a898 F899 r894 hg895 ho905
        simp only [Nat.zero_add, List.nil_append] at r894
        obtain ⟨g896, c897, rfl, hz901, hz902, hz903, hz904⟩ := own_form r894 (by omega)
        clear F891
        have ho905 : g896 = g884 ∨ g896 = w885.heap.size := ho905.imp (fun h => Option.some.inj h) (fun h => Option.some.inj h)
        have hg895 : World.grownBy w885 w893 (some g884) := hg895
        have z906 := hg895.size
        have b907 := (b892.grownN hg895 (by omega))
        refine ⟨fun _ _ => ⟨((((Ext.refl w790).trans hx878).trans hx887).grownN hg895 (by omega)), b907⟩, ?_⟩
        refine qp 6 (.agg #[(.slice (some ⟨g896, 0, none⟩) d.sectors.length c897), (.slice none 0 0), (.int .i64 d.left), (.bool false)]) F899 rfl rfl (fun W => (rn_build (parts2 (F899.get rfl) (F899.get rfl)) (by kernel_rfl))) fun _ F909 => ?_; clear F899
        refine any_one (i := 8) (by decide +kernel) rfl ?_
        have b913 := ((b877.ext hx887).grownN hg895 (by omega))
        refine o_store (cells := [(.slice (some ⟨g896, 0, none⟩) d.sectors.length c897), (.slice none 0 0), (.int .i64 d.left), (.bool false)]) F909 rfl rfl rfl rfl (F909.get rfl) (F909.get rfl) b913 inf25 rfl (by simp [Value.oneCell']) ?_
        intro w910 b911 hg912; have z914 := hg912.size
        refine ⟨fun h => absurd h (by decide), ?_⟩
        refine any_nil (by decide +kernel) ?_
        have r915 := (own_grownE r894 hg912 (by omega))
        exact ⟨g875, g896, c897, (((((((((F909.nil.c F909 6 rfl).c F909 29 rfl).c F909 5 rfl).c F909 4 rfl).c F909 15 rfl).c F909 3 rfl).c F909 2 rfl).c F909 1 rfl).c F909 0 rfl), ((((((Ext.refl w26).trans hx791).trans hx878).trans hx887).grownN hg895 (by omega)).grownN hg912 (by omega)), b911, (by omega), r915, (by omega), (by omega), (by omega), (by omega)⟩
    · rintro a916 w917 ⟨xg830, xg816, xc817, F918, hx919, b920, z926, f921, f922, f923, f924, f925⟩
      have z927 := hx919.size
      clear F789
      have z928 := b920.lt
      refine wp_seq_k (fun K929 hK929 => ?_)
      refine wp_seq_k (fun K930 hK930 => ?_)
      refine wp_region_lit ?_
      refine qv 0 (.int .i64 0) F918 rfl (rn_assign rfl) fun _ F932 => ?_; clear F918
      refine wpList_nil ?_
      refine hK930 _ _ ?_
      clear hK930
      refine wp_block ?_
      have b933 := (b38.ext hx919)
      have b934 := ((b12.ext hx27).ext hx919)
      refine wp_loop (fun a' W => ∃ (k : Nat) (vs : List Value), Sl 95 [(0, (.agg #[(.slice A d.sectors.length c), (.slice B d.pending.length e), (.int .i64 d.left), (.bool d.stopped)])), (1, (.pointer (some ⟨g2, 0, none⟩))), (2, (.pointer (some ⟨g10, 0, none⟩))), (3, (.int .i64 0)), (15, (.bool d.stopped)), (4, (.int .i64 (d.pending.length : Nat))), (5, (.bool false)), (29, (.bool false)), (6, (.pointer (some ⟨xg830, 0, none⟩))), (7, (.int .i64 (k : Nat)))] a' ∧ (k : Int) ≤ (d.pending.length : Nat) ∧ k ≤ d.pending.length ∧ Ext w W ∧ Blk W g2 25 [(.slice A d.sectors.length c), (.slice B d.pending.length e), (.int .i64 d.left), (.bool d.stopped)] ∧ Blk W g10 25 [(.slice none 0 0), (.slice none 0 0), (.int .i64 0), (.bool false)] ∧ Blk W xg830 25 [(.slice (some ⟨xg816, 0, none⟩) d.sectors.length xc817), (.slice none 0 0), (.int .i64 d.left), (.bool false)] ∧ W.ownsRow (w.heap.size + 2) 35 1 (.slice (some ⟨xg816, 0, none⟩) d.sectors.length xc817) d.sectors.length vs ∧ ∀ i (h : i < (performL d.sectors (d.pending.take k)).length) (h' : i < vs.length), RBs S w vs[i] (performL d.sectors (d.pending.take k))[i]) (fun a' _ => ((d.pending.length : Nat) : Int).toNat - (intOf (a'.eval (.tmp 7))).toNat) ⟨0, xs, ((((((((((F932.nil.cons (q_get F932 (t := 7) rfl (by first | rfl | (congr 1; omega)))).cons (q_get F932 (t := 6) rfl rfl)).cons (q_get F932 (t := 29) rfl rfl)).cons (q_get F932 (t := 5) rfl rfl)).cons (q_get F932 (t := 4) rfl rfl)).cons (q_get F932 (t := 15) rfl rfl)).cons (q_get F932 (t := 3) rfl rfl)).cons (q_get F932 (t := 2) rfl rfl)).cons (q_get F932 (t := 1) rfl rfl)).cons (q_get F932 (t := 0) rfl rfl)), (by omega), (by omega), (((((Ext.refl w).trans hx5).trans hx13).trans hx27).trans hx919), b933, b934, b920, f921, hrs⟩ ?_
      clear F932
      rintro a935 w936 ⟨k, vs, F937, hp939, hp940, hx938, b941, b942, b943, r944, hf945⟩
      have hL946 := F937
      have z947 := hx938.size
      have z948 := b941.lt
      have z949 := b942.lt
      have z950 := b943.lt
      have z951 := own_lt r944
      refine wp_seq_k (fun K952 hK952 => ?_)
      refine wp_seq_k (fun K953 hK953 => ?_)
      refine wp_region_lit ?_
      refine qv 0 (.int .i64 (k : Nat)) F937 rfl (rn_move (F937.get rfl)) fun _ F955 => ?_; clear F937
      refine qv 1 (.int .i64 (d.pending.length : Nat)) F955 rfl (rn_move (F955.get rfl)) fun _ F957 => ?_; clear F955
      refine qv 2 (.bool (decide (((k : Nat) : Int) < ((d.pending.length : Nat) : Int)))) F957 rfl (rn_lss (F957.get rfl) (F957.get rfl)) fun _ F959 => ?_; clear F957
      refine wpList_nil ?_
      refine hK953 _ _ ?_
      clear hK953
      by_cases hc960 : ((k : Nat) : Int) < ((d.pending.length : Nat) : Int)
      · skip
        refine wp_cond_true (c_true F959 rfl (decide_eq_true hc960)) ?_
        refine wp_skip ?_
        refine hK952 _ _ ?_
        clear hK952
        refine wp_seq_k (fun K961 hK961 => ?_)
        refine wp_block ?_
        have hx963 : ∃ W, w936.drew = W ∧ Ext w936 W := ⟨_, rfl, (Ext.refl _).drew⟩
        obtain ⟨w962, e964, hx963⟩ := hx963
        have z965 := hx963.size
        refine any_start (fun W => Ext w962 W ∧ Blk W xg830 25 [(.slice (some ⟨xg816, 0, none⟩) d.sectors.length xc817), (.slice none 0 0), (.int .i64 d.left), (.bool false)] ∧ Blk W g2 25 [(.slice A d.sectors.length c), (.slice B d.pending.length e), (.int .i64 d.left), (.bool d.stopped)]) (fun i => i == 15) 16 #[false, false, false, false, false, false, false, false, false, false, false, false, false, false, false, false] rfl rfl rfl ?_
        rw [e964]; clear e964
        refine qp 0 (.pointer (some ⟨xg830, 0, none⟩)) F959 rfl rfl (fun W => (rn_field Try.underlying25 rfl (by kernel_rfl) (F959.get rfl) rfl)) fun _ F967 => ?_; clear F959
        have b969 := (b943.ext hx963)
        have b970 := (b941.ext hx963)
        have hS968 : Ext w962 w962 ∧ Blk w962 xg830 25 [(.slice (some ⟨xg816, 0, none⟩) d.sectors.length xc817), (.slice none 0 0), (.int .i64 d.left), (.bool false)] ∧ Blk w962 g2 25 [(.slice A d.sectors.length c), (.slice B d.pending.length e), (.int .i64 d.left), (.bool d.stopped)] := ⟨(Ext.refl w962), b969, b970⟩
        refine qs 1 (.slice (some ⟨xg816, 0, none⟩) d.sectors.length xc817) F967 rfl rfl hS968 (fun W hW => (rn_load (isAgg_no Try.underlying22 rfl) (F967.get rfl) (hW.2.1.rule.1 0))) fun _ F972 => ?_; clear F967
        refine qp 2 (.pointer (some ⟨g2, 1, none⟩)) F972 rfl rfl (fun W => (rn_field Try.underlying25 rfl (by kernel_rfl) (F972.get rfl) rfl)) fun _ F974 => ?_; clear F972
        refine qs 3 (.slice B d.pending.length e) F974 rfl rfl hS968 (fun W hW => (rn_load (isAgg_no Try.underlying23 rfl) (F974.get rfl) (hW.2.2.rule.1 1))) fun _ F976 => ?_; clear F974
        refine qp 4 (.int .i64 (k : Nat)) F976 rfl rfl (fun W => (rn_move (F976.get rfl))) fun _ F978 => ?_; clear F976
        obtain ⟨x979, hi980, hm992⟩ := get_of_lt d.pending k (by omega)
        obtain ⟨hp993, hp994, hp995⟩ := f7 x979 hm992
        obtain ⟨b981, o982, A983, c984, hA985, hl986, hc989, hc987, hr988, le990, le991⟩ := RWs.get (RDk.len hd).2.1 hi980
        refine qp 5 (.pointer (some ⟨b981, o982 + k * 2, none⟩)) F978 rfl rfl (fun W => (rn_index Try.underlying23 inf76 ((F978.get rfl).trans (by rw [hA985])) (F978.get rfl) (by omega : (0 : Int) ≤ (k : Nat)) (by omega : ((k : Nat) : Int) < ((d.pending.length : Nat) : Int)))) fun _ F997 => ?_; clear F978
        refine qp 6 (.pointer (some ⟨b981, o982 + k * 2, none⟩)) F997 rfl rfl (fun W => (rn_field Try.underlying76 rfl (by kernel_rfl) (F997.get rfl) rfl)) fun _ F999 => ?_; clear F997
        refine qs 7 (.int .i64 x979.1) F999 rfl rfl hS968 (fun W hW => (rn_load (isAgg_no Try.underlying3 rfl) (F999.get rfl) (Ext.keep ((((Ext.refl w).trans hx938).trans hx963).trans hW.1) hc989))) fun _ F1001 => ?_; clear F999
        refine qp 8 (.pointer (some ⟨g2, 1, none⟩)) F1001 rfl rfl (fun W => (rn_field Try.underlying25 rfl (by kernel_rfl) (F1001.get rfl) rfl)) fun _ F1003 => ?_; clear F1001
        refine qs 9 (.slice B d.pending.length e) F1003 rfl rfl hS968 (fun W hW => (rn_load (isAgg_no Try.underlying23 rfl) (F1003.get rfl) (hW.2.2.rule.1 1))) fun _ F1005 => ?_; clear F1003
        refine qp 10 (.int .i64 (k : Nat)) F1005 rfl rfl (fun W => (rn_move (F1005.get rfl))) fun _ F1007 => ?_; clear F1005
        refine qp 11 (.pointer (some ⟨b981, o982 + k * 2, none⟩)) F1007 rfl rfl (fun W => (rn_index Try.underlying23 inf76 ((F1007.get rfl).trans (by rw [hA985])) (F1007.get rfl) (by omega : (0 : Int) ≤ (k : Nat)) (by omega : ((k : Nat) : Int) < ((d.pending.length : Nat) : Int)))) fun _ F1009 => ?_; clear F1007
        refine qp 12 (.pointer (some ⟨b981, o982 + k * 2 + 1, none⟩)) F1009 rfl rfl (fun W => (rn_field Try.underlying76 rfl (by kernel_rfl) (F1009.get rfl) rfl)) fun _ F1011 => ?_; clear F1009
        refine qs 13 (.slice A983 x979.2.length c984) F1011 rfl rfl hS968 (fun W hW => (rn_load (isAgg_no Try.underlying35 rfl) (F1011.get rfl) (Ext.keep ((((Ext.refl w).trans hx938).trans hx963).trans hW.1) hc987))) fun _ F1013 => ?_; clear F1011
        refine qp 14 (.pointer (some ⟨xg816, 0 + (x979.1 : Int).toNat, none⟩)) F1013 rfl rfl (fun W => (rn_index1 Try.underlying22 inf35 (F1013.get rfl) (F1013.get rfl) (by omega : (0 : Int) ≤ x979.1) (by omega : (x979.1 : Int) < ((d.sectors.length : Nat) : Int)))) fun _ F1015 => ?_; clear F1013
        refine any_one (i := 15) (by decide +kernel) rfl ?_
        have r1016 := (own_ext r944 hx963)
        refine o_storeRow F1015 rfl rfl rfl rfl (F1015.get rfl) (F1015.get rfl) r1016 inf35 (by omega) rfl ?_
        intro w1017 r1018 hg1019; have z1020 := hg1019.size
        refine ⟨fun h => absurd h (by decide), ?_⟩
        refine any_nil (by decide +kernel) ?_
        refine hK961 _ _ ?_
        clear hK961
        have F1021 := (((((((((((F1015.nil.c F1015 41 rfl).c F1015 7 rfl).c F1015 6 rfl).c F1015 29 rfl).c F1015 5 rfl).c F1015 4 rfl).c F1015 15 rfl).c F1015 3 rfl).c F1015 2 rfl).c F1015 1 rfl).c F1015 0 rfl)
        clear F1015
        refine wp_region_lit ?_
        refine qv 0 (.int .i64 (k : Nat)) F1021 rfl (rn_move (F1021.get rfl)) fun _ F1023 => ?_; clear F1021
        refine qv 1 (.int .i64 ((k : Nat) + 1)) F1023 rfl (rn_add (F1023.get rfl) rfl (by omega) (by omega)) fun _ F1025 => ?_; clear F1023
        refine qv 2 (.int .i64 ((k : Nat) + 1)) F1025 rfl (rn_assign (F1025.get rfl)) fun _ F1027 => ?_; clear F1025
        refine wpList_nil ?_
        have b1028 := (b970.grownN hg1019 (by omega))
        have b1029 := ((b942.ext hx963).grownN hg1019 (by omega))
        have b1030 := (b969.grownN hg1019 (by omega))
        refine ⟨⟨k + 1, (vs.set (0 + (x979.1 : Int).toNat) (.slice A983 x979.2.length c984)), ((((((((((F1027.nil.cons (q_get F1027 (t := 7) rfl (by first | rfl | (congr 1; omega)))).cons (q_get F1027 (t := 6) rfl rfl)).cons (q_get F1027 (t := 29) rfl rfl)).cons (q_get F1027 (t := 5) rfl rfl)).cons (q_get F1027 (t := 4) rfl rfl)).cons (q_get F1027 (t := 15) rfl rfl)).cons (q_get F1027 (t := 3) rfl rfl)).cons (q_get F1027 (t := 2) rfl rfl)).cons (q_get F1027 (t := 1) rfl rfl)).cons (q_get F1027 (t := 0) rfl rfl)), (by omega), (by omega), ((((Ext.refl w).trans hx938).trans hx963).grownN hg1019 (by omega)), b1028, b1029, b1030, r1018, (perf_next hi980 hr988 rfl hf945)⟩, ?_⟩
        rw [F1027.get (t := 7) rfl, hL946.get (t := 7) rfl]; simp [intOf]; omega
      · skip
        refine wp_cond_false (c_false F959 rfl (decide_eq_false hc960)) ?_
        refine wp_exit ?_
        refine exit_then ?_
        refine exit_then ?_
        refine exit_here ?_
        refine hK929 _ _ ?_
        clear hK929
        refine wp_seq_k (fun K1031 hK1031 => ?_)
        refine wp_seq_k (fun K1032 hK1032 => ?_)
        refine wp_region_lit ?_
        refine qv 0 (.bool false) F959 rfl (rn_move (F959.get rfl)) fun _ F1034 => ?_; clear F959
        refine wpList_nil ?_
        refine hK1032 _ _ ?_
        clear hK1032
        refine wp_cond_false (c_false F1034 rfl rfl) ?_
        refine wp_skip ?_
        refine hK1031 _ _ ?_
        clear hK1031
        refine wp_seq_k (fun K1035 hK1035 => ?_)
        refine wp_seq_k (fun K1036 hK1036 => ?_)
        refine wp_region_lit ?_
        refine qv 0 (.pointer (some ⟨xg830, 2, none⟩)) F1034 rfl (rn_field Try.underlying25 rfl (by kernel_rfl) (F1034.get rfl) rfl) fun _ F1038 => ?_; clear F1034
        refine qv 1 (.int .i64 d.left) F1038 rfl (rn_load (isAgg_no Try.underlying3 rfl) (F1038.get rfl) (b943.rule.1 2)) fun _ F1040 => ?_; clear F1038
        refine qv 2 (.bool (decide ((0 : Int) ≤ (d.left : Int)))) F1040 rfl (rn_geq (F1040.get rfl) rfl) fun _ F1042 => ?_; clear F1040
        refine wpList_nil ?_
        refine hK1036 _ _ ?_
        clear hK1036
        have F1043 := (((((((((((((F1042.nil.c F1042 88 rfl).c F1042 59 rfl).c F1042 41 rfl).c F1042 7 rfl).c F1042 6 rfl).c F1042 29 rfl).c F1042 5 rfl).c F1042 4 rfl).c F1042 15 rfl).c F1042 3 rfl).c F1042 2 rfl).c F1042 1 rfl).c F1042 0 rfl)
        clear F1042
        refine wp_cond_false (c_false F1043 rfl (decide_eq_false hc63)) ?_
        refine wp_skip ?_
        refine hK1035 _ _ ?_
        clear hK1035
        refine wp_seq_k (fun K1044 hK1044 => ?_)
        refine wp_region_lit ?_
        refine qv 0 (.agg #[(.slice (some ⟨xg816, 0, none⟩) d.sectors.length xc817), (.slice none 0 0), (.int .i64 d.left), (.bool false)]) F1043 rfl (rn_loadBlk (F1043.get rfl) b943 Try.underlying25 rfl inf25) fun _ F1046 => ?_; clear F1043
        refine wpl_op (i := 1) rfl (o_store (cells := [(.slice (some ⟨xg816, 0, none⟩) d.sectors.length xc817), (.slice none 0 0), (.int .i64 d.left), (.bool false)]) F1046 rfl rfl rfl rfl (F1046.get rfl) (F1046.get rfl) b942 inf25 rfl (by simp [Value.oneCell']) ?_)
        intro w1047 b1048 hg1049; have z1050 := hg1049.size
        refine qv 2 (.int .i64 0) F1046 rfl (rn_assign rfl) fun _ F1052 => ?_; clear F1046
        refine wpList_nil ?_
        refine hK1044 _ _ ?_
        clear hK1044
        refine wp_ret ?_
        refine retC1 F1052 rfl rfl rfl b1048 Try.underlying25 rfl inf25 ?_
        have r1053 := (own_grownE r944 hg1049 (by omega))
        have hkk : k = d.pending.length := by omega
        have htk : d.pending.take k = d.pending := List.take_of_length_le (by omega)
        have hpf := hf945
        rw [htk] at hpf
        exact rsync_fin (l := d.left) (s := false) (n := 0) (((Ext.refl w).trans hx938).grownN hg1049 (by omega)) r1053 (by omega) (fun i h h' => ((hpf i h h').ext (((Ext.refl w).trans hx938).grownN hg1049 (by omega))).up) (performL_length _ _) (by unfold Dk.sync Dk.syncOk; rw [if_neg (by rw [h1]; simp), if_neg (by omega)]; first | rw [if_pos (by omega)] | rw [if_neg (by omega)])

theorem rsync_any (v : Value) (d : Dk) (w : World) (hd : RDk S w v d) : Calls Try.prog 48 #[v] w (RDE S w d.sync.1 d.sync.2) := by
  cases hr : d.runs
  · have he : d.sync = (Dk.zero, 380) := by unfold Dk.sync; rw [if_pos hr]
    rw [he]; exact rsync_bad v d w hd hr
  · obtain ⟨A, c, B, e, rfl, -, -⟩ := hd.form
    exact rsync_main A c B e d w hd hr

end Go.Proofs.Ytfmhnplkpohogaa

namespace Go.Proofs.Ytfmhnplkpohogaa

theorem reads_first (L : List (List UInt8)) : ∃ g, usedL (recsOf L) ≤ L.length ∧ Reads (L.take (usedL (recsOf L))) 0 0 (recsOf L) g ∧ g ≤ maxG L := by
  obtain ⟨g, h1, h2, h3⟩ := reads_of (L.length + 1) L 0 0 (by omega)
  refine ⟨g, h1, h2, ?_⟩
  rcases h3 with rfl | ⟨s, hs, rfl⟩
  · omega
  · exact (le_maxG s hs).1
theorem used_first {L rs : List (List UInt8)} (hr : recsOf L = rs) : usedL rs ≤ L.length := by
  subst hr
  obtain ⟨g, h1, -, -⟩ := reads_first L
  exact h1
theorem recs_len (L : List (List UInt8)) : (recsOf L).length ≤ L.length := Nat.le_trans (usedL_len _) (used_first rfl)
/-! the disk after a sync -/
section
variable {l : Lg} {d : Dk}
end

end Go.Proofs.Ytfmhnplkpohogaa

namespace Go.Proofs.Ytfmhnplkpohogaa
open Go.RowKit
set_option maxRecDepth 100000

variable {S S' : Nat → Prop}

theorem SlD.c {ds : List Deferred} {N : Nat} {m m' : List (Nat × Value)} {a : Act} (h : SlD ds N m' a) (hF : SlD ds N m a) (t : Nat) {v : Value} (e : look m t = some v) : SlD ds N ((t, v) :: m') a := h.cons (hF.get e)
/-- between two rounds: l holds the records that have come -/
def OpenI (S : Nat → Prop) (w : World) (A : Option Addr) (c : Nat) (L : List (List UInt8)) (gl gB B : Nat) (pre : List (List UInt8)) (W : World) : Prop :=
  ∃ An cn vs, Blk W gl 29 [.int .i64 (L.length : Nat), .slice An pre.length cn, .int .i64 0] ∧ W.ownsRow B 35 1 (.slice An pre.length cn) pre.length vs ∧ RVs B (.slice An pre.length cn) W vs pre ∧
    Blk W gB 22 [.slice A L.length c] ∧ RBss (Clip S w) W (.slice A L.length c) L ∧ Ext w W
theorem OpenI.ext {w : World} {A : Option Addr} {c : Nat} {L : List (List UInt8)} {gl gB B : Nat} {pre : List (List UInt8)} {W W' : World} (h : OpenI S w A c L gl gB B pre W) (hx : Ext W W') : OpenI S w A c L gl gB B pre W' := by
  obtain ⟨An, cn, vs, h1, h2, h3, h4, h5, h6⟩ := h
  exact ⟨An, cn, vs, h1.ext hx, own_ext h2 hx, h3.ext hx, h4.ext hx, h5.ext hx, h6.trans hx⟩
theorem OpenI.loop {w : World} {A : Option Addr} {c : Nat} {L : List (List UInt8)} {gl gB B l : Nat} {pre : List (List UInt8)} {W W' : World} (h : OpenI S w A c L gl gB B pre W) (hg : W.grownBy W' (some l)) (h1 : gl < l) (h2 : gB < l) (h3 : l < B) (h4 : w.heap.size ≤ l) : OpenI S w A c L gl gB B pre W' := by
  obtain ⟨An, cn, vs, k1, k2, k3, k4, k5, k6⟩ := h
  refine ⟨An, cn, vs, k1.grownN hg (by omega), own_grownB k2 hg (fun e => ?_), k3.set hg h3, k4.grownN hg (by omega), ?_, k6.grownN hg h4⟩
  · have := own_ge k2 l e; omega
  · exact k5.keep hg.size fun b hb hlt => hg.block b hlt (fun e => by injection e with e; have := hb.2; omega)
theorem OpenI.h {w : World} {A : Option Addr} {c : Nat} {L : List (List UInt8)} {gl gB B : Nat} {pre : List (List UInt8)} {W : World} (h : OpenI S w A c L gl gB B pre W) : RecH (Clip S w) A c L gB W := by
  obtain ⟨An, cn, vs, k1, k2, k3, k4, k5, k6⟩ := h
  exact ⟨k4, k5⟩
theorem own_loop {w w' : World} {base : Nat} {e : TypeId} {k n l : Nat} {v : Value} {xs : List Value} (h : w.ownsRow base e k v n xs) (hg : w.grownBy w' (some l)) (hl : l < base) : w'.ownsRow base e k v n xs :=
  own_grownB h hg fun e => by have := own_ge h l e; omega

theorem OpenI.step {w : World} {A : Option Addr} {c : Nat} {L : List (List UInt8)} {gl gB B : Nat} {pre : List (List UInt8)} {x : List UInt8} {W : World} {An : Option Addr} {cn n : Nat} {vs : List Value} (hn : n = (pre ++ [x]).length) (h1 : Blk W gl 29 [.int .i64 (L.length : Nat), .slice An n cn, .int .i64 0])
    (h2 : W.ownsRow B 35 1 (.slice An n cn) n vs) (h3 : RVs B (.slice An n cn) W vs (pre ++ [x])) (h4 : Blk W gB 22 [.slice A L.length c]) (h5 : RBss (Clip S w) W (.slice A L.length c) L) (h6 : Ext w W) : OpenI S w A c L gl gB B (pre ++ [x]) W := by
  subst hn
  exact ⟨An, cn, vs, h1, h2, h3, h4, h5, h6⟩
/-- what Open returns -/
def OpenRet (w : World) (d : Dk) (e : Ending) (w' : World) : Prop := ∃ A c, e = .returned (.tuple #[.agg #[.int .i64 (openM d), .slice A (openR d).length c, .int .i64 ((openR d).length : Nat)], .int .i64 (openE d)]) ∧ RBss (fun b => w.heap.size ≤ b) w' (.slice A (openR d).length c) (openR d) ∧ Ext w w'
theorem open_fin {w w' : World} {d : Dk} {n m : Int} {R : List (List UInt8)} {A : Option Addr} {c : Nat} (he : openE d = n) (hm : openM d = m) (hr : openR d = R) (hb : RBss (fun b => w.heap.size ≤ b) w' (.slice A R.length c) R) (hx : Ext w w') :
    OpenRet w d (.returned (.tuple #[.agg #[.int .i64 m, .slice A R.length c, .int .i64 (R.length : Nat)], .int .i64 n])) w' := by
  subst he hm hr
  exact ⟨A, c, rfl, hb, hx⟩
theorem open_err {w w' : World} {d : Dk} {n : Int} (he : openE d = n) (h0 : n ≠ 0) (hx : Ext w w') : OpenRet w d (.returned (.tuple #[.agg #[.int .i64 0, .slice none 0 0, .int .i64 0], .int .i64 n])) w' := by
  obtain ⟨h1, h2⟩ := open_bad he h0
  exact open_fin (R := []) he h2 h1 (RSl.nil _) hx

end Go.Proofs.Ytfmhnplkpohogaa

namespace Go.Proofs.Ytfmhnplkpohogaa
open Go.RowKit

variable {S S' : Nat → Prop}

def sD : Dk := ⟨[List.replicate 128 0], [], -1, false⟩
def sC : Dk := ⟨[encL 1 0 3 [97, 98]], [], -1, false⟩
theorem sane_1 : Dk.new 1 = (sD, 0) := by kernel_rfl
theorem sane_2 : openE sD = 0 ∧ openR sD = [] ∧ openM sD = 1 := ⟨by kernel_rfl, by kernel_rfl, by kernel_rfl⟩
theorem sane_3 : (Lg.mk 1 [] 0).append (List.replicate 113 0) = (Lg.zero, 2) := by kernel_rfl
theorem sane_4 : (Lg.mk 1 [] 0).append [97, 98] = (⟨1, [[97, 98]], 0⟩, 0) := by kernel_rfl
theorem sane_5 : (Lg.mk 1 [[97, 98]] 0).sync sD = (⟨1, [[97, 98]], 1⟩, sC, 0) := by kernel_rfl
theorem sane_6 : openE sC = 0 ∧ openR sC = [[97, 98]] ∧ openM sC = 1 := ⟨by kernel_rfl, by kernel_rfl, by kernel_rfl⟩
theorem sane_7 : (Lg.mk 1 [[97, 98]] 0).sync sC = (Lg.zero, Dk.zero, 390) := by kernel_rfl
theorem sane_8 : (Lg.mk 1 [] 0).room = 112 := by kernel_rfl
theorem sane_9 : (Lg.mk 0 [] 0).check = 1 := by kernel_rfl
/-! contracts at what is known -/
theorem open_conv {P : Program} {f : FuncId} {args : Array Value} {w : World} {d : Dk} {m n : Int} {R : List (List UInt8)} (h : Calls P f args w (OpenRet w d)) (he : openE d = n ∧ openR d = R ∧ openM d = m) : Calls P f args w (fun e w' => ∃ A c, e = .returned (.tuple #[.agg #[.int .i64 m, .slice A R.length c, .int .i64 (R.length : Nat)], .int .i64 n]) ∧ RBss (fun b => w.heap.size ≤ b) w' (.slice A R.length c) R ∧ Ext w w') := by
  obtain ⟨rfl, rfl, rfl⟩ := he
  exact h
theorem app_conv {P : Program} {f : FuncId} {args : Array Value} {w : World} {x : Lg × Int} {m s n : Int} {R : List (List UInt8)} (h : Calls P f args w (LogRet S w x)) (he : x = (⟨m, R, s⟩, n)) : Calls P f args w (fun e w' => ∃ A c, e = .returned (.tuple #[.agg #[.int .i64 m, .slice A R.length c, .int .i64 s], .int .i64 n]) ∧ RBss (Fr S w) w' (.slice A R.length c) R ∧ Ext w w') := by
  subst he
  exact h
theorem sync_conv {P : Program} {f : FuncId} {args : Array Value} {w : World} {x : Lg × Dk × Int} {m s n : Int} {R : List (List UInt8)} {d : Dk} (h : Calls P f args w (SyncRet S w x)) (he : x = (⟨m, R, s⟩, d, n)) : Calls P f args w (fun e w' => ∃ A c v, e = .returned (.tuple #[.agg #[.int .i64 m, .slice A R.length c, .int .i64 s], v, .int .i64 n]) ∧ RBss (Fr S w) w' (.slice A R.length c) R ∧ RDk (Fr S w) w' v d ∧ Ext w w') := by
  subst he
  exact h
theorem same9_self (l : Lg) : l.same l = true := decide_eq_true ⟨rfl, rfl, rfl⟩
end Go.Proofs.Ytfmhnplkpohogaa
