/- Contract of Open. -/
import Derived.Test.YtfmhnplkpohogaaProg
import Derived.Test.YtfmhnplkpohogaaBvsJ
import Derived.KernelRfl
import Derived.Test.YtfmhnplkpohogaaBvsA
import Derived.Test.YtfmhnplkpohogaaBvsB
set_option linter.unusedVariables false
set_option linter.unusedSimpArgs false
namespace Go.Proofs.Ytfmhnplkpohogaa
open Go.RowKit

variable {S S' : Nat → Prop}

set_option maxRecDepth 100000 in
set_option maxHeartbeats 1000000 in
theorem open_any (A : Option Addr) (c : Nat) (B : Option Addr) (e : Nat) (d : Dk) (w : World) (hd : RDk S w (.agg #[.slice A d.sectors.length c, .slice B d.pending.length e, .int .i64 d.left, .bool d.stopped]) d) :
  Calls Try.prog 12 #[.agg #[.slice A d.sectors.length c, .slice B d.pending.length e, .int .i64 d.left, .bool d.stopped]] w (OpenRet w d) := by
 have hdc := RDk.clip hd
 obtain ⟨hq1, hq2⟩ := (RDk.len hd).1.at.2.1
 obtain ⟨-, hq3, hq4⟩ := RSl.elem (RDk.len hd).2.1
 refine calls_enterM (l := [(.agg #[(.slice A d.sectors.length c), (.slice B d.pending.length e), (.int .i64 d.left), (.bool d.stopped)])]) Try.func12 rfl rfl rfl (fun a hF => ?_)
 refine wp_seq_k (fun K1 hK1 => ?_)
 refine wp_region_lit ?_
 refine wpl_op (i := 0) rfl (o_new (fun g => (.pointer (some ⟨g, 0, none⟩))) [(.slice A d.sectors.length c), (.slice B d.pending.length e), (.int .i64 d.left), (.bool d.stopped)] 25 hF rfl rfl rfl rfl (rn_box (hF.get rfl) (by kernel_rfl)) ?_)
 intro g2 w3 a8 F9 z6 z7 b4 hx5; clear hF
 refine wpl_op (i := 1) rfl (o_new (fun g => (.pointer (some ⟨g, 0, none⟩))) [(.int .i64 0), (.slice none 0 0), (.int .i64 0)] 29 F9 rfl rfl rfl rfl (by kernel_rfl) ?_)
 intro g10 w11 a16 F17 z14 z15 b12 hx13; clear F9
 refine qv 2 (.int .i64 0) F17 rfl (rn_assign rfl) fun _ F19 => ?_; clear F17
 refine wpList_nil ?_
 refine hK1 _ _ ?_
 clear hK1
 refine wp_seq_k (fun K20 hK20 => ?_)
 refine wp_seq_k (fun K21 hK21 => ?_)
 refine wp_region_lit ?_
 have b22 := (b4.ext hx13)
 refine qv 0 (.agg #[(.slice A d.sectors.length c), (.slice B d.pending.length e), (.int .i64 d.left), (.bool d.stopped)]) F19 rfl (rn_loadBlk (F19.get rfl) b22 Try.underlying25 rfl inf25) fun _ F24 => ?_; clear F19
 have d25 := ((hdc.ext hx5).ext hx13)
 refine wpl_op (i := 1) rfl (o_call F24 rfl rfl rfl rfl (rn_call (args1 (F24.get rfl)) rfl (by kernel_rfl)) (check_any (S := (Clip S w)) _ d _ d25) ?_)
 rintro _ w26 ⟨rfl, hx27⟩
 refine ⟨_, rfl, ?_⟩; intro a28 F29; clear F24; have z30 := hx27.size
 refine qv 2 (.int .i64 d.check) F29 rfl (rn_assign (F29.get rfl)) fun _ F32 => ?_; clear F29
 refine wpList_nil ?_
 refine hK21 _ _ ?_
 clear hK21
 refine wp_seq_k (fun K33 hK33 => ?_)
 refine wp_region_lit ?_
 refine qv 0 (.int .i64 d.check) F32 rfl (rn_move (F32.get rfl)) fun _ F35 => ?_; clear F32
 refine qv 1 (.bool (decide ((d.check : Int) ≠ (0 : Int)))) F35 rfl (rn_neq (F35.get rfl) rfl) fun _ F37 => ?_; clear F35
 refine wpList_nil ?_
 refine hK33 _ _ ?_
 clear hK33
 by_cases hc38 : (d.check : Int) ≠ (0 : Int)
 ·skip
  have hck : d.check ≠ 0 := hc38
  refine wp_cond_true (c_true F37 rfl (decide_eq_true hc38)) ?_
  refine wp_seq_k (fun K39 hK39 => ?_)
  refine wp_region_lit ?_
  refine qv 0 (.agg #[(.int .i64 0), (.slice none 0 0), (.int .i64 0)]) F37 rfl (rn_build (parts0 ) (by kernel_rfl)) fun _ F41 => ?_; clear F37
  refine qv 1 (.int .i64 d.check) F41 rfl (rn_move (F41.get rfl)) fun _ F43 => ?_; clear F41
  have b47 := (b12.ext hx27)
  refine wpl_op (i := 2) rfl (o_store (cells := [(.int .i64 0), (.slice none 0 0), (.int .i64 0)]) F43 rfl rfl rfl rfl (F43.get rfl) (F43.get rfl) b47 inf29 rfl (by simp [Value.oneCell']) ?_)
  intro w44 b45 hg46; have z48 := hg46.size
  refine qv 3 (.int .i64 d.check) F43 rfl (rn_assign (F43.get rfl)) fun _ F50 => ?_; clear F43
  refine wpList_nil ?_
  refine hK39 _ _ ?_
  clear hK39
  have F51 := ((((((F50.nil.c F50 10 rfl).c F50 4 rfl).c F50 3 rfl).c F50 2 rfl).c F50 1 rfl).c F50 0 rfl)
  clear F50
  refine wp_ret ?_
  refine ret_then ?_
  refine retM ?_
  refine retC1 F51 rfl rfl rfl b45 Try.underlying29 rfl inf29 ?_
  exact open_err (openE_1 hck) (by omega) (((((Ext.refl w).trans hx5).trans hx13).trans hx27).grownN hg46 (by omega))
 ·skip
  have hck : d.check = 0 := Decidable.not_not.1 hc38
  refine wp_cond_false (c_false F37 rfl (decide_eq_false hc38)) ?_
  refine wp_skip ?_
  refine hK20 _ _ ?_
  clear hK20
  refine wp_seq_k (fun K52 hK52 => ?_)
  refine wp_seq_k (fun K53 hK53 => ?_)
  refine wp_region_lit ?_
  refine qv 0 (.pointer (some ⟨g2, 3, none⟩)) F37 rfl (rn_field Try.underlying25 rfl (by kernel_rfl) (F37.get rfl) rfl) fun _ F55 => ?_; clear F37
  have b56 := (b22.ext hx27)
  refine qv 1 (.bool d.stopped) F55 rfl (rn_load (isAgg_no Try.underlying4 rfl) (F55.get rfl) (b56.rule.1 3)) fun _ F58 => ?_; clear F55
  refine wpList_nil ?_
  refine hK53 _ _ ?_
  clear hK53
  have F59 := (((((((F58.nil.c F58 14 rfl).c F58 10 rfl).c F58 4 rfl).c F58 3 rfl).c F58 2 rfl).c F58 1 rfl).c F58 0 rfl)
  clear F58
  rcases Bool.eq_false_or_eq_true d.stopped with hc60 | hc60
  ·skip
   have hst := hc60
   refine wp_cond_true (c_true F59 rfl hc60) ?_
   refine wp_seq_k (fun K61 hK61 => ?_)
   refine wp_region_lit ?_
   refine qv 0 (.agg #[(.int .i64 0), (.slice none 0 0), (.int .i64 0)]) F59 rfl (rn_build (parts0 ) (by kernel_rfl)) fun _ F63 => ?_; clear F59
   have b67 := (b12.ext hx27)
   refine wpl_op (i := 1) rfl (o_store (cells := [(.int .i64 0), (.slice none 0 0), (.int .i64 0)]) F63 rfl rfl rfl rfl (F63.get rfl) (F63.get rfl) b67 inf29 rfl (by simp [Value.oneCell']) ?_)
   intro w64 b65 hg66; have z68 := hg66.size
   refine qv 2 (.int .i64 380) F63 rfl (rn_assign rfl) fun _ F70 => ?_; clear F63
   refine wpList_nil ?_
   refine hK61 _ _ ?_
   clear hK61
   refine wp_ret ?_
   refine ret_then ?_
   refine retM ?_
   refine retC1 F70 rfl rfl rfl b65 Try.underlying29 rfl inf29 ?_
   exact open_err (openE_2 hck hst) (by omega) (((((Ext.refl w).trans hx5).trans hx13).trans hx27).grownN hg66 (by omega))
  ·skip
   have hst := hc60
   refine wp_cond_false (c_false F59 rfl hc60) ?_
   refine wp_skip ?_
   refine hK52 _ _ ?_
   clear hK52
   refine wp_seq_k (fun K71 hK71 => ?_)
   refine wp_seq_k (fun K72 hK72 => ?_)
   refine wp_region_lit ?_
   refine qv 0 (.pointer (some ⟨g2, 1, none⟩)) F59 rfl (rn_field Try.underlying25 rfl (by kernel_rfl) (F59.get rfl) rfl) fun _ F74 => ?_; clear F59
   refine qv 1 (.slice B d.pending.length e) F74 rfl (rn_load (isAgg_no Try.underlying23 rfl) (F74.get rfl) (b56.rule.1 1)) fun _ F76 => ?_; clear F74
   refine qv 2 (.int .i64 (d.pending.length : Nat)) F76 rfl (rn_len_slice Try.underlying23 (F76.get rfl)) fun _ F78 => ?_; clear F76
   refine qv 3 (.bool (decide ((0 : Int) < ((d.pending.length : Nat) : Int)))) F78 rfl (rn_gtr (F78.get rfl) rfl) fun _ F80 => ?_; clear F78
   refine wpList_nil ?_
   refine hK72 _ _ ?_
   clear hK72
   by_cases hc81 : (0 : Int) < ((d.pending.length : Nat) : Int)
   ·skip
    have hpe : 0 < d.pending.length := by omega
    refine wp_cond_true (c_true F80 rfl (decide_eq_true hc81)) ?_
    refine wp_seq_k (fun K82 hK82 => ?_)
    refine wp_region_lit ?_
    refine qv 0 (.agg #[(.int .i64 0), (.slice none 0 0), (.int .i64 0)]) F80 rfl (rn_build (parts0 ) (by kernel_rfl)) fun _ F84 => ?_; clear F80
    have b88 := (b12.ext hx27)
    refine wpl_op (i := 1) rfl (o_store (cells := [(.int .i64 0), (.slice none 0 0), (.int .i64 0)]) F84 rfl rfl rfl rfl (F84.get rfl) (F84.get rfl) b88 inf29 rfl (by simp [Value.oneCell']) ?_)
    intro w85 b86 hg87; have z89 := hg87.size
    refine qv 2 (.int .i64 1) F84 rfl (rn_assign rfl) fun _ F91 => ?_; clear F84
    refine wpList_nil ?_
    refine hK82 _ _ ?_
    clear hK82
    have F92 := ((((((((F91.nil.c F91 19 rfl).c F91 14 rfl).c F91 10 rfl).c F91 4 rfl).c F91 3 rfl).c F91 2 rfl).c F91 1 rfl).c F91 0 rfl)
    clear F91
    refine wp_ret ?_
    refine ret_then ?_
    refine retM ?_
    refine retC1 F92 rfl rfl rfl b86 Try.underlying29 rfl inf29 ?_
    exact open_err (openE_3 hck hst hpe) (by omega) (((((Ext.refl w).trans hx5).trans hx13).trans hx27).grownN hg87 (by omega))
   ·skip
    have hpe : ¬ 0 < d.pending.length := by omega
    have hrun := runs_of_check hck hst; obtain ⟨-, hl, -, -, -, -, -, hL⟩ := runs_facts hrun
    refine wp_cond_false (c_false F80 rfl (decide_eq_false hc81)) ?_
    refine wp_skip ?_
    refine hK71 _ _ ?_
    clear hK71
    refine wp_seq_k (fun K93 hK93 => ?_)
    have d94 := (((hdc.ext hx5).ext hx13).ext hx27)
    have hf95 := (RDk.len d94).1
    refine wp_region_lit ?_
    refine qv 0 (.pointer (some ⟨g2, 0, none⟩)) F80 rfl (rn_field Try.underlying25 rfl (by kernel_rfl) (F80.get rfl) rfl) fun _ F97 => ?_; clear F80
    refine qv 1 (.slice A d.sectors.length c) F97 rfl (rn_load (isAgg_no Try.underlying22 rfl) (F97.get rfl) (b56.rule.1 0)) fun _ F99 => ?_; clear F97
    refine qv 2 (.int .i64 (d.sectors.length : Nat)) F99 rfl (rn_len_slice Try.underlying22 (F99.get rfl)) fun _ F101 => ?_; clear F99
    refine qv 3 (.pointer (some ⟨g10, 0, none⟩)) F101 rfl (rn_field Try.underlying29 rfl (by kernel_rfl) (F101.get rfl) rfl) fun _ F103 => ?_; clear F101
    have b107 := (b12.ext hx27)
    refine wpl_op (i := 4) rfl (o_store1 (new := [(.int .i64 (d.sectors.length : Nat)), (.slice none 0 0), (.int .i64 0)]) F103 rfl rfl rfl rfl (F103.get rfl) (F103.get rfl) b107 inf3 (by simp) rfl rfl ?_)
    intro w104 b105 hg106; have z108 := hg106.size
    refine wpList_nil ?_
    refine hK93 _ _ ?_
    clear hK93
    have F109 := ((((((((F103.nil.c F103 19 rfl).c F103 14 rfl).c F103 10 rfl).c F103 4 rfl).c F103 3 rfl).c F103 2 rfl).c F103 1 rfl).c F103 0 rfl)
    clear F103
    refine wp_seq_k (fun K110 hK110 => ?_)
    refine wp_seq_k (fun K111 hK111 => ?_)
    refine wp_region_lit ?_
    refine qv 0 (.pointer (some ⟨g2, 0, none⟩)) F109 rfl (rn_field Try.underlying25 rfl (by kernel_rfl) (F109.get rfl) rfl) fun _ F113 => ?_; clear F109
    have b114 := (b56.grownN hg106 (by omega))
    refine qv 1 (.slice A d.sectors.length c) F113 rfl (rn_load (isAgg_no Try.underlying22 rfl) (F113.get rfl) (b114.rule.1 0)) fun _ F116 => ?_; clear F113
    refine wpl_op (i := 2) rfl (o_call F116 rfl rfl rfl rfl (rn_call (args1 (F116.get rfl)) rfl (by kernel_rfl)) (recsfn_any _ _ _ _) ?_)
    rintro _ w120 ⟨g117, z118, rfl, b119, hx121⟩
    refine ⟨_, rfl, ?_⟩; intro a122 F123; clear F116; have z124 := hx121.size
    have z125 := b119.lt
    refine wpList_nil ?_
    refine hK111 _ _ ?_
    clear hK111
    refine wp_block ?_
    have b126 := (b105.ext hx121)
    have hf127 := b126
    have hf128 := b119
    have d129 := (hf95.pres (((Pres.refl w26).grownN hg106 (fun h => by simp only [Clip] at h; omega)).ext hx121))
    have hf130 := d129
    have hf131 := ((((((Ext.refl w).trans hx5).trans hx13).trans hx27).grownN hg106 (by omega)).trans hx121)
    refine wp_range F123.2.1 (F123.get rfl) (fun _ _ => rfl) (records1_iter (S := Clip S w) A c d.sectors g117 (w120.heap.size + 2) hL hl) (OpenI S w A c d.sectors g10 g117 (w120.heap.size + 2)) (fun _ _ _ h hx => h.ext hx) (fun _ _ _ h hg _ => h.loop hg (by omega) (by omega) (by omega) (by omega)) (fun W hx hs => ?_) (fun _ _ h => h.h) ?_ ?_
    ·exact ⟨none, 0, [], hf127.ext hx, own_nil W (w120.heap.size + 2) 35 1, RVs.nil _ _ _, hf128.ext hx, hf130.ext hx, hf131.trans hx⟩
    ·rintro pre x args W hi ⟨k, Ax, n, cx, base, rfl, hrow, hbase⟩ ⟨tl, htl⟩ hsz
     have hpl := congrArg List.length htl; rw [List.length_append, List.length_cons] at hpl; have hrl := recs_len d.sectors
     refine ⟨rfl, region_in rfl (by rintro ⟨_, _, h⟩; exact h) ?_⟩
     have F132 := F123.round2 (p := 28) (q := 29) (v := .int .i64 (k : Nat)) (u := .slice Ax n cx) rfl rfl
     have hor := own_form0 hrow
     refine qv 0 (.slice Ax n cx) F132 rfl (rn_assign (F132.get rfl)) fun _ F134 => ?_; clear F132
     refine wpList_nil ?_
     refine ⟨rfl, fun W2 hg2 hl2 hi2 => ?_⟩
     have hz2 := hg2.size; obtain ⟨An, cn, vs, b1, r1, rv1, bB1, bs1, hx1⟩ := hi2; have hor2 := own_form0 r1; have hzx := hx1.size
     have hrow2 := own_loop hrow hg2 (by omega)
     refine wpIn_block (region_in rfl (by rintro ⟨_, _, h, _⟩; cases h) ?_)
     have z135 := b1.lt; have z136 := bB1.lt
     refine qv 0 (.pointer (some ⟨g10, 1, none⟩)) F134 rfl (rn_field Try.underlying29 rfl (by kernel_rfl) (F134.get rfl) rfl) fun _ F138 => ?_; clear F134
     refine qv 1 (.slice An pre.length cn) F138 rfl (rn_load (isAgg_no Try.underlying22 rfl) (F138.get rfl) (b1.rule.1 1)) fun _ F140 => ?_; clear F138
     refine qv 2 (.slice Ax n cx) F140 rfl (rn_move (F140.get rfl)) fun _ F142 => ?_; clear F140
     have hf143 := r1
     refine wpl_op (i := 3) rfl (o_new (fun g => (.slice (some ⟨g, 0, none⟩) 1 1)) [(.slice Ax n cx)] 35 F142 rfl rfl rfl rfl (rn_buildSlice (parts1 (F142.get rfl)) (by kernel_rfl)) ?_)
     intro g144 w145 a150 F151 z148 z149 b146 hx147; clear F142
     have nb152 := own_new (g := g144) hf143 (by omega)
     have rv153 := (RVs.ext rv1 hx147)
     have r154 := (own_ext hrow2 hx147)
     have hf155 := r154
     have r156 := (own_ext r1 hx147)
     have hf157 := r156
     have hf158 := own_rbs hf155
     have hf167 := r156
     have nb168 : some g144 ≠ (Value.slice An pre.length cn).ownBlock := nb152
     have z169 := b146.lt
     have hf170 := r154
     have ap171 : Apart (.slice Ax n cx) (.slice An pre.length cn) := (Apart.types r154 r156 (by decide))
     refine wpl_op (i := 4) rfl (o_appB (zs := rawVals (vs ++ ([(.slice Ax n cx)]))) El22 F151 rfl rfl rfl rfl rfl (F151.get rfl) (F151.get rfl) hf167 (Fl.cel (Fl.blk (S := fun b => b = g144) (k := 1) (n := 1) (c := 1) (cs := rawVals [(.slice Ax n cx)]) b146 rfl (one_slices (by simp)) (by omega) rfl)).2.2 (by omega) (by omega) (by omega) (rawVals_app _ _) ?_)
     intro A159 c160 w161 a172 F173 r162 hg163 z164 z165 hnb166; clear F151; have z174 := hg163.size
     have nb175 := hnb166 g144 (by omega) nb168
     have rv176 := RVs.app (v' := (.slice A159 (pre.length + 1) c160)) (RVs.snoc rv153 hf158 (fun b _ hb => ⟨by have := own_ge hf155 b hb; omega, own_types hf155 hf157 (by decide) b hb⟩)) hg163 hnb166
     refine qv 5 (.pointer (some ⟨g10, 1, none⟩)) F173 rfl (rn_field Try.underlying29 rfl (by kernel_rfl) (F173.get rfl) rfl) fun _ F178 => ?_; clear F173
     have b182 := (grown_blk hf167 hg163 (b1.ext hx147) (by decide))
     refine wpl_op (i := 6) rfl (o_store1 (new := [(.int .i64 (d.sectors.length : Nat)), (.slice A159 (pre.length + 1) c160), (.int .i64 0)]) F178 rfl rfl rfl rfl (F178.get rfl) (F178.get rfl) b182 inf22 (by simp) rfl rfl ?_)
     intro w179 b180 hg181; have z183 := hg181.size
     refine wpList_nil ?_
     have r184 := (own_grownT r162 b182 hg181 (by decide))
     have b185 := ((grown_blk hf167 hg163 (bB1.ext hx147) (by decide)).grownN hg181 (by omega))
     have d186 := (bs1.pres ((Pres.row ((Pres.refl W2).ext hx147) hg163 hf167 (fun b hb h => by simp only [Clip] at h; omega)).grownN hg181 (fun h => by simp only [Clip] at h; omega)))
     exact ⟨rfl, OpenI.step (n := pre.length + 1) (by simp) b180 r184 (RVs.set rv176 hg181 (by omega)) b185 d186 ((ext_row (((Ext.refl w).trans hx1).trans hx147) hg163 hf167 (by omega)).grownN hg181 (by omega)), ((((KeepsOthers.refl W2).trans (KeepsOthers.of_ext hx147)).trans (KeepsOthers.own hg163 hf167)).trans (KeepsOthers.blk hg181 b182))⟩
    ·intro W hi hk hsz
     obtain ⟨An, cn, vs, b1, r1, rv1, bB1, bs1, hx1⟩ := hi; have hor2 := own_form0 r1; have hzx := hx1.size
     have hbs := RVs.bss rv1 r1
     obtain ⟨hfn, hfc⟩ := RBss.at hbs |>.2.1
     have F187 := SlD.of (ds := [{ target := .collected w120.heap.size, args := #[] }]) F123
     have z188 := b1.lt
     refine hK110 _ _ ?_
     clear hK110
     refine wp_seq_k (fun K189 hK189 => ?_)
     refine wp_region_lit ?_
     refine wpl_op (i := 0) rfl (oD_val (v := (.pointer (some ⟨g10, 1, none⟩))) F187 rfl rfl rfl rfl (rn_field Try.underlying29 rfl (by kernel_rfl) (F187.get rfl) rfl) ?_)
     intro a190 F191; clear F187
     refine wpl_op (i := 1) rfl (oD_val (v := (.slice An ((recsOf d.sectors).length) cn)) F191 rfl rfl rfl rfl (rn_load (isAgg_no Try.underlying22 rfl) (F191.get rfl) (b1.rule.1 1)) ?_)
     intro a192 F193; clear F191
     refine wpl_op (i := 2) rfl (oD_val (v := (.int .i64 ((recsOf d.sectors).length : Nat))) F193 rfl rfl rfl rfl (rn_len_slice Try.underlying22 (F193.get rfl)) ?_)
     intro a194 F195; clear F193
     refine wpl_op (i := 3) rfl (oD_val (v := (.pointer (some ⟨g10, 2, none⟩))) F195 rfl rfl rfl rfl (rn_field Try.underlying29 rfl (by kernel_rfl) (F195.get rfl) rfl) ?_)
     intro a196 F197; clear F195
     refine wpl_op (i := 4) rfl (oD_store1 (new := [(.int .i64 (d.sectors.length : Nat)), (.slice An ((recsOf d.sectors).length) cn), (.int .i64 ((recsOf d.sectors).length : Nat))]) F197 rfl rfl rfl rfl (F197.get rfl) (F197.get rfl) b1 inf3 (by simp) rfl rfl ?_)
     intro w198 b199 hg200; have z201 := hg200.size
     refine wpList_nil ?_
     refine hK189 _ _ ?_
     clear hK189
     have F202 := ((((((((F197.nil.c F197 19 rfl).c F197 14 rfl).c F197 10 rfl).c F197 4 rfl).c F197 3 rfl).c F197 2 rfl).c F197 1 rfl).c F197 0 rfl)
     clear F197
     refine wp_seq_k (fun K203 hK203 => ?_)
     refine wp_region_lit ?_
     refine wpl_op (i := 0) rfl (oD_val (v := (.agg #[(.int .i64 (d.sectors.length : Nat)), (.slice An ((recsOf d.sectors).length) cn), (.int .i64 ((recsOf d.sectors).length : Nat))])) F202 rfl rfl rfl rfl (rn_loadBlk (F202.get rfl) b199 Try.underlying29 rfl inf29) ?_)
     intro a204 F205; clear F202
     refine wpl_op (i := 1) rfl (oD_store (cells := [(.int .i64 (d.sectors.length : Nat)), (.slice An ((recsOf d.sectors).length) cn), (.int .i64 ((recsOf d.sectors).length : Nat))]) F205 rfl rfl rfl rfl (F205.get rfl) (F205.get rfl) b199 inf29 rfl (by simp [Value.oneCell']) ?_)
     intro w206 b207 hg208; have z209 := hg208.size
     refine wpl_op (i := 2) rfl (oD_val (v := (.int .i64 0)) F205 rfl rfl rfl rfl (rn_assign rfl) ?_)
     intro a210 F211; clear F205
     refine wpList_nil ?_
     refine hK203 _ _ ?_
     clear hK203
     refine wp_ret ?_
     refine retMD F211.2 ((hg208.block _ (by omega) (fun e => by injection e with e; omega)).trans ((hg200.block _ (by omega) (fun e => by injection e with e; omega)).trans hk)) (fun w212 hg213 => ?_)
     have z214 := hg213.size
     have b215 := (b207.grownN hg213 (by omega))
     refine retC1 F211.1 rfl rfl rfl b215 Try.underlying29 rfl inf29 ?_
     have he := openE_0 hck hst hpe; obtain ⟨hr, hm⟩ := open_good he
     have d216 := (hbs.pres ((((Pres.refl W).grownN hg200 (fun h => by have h : (w120.heap.size + 2) ≤ _ := h; omega)).grownN hg208 (fun h => by have h : (w120.heap.size + 2) ≤ _ := h; omega)).grownN hg213 (fun h => by have h : (w120.heap.size + 2) ≤ _ := h; omega)))
     exact open_fin he hm hr (d216.sub (fun b hb => by omega)) (((((Ext.refl w).trans hx1).grownN hg200 (by omega)).grownN hg208 (by omega)).grownN hg213 (by omega))

theorem open_at {v : Value} (d : Dk) (w : World) (hd : RDk S w v d) : Calls Try.prog 12 #[v] w (OpenRet w d) := by
 obtain ⟨A, c, B, e, rfl, -, -⟩ := hd.form
 exact open_any A c B e d w hd

end Go.Proofs.Ytfmhnplkpohogaa
