/- Contracts of Append, and of the reference's. -/
import Derived.Test.YtfmhnplkpohogaaProg
import Derived.Test.YtfmhnplkpohogaaBvnE
import Derived.Test.YtfmhnplkpohogaaBvnF
import Derived.KernelRfl
import Derived.Test.YtfmhnplkpohogaaBvnA
set_option linter.unusedVariables false
set_option linter.unusedSimpArgs false
namespace Go.Proofs.Ytfmhnplkpohogaa
open Go.RowKit

variable {S S' : Nat → Prop}

set_option maxRecDepth 100000 in
set_option maxHeartbeats 1000000 in
theorem app_any (m : Int) (A : Option Addr) (c : Nat) (R : List (List UInt8)) (s : Int) (B : Option Addr) (e : Nat) (b : List UInt8) (w : World) (hn : RBss S w (.slice A R.length c) R) (hb : ∀ x ∈ R, x.length ≤ 140737488355328) (hR : R.length ≤ 5864062014804) (hf : Fl S w 1 (.slice B b.length e) b.length (byteVals b)) (hbb : b.length ≤ 140737488355328) :
  Calls Try.prog 15 #[.agg #[.int .i64 m, .slice A R.length c, .int .i64 s], .slice B b.length e] w (LogRet S w ((Lg.mk m R s).append b)) := by
 have hnc := RBss.clip hn
 obtain ⟨-, hcR1, hcR2⟩ := RBss.at hn
 have hfc : Fl (Clip S w) w 1 (.slice B b.length e) b.length (byteVals b) := hf.clip
 have hfcc := (Fl.cel hfc).2.1
 refine calls_enter (l := [(.agg #[(.int .i64 m), (.slice A R.length c), (.int .i64 s)]), (.slice B b.length e)]) Try.func15 rfl rfl rfl (fun aA hF => ?_)
 refine wp_seq_k (fun K1 hK1 => ?_)
 refine wp_region_lit ?_
 refine wpl_op (i := 0) rfl (o_new (fun g => (.pointer (some ⟨g, 0, none⟩))) [(.int .i64 m), (.slice A R.length c), (.int .i64 s)] 29 hF rfl rfl rfl rfl (rn_box (hF.get rfl) (by kernel_rfl)) ?_)
 intro g2 w3 a8 F9 z6 z7 b4 hx5; clear hF
 refine wpl_op (i := 1) rfl (o_new (fun g => (.pointer (some ⟨g, 0, none⟩))) [(.int .i64 0), (.slice none 0 0), (.int .i64 0)] 29 F9 rfl rfl rfl rfl (by kernel_rfl) ?_)
 intro g10 w11 a16 F17 z14 z15 b12 hx13; clear F9
 refine qv 2 (.int .i64 0) F17 rfl (rn_assign rfl) fun _ F19 => ?_; clear F17
 refine wpList_nil ?_
 refine hK1 _ _ ?_
 clear hK1
 refine wp_seq_k (fun K20 hK20 => ?_)
 refine wp_seq_k (fun K21 hK21 => ?_)
 refine wp_region_lit ?_
 have b22 := (b4.ext hx13)
 refine qv 0 (.agg #[(.int .i64 m), (.slice A R.length c), (.int .i64 s)]) F19 rfl (rn_loadBlk (F19.get rfl) b22 Try.underlying29 rfl inf29) fun _ F24 => ?_; clear F19
 have d25 := ((hnc.ext hx5).ext hx13)
 refine wpl_op (i := 1) rfl (o_call F24 rfl rfl rfl rfl (rn_call (args1 (F24.get rfl)) rfl (by kernel_rfl)) (chk_at (v := (.slice A R.length c)) m R s _ d25 hb) ?_)
 rintro _ w26 ⟨rfl, hx27⟩
 refine ⟨_, rfl, ?_⟩; intro a28 F29; clear F24; have z30 := hx27.size
 refine qv 2 (.int .i64 ((Lg.mk m R s).check)) F29 rfl (rn_assign (F29.get rfl)) fun _ F32 => ?_; clear F29
 refine wpList_nil ?_
 refine hK21 _ _ ?_
 clear hK21
 refine wp_seq_k (fun K33 hK33 => ?_)
 refine wp_region_lit ?_
 refine qv 0 (.int .i64 ((Lg.mk m R s).check)) F32 rfl (rn_move (F32.get rfl)) fun _ F35 => ?_; clear F32
 refine qv 1 (.bool (decide (((Lg.mk m R s).check : Int) ≠ (0 : Int)))) F35 rfl (rn_neq (F35.get rfl) rfl) fun _ F37 => ?_; clear F35
 refine wpList_nil ?_
 refine hK33 _ _ ?_
 clear hK33
 by_cases hc38 : ((Lg.mk m R s).check : Int) ≠ (0 : Int)
 ·skip
  refine wp_cond_true (c_true F37 rfl (decide_eq_true hc38)) ?_
  refine wp_seq_k (fun K39 hK39 => ?_)
  refine wp_region_lit ?_
  refine qv 0 (.agg #[(.int .i64 0), (.slice none 0 0), (.int .i64 0)]) F37 rfl (rn_build (parts0 ) (by kernel_rfl)) fun _ F41 => ?_; clear F37
  refine qv 1 (.int .i64 ((Lg.mk m R s).check)) F41 rfl (rn_move (F41.get rfl)) fun _ F43 => ?_; clear F41
  have b47 := (b12.ext hx27)
  refine wpl_op (i := 2) rfl (o_store (cells := [(.int .i64 0), (.slice none 0 0), (.int .i64 0)]) F43 rfl rfl rfl rfl (F43.get rfl) (F43.get rfl) b47 inf29 rfl (by simp [Value.oneCell']) ?_)
  intro w44 b45 hg46; have z48 := hg46.size
  refine qv 3 (.int .i64 ((Lg.mk m R s).check)) F43 rfl (rn_assign (F43.get rfl)) fun _ F50 => ?_; clear F43
  refine wpList_nil ?_
  refine hK39 _ _ ?_
  clear hK39
  have F51 := (((((((F50.nil.c F50 10 rfl).c F50 6 rfl).c F50 5 rfl).c F50 4 rfl).c F50 2 rfl).c F50 1 rfl).c F50 0 rfl)
  clear F50
  refine wp_ret ?_
  refine ret_then ?_
  refine retC1 F51 rfl rfl rfl b45 Try.underlying29 rfl inf29 ?_
  exact log_err (Lg.append_1 (l := ⟨m, R, s⟩) (by omega)) (((((Ext.refl w).trans hx5).trans hx13).trans hx27).grownN hg46 (by omega))
 ·skip
  refine wp_cond_false (c_false F37 rfl (decide_eq_false hc38)) ?_
  refine wp_skip ?_
  refine hK20 _ _ ?_
  clear hK20
  refine wp_seq_k (fun K52 hK52 => ?_)
  refine wp_seq_k (fun K53 hK53 => ?_)
  have hx55 : ∃ W, w26.drew = W ∧ Ext w26 W := ⟨_, rfl, (Ext.refl _).drew⟩
  obtain ⟨w54, e56, hx55⟩ := hx55
  have z57 := hx55.size
  refine any_start (fun W => Ext w54 W ∧ Blk W g2 29 [(.int .i64 m), (.slice A R.length c), (.int .i64 s)]) (fun i => false) 9 #[false, false, false, false, false, false, false, false, false] rfl rfl rfl ?_
  rw [e56]; clear e56
  refine qp 0 (.slice B b.length e) F37 rfl rfl (fun W => (rn_move (F37.get rfl))) fun _ F59 => ?_; clear F37
  refine qp 2 (.pointer (some ⟨g2, 0, none⟩)) F59 rfl rfl (fun W => (rn_field Try.underlying29 rfl (by kernel_rfl) (F59.get rfl) rfl)) fun _ F61 => ?_; clear F59
  have b63 := ((b22.ext hx27).ext hx55)
  have hS62 : Ext w54 w54 ∧ Blk w54 g2 29 [(.int .i64 m), (.slice A R.length c), (.int .i64 s)] := ⟨(Ext.refl w54), b63⟩
  refine qs 3 (.int .i64 m) F61 rfl rfl hS62 (fun W hW => (rn_load (isAgg_no Try.underlying3 rfl) (F61.get rfl) (hW.2.rule.1 0))) fun _ F65 => ?_; clear F61
  refine qp 4 (.pointer (some ⟨g2, 1, none⟩)) F65 rfl rfl (fun W => (rn_field Try.underlying29 rfl (by kernel_rfl) (F65.get rfl) rfl)) fun _ F67 => ?_; clear F65
  refine qs 5 (.slice A R.length c) F67 rfl rfl hS62 (fun W hW => (rn_load (isAgg_no Try.underlying22 rfl) (F67.get rfl) (hW.2.rule.1 1))) fun _ F69 => ?_; clear F67
  refine any_one (i := 1) (by decide +kernel) rfl ?_
  refine o_call F69 rfl rfl rfl rfl (rn_call (args1 (F69.get rfl)) rfl (by kernel_rfl)) (sectors_any B b.length e _ (by omega)) ?_
  rintro _ w70 ⟨rfl, hx71⟩
  refine ⟨_, rfl, ?_⟩; intro a72 F73; clear F69; have z74 := hx71.size
  have b75 := (b63.ext hx71)
  refine ⟨fun _ _ => ⟨((Ext.refl w54).trans hx71), b75⟩, ?_⟩
  refine any_one (i := 6) (by decide +kernel) rfl ?_
  have d76 := (((((hnc.ext hx5).ext hx13).ext hx27).ext hx55).ext hx71)
  refine o_call F73 rfl rfl rfl rfl (rn_call (args1 (F73.get rfl)) rfl (by kernel_rfl)) (used_at (v := (.slice A R.length c)) R _ d76 hb) ?_
  rintro _ w77 ⟨rfl, hx78⟩
  refine ⟨_, rfl, ?_⟩; intro a79 F80; clear F73; have z81 := hx78.size
  have b82 := (b75.ext hx78)
  refine ⟨fun _ _ => ⟨(((Ext.refl w54).trans hx71).trans hx78), b82⟩, ?_⟩
  refine qp 7 (.int .i64 (wrapI (m - (usedW R)))) F80 rfl rfl (fun W => (subW_ok (F80.get rfl) (F80.get rfl))) fun _ F84 => ?_; clear F80
  refine qp 8 (.bool (decide (((wrapI (m - (usedW R))) : Int) < ((secs b.length : Nat) : Int)))) F84 rfl rfl (fun W => (rn_gtr (F84.get rfl) (F84.get rfl))) fun _ F86 => ?_; clear F84
  refine any_nil (by decide +kernel) ?_
  refine hK53 _ _ ?_
  clear hK53
  have F87 := ((((((((F86.nil.c F86 21 rfl).c F86 10 rfl).c F86 6 rfl).c F86 5 rfl).c F86 4 rfl).c F86 2 rfl).c F86 1 rfl).c F86 0 rfl)
  clear F86
  by_cases hc88 : ((wrapI (m - (usedW R))) : Int) < ((secs b.length : Nat) : Int)
  ·skip
   refine wp_cond_true (c_true F87 rfl (decide_eq_true hc88)) ?_
   refine wp_seq_k (fun K89 hK89 => ?_)
   refine wp_region_lit ?_
   refine qv 0 (.agg #[(.int .i64 0), (.slice none 0 0), (.int .i64 0)]) F87 rfl (rn_build (parts0 ) (by kernel_rfl)) fun _ F91 => ?_; clear F87
   have b95 := ((((b12.ext hx27).ext hx55).ext hx71).ext hx78)
   refine wpl_op (i := 1) rfl (o_store (cells := [(.int .i64 0), (.slice none 0 0), (.int .i64 0)]) F91 rfl rfl rfl rfl (F91.get rfl) (F91.get rfl) b95 inf29 rfl (by simp [Value.oneCell']) ?_)
   intro w92 b93 hg94; have z96 := hg94.size
   refine qv 2 (.int .i64 2) F91 rfl (rn_assign rfl) fun _ F98 => ?_; clear F91
   refine wpList_nil ?_
   refine hK89 _ _ ?_
   clear hK89
   refine wp_ret ?_
   refine ret_then ?_
   refine retC1 F98 rfl rfl rfl b93 Try.underlying29 rfl inf29 ?_
   exact log_err (Lg.append_2 (l := ⟨m, R, s⟩) (by omega) (by show (wrapI (m - usedW R)) < ((secs b.length : Nat) : Int); omega)) ((((((((Ext.refl w).trans hx5).trans hx13).trans hx27).trans hx55).trans hx71).trans hx78).grownN hg94 (by omega))
  ·skip
   refine wp_cond_false (c_false F87 rfl (decide_eq_false hc88)) ?_
   refine wp_skip ?_
   refine hK52 _ _ ?_
   clear hK52
   refine wp_seq_k (fun K99 hK99 => ?_)
   refine wp_region_lit ?_
   refine qv 0 (.pointer (some ⟨g2, 1, none⟩)) F87 rfl (rn_field Try.underlying29 rfl (by kernel_rfl) (F87.get rfl) rfl) fun _ F101 => ?_; clear F87
   refine qv 1 (.slice A R.length c) F101 rfl (rn_load (isAgg_no Try.underlying22 rfl) (F101.get rfl) (b82.rule.1 1)) fun _ F103 => ?_; clear F101
   have d104 := ((((((hnc.ext hx5).ext hx13).ext hx27).ext hx55).ext hx71).ext hx78)
   refine wpl_op (i := 2) rfl (o_call F103 rfl rfl rfl rfl (rn_call (args1 (F103.get rfl)) rfl (by kernel_rfl)) (clipB_any A R.length c _ (by omega)) ?_)
   rintro _ w105 ⟨rfl, hx106⟩
   refine ⟨_, rfl, ?_⟩; intro a107 F108; clear F103; have z109 := hx106.size
   have d110 := (((((((hnc.ext hx5).ext hx13).ext hx27).ext hx55).ext hx71).ext hx78).ext hx106)
   have hf111 := RBss.full0 d110
   refine qv 3 (.slice B b.length e) F108 rfl (rn_move (F108.get rfl)) fun _ F113 => ?_; clear F108
   have d114 := (((((((hfc.ext hx5).ext hx13).ext hx27).ext hx55).ext hx71).ext hx78).ext hx106)
   refine wpl_op (i := 4) rfl (o_call F113 rfl rfl rfl rfl (rn_call (args1 (F113.get rfl)) rfl (by kernel_rfl)) (clone_at (v := (.slice B b.length e)) (n := b.length) b _ d114 (by omega)) ?_)
   rintro _ w119 ⟨A115, c116, rfl, hf117, hx120⟩
   have z118 := (Fl.cel hf117).2.1
   refine ⟨_, rfl, ?_⟩; intro a121 F122; clear F113; have z123 := hx120.size
   have hf124 : Fl (Clip (fun b => w105.heap.size ≤ b) w119) w119 1 (.slice A115 b.length c116) b.length (byteVals b) := hf117.clip
   refine wpl_op (i := 5) rfl (o_new (fun g => (.slice (some ⟨g, 0, none⟩) 1 1)) [(.slice A115 b.length c116)] 35 F122 rfl rfl rfl rfl (rn_buildSlice (parts1 (F122.get rfl)) (by kernel_rfl)) ?_)
   intro g125 w126 a131 F132 z129 z130 b127 hx128; clear F122
   have d139 := (hf124.ext hx128)
   have d140 := ((hf111.ext hx120).ext hx128)
   refine wpl_op (i := 6) rfl (o_appS (S := (fun b => (Clip S w) b ∨ (Clip (fun b => w105.heap.size ≤ b) w119) b)) El22 F132 rfl rfl rfl rfl rfl (F132.get rfl) (F132.get rfl) (d140.sub fun b hb => .inl hb) b127 ((Fl.rbs d139).sub fun b hb => .inr hb) (by omega) (by omega) ?_)
   intro A133 c134 w135 a141 F142 hl137 hx136; clear F132; have z143 := hx136.size
   have hf144 := RBss.clip hl137
   obtain ⟨-, z145, z146⟩ := RBss.at hl137
   refine qv 7 (.pointer (some ⟨g2, 1, none⟩)) F142 rfl (rn_field Try.underlying29 rfl (by kernel_rfl) (F142.get rfl) rfl) fun _ F148 => ?_; clear F142
   have b152 := ((((b82.ext hx106).ext hx120).ext hx128).ext hx136)
   refine wpl_op (i := 8) rfl (o_store1 (new := [(.int .i64 m), (.slice A133 (R.length + 1) c134), (.int .i64 s)]) F148 rfl rfl rfl rfl (F148.get rfl) (F148.get rfl) b152 inf22 (by simp) rfl rfl ?_)
   intro w149 b150 hg151; have z153 := hg151.size
   refine wpList_nil ?_
   refine hK99 _ _ ?_
   clear hK99
   have F154 := ((((((((F148.nil.c F148 21 rfl).c F148 10 rfl).c F148 6 rfl).c F148 5 rfl).c F148 4 rfl).c F148 2 rfl).c F148 1 rfl).c F148 0 rfl)
   clear F148
   refine wp_seq_k (fun K155 hK155 => ?_)
   refine wp_region_lit ?_
   refine qv 0 (.agg #[(.int .i64 m), (.slice A133 (R.length + 1) c134), (.int .i64 s)]) F154 rfl (rn_loadBlk (F154.get rfl) b150 Try.underlying29 rfl inf29) fun _ F157 => ?_; clear F154
   have b161 := (((((((((b12.ext hx27).ext hx55).ext hx71).ext hx78).ext hx106).ext hx120).ext hx128).ext hx136).grownN hg151 (by omega))
   refine wpl_op (i := 1) rfl (o_store (cells := [(.int .i64 m), (.slice A133 (R.length + 1) c134), (.int .i64 s)]) F157 rfl rfl rfl rfl (F157.get rfl) (F157.get rfl) b161 inf29 rfl (by simp [Value.oneCell']) ?_)
   intro w158 b159 hg160; have z162 := hg160.size
   refine qv 2 (.int .i64 0) F157 rfl (rn_assign rfl) fun _ F164 => ?_; clear F157
   refine wpList_nil ?_
   refine hK155 _ _ ?_
   clear hK155
   refine wp_ret ?_
   refine retC1 F164 rfl rfl rfl b159 Try.underlying29 rfl inf29 ?_
   have d165 := (hf144.pres (((Pres.refl w135).grownN hg151 (fun h => by simp only [Clip] at h; omega)).grownN hg160 (fun h => by simp only [Clip] at h; omega)))
   exact log_fin (Lg.append_ok (l := ⟨m, R, s⟩) (by omega) (by show ¬ (wrapI (m - usedW R)) < ((secs b.length : Nat) : Int); omega)) d165 (fun b hb => by by_cases hS : S b; exact .inl hS; simp only [Clip, hS, false_and, false_or, or_false, and_false] at hb; exact .inr (by omega)) (((((((((((((Ext.refl w).trans hx5).trans hx13).trans hx27).trans hx55).trans hx71).trans hx78).trans hx106).trans hx120).trans hx128).trans hx136).grownN hg151 (by omega)).grownN hg160 (by omega))

theorem app_at {v u : Value} {n : Nat} (m : Int) (R : List (List UInt8)) (s : Int) (b : List UInt8) (w : World) (hn : RBss S w v R) (hb : ∀ x ∈ R, x.length ≤ 140737488355328) (hR : R.length ≤ 5864062014804) (hf : Fl S w 1 u n (byteVals b)) (hbb : b.length ≤ 140737488355328) :
  Calls Try.prog 15 #[.agg #[.int .i64 m, v, .int .i64 s], u] w (LogRet S w ((Lg.mk m R s).append b)) := by
 have h1 := hf.blen
 subst h1
 obtain ⟨A, c, rfl, _⟩ := hn.form
 obtain ⟨B, e, rfl, _⟩ := hf.form
 exact app_any m A c R s B e b w hn hb hR hf hbb

set_option maxRecDepth 100000 in
set_option maxHeartbeats 1000000 in
theorem rapp_any (m : Int) (A : Option Addr) (c : Nat) (R : List (List UInt8)) (s : Int) (B : Option Addr) (e : Nat) (b : List UInt8) (w : World) (hn : RBss S w (.slice A R.length c) R) (hb : ∀ x ∈ R, x.length ≤ 140737488355328) (hR : R.length ≤ 5864062014804) (hf : Fl S w 1 (.slice B b.length e) b.length (byteVals b)) (hbb : b.length ≤ 140737488355328) :
  Calls Try.prog 16 #[.agg #[.int .i64 m, .slice A R.length c, .int .i64 s], .slice B b.length e] w (LogRet S w ((Lg.mk m R s).append b)) := by
 have hnc := RBss.clip hn
 obtain ⟨-, hcR1, hcR2⟩ := RBss.at hn
 have hfc : Fl (Clip S w) w 1 (.slice B b.length e) b.length (byteVals b) := hf.clip
 have hfcc := (Fl.cel hfc).2.1
 refine calls_enter (l := [(.agg #[(.int .i64 m), (.slice A R.length c), (.int .i64 s)]), (.slice B b.length e)]) Try.func16 rfl rfl rfl (fun aA hF => ?_)
 refine wp_seq_k (fun K1 hK1 => ?_)
 refine wp_region_lit ?_
 refine wpl_op (i := 0) rfl (o_new (fun g => (.pointer (some ⟨g, 0, none⟩))) [(.int .i64 m), (.slice A R.length c), (.int .i64 s)] 29 hF rfl rfl rfl rfl (rn_box (hF.get rfl) (by kernel_rfl)) ?_)
 intro g2 w3 a8 F9 z6 z7 b4 hx5; clear hF
 refine wpl_op (i := 1) rfl (o_new (fun g => (.pointer (some ⟨g, 0, none⟩))) [(.int .i64 0), (.slice none 0 0), (.int .i64 0)] 29 F9 rfl rfl rfl rfl (by kernel_rfl) ?_)
 intro g10 w11 a16 F17 z14 z15 b12 hx13; clear F9
 refine qv 2 (.int .i64 0) F17 rfl (rn_assign rfl) fun _ F19 => ?_; clear F17
 refine wpList_nil ?_
 refine hK1 _ _ ?_
 clear hK1
 refine wp_seq_k (fun K20 hK20 => ?_)
 refine wp_region_lit ?_
 have b21 := (b4.ext hx13)
 refine qv 0 (.agg #[(.int .i64 m), (.slice A R.length c), (.int .i64 s)]) F19 rfl (rn_loadBlk (F19.get rfl) b21 Try.underlying29 rfl inf29) fun _ F23 => ?_; clear F19
 have d24 := ((hnc.ext hx5).ext hx13)
 refine wpl_op (i := 1) rfl (o_call F23 rfl rfl rfl rfl (rn_call (args1 (F23.get rfl)) rfl (by kernel_rfl)) (rchk_at (v := (.slice A R.length c)) m R s _ d24 hb) ?_)
 rintro _ w25 ⟨rfl, hx26⟩
 refine ⟨_, rfl, ?_⟩; intro a27 F28; clear F23; have z29 := hx26.size
 refine qv 2 (.int .i64 ((Lg.mk m R s).check)) F28 rfl (rn_assign (F28.get rfl)) fun _ F31 => ?_; clear F28
 refine wpList_nil ?_
 refine hK20 _ _ ?_
 clear hK20
 refine wp_seq_k (fun K32 hK32 => ?_)
 refine wp_seq_k (fun K33 hK33 => ?_)
 refine wp_region_lit ?_
 refine qv 0 (.int .i64 ((Lg.mk m R s).check)) F31 rfl (rn_move (F31.get rfl)) fun _ F35 => ?_; clear F31
 refine qv 1 (.bool (decide (((Lg.mk m R s).check : Int) ≠ (0 : Int)))) F35 rfl (rn_neq (F35.get rfl) rfl) fun _ F37 => ?_; clear F35
 refine wpList_nil ?_
 refine hK33 _ _ ?_
 clear hK33
 by_cases hc38 : ((Lg.mk m R s).check : Int) ≠ (0 : Int)
 ·skip
  refine wp_cond_true (c_true F37 rfl (decide_eq_true hc38)) ?_
  refine wp_seq_k (fun K39 hK39 => ?_)
  refine wp_region_lit ?_
  refine qv 0 (.agg #[(.int .i64 0), (.slice none 0 0), (.int .i64 0)]) F37 rfl (rn_build (parts0 ) (by kernel_rfl)) fun _ F41 => ?_; clear F37
  refine qv 1 (.int .i64 ((Lg.mk m R s).check)) F41 rfl (rn_move (F41.get rfl)) fun _ F43 => ?_; clear F41
  have b47 := (b12.ext hx26)
  refine wpl_op (i := 2) rfl (o_store (cells := [(.int .i64 0), (.slice none 0 0), (.int .i64 0)]) F43 rfl rfl rfl rfl (F43.get rfl) (F43.get rfl) b47 inf29 rfl (by simp [Value.oneCell']) ?_)
  intro w44 b45 hg46; have z48 := hg46.size
  refine qv 3 (.int .i64 ((Lg.mk m R s).check)) F43 rfl (rn_assign (F43.get rfl)) fun _ F50 => ?_; clear F43
  refine wpList_nil ?_
  refine hK39 _ _ ?_
  clear hK39
  have F51 := (((((((F50.nil.c F50 10 rfl).c F50 6 rfl).c F50 5 rfl).c F50 4 rfl).c F50 2 rfl).c F50 1 rfl).c F50 0 rfl)
  clear F50
  refine wp_ret ?_
  refine ret_then ?_
  refine retC1 F51 rfl rfl rfl b45 Try.underlying29 rfl inf29 ?_
  exact log_err (Lg.append_1 (l := ⟨m, R, s⟩) (by omega)) (((((Ext.refl w).trans hx5).trans hx13).trans hx26).grownN hg46 (by omega))
 ·skip
  refine wp_cond_false (c_false F37 rfl (decide_eq_false hc38)) ?_
  refine wp_skip ?_
  refine hK32 _ _ ?_
  clear hK32
  refine wp_seq_k (fun K52 hK52 => ?_)
  refine wp_seq_k (fun K53 hK53 => ?_)
  have hx55 : ∃ W, w25.drew = W ∧ Ext w25 W := ⟨_, rfl, (Ext.refl _).drew⟩
  obtain ⟨w54, e56, hx55⟩ := hx55
  have z57 := hx55.size
  refine any_start (fun W => Ext w54 W ∧ Blk W g2 29 [(.int .i64 m), (.slice A R.length c), (.int .i64 s)]) (fun i => false) 10 #[false, false, false, false, false, false, false, false, false, false] rfl rfl rfl ?_
  rw [e56]; clear e56
  refine qp 0 (.slice B b.length e) F37 rfl rfl (fun W => (rn_move (F37.get rfl))) fun _ F59 => ?_; clear F37
  refine qp 1 (.int .i64 (b.length : Nat)) F59 rfl rfl (fun W => (rn_len_slice Try.underlying35 (F59.get rfl))) fun _ F61 => ?_; clear F59
  refine qp 3 (.pointer (some ⟨g2, 0, none⟩)) F61 rfl rfl (fun W => (rn_field Try.underlying29 rfl (by kernel_rfl) (F61.get rfl) rfl)) fun _ F63 => ?_; clear F61
  have b65 := ((b21.ext hx26).ext hx55)
  have hS64 : Ext w54 w54 ∧ Blk w54 g2 29 [(.int .i64 m), (.slice A R.length c), (.int .i64 s)] := ⟨(Ext.refl w54), b65⟩
  refine qs 4 (.int .i64 m) F63 rfl rfl hS64 (fun W hW => (rn_load (isAgg_no Try.underlying3 rfl) (F63.get rfl) (hW.2.rule.1 0))) fun _ F67 => ?_; clear F63
  refine qp 5 (.pointer (some ⟨g2, 1, none⟩)) F67 rfl rfl (fun W => (rn_field Try.underlying29 rfl (by kernel_rfl) (F67.get rfl) rfl)) fun _ F69 => ?_; clear F67
  refine qs 6 (.slice A R.length c) F69 rfl rfl hS64 (fun W hW => (rn_load (isAgg_no Try.underlying22 rfl) (F69.get rfl) (hW.2.rule.1 1))) fun _ F71 => ?_; clear F69
  refine any_one (i := 2) (by decide +kernel) rfl ?_
  refine o_call F71 rfl rfl rfl rfl (rn_call (args1 (F71.get rfl)) rfl (by kernel_rfl)) (rsectors_any b.length _ (by omega)) ?_
  rintro _ w72 ⟨rfl, hx73⟩
  refine ⟨_, rfl, ?_⟩; intro a74 F75; clear F71; have z76 := hx73.size
  have b77 := (b65.ext hx73)
  refine ⟨fun _ _ => ⟨((Ext.refl w54).trans hx73), b77⟩, ?_⟩
  refine any_one (i := 7) (by decide +kernel) rfl ?_
  have d78 := (((((hnc.ext hx5).ext hx13).ext hx26).ext hx55).ext hx73)
  refine o_call F75 rfl rfl rfl rfl (rn_call (args1 (F75.get rfl)) rfl (by kernel_rfl)) (rused_at (v := (.slice A R.length c)) R _ d78 hb) ?_
  rintro _ w79 ⟨rfl, hx80⟩
  refine ⟨_, rfl, ?_⟩; intro a81 F82; clear F75; have z83 := hx80.size
  have b84 := (b77.ext hx80)
  refine ⟨fun _ _ => ⟨(((Ext.refl w54).trans hx73).trans hx80), b84⟩, ?_⟩
  refine qp 8 (.int .i64 (wrapI (m - (usedW R)))) F82 rfl rfl (fun W => (subW_ok (F82.get rfl) (F82.get rfl))) fun _ F86 => ?_; clear F82
  refine qp 9 (.bool (decide (((wrapI (m - (usedW R))) : Int) < ((secs b.length : Nat) : Int)))) F86 rfl rfl (fun W => (rn_gtr (F86.get rfl) (F86.get rfl))) fun _ F88 => ?_; clear F86
  refine any_nil (by decide +kernel) ?_
  refine hK53 _ _ ?_
  clear hK53
  have F89 := ((((((((F88.nil.c F88 22 rfl).c F88 10 rfl).c F88 6 rfl).c F88 5 rfl).c F88 4 rfl).c F88 2 rfl).c F88 1 rfl).c F88 0 rfl)
  clear F88
  by_cases hc90 : ((wrapI (m - (usedW R))) : Int) < ((secs b.length : Nat) : Int)
  ·skip
   refine wp_cond_true (c_true F89 rfl (decide_eq_true hc90)) ?_
   refine wp_seq_k (fun K91 hK91 => ?_)
   refine wp_region_lit ?_
   refine qv 0 (.agg #[(.int .i64 0), (.slice none 0 0), (.int .i64 0)]) F89 rfl (rn_build (parts0 ) (by kernel_rfl)) fun _ F93 => ?_; clear F89
   have b97 := ((((b12.ext hx26).ext hx55).ext hx73).ext hx80)
   refine wpl_op (i := 1) rfl (o_store (cells := [(.int .i64 0), (.slice none 0 0), (.int .i64 0)]) F93 rfl rfl rfl rfl (F93.get rfl) (F93.get rfl) b97 inf29 rfl (by simp [Value.oneCell']) ?_)
   intro w94 b95 hg96; have z98 := hg96.size
   refine qv 2 (.int .i64 2) F93 rfl (rn_assign rfl) fun _ F100 => ?_; clear F93
   refine wpList_nil ?_
   refine hK91 _ _ ?_
   clear hK91
   refine wp_ret ?_
   refine ret_then ?_
   refine retC1 F100 rfl rfl rfl b95 Try.underlying29 rfl inf29 ?_
   exact log_err (Lg.append_2 (l := ⟨m, R, s⟩) (by omega) (by show (wrapI (m - usedW R)) < ((secs b.length : Nat) : Int); omega)) ((((((((Ext.refl w).trans hx5).trans hx13).trans hx26).trans hx55).trans hx73).trans hx80).grownN hg96 (by omega))
  ·skip
   refine wp_cond_false (c_false F89 rfl (decide_eq_false hc90)) ?_
   refine wp_skip ?_
   refine hK52 _ _ ?_
   clear hK52
   refine wp_seq_k (fun K101 hK101 => ?_)
   refine wp_region_lit ?_
   refine wpl_op (i := 0) rfl (o_new (fun g => (.slice (some ⟨g, 0, none⟩) 0 0)) [] 35 F89 rfl rfl rfl rfl (rn_buildSlice (parts0 ) (by kernel_rfl)) ?_)
   intro g102 w103 a108 F109 z106 z107 b104 hx105; clear F89
   refine qv 1 (.pointer (some ⟨g2, 1, none⟩)) F109 rfl (rn_field Try.underlying29 rfl (by kernel_rfl) (F109.get rfl) rfl) fun _ F111 => ?_; clear F109
   have b112 := (b84.ext hx105)
   refine qv 2 (.slice A R.length c) F111 rfl (rn_load (isAgg_no Try.underlying22 rfl) (F111.get rfl) (b112.rule.1 1)) fun _ F114 => ?_; clear F111
   have hf126 := b104
   have d127 := (((((((hnc.ext hx5).ext hx13).ext hx26).ext hx55).ext hx73).ext hx80).ext hx105)
   have hf128 := d127
   refine wpl_op (i := 3) rfl (o_appL El22 F114 rfl rfl rfl rfl rfl (F114.get rfl) (F114.get rfl) hf126 hf128 (fun b hb => by simp only [Clip] at hb; omega) (by omega) (by omega) ?_)
   intro A115 c116 vs121 w117 a129 F130 r122 hl119 hg123 hnb124 z125; clear F114; have z131 := hg123.size
   refine qv 4 (.slice B b.length e) F130 rfl (rn_move (F130.get rfl)) fun _ F133 => ?_; clear F130
   refine wpl_op (i := 5) rfl (o_new (fun g => (.slice (some ⟨g, 0, none⟩) 1 1)) [(.slice B b.length e)] 35 F133 rfl rfl rfl rfl (rn_buildSlice (parts1 (F133.get rfl)) (by kernel_rfl)) ?_)
   intro g134 w135 a140 F141 z138 z139 b136 hx137; clear F133
   have d148 := (hfc.pres ((((((((((Pres.refl w).ext hx5).ext hx13).ext hx26).ext hx55).ext hx73).ext hx80).ext hx105).grownN hg123 (fun h => by simp only [Clip] at h; omega)).ext hx137))
   have r149 := (own_ext r122 hx137)
   have hv150 := RVS.keep hl119 ((Ext.refl w117).trans hx137).size fun b _ hlt => ((Ext.refl w117).trans hx137).below.block b hlt
   have hf152 := b136
   refine wpl_op (i := 6) rfl (o_appR (S := (fun b => (Clip S w) b ∨ (Clip S w) b)) El22 F141 rfl rfl rfl rfl rfl (F141.get rfl) (F141.get rfl) r149 (hv150.sub fun b hb => .inl hb) hf152 ((Fl.rbs d148).sub fun b hb => .inr hb) (fun k hk => hnb124 k (by rcases hk with hk | hk <;> (have := hk.2; omega)) (by rcases hk with hk | hk <;> (have := hk.2; omega))) (by omega) (by omega) (by omega) ?_)
   intro A142 c143 w144 a153 F154 hl146 hg151; clear F141; have z155 := hg151.size
   have hf156 := RBss.clip hl146
   obtain ⟨-, z157, z158⟩ := RBss.at hl146
   refine qv 7 (.pointer (some ⟨g2, 1, none⟩)) F154 rfl (rn_field Try.underlying29 rfl (by kernel_rfl) (F154.get rfl) rfl) fun _ F160 => ?_; clear F154
   have b164 := (grown_blk r149 hg151 ((b112.grownN hg123 (by omega)).ext hx137) (by decide))
   refine wpl_op (i := 8) rfl (o_store1 (new := [(.int .i64 m), (.slice A142 (R.length + 1) c143), (.int .i64 s)]) F160 rfl rfl rfl rfl (F160.get rfl) (F160.get rfl) b164 inf22 (by simp) rfl rfl ?_)
   intro w161 b162 hg163; have z165 := hg163.size
   refine wpList_nil ?_
   refine hK101 _ _ ?_
   clear hK101
   have F166 := ((((((((F160.nil.c F160 22 rfl).c F160 10 rfl).c F160 6 rfl).c F160 5 rfl).c F160 4 rfl).c F160 2 rfl).c F160 1 rfl).c F160 0 rfl)
   clear F160
   refine wp_seq_k (fun K167 hK167 => ?_)
   refine wp_region_lit ?_
   refine qv 0 (.agg #[(.int .i64 m), (.slice A142 (R.length + 1) c143), (.int .i64 s)]) F166 rfl (rn_loadBlk (F166.get rfl) b162 Try.underlying29 rfl inf29) fun _ F169 => ?_; clear F166
   have b173 := ((grown_blk r149 hg151 (((((((b12.ext hx26).ext hx55).ext hx73).ext hx80).ext hx105).grownN hg123 (by omega)).ext hx137) (by decide)).grownN hg163 (by omega))
   refine wpl_op (i := 1) rfl (o_store (cells := [(.int .i64 m), (.slice A142 (R.length + 1) c143), (.int .i64 s)]) F169 rfl rfl rfl rfl (F169.get rfl) (F169.get rfl) b173 inf29 rfl (by simp [Value.oneCell']) ?_)
   intro w170 b171 hg172; have z174 := hg172.size
   refine qv 2 (.int .i64 0) F169 rfl (rn_assign rfl) fun _ F176 => ?_; clear F169
   refine wpList_nil ?_
   refine hK167 _ _ ?_
   clear hK167
   refine wp_ret ?_
   refine retC1 F176 rfl rfl rfl b171 Try.underlying29 rfl inf29 ?_
   have d177 := (hf156.pres (((Pres.refl w144).grownN hg163 (fun h => by simp only [Clip] at h; omega)).grownN hg172 (fun h => by simp only [Clip] at h; omega)))
   exact log_fin (Lg.append_ok (l := ⟨m, R, s⟩) (by omega) (by show ¬ (wrapI (m - usedW R)) < ((secs b.length : Nat) : Int); omega)) d177 (fun b hb => by by_cases hS : S b; exact .inl hS; simp only [Clip, hS, false_and, false_or, or_false, and_false] at hb; exact .inr (by omega)) (((ext_row ((((((((((Ext.refl w).trans hx5).trans hx13).trans hx26).trans hx55).trans hx73).trans hx80).trans hx105).grownN hg123 (by omega)).trans hx137) hg151 r149 (by omega)).grownN hg163 (by omega)).grownN hg172 (by omega))

theorem rapp_at {v u : Value} {n : Nat} (m : Int) (R : List (List UInt8)) (s : Int) (b : List UInt8) (w : World) (hn : RBss S w v R) (hb : ∀ x ∈ R, x.length ≤ 140737488355328) (hR : R.length ≤ 5864062014804) (hf : Fl S w 1 u n (byteVals b)) (hbb : b.length ≤ 140737488355328) :
  Calls Try.prog 16 #[.agg #[.int .i64 m, v, .int .i64 s], u] w (LogRet S w ((Lg.mk m R s).append b)) := by
 have h1 := hf.blen
 subst h1
 obtain ⟨A, c, rfl, _⟩ := hn.form
 obtain ⟨B, e, rfl, _⟩ := hf.form
 exact rapp_any m A c R s B e b w hn hb hR hf hbb

end Go.Proofs.Ytfmhnplkpohogaa
