/- Several texts in one: CloneB, JrT, JrY. -/
import Derived.Test.YtfmhnplkpohogaaProg
import Derived.Test.YtfmhnplkpohogaaBvsB
import Derived.KernelRfl
import Derived.WalkSpells
import Derived.Handy
import Derived.Test.YtfmhnplkpohogaaBvsK
import Derived.Test.YtfmhnplkpohogaaBvsA
import Derived.Test.YtfmhnplkpohogaaBvsJ
import Derived.Test.YtfmhnplkpohogaaBvsM
set_option linter.unusedVariables false
set_option linter.unusedSimpArgs false
namespace Go.Proofs.Ytfmhnplkpohogaa
open Go.RowKit

variable {S S' : Nat → Prop}
theorem eqnilBy (w : World) (A : Option Addr) (n c : Nat) : (binOp .eql 35 (.slice A n c) (.slice none 0 0)).run Try.prog w = .ok (.bool A.isNone) w := Lib.run_eql_slice_nil w _ _ A n c 0 0 Try.underlying35
attribute [local go_sem] eqnilBy
set_option maxRecDepth 100000 in
set_option maxHeartbeats 1000000 in
theorem cloneBy_any (A : Option Addr) (n cap : Nat) (xs : List Value) (w : World) (hc : Cel w 1 A n xs) (hn : n ≤ 140737488355328) :
    Calls Try.prog 38 #[.slice A n cap] w (fun en w' => ∃ v, en = .returned v ∧ w'.ownsRow w.heap.size 5 1 v n xs ∧ Ext w w') := by
  rcases A with _ | ad
  · have hn0 : n = 0 := by
      rcases Nat.eq_zero_or_pos n with h | h
      · exact h
      · obtain ⟨b, off, h, _⟩ := hc.2.2 h; cases h
    subst hn0
    have hx : xs = [] := List.eq_nil_of_length_eq_zero (by have := hc.1; omega)
    have HX := Lib.hid hx
    clear hx hc
    go_enter Try.func38, Try.ntmps38
    go_wp2
    go_ret
    exact ⟨_, rfl, by rw [HX.out]; exact World.ownsRow_nil _ _ _ _, Ext.refl _⟩
  · have HC := Lib.hid hc
    clear hc
    go_enter Try.func38, Try.ntmps38
    go_wp2_with (with_reducible refine stop_append ?_)
    refine Lib.hid (wpList_app El35 rfl rfl rfl rfl (World.ownsRow_lit w #[] 0 (Nat.le_refl _) (Nat.zero_le _) (by simp)) (HC.out.ext ((Ext.refl _).alloc _)) (by simp) (by omega) (by omega) ?_)
    intro v' w' hown hg hat
    have HO := Lib.hid hown
    have HE : Hid (Ext w w') := ((Ext.refl w).alloc _).grown hg (fun k hk => by have hk : some w.heap.size = some k := hk; injection hk; omega)
    clear hown hg hat
    go_wp2
    go_ret
    exact ⟨_, rfl, by simpa using HO.out, HE.out⟩
theorem clone_at {v : Value} {n : Nat} (l : List UInt8) (w : World) (hf : Fl S w 1 v n (byteVals l)) (hn : n ≤ 140737488355328) :
    Calls Try.prog 38 #[v] w (fun en w' => ∃ A c, en = .returned (.slice A n c) ∧ Fl (fun b => w.heap.size ≤ b) w' 1 (.slice A n c) n (byteVals l) ∧ Ext w w') := by
  obtain ⟨A, c, rfl, _⟩ := hf.form
  refine (cloneBy_any A n c _ w hf.cel.2.2 hn).mono fun e w' ⟨u, he, ho, hx⟩ => ?_
  have h := Fl.own (S := fun b => w.heap.size ≤ b) ho (fun b hb => hb) (byteVals_one l)
  obtain ⟨A', c', rfl, _⟩ := h.form
  exact ⟨A', c', he, h, hx⟩

end Go.Proofs.Ytfmhnplkpohogaa

namespace Go.Proofs.Ytfmhnplkpohogaa
open Go.RowKit

variable {S S' : Nat → Prop}

set_option maxRecDepth 100000 in
set_option maxHeartbeats 1000000 in
theorem app_any (m : Int) (A : Option Addr) (c : Nat) (R : List (List UInt8)) (s : Int) (B : Option Addr) (e : Nat) (b : List UInt8) (w : World) (hn : RBss S w (.slice A R.length c) R) (hb : ∀ x ∈ R, x.length ≤ 140737488355328) (hR : R.length ≤ 5864062014804) (hf : Fl S w 1 (.slice B b.length e) b.length (byteVals b)) (hbb : b.length ≤ 140737488355328) :
  Calls Try.prog 15 #[.agg #[.int .i64 m, .slice A R.length c, .int .i64 s], .slice B b.length e] w (LogRet S w ((Lg.mk m R s).append b)) := by
 have hnc := RBss.clip hn
 obtain ⟨-, hcR1, hcR2⟩ := RBss.at hn
 have hfc : Fl (Clip S w) w 1 (.slice B b.length e) b.length (byteVals b) := hf.clip
 have hfcc := (Fl.cel hfc).2.1
 refine calls_enter (l := [(.agg #[(.int .i64 m), (.slice A R.length c), (.int .i64 s)]), (.slice B b.length e)]) Try.func15 rfl rfl rfl (fun aA hF => ?_)
 refine wp_seq_k (fun K1 hK1 => ?_)
 refine wp_region_lit ?_
 refine wpl_op (i := 0) rfl (o_new (fun g => (.pointer (some ⟨g, 0, none⟩))) [(.int .i64 m), (.slice A R.length c), (.int .i64 s)] 29 hF rfl rfl rfl rfl (rn_box (hF.get rfl) (by kernel_rfl)) ?_)
 intro g2 w3 a8 F9 z6 z7 b4 hx5; clear hF
 refine wpl_op (i := 1) rfl (o_new (fun g => (.pointer (some ⟨g, 0, none⟩))) [(.int .i64 0), (.slice none 0 0), (.int .i64 0)] 29 F9 rfl rfl rfl rfl (by kernel_rfl) ?_)
 intro g10 w11 a16 F17 z14 z15 b12 hx13; clear F9
 refine qv 2 (.int .i64 0) F17 rfl (rn_assign rfl) fun _ F19 => ?_; clear F17
 refine wpList_nil ?_
 refine hK1 _ _ ?_
 clear hK1
 refine wp_seq_k (fun K20 hK20 => ?_)
 refine wp_seq_k (fun K21 hK21 => ?_)
 refine wp_region_lit ?_
 have b22 := (b4.ext hx13)
 refine qv 0 (.agg #[(.int .i64 m), (.slice A R.length c), (.int .i64 s)]) F19 rfl (rn_loadBlk (F19.get rfl) b22 Try.underlying29 rfl inf29) fun _ F24 => ?_; clear F19
 have d25 := ((hnc.ext hx5).ext hx13)
 refine wpl_op (i := 1) rfl (o_call F24 rfl rfl rfl rfl (rn_call (args1 (F24.get rfl)) rfl (by kernel_rfl)) (chk_at (v := (.slice A R.length c)) m R s _ d25 hb) ?_)
 rintro _ w26 ⟨rfl, hx27⟩
 refine ⟨_, rfl, ?_⟩; intro a28 F29; clear F24; have z30 := hx27.size
 refine qv 2 (.int .i64 ((Lg.mk m R s).check)) F29 rfl (rn_assign (F29.get rfl)) fun _ F32 => ?_; clear F29
 refine wpList_nil ?_
 refine hK21 _ _ ?_
 clear hK21
 refine wp_seq_k (fun K33 hK33 => ?_)
 refine wp_region_lit ?_
 refine qv 0 (.int .i64 ((Lg.mk m R s).check)) F32 rfl (rn_move (F32.get rfl)) fun _ F35 => ?_; clear F32
 refine qv 1 (.bool (decide (((Lg.mk m R s).check : Int) ≠ (0 : Int)))) F35 rfl (rn_neq (F35.get rfl) rfl) fun _ F37 => ?_; clear F35
 refine wpList_nil ?_
 refine hK33 _ _ ?_
 clear hK33
 by_cases hc38 : ((Lg.mk m R s).check : Int) ≠ (0 : Int)
 ·skip
  refine wp_cond_true (c_true F37 rfl (decide_eq_true hc38)) ?_
  refine wp_seq_k (fun K39 hK39 => ?_)
  refine wp_region_lit ?_
  refine qv 0 (.agg #[(.int .i64 0), (.slice none 0 0), (.int .i64 0)]) F37 rfl (rn_build (parts0 ) (by kernel_rfl)) fun _ F41 => ?_; clear F37
  refine qv 1 (.int .i64 ((Lg.mk m R s).check)) F41 rfl (rn_move (F41.get rfl)) fun _ F43 => ?_; clear F41
  have b47 := (b12.ext hx27)
  refine wpl_op (i := 2) rfl (o_store (cells := [(.int .i64 0), (.slice none 0 0), (.int .i64 0)]) F43 rfl rfl rfl rfl (F43.get rfl) (F43.get rfl) b47 inf29 rfl (by simp [Value.oneCell']) ?_)
  intro w44 b45 hg46; have z48 := hg46.size
  refine qv 3 (.int .i64 ((Lg.mk m R s).check)) F43 rfl (rn_assign (F43.get rfl)) fun _ F50 => ?_; clear F43
  refine wpList_nil ?_
  refine hK39 _ _ ?_
  clear hK39
  have F51 := (((((((F50.nil.c F50 10 rfl).c F50 6 rfl).c F50 5 rfl).c F50 4 rfl).c F50 2 rfl).c F50 1 rfl).c F50 0 rfl)
  clear F50
  refine wp_ret ?_
  refine ret_then ?_
  refine retC1 F51 rfl rfl rfl b45 Try.underlying29 rfl inf29 ?_
  exact log_err (Lg.append_1 (l := ⟨m, R, s⟩) (by omega)) (((((Ext.refl w).trans hx5).trans hx13).trans hx27).grownN hg46 (by omega))
 ·skip
  refine wp_cond_false (c_false F37 rfl (decide_eq_false hc38)) ?_
  refine wp_skip ?_
  refine hK20 _ _ ?_
  clear hK20
  refine wp_seq_k (fun K52 hK52 => ?_)
  refine wp_seq_k (fun K53 hK53 => ?_)
  have hx55 : ∃ W, w26.drew = W ∧ Ext w26 W := ⟨_, rfl, (Ext.refl _).drew⟩
  obtain ⟨w54, e56, hx55⟩ := hx55
  have z57 := hx55.size
  refine any_start (fun W => Ext w54 W ∧ Blk W g2 29 [(.int .i64 m), (.slice A R.length c), (.int .i64 s)]) (fun i => false) 9 #[false, false, false, false, false, false, false, false, false] rfl rfl rfl ?_
  rw [e56]; clear e56
  refine qp 0 (.slice B b.length e) F37 rfl rfl (fun W => (rn_move (F37.get rfl))) fun _ F59 => ?_; clear F37
  refine qp 2 (.pointer (some ⟨g2, 0, none⟩)) F59 rfl rfl (fun W => (rn_field Try.underlying29 rfl (by kernel_rfl) (F59.get rfl) rfl)) fun _ F61 => ?_; clear F59
  have b63 := ((b22.ext hx27).ext hx55)
  have hS62 : Ext w54 w54 ∧ Blk w54 g2 29 [(.int .i64 m), (.slice A R.length c), (.int .i64 s)] := ⟨(Ext.refl w54), b63⟩
  refine qs 3 (.int .i64 m) F61 rfl rfl hS62 (fun W hW => (rn_load (isAgg_no Try.underlying3 rfl) (F61.get rfl) (hW.2.rule.1 0))) fun _ F65 => ?_; clear F61
  refine qp 4 (.pointer (some ⟨g2, 1, none⟩)) F65 rfl rfl (fun W => (rn_field Try.underlying29 rfl (by kernel_rfl) (F65.get rfl) rfl)) fun _ F67 => ?_; clear F65
  refine qs 5 (.slice A R.length c) F67 rfl rfl hS62 (fun W hW => (rn_load (isAgg_no Try.underlying22 rfl) (F67.get rfl) (hW.2.rule.1 1))) fun _ F69 => ?_; clear F67
  refine any_one (i := 1) (by decide +kernel) rfl ?_
  refine o_call F69 rfl rfl rfl rfl (rn_call (args1 (F69.get rfl)) rfl (by kernel_rfl)) (sectors_any B b.length e _ (by omega)) ?_
  rintro _ w70 ⟨rfl, hx71⟩
  refine ⟨_, rfl, ?_⟩; intro a72 F73; clear F69; have z74 := hx71.size
  have b75 := (b63.ext hx71)
  refine ⟨fun _ _ => ⟨((Ext.refl w54).trans hx71), b75⟩, ?_⟩
  refine any_one (i := 6) (by decide +kernel) rfl ?_
  have d76 := (((((hnc.ext hx5).ext hx13).ext hx27).ext hx55).ext hx71)
  refine o_call F73 rfl rfl rfl rfl (rn_call (args1 (F73.get rfl)) rfl (by kernel_rfl)) (used_at (v := (.slice A R.length c)) R _ d76 hb) ?_
  rintro _ w77 ⟨rfl, hx78⟩
  refine ⟨_, rfl, ?_⟩; intro a79 F80; clear F73; have z81 := hx78.size
  have b82 := (b75.ext hx78)
  refine ⟨fun _ _ => ⟨(((Ext.refl w54).trans hx71).trans hx78), b82⟩, ?_⟩
  refine qp 7 (.int .i64 (wrapI (m - (usedW R)))) F80 rfl rfl (fun W => (subW_ok (F80.get rfl) (F80.get rfl))) fun _ F84 => ?_; clear F80
  refine qp 8 (.bool (decide (((wrapI (m - (usedW R))) : Int) < ((secs b.length : Nat) : Int)))) F84 rfl rfl (fun W => (rn_gtr (F84.get rfl) (F84.get rfl))) fun _ F86 => ?_; clear F84
  refine any_nil (by decide +kernel) ?_
  refine hK53 _ _ ?_
  clear hK53
  have F87 := ((((((((F86.nil.c F86 21 rfl).c F86 10 rfl).c F86 6 rfl).c F86 5 rfl).c F86 4 rfl).c F86 2 rfl).c F86 1 rfl).c F86 0 rfl)
  clear F86
  by_cases hc88 : ((wrapI (m - (usedW R))) : Int) < ((secs b.length : Nat) : Int)
  ·skip
   refine wp_cond_true (c_true F87 rfl (decide_eq_true hc88)) ?_
   refine wp_seq_k (fun K89 hK89 => ?_)
   refine wp_region_lit ?_
   refine qv 0 (.agg #[(.int .i64 0), (.slice none 0 0), (.int .i64 0)]) F87 rfl (rn_build (parts0 ) (by kernel_rfl)) fun _ F91 => ?_; clear F87
   have b95 := ((((b12.ext hx27).ext hx55).ext hx71).ext hx78)
   refine wpl_op (i := 1) rfl (o_store (cells := [(.int .i64 0), (.slice none 0 0), (.int .i64 0)]) F91 rfl rfl rfl rfl (F91.get rfl) (F91.get rfl) b95 inf29 rfl (by simp [Value.oneCell']) ?_)
   intro w92 b93 hg94; have z96 := hg94.size
   refine qv 2 (.int .i64 2) F91 rfl (rn_assign rfl) fun _ F98 => ?_; clear F91
   refine wpList_nil ?_
   refine hK89 _ _ ?_
   clear hK89
   refine wp_ret ?_
   refine ret_then ?_
   refine retC1 F98 rfl rfl rfl b93 Try.underlying29 rfl inf29 ?_
   exact log_err (Lg.append_2 (l := ⟨m, R, s⟩) (by omega) (by show (wrapI (m - usedW R)) < ((secs b.length : Nat) : Int); omega)) ((((((((Ext.refl w).trans hx5).trans hx13).trans hx27).trans hx55).trans hx71).trans hx78).grownN hg94 (by omega))
  ·skip
   refine wp_cond_false (c_false F87 rfl (decide_eq_false hc88)) ?_
   refine wp_skip ?_
   refine hK52 _ _ ?_
   clear hK52
   refine wp_seq_k (fun K99 hK99 => ?_)
   refine wp_region_lit ?_
   refine qv 0 (.pointer (some ⟨g2, 1, none⟩)) F87 rfl (rn_field Try.underlying29 rfl (by kernel_rfl) (F87.get rfl) rfl) fun _ F101 => ?_; clear F87
   refine qv 1 (.slice A R.length c) F101 rfl (rn_load (isAgg_no Try.underlying22 rfl) (F101.get rfl) (b82.rule.1 1)) fun _ F103 => ?_; clear F101
   have d104 := ((((((hnc.ext hx5).ext hx13).ext hx27).ext hx55).ext hx71).ext hx78)
   refine wpl_op (i := 2) rfl (o_call F103 rfl rfl rfl rfl (rn_call (args1 (F103.get rfl)) rfl (by kernel_rfl)) (clipB_any A R.length c _ (by omega)) ?_)
   rintro _ w105 ⟨rfl, hx106⟩
   refine ⟨_, rfl, ?_⟩; intro a107 F108; clear F103; have z109 := hx106.size
   have d110 := (((((((hnc.ext hx5).ext hx13).ext hx27).ext hx55).ext hx71).ext hx78).ext hx106)
   have hf111 := RBss.full0 d110
   refine qv 3 (.slice B b.length e) F108 rfl (rn_move (F108.get rfl)) fun _ F113 => ?_; clear F108
   have d114 := (((((((hfc.ext hx5).ext hx13).ext hx27).ext hx55).ext hx71).ext hx78).ext hx106)
   refine wpl_op (i := 4) rfl (o_call F113 rfl rfl rfl rfl (rn_call (args1 (F113.get rfl)) rfl (by kernel_rfl)) (clone_at (v := (.slice B b.length e)) (n := b.length) b _ d114 (by omega)) ?_)
   rintro _ w119 ⟨A115, c116, rfl, hf117, hx120⟩
   have z118 := (Fl.cel hf117).2.1
   refine ⟨_, rfl, ?_⟩; intro a121 F122; clear F113; have z123 := hx120.size
   have hf124 : Fl (Clip (fun b => w105.heap.size ≤ b) w119) w119 1 (.slice A115 b.length c116) b.length (byteVals b) := hf117.clip
   refine wpl_op (i := 5) rfl (o_new (fun g => (.slice (some ⟨g, 0, none⟩) 1 1)) [(.slice A115 b.length c116)] 35 F122 rfl rfl rfl rfl (rn_buildSlice (parts1 (F122.get rfl)) (by kernel_rfl)) ?_)
   intro g125 w126 a131 F132 z129 z130 b127 hx128; clear F122
   have d139 := (hf124.ext hx128)
   have d140 := ((hf111.ext hx120).ext hx128)
   refine wpl_op (i := 6) rfl (o_appS (S := (fun b => (Clip S w) b ∨ (Clip (fun b => w105.heap.size ≤ b) w119) b)) El22 F132 rfl rfl rfl rfl rfl (F132.get rfl) (F132.get rfl) (d140.sub fun b hb => .inl hb) b127 ((Fl.rbs d139).sub fun b hb => .inr hb) (by omega) (by omega) ?_)
   intro A133 c134 w135 a141 F142 hl137 hx136; clear F132; have z143 := hx136.size
   have hf144 := RBss.clip hl137
   obtain ⟨-, z145, z146⟩ := RBss.at hl137
   refine qv 7 (.pointer (some ⟨g2, 1, none⟩)) F142 rfl (rn_field Try.underlying29 rfl (by kernel_rfl) (F142.get rfl) rfl) fun _ F148 => ?_; clear F142
   have b152 := ((((b82.ext hx106).ext hx120).ext hx128).ext hx136)
   refine wpl_op (i := 8) rfl (o_store1 (new := [(.int .i64 m), (.slice A133 (R.length + 1) c134), (.int .i64 s)]) F148 rfl rfl rfl rfl (F148.get rfl) (F148.get rfl) b152 inf22 (by simp) rfl rfl ?_)
   intro w149 b150 hg151; have z153 := hg151.size
   refine wpList_nil ?_
   refine hK99 _ _ ?_
   clear hK99
   have F154 := ((((((((F148.nil.c F148 21 rfl).c F148 10 rfl).c F148 6 rfl).c F148 5 rfl).c F148 4 rfl).c F148 2 rfl).c F148 1 rfl).c F148 0 rfl)
   clear F148
   refine wp_seq_k (fun K155 hK155 => ?_)
   refine wp_region_lit ?_
   refine qv 0 (.agg #[(.int .i64 m), (.slice A133 (R.length + 1) c134), (.int .i64 s)]) F154 rfl (rn_loadBlk (F154.get rfl) b150 Try.underlying29 rfl inf29) fun _ F157 => ?_; clear F154
   have b161 := (((((((((b12.ext hx27).ext hx55).ext hx71).ext hx78).ext hx106).ext hx120).ext hx128).ext hx136).grownN hg151 (by omega))
   refine wpl_op (i := 1) rfl (o_store (cells := [(.int .i64 m), (.slice A133 (R.length + 1) c134), (.int .i64 s)]) F157 rfl rfl rfl rfl (F157.get rfl) (F157.get rfl) b161 inf29 rfl (by simp [Value.oneCell']) ?_)
   intro w158 b159 hg160; have z162 := hg160.size
   refine qv 2 (.int .i64 0) F157 rfl (rn_assign rfl) fun _ F164 => ?_; clear F157
   refine wpList_nil ?_
   refine hK155 _ _ ?_
   clear hK155
   refine wp_ret ?_
   refine retC1 F164 rfl rfl rfl b159 Try.underlying29 rfl inf29 ?_
   have d165 := (hf144.pres (((Pres.refl w135).grownN hg151 (fun h => by simp only [Clip] at h; omega)).grownN hg160 (fun h => by simp only [Clip] at h; omega)))
   exact log_fin (Lg.append_ok (l := ⟨m, R, s⟩) (by omega) (by show ¬ (wrapI (m - usedW R)) < ((secs b.length : Nat) : Int); omega)) d165 (fun b hb => by by_cases hS : S b; exact .inl hS; simp only [Clip, hS, false_and, false_or, or_false, and_false] at hb; exact .inr (by omega)) (((((((((((((Ext.refl w).trans hx5).trans hx13).trans hx27).trans hx55).trans hx71).trans hx78).trans hx106).trans hx120).trans hx128).trans hx136).grownN hg151 (by omega)).grownN hg160 (by omega))

theorem app_at {v u : Value} {n : Nat} (m : Int) (R : List (List UInt8)) (s : Int) (b : List UInt8) (w : World) (hn : RBss S w v R) (hb : ∀ x ∈ R, x.length ≤ 140737488355328) (hR : R.length ≤ 5864062014804) (hf : Fl S w 1 u n (byteVals b)) (hbb : b.length ≤ 140737488355328) :
  Calls Try.prog 15 #[.agg #[.int .i64 m, v, .int .i64 s], u] w (LogRet S w ((Lg.mk m R s).append b)) := by
 have h1 := hf.blen
 subst h1
 obtain ⟨A, c, rfl, _⟩ := hn.form
 obtain ⟨B, e, rfl, _⟩ := hf.form
 exact app_any m A c R s B e b w hn hb hR hf hbb

end Go.Proofs.Ytfmhnplkpohogaa

namespace Go.Proofs.Ytfmhnplkpohogaa
open Go.RowKit

variable {S S' : Nat → Prop}

set_option maxRecDepth 100000 in
set_option maxHeartbeats 4000000 in
theorem sane9_any  (w : World)  :
  Calls Try.prog 10 #[] w (RB w true) := by
 have hAB : ([[97, 98]] : List (List UInt8)).length = 1 := rfl; have hNT : (@List.nil (List UInt8)).length = 0 := rfl; have hab : ([97, 98] : List UInt8).length = 2 := rfl; have hzz : (List.replicate 113 (0 : UInt8)).length = 113 := List.length_replicate
 refine calls_enter (l := []) Try.func10 rfl rfl rfl (fun aA hF => ?_)
 refine wp_seq_k (fun K1 hK1 => ?_)
 refine wp_region_lit ?_
 refine qv 0 (.bool false) hF rfl (rn_assign rfl) fun _ F3 => ?_; clear hF
 refine wpList_nil ?_
 refine hK1 _ _ ?_
 clear hK1
 refine wp_seq_k (fun K4 hK4 => ?_)
 refine wp_region_lit ?_
 have hnew := sane_1
 refine wpl_op (i := 0) rfl (o_call F3 rfl rfl rfl rfl (rn_call (args1 rfl) rfl (by kernel_rfl)) (calls_conv (new_any (S := fun _ => False) _ _) (congrArg Prod.fst sane_1) (congrArg Prod.snd sane_1)) ?_)
 rintro _ w11 ⟨v10, rfl, hd9, hx12⟩
 obtain ⟨A5, c6, B7, e8, rfl, -, -⟩ := hd9.form
 have hd9 := hd9.clip
 refine ⟨_, rfl, ?_⟩; intro a13 F14; clear F3; have z15 := hx12.size
 refine qv 1 (.tuple #[(.agg #[(.slice A5 sD.sectors.length c6), (.slice B7 sD.pending.length e8), (.int .i64 sD.left), (.bool sD.stopped)]), (.int .i64 0)]) F14 rfl (rn_move (F14.get rfl)) fun _ F17 => ?_; clear F14
 refine qv 2 (.agg #[(.slice A5 sD.sectors.length c6), (.slice B7 sD.pending.length e8), (.int .i64 sD.left), (.bool sD.stopped)]) F17 rfl (rn_extract (F17.get rfl) rfl) fun _ F19 => ?_; clear F17
 refine qv 3 (.int .i64 0) F19 rfl (rn_extract (F19.get rfl) rfl) fun _ F21 => ?_; clear F19
 refine wpl_op (i := 4) rfl (o_new (fun g => (.pointer (some ⟨g, 0, none⟩))) [(.slice none 0 0), (.slice none 0 0), (.int .i64 0), (.bool false)] 25 F21 rfl rfl rfl rfl (by kernel_rfl) ?_)
 intro g22 w23 a28 F29 z26 z27 b24 hx25; clear F21
 refine wpl_op (i := 5) rfl (o_store (cells := [(.slice A5 sD.sectors.length c6), (.slice B7 sD.pending.length e8), (.int .i64 sD.left), (.bool sD.stopped)]) F29 rfl rfl rfl rfl (F29.get rfl) (F29.get rfl) b24 inf25 rfl (by simp [Value.oneCell']) ?_)
 intro w30 b31 hg32; have z33 := hg32.size
 refine qv 6 (.int .i64 0) F29 rfl (rn_assign (F29.get rfl)) fun _ F35 => ?_; clear F29
 refine wpList_nil ?_
 refine hK4 _ _ ?_
 clear hK4
 have F36 := (((F35.nil.c F35 2 rfl).c F35 1 rfl).c F35 0 rfl)
 clear F35
 refine wp_seq_k (fun K37 hK37 => ?_)
 refine wp_region_lit ?_
 refine qv 0 (.agg #[(.slice A5 sD.sectors.length c6), (.slice B7 sD.pending.length e8), (.int .i64 sD.left), (.bool sD.stopped)]) F36 rfl (rn_loadBlk (F36.get rfl) b31 Try.underlying25 rfl inf25) fun _ F39 => ?_; clear F36
 have d40 := (hd9.pres (((Pres.refl w11).ext hx25).grownN hg32 (fun h => by first | (simp only [Clip, ne_eq, not_true_eq_false, and_false, false_and] at h; done) | (have h2 := h.2; omega) | (rcases h.1 with h | h; (focus (first | (simp only [Clip, ne_eq, not_true_eq_false, and_false, false_and] at h; done) | (rcases h with h | h; (focus (simp only [Clip, ne_eq, not_true_eq_false, and_false, false_and] at h)); ((try simp only [Clip] at h); omega)))); omega))))
 refine wpl_op (i := 1) rfl (o_call F39 rfl rfl rfl rfl (rn_call (args1 (F39.get rfl)) rfl (by kernel_rfl)) (open_conv (open_at (v := (.agg #[(.slice A5 sD.sectors.length c6), (.slice B7 sD.pending.length e8), (.int .i64 sD.left), (.bool sD.stopped)])) sD _ d40) sane_2) ?_)
 rintro _ w44 ⟨A41, c42, rfl, hb43, hx45⟩
 refine ⟨_, rfl, ?_⟩; intro a46 F47; clear F39; have z48 := hx45.size
 have hf49 := RBss.clip hb43
 obtain ⟨-, z50, z51⟩ := RBss.at hb43
 refine qv 2 (.tuple #[(.agg #[(.int .i64 1), (.slice A41 0 c42), (.int .i64 0)]), (.int .i64 0)]) F47 rfl (rn_move (F47.get rfl)) fun _ F53 => ?_; clear F47
 refine qv 3 (.agg #[(.int .i64 1), (.slice A41 0 c42), (.int .i64 0)]) F53 rfl (rn_extract (F53.get rfl) rfl) fun _ F55 => ?_; clear F53
 refine qv 4 (.int .i64 0) F55 rfl (rn_extract (F55.get rfl) rfl) fun _ F57 => ?_; clear F55
 refine wpl_op (i := 5) rfl (o_new (fun g => (.pointer (some ⟨g, 0, none⟩))) [(.int .i64 0), (.slice none 0 0), (.int .i64 0)] 29 F57 rfl rfl rfl rfl (by kernel_rfl) ?_)
 intro g58 w59 a64 F65 z62 z63 b60 hx61; clear F57
 refine wpl_op (i := 6) rfl (o_store (cells := [(.int .i64 1), (.slice A41 0 c42), (.int .i64 0)]) F65 rfl rfl rfl rfl (F65.get rfl) (F65.get rfl) b60 inf29 rfl (by simp [Value.oneCell']) ?_)
 intro w66 b67 hg68; have z69 := hg68.size
 refine qv 7 (.int .i64 0) F65 rfl (rn_assign (F65.get rfl)) fun _ F71 => ?_; clear F65
 refine wpList_nil ?_
 refine hK37 _ _ ?_
 clear hK37
 have F72 := (((((F71.nil.c F71 4 rfl).c F71 3 rfl).c F71 2 rfl).c F71 1 rfl).c F71 0 rfl)
 clear F71
 refine wp_seq_k (fun K73 hK73 => ?_)
 have hx75 : ∃ W, w66.drew = W ∧ Ext w66 W := ⟨_, rfl, (Ext.refl _).drew⟩
 obtain ⟨w74, e76, hx75⟩ := hx75
 have z77 := hx75.size
 refine any_start (fun W => Ext w74 W ∧ Blk W g58 29 [(.int .i64 1), (.slice A41 0 c42), (.int .i64 0)]) (fun i => i == 7) 9 #[false, false, false, false, false, false, false, false, false] rfl rfl rfl ?_
 rw [e76]; clear e76
 refine any_have (n1 := 2) (L1 := #[true, true, true, true, true, true, true, false, false]) (fun a' W => ∃ (g128 : Nat) (A101 : Option Addr) (c102 : Nat) (g82 : Nat), Sl 119 [(0, (.bool false)), (1, (.pointer (some ⟨g22, 0, none⟩))), (2, (.int .i64 0)), (3, (.pointer (some ⟨g58, 0, none⟩))), (4, (.int .i64 0)), (5, (.pointer (some ⟨g128, 0, none⟩))), (30, (.agg #[(.int .i64 0), (.slice A101 ((@List.nil (List UInt8)).length) c102), (.int .i64 0)])), (31, (.int .i64 2))] a' ∧ Ext w74 W ∧ Blk W g82 5 (byteVals (List.replicate 113 0)) ∧ w74.heap.size ≤ g82 ∧ Blk W g128 29 [(.int .i64 0), (.slice none 0 0), (.int .i64 0)] ∧ w74.heap.size ≤ g128 ∧ g82 ≠ g128) ?_ (fun st143 => ?_)
 ·skip
  rintro a144 w145 ⟨g128, A101, c102, g82, F146, hx147, b148, z149, b150, z151, z152⟩
  clear F72
  have z153 := hx147.size
  have z154 := b148.lt
  have z155 := b150.lt
  refine any_one (i := 7) (by decide +kernel) rfl ?_
  refine o_store (cells := [(.int .i64 0), (.slice A101 ((@List.nil (List UInt8)).length) c102), (.int .i64 0)]) F146 rfl rfl rfl rfl (F146.get rfl) (F146.get rfl) b150 inf29 rfl (by simp [Value.oneCell']) ?_
  intro w156 b157 hg158; have z159 := hg158.size
  refine ⟨fun h => absurd h (by decide), ?_⟩
  refine qp 8 (.int .i64 2) F146 rfl rfl (fun W => (rn_assign (F146.get rfl))) fun _ F161 => ?_; clear F146
  refine any_nil (by decide +kernel) ?_
  refine hK73 _ _ ?_
  clear hK73
  refine wp_seq_k (fun K162 hK162 => ?_)
  refine wp_region_lit ?_
  have b163 := (((b67.ext hx75).ext hx147).grownN hg158 (by omega))
  refine qv 0 (.agg #[(.int .i64 1), (.slice A41 0 c42), (.int .i64 0)]) F161 rfl (rn_loadBlk (F161.get rfl) b163 Try.underlying29 rfl inf29) fun _ F165 => ?_; clear F161
  refine wpl_op (i := 1) rfl (o_new (fun g => (.slice (some ⟨g, 0, none⟩) 2 2)) [(.int .u8 97), (.int .u8 98)] 5 F165 rfl rfl rfl rfl (rn_buildSlice (parts2 rfl rfl) (by kernel_rfl)) ?_)
  intro g166 w167 a172 F173 z170 z171 b168 hx169; clear F165
  refine wpl_op (i := 2) rfl (o_mark (l := [(97 : UInt8), (98 : UInt8)]) F173 rfl rfl rfl rfl rfl (F173.get rfl) Try.underlying35 Try.underlying5 b168 rfl (by omega) (by omega) ?_)
  intro w174 a177 F178 hf175 hg176; clear F173; have z179 := hg176.size
  have d180 := (hf49.pres ((((((((Pres.refl w44).ext hx61).grownN hg68 (fun h => by simp only [Clip] at h; omega)).ext hx75).ext hx147).grownN hg158 (fun h => by simp only [Clip] at h; omega)).ext hx169).grownN hg176 (fun h => by simp only [Clip] at h; omega)))
  refine wpl_op (i := 3) rfl (o_call F178 rfl rfl rfl rfl (rn_call (args2 (F178.get rfl) (F178.get rfl)) rfl (by kernel_rfl)) (app_conv (app_at (S := (fun b => (Clip (fun b => w30.heap.size ≤ b) w44) b ∨ (fun b => b = g166) b)) (v := (.slice A41 0 c42)) (u := (.slice (some ⟨g166, 0, none⟩) 2 2)) (n := 2) 1 (@List.nil (List UInt8)) 0 ([(97 : UInt8), (98 : UInt8)]) _ (RBss.sub d180 fun b hb => .inl hb) (fun x hx => absurd hx (by simp)) (by omega) (Fl.sub hf175 fun b hb => .inr hb) (by omega)) sane_4) ?_)
  rintro _ w184 ⟨A181, c182, rfl, hb183, hx185⟩
  refine ⟨_, rfl, ?_⟩; intro a186 F187; clear F178; have z188 := hx185.size
  have hf189 := RBss.clip hb183
  obtain ⟨-, z190, z191⟩ := RBss.at hb183
  refine qv 4 (.tuple #[(.agg #[(.int .i64 1), (.slice A181 (([[97, 98]] : List (List UInt8)).length) c182), (.int .i64 0)]), (.int .i64 0)]) F187 rfl (rn_move (F187.get rfl)) fun _ F193 => ?_; clear F187
  refine qv 5 (.agg #[(.int .i64 1), (.slice A181 (([[97, 98]] : List (List UInt8)).length) c182), (.int .i64 0)]) F193 rfl (rn_extract (F193.get rfl) rfl) fun _ F195 => ?_; clear F193
  refine qv 6 (.int .i64 0) F195 rfl (rn_extract (F195.get rfl) rfl) fun _ F197 => ?_; clear F195
  refine wpl_op (i := 7) rfl (o_new (fun g => (.pointer (some ⟨g, 0, none⟩))) [(.int .i64 0), (.slice none 0 0), (.int .i64 0)] 29 F197 rfl rfl rfl rfl (by kernel_rfl) ?_)
  intro g198 w199 a204 F205 z202 z203 b200 hx201; clear F197
  refine wpl_op (i := 8) rfl (o_store (cells := [(.int .i64 1), (.slice A181 (([[97, 98]] : List (List UInt8)).length) c182), (.int .i64 0)]) F205 rfl rfl rfl rfl (F205.get rfl) (F205.get rfl) b200 inf29 rfl (by simp [Value.oneCell']) ?_)
  intro w206 b207 hg208; have z209 := hg208.size
  refine qv 9 (.int .i64 0) F205 rfl (rn_assign (F205.get rfl)) fun _ F211 => ?_; clear F205
  refine wpList_nil ?_
  refine hK162 _ _ ?_
  clear hK162
  have F212 := ((((((((F211.nil.c F211 8 rfl).c F211 7 rfl).c F211 6 rfl).c F211 4 rfl).c F211 3 rfl).c F211 2 rfl).c F211 1 rfl).c F211 0 rfl)
  clear F211
  refine wp_seq_k (fun K213 hK213 => ?_)
  refine wp_region_lit ?_
  refine qv 0 (.agg #[(.int .i64 1), (.slice A181 (([[97, 98]] : List (List UInt8)).length) c182), (.int .i64 0)]) F212 rfl (rn_loadBlk (F212.get rfl) b207 Try.underlying29 rfl inf29) fun _ F215 => ?_; clear F212
  have b216 := (((((((((((b31.ext hx45).ext hx61).grownN hg68 (by omega)).ext hx75).ext hx147).grownN hg158 (by omega)).ext hx169).grownN hg176 (by omega)).ext hx185).ext hx201).grownN hg208 (by omega))
  refine qv 1 (.agg #[(.slice A5 sD.sectors.length c6), (.slice B7 sD.pending.length e8), (.int .i64 sD.left), (.bool sD.stopped)]) F215 rfl (rn_loadBlk (F215.get rfl) b216 Try.underlying25 rfl inf25) fun _ F218 => ?_; clear F215
  have d219 := (hf189.pres (((Pres.refl w184).ext hx201).grownN hg208 (fun h => by simp only [Clip] at h; omega)))
  have d220 := (hd9.pres ((((((((((((((Pres.refl w11).ext hx25).grownN hg32 (fun h => by first | (simp only [Clip, ne_eq, not_true_eq_false, and_false, false_and] at h; done) | (have h2 := h.2; omega) | (rcases h.1 with h | h; (focus (first | (simp only [Clip, ne_eq, not_true_eq_false, and_false, false_and] at h; done) | (rcases h with h | h; (focus (simp only [Clip, ne_eq, not_true_eq_false, and_false, false_and] at h)); ((try simp only [Clip] at h); omega)))); omega))).ext hx45).ext hx61).grownN hg68 (fun h => by first | (simp only [Clip, ne_eq, not_true_eq_false, and_false, false_and] at h; done) | (have h2 := h.2; omega) | (rcases h.1 with h | h; (focus (first | (simp only [Clip, ne_eq, not_true_eq_false, and_false, false_and] at h; done) | (rcases h with h | h; (focus (simp only [Clip, ne_eq, not_true_eq_false, and_false, false_and] at h)); ((try simp only [Clip] at h); omega)))); omega))).ext hx75).ext hx147).grownN hg158 (fun h => by first | (simp only [Clip, ne_eq, not_true_eq_false, and_false, false_and] at h; done) | (have h2 := h.2; omega) | (rcases h.1 with h | h; (focus (first | (simp only [Clip, ne_eq, not_true_eq_false, and_false, false_and] at h; done) | (rcases h with h | h; (focus (simp only [Clip, ne_eq, not_true_eq_false, and_false, false_and] at h)); ((try simp only [Clip] at h); omega)))); omega))).ext hx169).grownN hg176 (fun h => by first | (simp only [Clip, ne_eq, not_true_eq_false, and_false, false_and] at h; done) | (have h2 := h.2; omega) | (rcases h.1 with h | h; (focus (first | (simp only [Clip, ne_eq, not_true_eq_false, and_false, false_and] at h; done) | (rcases h with h | h; (focus (simp only [Clip, ne_eq, not_true_eq_false, and_false, false_and] at h)); ((try simp only [Clip] at h); omega)))); omega))).ext hx185).ext hx201).grownN hg208 (fun h => by first | (simp only [Clip, ne_eq, not_true_eq_false, and_false, false_and] at h; done) | (have h2 := h.2; omega) | (rcases h.1 with h | h; (focus (first | (simp only [Clip, ne_eq, not_true_eq_false, and_false, false_and] at h; done) | (rcases h with h | h; (focus (simp only [Clip, ne_eq, not_true_eq_false, and_false, false_and] at h)); ((try simp only [Clip] at h); omega)))); omega))))
  refine wpl_op (i := 2) rfl (o_call F218 rfl rfl rfl rfl (rn_call (args2 (F218.get rfl) (F218.get rfl)) rfl (by kernel_rfl)) (sync_conv (sync9_at (S := (fun b => (Clip (Fr (fun b => (Clip (fun b => w30.heap.size ≤ b) w44) b ∨ (fun b => b = g166) b) w174) w184) b ∨ (Clip (Fr (fun _ => False) w) w11) b)) (v := (.slice A181 (([[97, 98]] : List (List UInt8)).length) c182)) (u := (.agg #[(.slice A5 sD.sectors.length c6), (.slice B7 sD.pending.length e8), (.int .i64 sD.left), (.bool sD.stopped)])) 1 ([[97, 98]] : List (List UInt8)) 0 sD _ (RBss.sub d219 fun b hb => .inl hb) (fun x hx => by simp at hx; subst hx; decide) (by decide) (RDk.sub d220 fun b hb => .inr hb)) sane_5) ?_)
  rintro _ w230 ⟨A221, c222, v223, rfl, hb224, hd225, hx231⟩
  obtain ⟨A226, c227, B228, e229, rfl, -, -⟩ := hd225.form
  have hd225 := hd225.clip
  refine ⟨_, rfl, ?_⟩; intro a232 F233; clear F218; have z234 := hx231.size
  have hf235 := RBss.clip hb224
  obtain ⟨-, z236, z237⟩ := RBss.at hb224
  refine qv 3 (.tuple #[(.agg #[(.int .i64 1), (.slice A221 (([[97, 98]] : List (List UInt8)).length) c222), (.int .i64 1)]), (.agg #[(.slice A226 sC.sectors.length c227), (.slice B228 sC.pending.length e229), (.int .i64 sC.left), (.bool sC.stopped)]), (.int .i64 0)]) F233 rfl (rn_move (F233.get rfl)) fun _ F239 => ?_; clear F233
  refine qv 4 (.agg #[(.int .i64 1), (.slice A221 (([[97, 98]] : List (List UInt8)).length) c222), (.int .i64 1)]) F239 rfl (rn_extract (F239.get rfl) rfl) fun _ F241 => ?_; clear F239
  refine qv 5 (.agg #[(.slice A226 sC.sectors.length c227), (.slice B228 sC.pending.length e229), (.int .i64 sC.left), (.bool sC.stopped)]) F241 rfl (rn_extract (F241.get rfl) rfl) fun _ F243 => ?_; clear F241
  refine qv 6 (.int .i64 0) F243 rfl (rn_extract (F243.get rfl) rfl) fun _ F245 => ?_; clear F243
  refine wpl_op (i := 7) rfl (o_new (fun g => (.pointer (some ⟨g, 0, none⟩))) [(.int .i64 0), (.slice none 0 0), (.int .i64 0)] 29 F245 rfl rfl rfl rfl (by kernel_rfl) ?_)
  intro g246 w247 a252 F253 z250 z251 b248 hx249; clear F245
  refine wpl_op (i := 8) rfl (o_new (fun g => (.pointer (some ⟨g, 0, none⟩))) [(.slice none 0 0), (.slice none 0 0), (.int .i64 0), (.bool false)] 25 F253 rfl rfl rfl rfl (by kernel_rfl) ?_)
  intro g254 w255 a260 F261 z258 z259 b256 hx257; clear F253
  have b265 := (b248.ext hx257)
  refine wpl_op (i := 9) rfl (o_store (cells := [(.int .i64 1), (.slice A221 (([[97, 98]] : List (List UInt8)).length) c222), (.int .i64 1)]) F261 rfl rfl rfl rfl (F261.get rfl) (F261.get rfl) b265 inf29 rfl (by simp [Value.oneCell']) ?_)
  intro w262 b263 hg264; have z266 := hg264.size
  have b270 := (b256.grownN hg264 (by omega))
  refine wpl_op (i := 10) rfl (o_store (cells := [(.slice A226 sC.sectors.length c227), (.slice B228 sC.pending.length e229), (.int .i64 sC.left), (.bool sC.stopped)]) F261 rfl rfl rfl rfl (F261.get rfl) (F261.get rfl) b270 inf25 rfl (by simp [Value.oneCell']) ?_)
  intro w267 b268 hg269; have z271 := hg269.size
  refine qv 11 (.int .i64 0) F261 rfl (rn_assign (F261.get rfl)) fun _ F273 => ?_; clear F261
  refine wpList_nil ?_
  refine hK213 _ _ ?_
  clear hK213
  have F274 := (((((((((((F273.nil.c F273 11 rfl).c F273 10 rfl).c F273 9 rfl).c F273 8 rfl).c F273 7 rfl).c F273 6 rfl).c F273 4 rfl).c F273 3 rfl).c F273 2 rfl).c F273 1 rfl).c F273 0 rfl)
  clear F273
  refine wp_seq_k (fun K275 hK275 => ?_)
  refine wp_region_lit ?_
  refine qv 0 (.agg #[(.slice A226 sC.sectors.length c227), (.slice B228 sC.pending.length e229), (.int .i64 sC.left), (.bool sC.stopped)]) F274 rfl (rn_loadBlk (F274.get rfl) b268 Try.underlying25 rfl inf25) fun _ F277 => ?_; clear F274
  have d278 := (hd225.pres (((((Pres.refl w230).ext hx249).ext hx257).grownN hg264 (fun h => by first | (simp only [Clip, ne_eq, not_true_eq_false, and_false, false_and] at h; done) | (have h2 := h.2; omega) | (rcases h.1 with h | h; (focus (first | (simp only [Clip, ne_eq, not_true_eq_false, and_false, false_and] at h; done) | (rcases h with h | h; (focus (simp only [Clip, ne_eq, not_true_eq_false, and_false, false_and] at h)); ((try simp only [Clip] at h); omega)))); omega))).grownN hg269 (fun h => by first | (simp only [Clip, ne_eq, not_true_eq_false, and_false, false_and] at h; done) | (have h2 := h.2; omega) | (rcases h.1 with h | h; (focus (first | (simp only [Clip, ne_eq, not_true_eq_false, and_false, false_and] at h; done) | (rcases h with h | h; (focus (simp only [Clip, ne_eq, not_true_eq_false, and_false, false_and] at h)); ((try simp only [Clip] at h); omega)))); omega))))
  refine wpl_op (i := 1) rfl (o_call F277 rfl rfl rfl rfl (rn_call (args1 (F277.get rfl)) rfl (by kernel_rfl)) (open_conv (open_at (v := (.agg #[(.slice A226 sC.sectors.length c227), (.slice B228 sC.pending.length e229), (.int .i64 sC.left), (.bool sC.stopped)])) sC _ d278) sane_6) ?_)
  rintro _ w282 ⟨A279, c280, rfl, hb281, hx283⟩
  refine ⟨_, rfl, ?_⟩; intro a284 F285; clear F277; have z286 := hx283.size
  have hf287 := RBss.clip hb281
  obtain ⟨-, z288, z289⟩ := RBss.at hb281
  refine qv 2 (.tuple #[(.agg #[(.int .i64 1), (.slice A279 1 c280), (.int .i64 1)]), (.int .i64 0)]) F285 rfl (rn_move (F285.get rfl)) fun _ F291 => ?_; clear F285
  refine qv 3 (.agg #[(.int .i64 1), (.slice A279 1 c280), (.int .i64 1)]) F291 rfl (rn_extract (F291.get rfl) rfl) fun _ F293 => ?_; clear F291
  refine qv 4 (.int .i64 0) F293 rfl (rn_extract (F293.get rfl) rfl) fun _ F295 => ?_; clear F293
  refine wpl_op (i := 5) rfl (o_new (fun g => (.pointer (some ⟨g, 0, none⟩))) [(.int .i64 0), (.slice none 0 0), (.int .i64 0)] 29 F295 rfl rfl rfl rfl (by kernel_rfl) ?_)
  intro g296 w297 a302 F303 z300 z301 b298 hx299; clear F295
  refine wpl_op (i := 6) rfl (o_store (cells := [(.int .i64 1), (.slice A279 1 c280), (.int .i64 1)]) F303 rfl rfl rfl rfl (F303.get rfl) (F303.get rfl) b298 inf29 rfl (by simp [Value.oneCell']) ?_)
  intro w304 b305 hg306; have z307 := hg306.size
  refine qv 7 (.int .i64 0) F303 rfl (rn_assign (F303.get rfl)) fun _ F309 => ?_; clear F303
  refine wpList_nil ?_
  refine hK275 _ _ ?_
  clear hK275
  have F310 := (((((((((((((F309.nil.c F309 13 rfl).c F309 12 rfl).c F309 11 rfl).c F309 10 rfl).c F309 9 rfl).c F309 8 rfl).c F309 7 rfl).c F309 6 rfl).c F309 4 rfl).c F309 3 rfl).c F309 2 rfl).c F309 1 rfl).c F309 0 rfl)
  clear F309
  refine wp_seq_k (fun K311 hK311 => ?_)
  refine wp_region_lit ?_
  have b312 := ((((((((b207.ext hx231).ext hx249).ext hx257).grownN hg264 (by omega)).grownN hg269 (by omega)).ext hx283).ext hx299).grownN hg306 (by omega))
  refine qv 0 (.agg #[(.int .i64 1), (.slice A181 (([[97, 98]] : List (List UInt8)).length) c182), (.int .i64 0)]) F310 rfl (rn_loadBlk (F310.get rfl) b312 Try.underlying29 rfl inf29) fun _ F314 => ?_; clear F310
  have b315 := (((b268.ext hx283).ext hx299).grownN hg306 (by omega))
  refine qv 1 (.agg #[(.slice A226 sC.sectors.length c227), (.slice B228 sC.pending.length e229), (.int .i64 sC.left), (.bool sC.stopped)]) F314 rfl (rn_loadBlk (F314.get rfl) b315 Try.underlying25 rfl inf25) fun _ F317 => ?_; clear F314
  have d318 := (hf189.pres (((((((((((Pres.refl w184).ext hx201).grownN hg208 (fun h => by simp only [Clip] at h; omega)).ext hx231).ext hx249).ext hx257).grownN hg264 (fun h => by simp only [Clip] at h; omega)).grownN hg269 (fun h => by simp only [Clip] at h; omega)).ext hx283).ext hx299).grownN hg306 (fun h => by simp only [Clip] at h; omega)))
  have d319 := (hd225.pres ((((((((Pres.refl w230).ext hx249).ext hx257).grownN hg264 (fun h => by first | (simp only [Clip, ne_eq, not_true_eq_false, and_false, false_and] at h; done) | (have h2 := h.2; omega) | (rcases h.1 with h | h; (focus (first | (simp only [Clip, ne_eq, not_true_eq_false, and_false, false_and] at h; done) | (rcases h with h | h; (focus (simp only [Clip, ne_eq, not_true_eq_false, and_false, false_and] at h)); ((try simp only [Clip] at h); omega)))); omega))).grownN hg269 (fun h => by first | (simp only [Clip, ne_eq, not_true_eq_false, and_false, false_and] at h; done) | (have h2 := h.2; omega) | (rcases h.1 with h | h; (focus (first | (simp only [Clip, ne_eq, not_true_eq_false, and_false, false_and] at h; done) | (rcases h with h | h; (focus (simp only [Clip, ne_eq, not_true_eq_false, and_false, false_and] at h)); ((try simp only [Clip] at h); omega)))); omega))).ext hx283).ext hx299).grownN hg306 (fun h => by first | (simp only [Clip, ne_eq, not_true_eq_false, and_false, false_and] at h; done) | (have h2 := h.2; omega) | (rcases h.1 with h | h; (focus (first | (simp only [Clip, ne_eq, not_true_eq_false, and_false, false_and] at h; done) | (rcases h with h | h; (focus (simp only [Clip, ne_eq, not_true_eq_false, and_false, false_and] at h)); ((try simp only [Clip] at h); omega)))); omega))))
  refine wpl_op (i := 2) rfl (o_call F317 rfl rfl rfl rfl (rn_call (args2 (F317.get rfl) (F317.get rfl)) rfl (by kernel_rfl)) (sync_conv (sync9_at (S := (fun b => (Clip (Fr (fun b => (Clip (fun b => w30.heap.size ≤ b) w44) b ∨ (fun b => b = g166) b) w174) w184) b ∨ (Clip (Fr (fun b => (Clip (Fr (fun b => (Clip (fun b => w30.heap.size ≤ b) w44) b ∨ (fun b => b = g166) b) w174) w184) b ∨ (Clip (Fr (fun _ => False) w) w11) b) w206) w230) b)) (v := (.slice A181 (([[97, 98]] : List (List UInt8)).length) c182)) (u := (.agg #[(.slice A226 sC.sectors.length c227), (.slice B228 sC.pending.length e229), (.int .i64 sC.left), (.bool sC.stopped)])) 1 ([[97, 98]] : List (List UInt8)) 0 sC _ (RBss.sub d318 fun b hb => .inl hb) (fun x hx => by simp at hx; subst hx; decide) (by decide) (RDk.sub d319 fun b hb => .inr hb)) sane_7) ?_)
  rintro _ w329 ⟨A320, c321, v322, rfl, hb323, hd324, hx330⟩
  obtain ⟨A325, c326, B327, e328, rfl, -, -⟩ := hd324.form
  have hd324 := hd324.clip
  refine ⟨_, rfl, ?_⟩; intro a331 F332; clear F317; have z333 := hx330.size
  have hf334 := RBss.clip hb323
  obtain ⟨-, z335, z336⟩ := RBss.at hb323
  refine qv 3 (.tuple #[(.agg #[(.int .i64 0), (.slice A320 ((@List.nil (List UInt8)).length) c321), (.int .i64 0)]), (.agg #[(.slice A325 Dk.zero.sectors.length c326), (.slice B327 Dk.zero.pending.length e328), (.int .i64 Dk.zero.left), (.bool Dk.zero.stopped)]), (.int .i64 390)]) F332 rfl (rn_move (F332.get rfl)) fun _ F338 => ?_; clear F332
  refine qv 4 (.agg #[(.int .i64 0), (.slice A320 ((@List.nil (List UInt8)).length) c321), (.int .i64 0)]) F338 rfl (rn_extract (F338.get rfl) rfl) fun _ F340 => ?_; clear F338
  refine qv 5 (.agg #[(.slice A325 Dk.zero.sectors.length c326), (.slice B327 Dk.zero.pending.length e328), (.int .i64 Dk.zero.left), (.bool Dk.zero.stopped)]) F340 rfl (rn_extract (F340.get rfl) rfl) fun _ F342 => ?_; clear F340
  refine qv 6 (.int .i64 390) F342 rfl (rn_extract (F342.get rfl) rfl) fun _ F344 => ?_; clear F342
  refine wpl_op (i := 7) rfl (o_new (fun g => (.pointer (some ⟨g, 0, none⟩))) [(.int .i64 0), (.slice none 0 0), (.int .i64 0)] 29 F344 rfl rfl rfl rfl (by kernel_rfl) ?_)
  intro g345 w346 a351 F352 z349 z350 b347 hx348; clear F344
  refine wpl_op (i := 8) rfl (o_new (fun g => (.pointer (some ⟨g, 0, none⟩))) [(.slice none 0 0), (.slice none 0 0), (.int .i64 0), (.bool false)] 25 F352 rfl rfl rfl rfl (by kernel_rfl) ?_)
  intro g353 w354 a359 F360 z357 z358 b355 hx356; clear F352
  have b364 := (b347.ext hx356)
  refine wpl_op (i := 9) rfl (o_store (cells := [(.int .i64 0), (.slice A320 ((@List.nil (List UInt8)).length) c321), (.int .i64 0)]) F360 rfl rfl rfl rfl (F360.get rfl) (F360.get rfl) b364 inf29 rfl (by simp [Value.oneCell']) ?_)
  intro w361 b362 hg363; have z365 := hg363.size
  have b369 := (b355.grownN hg363 (by omega))
  refine wpl_op (i := 10) rfl (o_store (cells := [(.slice A325 Dk.zero.sectors.length c326), (.slice B327 Dk.zero.pending.length e328), (.int .i64 Dk.zero.left), (.bool Dk.zero.stopped)]) F360 rfl rfl rfl rfl (F360.get rfl) (F360.get rfl) b369 inf25 rfl (by simp [Value.oneCell']) ?_)
  intro w366 b367 hg368; have z370 := hg368.size
  refine qv 11 (.int .i64 390) F360 rfl (rn_assign (F360.get rfl)) fun _ F372 => ?_; clear F360
  refine wpList_nil ?_
  refine hK311 _ _ ?_
  clear hK311
  have F373 := ((((((((((((((F372.nil.c F372 16 rfl).c F372 13 rfl).c F372 12 rfl).c F372 11 rfl).c F372 10 rfl).c F372 9 rfl).c F372 8 rfl).c F372 7 rfl).c F372 6 rfl).c F372 4 rfl).c F372 3 rfl).c F372 2 rfl).c F372 1 rfl).c F372 0 rfl)
  clear F372
  refine wp_seq_k (fun K374 hK374 => ?_)
  refine wp_region_lit ?_
  refine qv 0 (.int .i64 0) F373 rfl (rn_move (F373.get rfl)) fun _ F376 => ?_; clear F373
  refine qv 1 (.bool true) F376 rfl (rn_eql' (F376.get rfl) rfl (by decide)) fun _ F378 => ?_; clear F376
  refine qv 2 (.bool true) F378 rfl (rn_move (F378.get rfl)) fun _ F380 => ?_; clear F378
  refine qg 3 (.int .i64 0) F380 rfl (rn_move (F380.get rfl)) fun _ F382 => ?_; clear F380
  refine qg 4 (.bool true) F382 rfl (rn_eql' (F382.get rfl) rfl (by decide)) fun _ F384 => ?_; clear F382
  refine qv 5 (.bool true) F384 rfl (rn_pickT (c_true F384 rfl rfl) (F384.get rfl)) fun _ F386 => ?_; clear F384
  refine qv 6 (.bool true) F386 rfl (rn_move (F386.get rfl)) fun _ F388 => ?_; clear F386
  refine qg 7 (.pointer (some ⟨g58, 1, none⟩)) F388 rfl (rn_field Try.underlying29 rfl (by kernel_rfl) (F388.get rfl) rfl) fun _ F390 => ?_; clear F388
  have b391 := ((((((((((((((((((b163.ext hx169).grownN hg176 (by omega)).ext hx185).ext hx201).grownN hg208 (by omega)).ext hx231).ext hx249).ext hx257).grownN hg264 (by omega)).grownN hg269 (by omega)).ext hx283).ext hx299).grownN hg306 (by omega)).ext hx330).ext hx348).ext hx356).grownN hg363 (by omega)).grownN hg368 (by omega))
  refine qg 8 (.slice A41 0 c42) F390 rfl (rn_load (isAgg_no Try.underlying22 rfl) (F390.get rfl) (b391.rule.1 1)) fun _ F393 => ?_; clear F390
  refine qg 9 (.int .i64 0) F393 rfl (rn_len_slice Try.underlying22 (F393.get rfl)) fun _ F395 => ?_; clear F393
  refine qg 10 (.bool true) F395 rfl (rn_eql' (F395.get rfl) rfl (by decide)) fun _ F397 => ?_; clear F395
  refine qv 11 (.bool true) F397 rfl (rn_pickT (c_true F397 rfl rfl) (F397.get rfl)) fun _ F399 => ?_; clear F397
  refine qv 12 (.bool true) F399 rfl (rn_move (F399.get rfl)) fun _ F401 => ?_; clear F399
  refine qg 13 (.agg #[(.int .i64 1), (.slice A41 0 c42), (.int .i64 0)]) F401 rfl (rn_loadBlk (F401.get rfl) b391 Try.underlying29 rfl inf29) fun _ F403 => ?_; clear F401
  have d404 := (hf49.pres ((((((((((((((((((((((((Pres.refl w44).ext hx61).grownN hg68 (fun h => by simp only [Clip] at h; omega)).ext hx75).ext hx147).grownN hg158 (fun h => by simp only [Clip] at h; omega)).ext hx169).grownN hg176 (fun h => by simp only [Clip] at h; omega)).ext hx185).ext hx201).grownN hg208 (fun h => by simp only [Clip] at h; omega)).ext hx231).ext hx249).ext hx257).grownN hg264 (fun h => by simp only [Clip] at h; omega)).grownN hg269 (fun h => by simp only [Clip] at h; omega)).ext hx283).ext hx299).grownN hg306 (fun h => by simp only [Clip] at h; omega)).ext hx330).ext hx348).ext hx356).grownN hg363 (fun h => by simp only [Clip] at h; omega)).grownN hg368 (fun h => by simp only [Clip] at h; omega)))
  have hrm := room_at (v := (.slice A41 0 c42)) 1 (@List.nil (List UInt8)) 0 w366 d404 (fun x hx => absurd hx (by simp))
  rw [sane_8] at hrm
  refine wpl_op (i := 14) rfl (o_call F403 rfl (wanted_guard rfl rfl rfl F403 rfl rfl rfl) rfl rfl (rn_call (args1 (F403.get rfl)) rfl (by kernel_rfl)) hrm ?_)
  rintro _ w405 ⟨rfl, hx406⟩
  refine ⟨_, rfl, ?_⟩; intro a407 F408; clear F403; have z409 := hx406.size
  refine qg 15 (.bool true) F408 rfl (rn_eql' (F408.get rfl) rfl (by decide)) fun _ F411 => ?_; clear F408
  refine qv 16 (.bool true) F411 rfl (rn_pickT (c_true F411 rfl rfl) (F411.get rfl)) fun _ F413 => ?_; clear F411
  refine qv 17 (.bool true) F413 rfl (rn_move (F413.get rfl)) fun _ F415 => ?_; clear F413
  refine qg 18 (.int .i64 2) F415 rfl (rn_move (F415.get rfl)) fun _ F417 => ?_; clear F415
  refine qg 19 (.bool true) F417 rfl (rn_eql' (F417.get rfl) rfl (by decide)) fun _ F419 => ?_; clear F417
  refine qv 20 (.bool true) F419 rfl (rn_pickT (c_true F419 rfl rfl) (F419.get rfl)) fun _ F421 => ?_; clear F419
  refine qv 21 (.bool true) F421 rfl (rn_move (F421.get rfl)) fun _ F423 => ?_; clear F421
  refine qg 22 (.int .i64 0) F423 rfl (rn_move (F423.get rfl)) fun _ F425 => ?_; clear F423
  refine qg 23 (.bool true) F425 rfl (rn_eql' (F425.get rfl) rfl (by decide)) fun _ F427 => ?_; clear F425
  refine qv 24 (.bool true) F427 rfl (rn_pickT (c_true F427 rfl rfl) (F427.get rfl)) fun _ F429 => ?_; clear F427
  refine qv 25 (.bool true) F429 rfl (rn_move (F429.get rfl)) fun _ F431 => ?_; clear F429
  refine qg 26 (.int .i64 0) F431 rfl (rn_move (F431.get rfl)) fun _ F433 => ?_; clear F431
  refine qg 27 (.bool true) F433 rfl (rn_eql' (F433.get rfl) rfl (by decide)) fun _ F435 => ?_; clear F433
  refine qv 28 (.bool true) F435 rfl (rn_pickT (c_true F435 rfl rfl) (F435.get rfl)) fun _ F437 => ?_; clear F435
  refine qv 29 (.bool true) F437 rfl (rn_move (F437.get rfl)) fun _ F439 => ?_; clear F437
  refine qg 30 (.pointer (some ⟨g246, 2, none⟩)) F439 rfl (rn_field Try.underlying29 rfl (by kernel_rfl) (F439.get rfl) rfl) fun _ F441 => ?_; clear F439
  have b442 := ((((((((((b263.grownN hg269 (by omega)).ext hx283).ext hx299).grownN hg306 (by omega)).ext hx330).ext hx348).ext hx356).grownN hg363 (by omega)).grownN hg368 (by omega)).ext hx406)
  refine qg 31 (.int .i64 1) F441 rfl (rn_load (isAgg_no Try.underlying3 rfl) (F441.get rfl) (b442.rule.1 2)) fun _ F444 => ?_; clear F441
  refine qg 32 (.bool true) F444 rfl (rn_eql' (F444.get rfl) rfl (by decide)) fun _ F446 => ?_; clear F444
  refine qv 33 (.bool true) F446 rfl (rn_pickT (c_true F446 rfl rfl) (F446.get rfl)) fun _ F448 => ?_; clear F446
  refine qv 34 (.bool true) F448 rfl (rn_move (F448.get rfl)) fun _ F450 => ?_; clear F448
  refine qg 35 (.int .i64 0) F450 rfl (rn_move (F450.get rfl)) fun _ F452 => ?_; clear F450
  refine qg 36 (.bool true) F452 rfl (rn_eql' (F452.get rfl) rfl (by decide)) fun _ F454 => ?_; clear F452
  refine qv 37 (.bool true) F454 rfl (rn_pickT (c_true F454 rfl rfl) (F454.get rfl)) fun _ F456 => ?_; clear F454
  refine qv 38 (.bool true) F456 rfl (rn_move (F456.get rfl)) fun _ F458 => ?_; clear F456
  refine qg 39 (.pointer (some ⟨g296, 1, none⟩)) F458 rfl (rn_field Try.underlying29 rfl (by kernel_rfl) (F458.get rfl) rfl) fun _ F460 => ?_; clear F458
  have b461 := ((((((b305.ext hx330).ext hx348).ext hx356).grownN hg363 (by omega)).grownN hg368 (by omega)).ext hx406)
  refine qg 40 (.slice A279 1 c280) F460 rfl (rn_load (isAgg_no Try.underlying22 rfl) (F460.get rfl) (b461.rule.1 1)) fun _ F463 => ?_; clear F460
  refine qg 41 (.int .i64 1) F463 rfl (rn_len_slice Try.underlying22 (F463.get rfl)) fun _ F465 => ?_; clear F463
  refine qg 42 (.bool true) F465 rfl (rn_eql' (F465.get rfl) rfl (by decide)) fun _ F467 => ?_; clear F465
  refine qv 43 (.bool true) F467 rfl (rn_pickT (c_true F467 rfl rfl) (F467.get rfl)) fun _ F469 => ?_; clear F467
  refine qv 44 (.bool true) F469 rfl (rn_move (F469.get rfl)) fun _ F471 => ?_; clear F469
  refine qg 45 (.pointer (some ⟨g296, 1, none⟩)) F471 rfl (rn_field Try.underlying29 rfl (by kernel_rfl) (F471.get rfl) rfl) fun _ F473 => ?_; clear F471
  refine qg 46 (.slice A279 1 c280) F473 rfl (rn_load (isAgg_no Try.underlying22 rfl) (F473.get rfl) (b461.rule.1 1)) fun _ F475 => ?_; clear F473
  have d489 := (hf287.pres (((((((((Pres.refl w282).ext hx299).grownN hg306 (fun h => by simp only [Clip] at h; omega)).ext hx330).ext hx348).ext hx356).grownN hg363 (fun h => by simp only [Clip] at h; omega)).grownN hg368 (fun h => by simp only [Clip] at h; omega)).ext hx406))
  obtain ⟨x476, hi477, hm478⟩ := nth_of_lt ([[97, 98]] : List (List UInt8)) 0 (by omega)
  obtain ⟨b479, o480, A481, c482, hA483, hl484, hc485, hr486, le487, le488⟩ := RBss.get d489 hi477
  have hxx : x476 = [97, 98] := by have h := hi477; simp at h; exact h.symm
  refine qg 47 (.pointer (some ⟨b479, o480 + 0, none⟩)) F475 rfl (rn_index1 Try.underlying22 inf35 ((F475.get rfl).trans (by rw [hA483])) rfl (by omega : (0 : Int) ≤ 0) (by omega : (0 : Int) < ((1 : Nat) : Int))) fun _ F491 => ?_; clear F475
  refine qg 48 (.slice A481 x476.length c482) F491 rfl (rn_load (isAgg_no Try.underlying35 rfl) (F491.get rfl) (Ext.keep (Ext.refl w405) hc485)) fun _ F493 => ?_; clear F491
  refine qg 49 (strOf x476) F493 rfl (rn_str (F493.get rfl) (Fl.rbs (RBs.fl hr486)) Try.underlying35 Try.underlying5 Try.underlying9) fun _ F495 => ?_; clear F493
  refine qg 50 (.bool (decide (x476 = ([97, 98])))) F495 rfl (rn_eqs (F495.get rfl) rfl rfl) fun _ F497 => ?_; clear F495
  refine qv 51 (.bool (decide (x476 = ([97, 98])))) F497 rfl (rn_pickT (c_true F497 rfl rfl) (F497.get rfl)) fun _ F499 => ?_; clear F497
  refine qv 52 (.bool (decide (x476 = ([97, 98])))) F499 rfl (rn_move (F499.get rfl)) fun _ F501 => ?_; clear F499
  refine qg 53 (.int .i64 390) F501 ((decide_eq_true hxx) : decide (x476 = ([97, 98])) = true) (rn_move (F501.get rfl)) fun _ F504 => ?_; clear F501
  refine qg 54 (.bool true) F504 ((decide_eq_true hxx) : decide (x476 = ([97, 98])) = true) (rn_eql' (F504.get rfl) rfl (by decide)) fun _ F506 => ?_; clear F504
  refine qv 55 (.bool true) F506 rfl (rn_pickT (c_true F506 rfl ((decide_eq_true hxx) : decide (x476 = ([97, 98])) = true)) (F506.get rfl)) fun _ F508 => ?_; clear F506
  refine qv 56 (.bool true) F508 rfl (rn_move (F508.get rfl)) fun _ F510 => ?_; clear F508
  refine qg 57 (.agg #[(.int .i64 0), (.slice none 0 0), (.int .i64 0)]) F510 rfl (rn_build (parts0 ) (by kernel_rfl)) fun _ F512 => ?_; clear F510
  have hck := chk_at (v := .slice none 0 0) 0 [] 0 w405 (RSl.nil _ : RBss (fun _ => False) _ _ _) (fun x hx => absurd hx (by simp))
  rw [sane_9] at hck
  refine wpl_op (i := 58) rfl (o_call F512 rfl (wanted_guard rfl rfl rfl F512 rfl rfl rfl) rfl rfl (rn_call (args1 (F512.get rfl)) rfl (by kernel_rfl)) hck ?_)
  rintro _ w513 ⟨rfl, hx514⟩
  refine ⟨_, rfl, ?_⟩; intro a515 F516; clear F512; have z517 := hx514.size
  refine qg 59 (.bool true) F516 rfl (rn_eql' (F516.get rfl) rfl (by decide)) fun _ F519 => ?_; clear F516
  refine qv 60 (.bool true) F519 rfl (rn_pickT (c_true F519 rfl rfl) (F519.get rfl)) fun _ F521 => ?_; clear F519
  refine qv 61 (.bool true) F521 rfl (rn_assign (F521.get rfl)) fun _ F523 => ?_; clear F521
  refine wpList_nil ?_
  refine hK374 _ _ ?_
  clear hK374
  have F524 := ((((((((((((((F523.nil.c F523 16 rfl).c F523 13 rfl).c F523 12 rfl).c F523 11 rfl).c F523 10 rfl).c F523 9 rfl).c F523 8 rfl).c F523 7 rfl).c F523 6 rfl).c F523 4 rfl).c F523 3 rfl).c F523 2 rfl).c F523 1 rfl).c F523 0 rfl)
  clear F523
  refine wp_ret ?_
  refine ret1 F524 rfl rfl ?_
  exact ⟨congrArg (fun b => Ending.returned (.bool b)) (rfl : true = true), ((((((((((((((((((((((((((((((Ext.refl w).trans hx12).trans hx25).grownN hg32 (by omega)).trans hx45).trans hx61).grownN hg68 (by omega)).trans hx75).trans hx147).grownN hg158 (by omega)).trans hx169).grownN hg176 (by omega)).trans hx185).trans hx201).grownN hg208 (by omega)).trans hx231).trans hx249).trans hx257).grownN hg264 (by omega)).grownN hg269 (by omega)).trans hx283).trans hx299).grownN hg306 (by omega)).trans hx330).trans hx348).trans hx356).grownN hg363 (by omega)).grownN hg368 (by omega)).trans hx406).trans hx514)⟩
 refine any_have (n1 := 6) (L1 := #[true, true, false, false, false, false, true, false, false]) (fun a' W => ∃ (g119 : Nat) (g82 : Nat), Sl 119 [(0, (.bool false)), (1, (.pointer (some ⟨g22, 0, none⟩))), (2, (.int .i64 0)), (3, (.pointer (some ⟨g58, 0, none⟩))), (4, (.int .i64 0)), (5, (.pointer (some ⟨g119, 0, none⟩))), (27, (.agg #[(.int .i64 1), (.slice A41 0 c42), (.int .i64 0)])), (28, (.slice (some ⟨g82, 0, none⟩) 113 113))] a' ∧ Ext w74 W ∧ Blk W g82 5 (byteVals (List.replicate 113 0)) ∧ w74.heap.size ≤ g82 ∧ Blk W g119 29 [(.int .i64 0), (.slice none 0 0), (.int .i64 0)] ∧ w74.heap.size ≤ g119 ∧ g82 ≠ g119) ?_ (fun st525 => ?_)
 ·skip
  rintro a526 w527 ⟨g119, g82, F528, hx529, b530, z531, b532, z533, z534⟩
  clear F72
  have z535 := hx529.size
  have z536 := b530.lt
  have z537 := b532.lt
  refine any_one (i := 2) (by decide +kernel) rfl ?_
  have d538 := (hf49.pres (((((Pres.refl w44).ext hx61).grownN hg68 (fun h => by simp only [Clip] at h; omega)).ext hx75).ext hx529))
  refine o_call F528 rfl rfl rfl rfl (rn_call (args2 (F528.get rfl) (F528.get rfl)) rfl (by kernel_rfl)) (app_conv (app_at (S := (fun b => (Clip (fun b => w30.heap.size ≤ b) w44) b ∨ (fun b => b = g82) b)) (v := (.slice A41 0 c42)) (u := (.slice (some ⟨g82, 0, none⟩) 113 113)) (n := 113) 1 (@List.nil (List UInt8)) 0 (List.replicate 113 0) _ (RBss.sub d538 fun b hb => .inl hb) (fun x hx => absurd hx (by simp)) (by omega) (Fl.sub (Fl.blk (S := fun b => b = g82) (k := 1) (n := 113) (c := 113) b530 (by rw [byteVals_len (List.length_replicate (n := 113) (a := (0 : UInt8))), Nat.mul_one]) (byteVals_one _) (by omega) rfl) fun b hb => .inr hb) (by omega)) sane_3) ?_
  rintro _ w542 ⟨A539, c540, rfl, hb541, hx543⟩
  refine ⟨_, rfl, ?_⟩; intro a544 F545; clear F528; have z546 := hx543.size
  have hf547 := RBss.clip hb541
  obtain ⟨-, z548, z549⟩ := RBss.at hb541
  have b550 := (((b67.ext hx75).ext hx529).ext hx543)
  refine ⟨fun _ _ => ⟨(((Ext.refl w74).trans hx529).trans hx543), b550⟩, ?_⟩
  refine qp 3 (.tuple #[(.agg #[(.int .i64 0), (.slice A539 ((@List.nil (List UInt8)).length) c540), (.int .i64 0)]), (.int .i64 2)]) F545 rfl rfl (fun W => (rn_move (F545.get rfl))) fun _ F552 => ?_; clear F545
  refine qp 4 (.agg #[(.int .i64 0), (.slice A539 ((@List.nil (List UInt8)).length) c540), (.int .i64 0)]) F552 rfl rfl (fun W => (rn_extract (F552.get rfl) rfl)) fun _ F554 => ?_; clear F552
  refine qp 5 (.int .i64 2) F554 rfl rfl (fun W => (rn_extract (F554.get rfl) rfl)) fun _ F556 => ?_; clear F554
  have b557 := (b530.ext hx543)
  have b558 := (b532.ext hx543)
  exact st143 _ _ ⟨g119, A539, c540, g82, ((((((((F556.nil.c F556 31 rfl).c F556 30 rfl).c F556 5 rfl).c F556 4 rfl).c F556 3 rfl).c F556 2 rfl).c F556 1 rfl).c F556 0 rfl), (((Ext.refl w74).trans hx529).trans hx543), b557, (by omega), b558, (by omega), (by omega)⟩
 have b560 := (b67.ext hx75)
 have hS559 : Ext w74 w74 ∧ Blk w74 g58 29 [(.int .i64 1), (.slice A41 0 c42), (.int .i64 0)] := ⟨(Ext.refl w74), b560⟩
 refine qs 0 (.agg #[(.int .i64 1), (.slice A41 0 c42), (.int .i64 0)]) F72 rfl rfl hS559 (fun W hW => (rn_loadBlk (F72.get rfl) hW.2 Try.underlying29 rfl inf29)) fun _ F562 => ?_; clear F72
 refine any_two (i := 1) (k := 6) (by decide +kernel) rfl rfl ?_ ?_
 ·skip
  refine o_new (fun g => (.slice (some ⟨g, 0, none⟩) 113 113)) (byteVals (List.replicate 113 0)) 5 F562 rfl rfl rfl rfl (rn_makeN El35 rfl rfl rfl (by omega) (by omega) (by simp [byteVals])) ?_
  intro g563 w564 a569 F570 z567 z568 b565 hx566; clear F562
  have b571 := (b560.ext hx566)
  refine ⟨fun _ _ => ⟨((Ext.refl w74).trans hx566), b571⟩, ?_⟩
  refine any_two (i := 2) (k := 6) (by decide +kernel) rfl rfl ?_ ?_
  ·skip
   have d572 := (hf49.pres (((((Pres.refl w44).ext hx61).grownN hg68 (fun h => by simp only [Clip] at h; omega)).ext hx75).ext hx566))
   refine o_call F570 rfl rfl rfl rfl (rn_call (args2 (F570.get rfl) (F570.get rfl)) rfl (by kernel_rfl)) (app_conv (app_at (S := (fun b => (Clip (fun b => w30.heap.size ≤ b) w44) b ∨ (fun b => b = g563) b)) (v := (.slice A41 0 c42)) (u := (.slice (some ⟨g563, 0, none⟩) 113 113)) (n := 113) 1 (@List.nil (List UInt8)) 0 (List.replicate 113 0) _ (RBss.sub d572 fun b hb => .inl hb) (fun x hx => absurd hx (by simp)) (by omega) (Fl.sub (Fl.blk (S := fun b => b = g563) (k := 1) (n := 113) (c := 113) b565 (by rw [byteVals_len (List.length_replicate (n := 113) (a := (0 : UInt8))), Nat.mul_one]) (byteVals_one _) (by omega) rfl) fun b hb => .inr hb) (by omega)) sane_3) ?_
   rintro _ w576 ⟨A573, c574, rfl, hb575, hx577⟩
   refine ⟨_, rfl, ?_⟩; intro a578 F579; clear F570; have z580 := hx577.size
   have hf581 := RBss.clip hb575
   obtain ⟨-, z582, z583⟩ := RBss.at hb575
   have b584 := (b571.ext hx577)
   refine ⟨fun _ _ => ⟨(((Ext.refl w74).trans hx566).trans hx577), b584⟩, ?_⟩
   refine qp 3 (.tuple #[(.agg #[(.int .i64 0), (.slice A573 ((@List.nil (List UInt8)).length) c574), (.int .i64 0)]), (.int .i64 2)]) F579 rfl rfl (fun W => (rn_move (F579.get rfl))) fun _ F586 => ?_; clear F579
   refine qp 4 (.agg #[(.int .i64 0), (.slice A573 ((@List.nil (List UInt8)).length) c574), (.int .i64 0)]) F586 rfl rfl (fun W => (rn_extract (F586.get rfl) rfl)) fun _ F588 => ?_; clear F586
   refine qp 5 (.int .i64 2) F588 rfl rfl (fun W => (rn_extract (F588.get rfl) rfl)) fun _ F590 => ?_; clear F588
   refine any_one (i := 6) (by decide +kernel) rfl ?_
   refine o_new (fun g => (.pointer (some ⟨g, 0, none⟩))) [(.int .i64 0), (.slice none 0 0), (.int .i64 0)] 29 F590 rfl rfl rfl rfl (by kernel_rfl) ?_
   intro g591 w592 a597 F598 z595 z596 b593 hx594; clear F590
   have b599 := (b584.ext hx594)
   refine ⟨fun _ _ => ⟨((((Ext.refl w74).trans hx566).trans hx577).trans hx594), b599⟩, ?_⟩
   have b600 := ((b565.ext hx577).ext hx594)
   exact st143 _ _ ⟨g591, A573, c574, g563, ((((((((F598.nil.c F598 31 rfl).c F598 30 rfl).c F598 5 rfl).c F598 4 rfl).c F598 3 rfl).c F598 2 rfl).c F598 1 rfl).c F598 0 rfl), ((((Ext.refl w74).trans hx566).trans hx577).trans hx594), b600, (by omega), b593, (by omega), (by omega)⟩
  ·skip
   refine o_new (fun g => (.pointer (some ⟨g, 0, none⟩))) [(.int .i64 0), (.slice none 0 0), (.int .i64 0)] 29 F570 rfl rfl rfl rfl (by kernel_rfl) ?_
   intro g601 w602 a607 F608 z605 z606 b603 hx604; clear F570
   have b609 := (b571.ext hx604)
   refine ⟨fun _ _ => ⟨(((Ext.refl w74).trans hx566).trans hx604), b609⟩, ?_⟩
   have b610 := (b565.ext hx604)
   exact st525 _ _ ⟨g601, g563, ((((((((F608.nil.c F608 28 rfl).c F608 27 rfl).c F608 5 rfl).c F608 4 rfl).c F608 3 rfl).c F608 2 rfl).c F608 1 rfl).c F608 0 rfl), (((Ext.refl w74).trans hx566).trans hx604), b610, (by omega), b603, (by omega), (by omega)⟩
 ·skip
  refine o_new (fun g => (.pointer (some ⟨g, 0, none⟩))) [(.int .i64 0), (.slice none 0 0), (.int .i64 0)] 29 F562 rfl rfl rfl rfl (by kernel_rfl) ?_
  intro g611 w612 a617 F618 z615 z616 b613 hx614; clear F562
  have b619 := (b560.ext hx614)
  refine ⟨fun _ _ => ⟨((Ext.refl w74).trans hx614), b619⟩, ?_⟩
  refine any_one (i := 1) (by decide +kernel) rfl ?_
  refine o_new (fun g => (.slice (some ⟨g, 0, none⟩) 113 113)) (byteVals (List.replicate 113 0)) 5 F618 rfl rfl rfl rfl (rn_makeN El35 rfl rfl rfl (by omega) (by omega) (by simp [byteVals])) ?_
  intro g620 w621 a626 F627 z624 z625 b622 hx623; clear F618
  have b628 := (b619.ext hx623)
  refine ⟨fun _ _ => ⟨(((Ext.refl w74).trans hx614).trans hx623), b628⟩, ?_⟩
  have b629 := (b613.ext hx623)
  exact st525 _ _ ⟨g611, g620, ((((((((F627.nil.c F627 28 rfl).c F627 27 rfl).c F627 5 rfl).c F627 4 rfl).c F627 3 rfl).c F627 2 rfl).c F627 1 rfl).c F627 0 rfl), (((Ext.refl w74).trans hx614).trans hx623), b622, (by omega), b629, (by omega), (by omega)⟩

end Go.Proofs.Ytfmhnplkpohogaa
