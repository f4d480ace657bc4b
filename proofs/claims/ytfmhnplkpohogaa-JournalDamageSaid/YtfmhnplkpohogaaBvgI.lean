/- Several texts in one: CloneB, JrT, JrY, JrZ, JrS1, JrDm, JrDn. -/
import Derived.Test.YtfmhnplkpohogaaProg
import Derived.Test.YtfmhnplkpohogaaBvgB
import Derived.KernelRfl
import Derived.WalkSpells
import Derived.Handy
import Derived.Test.YtfmhnplkpohogaaBvgF
import Derived.Test.YtfmhnplkpohogaaBvgA
import Derived.Test.YtfmhnplkpohogaaBvgH
set_option linter.unusedVariables false
set_option linter.unusedSimpArgs false
namespace Go.Proofs.Ytfmhnplkpohogaa
open Go.RowKit

variable {S S' : Nat → Prop}
theorem eqnilBy (w : World) (A : Option Addr) (n c : Nat) : (binOp .eql 35 (.slice A n c) (.slice none 0 0)).run Try.prog w = .ok (.bool A.isNone) w := Lib.run_eql_slice_nil w _ _ A n c 0 0 Try.underlying35
attribute [local go_sem] eqnilBy
set_option maxRecDepth 100000 in
set_option maxHeartbeats 1000000 in
theorem cloneBy_any (A : Option Addr) (n cap : Nat) (xs : List Value) (w : World) (hc : Cel w 1 A n xs) (hn : n ≤ 140737488355328) :
    Calls Try.prog 38 #[.slice A n cap] w (fun en w' => ∃ v, en = .returned v ∧ w'.ownsRow w.heap.size 5 1 v n xs ∧ Ext w w') := by
  rcases A with _ | ad
  · have hn0 : n = 0 := by
      rcases Nat.eq_zero_or_pos n with h | h
      · exact h
      · obtain ⟨b, off, h, _⟩ := hc.2.2 h; cases h
    subst hn0
    have hx : xs = [] := List.eq_nil_of_length_eq_zero (by have := hc.1; omega)
    have HX := Lib.hid hx
    clear hx hc
    go_enter Try.func38, Try.ntmps38
    go_wp2
    go_ret
    exact ⟨_, rfl, by rw [HX.out]; exact World.ownsRow_nil _ _ _ _, Ext.refl _⟩
  · have HC := Lib.hid hc
    clear hc
    go_enter Try.func38, Try.ntmps38
    go_wp2_with (with_reducible refine stop_append ?_)
    refine Lib.hid (wpList_app El35 rfl rfl rfl rfl (World.ownsRow_lit w #[] 0 (Nat.le_refl _) (Nat.zero_le _) (by simp)) (HC.out.ext ((Ext.refl _).alloc _)) (by simp) (by omega) (by omega) ?_)
    intro v' w' hown hg hat
    have HO := Lib.hid hown
    have HE : Hid (Ext w w') := ((Ext.refl w).alloc _).grown hg (fun k hk => by have hk : some w.heap.size = some k := hk; injection hk; omega)
    clear hown hg hat
    go_wp2
    go_ret
    exact ⟨_, rfl, by simpa using HO.out, HE.out⟩
theorem clone_at {v : Value} {n : Nat} (l : List UInt8) (w : World) (hf : Fl S w 1 v n (byteVals l)) (hn : n ≤ 140737488355328) :
    Calls Try.prog 38 #[v] w (fun en w' => ∃ A c, en = .returned (.slice A n c) ∧ Fl (fun b => w.heap.size ≤ b) w' 1 (.slice A n c) n (byteVals l) ∧ Ext w w') := by
  obtain ⟨A, c, rfl, _⟩ := hf.form
  refine (cloneBy_any A n c _ w hf.cel.2.2 hn).mono fun e w' ⟨u, he, ho, hx⟩ => ?_
  have h := Fl.own (S := fun b => w.heap.size ≤ b) ho (fun b hb => hb) (byteVals_one l)
  obtain ⟨A', c', rfl, _⟩ := h.form
  exact ⟨A', c', he, h, hx⟩

end Go.Proofs.Ytfmhnplkpohogaa

namespace Go.Proofs.Ytfmhnplkpohogaa
open Go.RowKit

variable {S S' : Nat → Prop}

set_option maxRecDepth 100000 in
set_option maxHeartbeats 1000000 in
theorem app_any (m : Int) (A : Option Addr) (c : Nat) (R : List (List UInt8)) (s : Int) (B : Option Addr) (e : Nat) (b : List UInt8) (w : World) (hn : RBss S w (.slice A R.length c) R) (hb : ∀ x ∈ R, x.length ≤ 140737488355328) (hR : R.length ≤ 5864062014804) (hf : Fl S w 1 (.slice B b.length e) b.length (byteVals b)) (hbb : b.length ≤ 140737488355328) :
  Calls Try.prog 15 #[.agg #[.int .i64 m, .slice A R.length c, .int .i64 s], .slice B b.length e] w (LogRet S w ((Lg.mk m R s).append b)) := by
 have hnc := RBss.clip hn
 obtain ⟨-, hcR1, hcR2⟩ := RBss.at hn
 have hfc : Fl (Clip S w) w 1 (.slice B b.length e) b.length (byteVals b) := hf.clip
 have hfcc := (Fl.cel hfc).2.1
 refine calls_enter (l := [(.agg #[(.int .i64 m), (.slice A R.length c), (.int .i64 s)]), (.slice B b.length e)]) Try.func15 rfl rfl rfl (fun aA hF => ?_)
 refine wp_seq_k (fun K1 hK1 => ?_)
 refine wp_region_lit ?_
 refine wpl_op (i := 0) rfl (o_new (fun g => (.pointer (some ⟨g, 0, none⟩))) [(.int .i64 m), (.slice A R.length c), (.int .i64 s)] 29 hF rfl rfl rfl rfl (rn_box (hF.get rfl) (by kernel_rfl)) ?_)
 intro g2 w3 a8 F9 z6 z7 b4 hx5; clear hF
 refine wpl_op (i := 1) rfl (o_new (fun g => (.pointer (some ⟨g, 0, none⟩))) [(.int .i64 0), (.slice none 0 0), (.int .i64 0)] 29 F9 rfl rfl rfl rfl (by kernel_rfl) ?_)
 intro g10 w11 a16 F17 z14 z15 b12 hx13; clear F9
 refine qv 2 (.int .i64 0) F17 rfl (rn_assign rfl) fun _ F19 => ?_; clear F17
 refine wpList_nil ?_
 refine hK1 _ _ ?_
 clear hK1
 refine wp_seq_k (fun K20 hK20 => ?_)
 refine wp_seq_k (fun K21 hK21 => ?_)
 refine wp_region_lit ?_
 have b22 := (b4.ext hx13)
 refine qv 0 (.agg #[(.int .i64 m), (.slice A R.length c), (.int .i64 s)]) F19 rfl (rn_loadBlk (F19.get rfl) b22 Try.underlying29 rfl inf29) fun _ F24 => ?_; clear F19
 have d25 := ((hnc.ext hx5).ext hx13)
 refine wpl_op (i := 1) rfl (o_call F24 rfl rfl rfl rfl (rn_call (args1 (F24.get rfl)) rfl (by kernel_rfl)) (chk_at (v := (.slice A R.length c)) m R s _ d25 hb) ?_)
 rintro _ w26 ⟨rfl, hx27⟩
 refine ⟨_, rfl, ?_⟩; intro a28 F29; clear F24; have z30 := hx27.size
 refine qv 2 (.int .i64 ((Lg.mk m R s).check)) F29 rfl (rn_assign (F29.get rfl)) fun _ F32 => ?_; clear F29
 refine wpList_nil ?_
 refine hK21 _ _ ?_
 clear hK21
 refine wp_seq_k (fun K33 hK33 => ?_)
 refine wp_region_lit ?_
 refine qv 0 (.int .i64 ((Lg.mk m R s).check)) F32 rfl (rn_move (F32.get rfl)) fun _ F35 => ?_; clear F32
 refine qv 1 (.bool (decide (((Lg.mk m R s).check : Int) ≠ (0 : Int)))) F35 rfl (rn_neq (F35.get rfl) rfl) fun _ F37 => ?_; clear F35
 refine wpList_nil ?_
 refine hK33 _ _ ?_
 clear hK33
 by_cases hc38 : ((Lg.mk m R s).check : Int) ≠ (0 : Int)
 ·skip
  refine wp_cond_true (c_true F37 rfl (decide_eq_true hc38)) ?_
  refine wp_seq_k (fun K39 hK39 => ?_)
  refine wp_region_lit ?_
  refine qv 0 (.agg #[(.int .i64 0), (.slice none 0 0), (.int .i64 0)]) F37 rfl (rn_build (parts0 ) (by kernel_rfl)) fun _ F41 => ?_; clear F37
  refine qv 1 (.int .i64 ((Lg.mk m R s).check)) F41 rfl (rn_move (F41.get rfl)) fun _ F43 => ?_; clear F41
  have b47 := (b12.ext hx27)
  refine wpl_op (i := 2) rfl (o_store (cells := [(.int .i64 0), (.slice none 0 0), (.int .i64 0)]) F43 rfl rfl rfl rfl (F43.get rfl) (F43.get rfl) b47 inf29 rfl (by simp [Value.oneCell']) ?_)
  intro w44 b45 hg46; have z48 := hg46.size
  refine qv 3 (.int .i64 ((Lg.mk m R s).check)) F43 rfl (rn_assign (F43.get rfl)) fun _ F50 => ?_; clear F43
  refine wpList_nil ?_
  refine hK39 _ _ ?_
  clear hK39
  have F51 := (((((((F50.nil.c F50 10 rfl).c F50 6 rfl).c F50 5 rfl).c F50 4 rfl).c F50 2 rfl).c F50 1 rfl).c F50 0 rfl)
  clear F50
  refine wp_ret ?_
  refine ret_then ?_
  refine retC1 F51 rfl rfl rfl b45 Try.underlying29 rfl inf29 ?_
  exact log_err (Lg.append_1 (l := ⟨m, R, s⟩) (by omega)) (((((Ext.refl w).trans hx5).trans hx13).trans hx27).grownN hg46 (by omega))
 ·skip
  refine wp_cond_false (c_false F37 rfl (decide_eq_false hc38)) ?_
  refine wp_skip ?_
  refine hK20 _ _ ?_
  clear hK20
  refine wp_seq_k (fun K52 hK52 => ?_)
  refine wp_seq_k (fun K53 hK53 => ?_)
  have hx55 : ∃ W, w26.drew = W ∧ Ext w26 W := ⟨_, rfl, (Ext.refl _).drew⟩
  obtain ⟨w54, e56, hx55⟩ := hx55
  have z57 := hx55.size
  refine any_start (fun W => Ext w54 W ∧ Blk W g2 29 [(.int .i64 m), (.slice A R.length c), (.int .i64 s)]) (fun i => false) 9 #[false, false, false, false, false, false, false, false, false] rfl rfl rfl ?_
  rw [e56]; clear e56
  refine qp 0 (.slice B b.length e) F37 rfl rfl (fun W => (rn_move (F37.get rfl))) fun _ F59 => ?_; clear F37
  refine qp 2 (.pointer (some ⟨g2, 0, none⟩)) F59 rfl rfl (fun W => (rn_field Try.underlying29 rfl (by kernel_rfl) (F59.get rfl) rfl)) fun _ F61 => ?_; clear F59
  have b63 := ((b22.ext hx27).ext hx55)
  have hS62 : Ext w54 w54 ∧ Blk w54 g2 29 [(.int .i64 m), (.slice A R.length c), (.int .i64 s)] := ⟨(Ext.refl w54), b63⟩
  refine qs 3 (.int .i64 m) F61 rfl rfl hS62 (fun W hW => (rn_load (isAgg_no Try.underlying3 rfl) (F61.get rfl) (hW.2.rule.1 0))) fun _ F65 => ?_; clear F61
  refine qp 4 (.pointer (some ⟨g2, 1, none⟩)) F65 rfl rfl (fun W => (rn_field Try.underlying29 rfl (by kernel_rfl) (F65.get rfl) rfl)) fun _ F67 => ?_; clear F65
  refine qs 5 (.slice A R.length c) F67 rfl rfl hS62 (fun W hW => (rn_load (isAgg_no Try.underlying22 rfl) (F67.get rfl) (hW.2.rule.1 1))) fun _ F69 => ?_; clear F67
  refine any_one (i := 1) (by decide +kernel) rfl ?_
  refine o_call F69 rfl rfl rfl rfl (rn_call (args1 (F69.get rfl)) rfl (by kernel_rfl)) (sectors_any B b.length e _ (by omega)) ?_
  rintro _ w70 ⟨rfl, hx71⟩
  refine ⟨_, rfl, ?_⟩; intro a72 F73; clear F69; have z74 := hx71.size
  have b75 := (b63.ext hx71)
  refine ⟨fun _ _ => ⟨((Ext.refl w54).trans hx71), b75⟩, ?_⟩
  refine any_one (i := 6) (by decide +kernel) rfl ?_
  have d76 := (((((hnc.ext hx5).ext hx13).ext hx27).ext hx55).ext hx71)
  refine o_call F73 rfl rfl rfl rfl (rn_call (args1 (F73.get rfl)) rfl (by kernel_rfl)) (used_at (v := (.slice A R.length c)) R _ d76 hb) ?_
  rintro _ w77 ⟨rfl, hx78⟩
  refine ⟨_, rfl, ?_⟩; intro a79 F80; clear F73; have z81 := hx78.size
  have b82 := (b75.ext hx78)
  refine ⟨fun _ _ => ⟨(((Ext.refl w54).trans hx71).trans hx78), b82⟩, ?_⟩
  refine qp 7 (.int .i64 (wrapI (m - (usedW R)))) F80 rfl rfl (fun W => (subW_ok (F80.get rfl) (F80.get rfl))) fun _ F84 => ?_; clear F80
  refine qp 8 (.bool (decide (((wrapI (m - (usedW R))) : Int) < ((secs b.length : Nat) : Int)))) F84 rfl rfl (fun W => (rn_gtr (F84.get rfl) (F84.get rfl))) fun _ F86 => ?_; clear F84
  refine any_nil (by decide +kernel) ?_
  refine hK53 _ _ ?_
  clear hK53
  have F87 := ((((((((F86.nil.c F86 21 rfl).c F86 10 rfl).c F86 6 rfl).c F86 5 rfl).c F86 4 rfl).c F86 2 rfl).c F86 1 rfl).c F86 0 rfl)
  clear F86
  by_cases hc88 : ((wrapI (m - (usedW R))) : Int) < ((secs b.length : Nat) : Int)
  ·skip
   refine wp_cond_true (c_true F87 rfl (decide_eq_true hc88)) ?_
   refine wp_seq_k (fun K89 hK89 => ?_)
   refine wp_region_lit ?_
   refine qv 0 (.agg #[(.int .i64 0), (.slice none 0 0), (.int .i64 0)]) F87 rfl (rn_build (parts0 ) (by kernel_rfl)) fun _ F91 => ?_; clear F87
   have b95 := ((((b12.ext hx27).ext hx55).ext hx71).ext hx78)
   refine wpl_op (i := 1) rfl (o_store (cells := [(.int .i64 0), (.slice none 0 0), (.int .i64 0)]) F91 rfl rfl rfl rfl (F91.get rfl) (F91.get rfl) b95 inf29 rfl (by simp [Value.oneCell']) ?_)
   intro w92 b93 hg94; have z96 := hg94.size
   refine qv 2 (.int .i64 2) F91 rfl (rn_assign rfl) fun _ F98 => ?_; clear F91
   refine wpList_nil ?_
   refine hK89 _ _ ?_
   clear hK89
   refine wp_ret ?_
   refine ret_then ?_
   refine retC1 F98 rfl rfl rfl b93 Try.underlying29 rfl inf29 ?_
   exact log_err (Lg.append_2 (l := ⟨m, R, s⟩) (by omega) (by show (wrapI (m - usedW R)) < ((secs b.length : Nat) : Int); omega)) ((((((((Ext.refl w).trans hx5).trans hx13).trans hx27).trans hx55).trans hx71).trans hx78).grownN hg94 (by omega))
  ·skip
   refine wp_cond_false (c_false F87 rfl (decide_eq_false hc88)) ?_
   refine wp_skip ?_
   refine hK52 _ _ ?_
   clear hK52
   refine wp_seq_k (fun K99 hK99 => ?_)
   refine wp_region_lit ?_
   refine qv 0 (.pointer (some ⟨g2, 1, none⟩)) F87 rfl (rn_field Try.underlying29 rfl (by kernel_rfl) (F87.get rfl) rfl) fun _ F101 => ?_; clear F87
   refine qv 1 (.slice A R.length c) F101 rfl (rn_load (isAgg_no Try.underlying22 rfl) (F101.get rfl) (b82.rule.1 1)) fun _ F103 => ?_; clear F101
   have d104 := ((((((hnc.ext hx5).ext hx13).ext hx27).ext hx55).ext hx71).ext hx78)
   refine wpl_op (i := 2) rfl (o_call F103 rfl rfl rfl rfl (rn_call (args1 (F103.get rfl)) rfl (by kernel_rfl)) (clipB_any A R.length c _ (by omega)) ?_)
   rintro _ w105 ⟨rfl, hx106⟩
   refine ⟨_, rfl, ?_⟩; intro a107 F108; clear F103; have z109 := hx106.size
   have d110 := (((((((hnc.ext hx5).ext hx13).ext hx27).ext hx55).ext hx71).ext hx78).ext hx106)
   have hf111 := RBss.full0 d110
   refine qv 3 (.slice B b.length e) F108 rfl (rn_move (F108.get rfl)) fun _ F113 => ?_; clear F108
   have d114 := (((((((hfc.ext hx5).ext hx13).ext hx27).ext hx55).ext hx71).ext hx78).ext hx106)
   refine wpl_op (i := 4) rfl (o_call F113 rfl rfl rfl rfl (rn_call (args1 (F113.get rfl)) rfl (by kernel_rfl)) (clone_at (v := (.slice B b.length e)) (n := b.length) b _ d114 (by omega)) ?_)
   rintro _ w119 ⟨A115, c116, rfl, hf117, hx120⟩
   have z118 := (Fl.cel hf117).2.1
   refine ⟨_, rfl, ?_⟩; intro a121 F122; clear F113; have z123 := hx120.size
   have hf124 : Fl (Clip (fun b => w105.heap.size ≤ b) w119) w119 1 (.slice A115 b.length c116) b.length (byteVals b) := hf117.clip
   refine wpl_op (i := 5) rfl (o_new (fun g => (.slice (some ⟨g, 0, none⟩) 1 1)) [(.slice A115 b.length c116)] 35 F122 rfl rfl rfl rfl (rn_buildSlice (parts1 (F122.get rfl)) (by kernel_rfl)) ?_)
   intro g125 w126 a131 F132 z129 z130 b127 hx128; clear F122
   have d139 := (hf124.ext hx128)
   have d140 := ((hf111.ext hx120).ext hx128)
   refine wpl_op (i := 6) rfl (o_appS (S := (fun b => (Clip S w) b ∨ (Clip (fun b => w105.heap.size ≤ b) w119) b)) El22 F132 rfl rfl rfl rfl rfl (F132.get rfl) (F132.get rfl) (d140.sub fun b hb => .inl hb) b127 ((Fl.rbs d139).sub fun b hb => .inr hb) (by omega) (by omega) ?_)
   intro A133 c134 w135 a141 F142 hl137 hx136; clear F132; have z143 := hx136.size
   have hf144 := RBss.clip hl137
   obtain ⟨-, z145, z146⟩ := RBss.at hl137
   refine qv 7 (.pointer (some ⟨g2, 1, none⟩)) F142 rfl (rn_field Try.underlying29 rfl (by kernel_rfl) (F142.get rfl) rfl) fun _ F148 => ?_; clear F142
   have b152 := ((((b82.ext hx106).ext hx120).ext hx128).ext hx136)
   refine wpl_op (i := 8) rfl (o_store1 (new := [(.int .i64 m), (.slice A133 (R.length + 1) c134), (.int .i64 s)]) F148 rfl rfl rfl rfl (F148.get rfl) (F148.get rfl) b152 inf22 (by simp) rfl rfl ?_)
   intro w149 b150 hg151; have z153 := hg151.size
   refine wpList_nil ?_
   refine hK99 _ _ ?_
   clear hK99
   have F154 := ((((((((F148.nil.c F148 21 rfl).c F148 10 rfl).c F148 6 rfl).c F148 5 rfl).c F148 4 rfl).c F148 2 rfl).c F148 1 rfl).c F148 0 rfl)
   clear F148
   refine wp_seq_k (fun K155 hK155 => ?_)
   refine wp_region_lit ?_
   refine qv 0 (.agg #[(.int .i64 m), (.slice A133 (R.length + 1) c134), (.int .i64 s)]) F154 rfl (rn_loadBlk (F154.get rfl) b150 Try.underlying29 rfl inf29) fun _ F157 => ?_; clear F154
   have b161 := (((((((((b12.ext hx27).ext hx55).ext hx71).ext hx78).ext hx106).ext hx120).ext hx128).ext hx136).grownN hg151 (by omega))
   refine wpl_op (i := 1) rfl (o_store (cells := [(.int .i64 m), (.slice A133 (R.length + 1) c134), (.int .i64 s)]) F157 rfl rfl rfl rfl (F157.get rfl) (F157.get rfl) b161 inf29 rfl (by simp [Value.oneCell']) ?_)
   intro w158 b159 hg160; have z162 := hg160.size
   refine qv 2 (.int .i64 0) F157 rfl (rn_assign rfl) fun _ F164 => ?_; clear F157
   refine wpList_nil ?_
   refine hK155 _ _ ?_
   clear hK155
   refine wp_ret ?_
   refine retC1 F164 rfl rfl rfl b159 Try.underlying29 rfl inf29 ?_
   have d165 := (hf144.pres (((Pres.refl w135).grownN hg151 (fun h => by simp only [Clip] at h; omega)).grownN hg160 (fun h => by simp only [Clip] at h; omega)))
   exact log_fin (Lg.append_ok (l := ⟨m, R, s⟩) (by omega) (by show ¬ (wrapI (m - usedW R)) < ((secs b.length : Nat) : Int); omega)) d165 (fun b hb => by by_cases hS : S b; exact .inl hS; simp only [Clip, hS, false_and, false_or, or_false, and_false] at hb; exact .inr (by omega)) (((((((((((((Ext.refl w).trans hx5).trans hx13).trans hx27).trans hx55).trans hx71).trans hx78).trans hx106).trans hx120).trans hx128).trans hx136).grownN hg151 (by omega)).grownN hg160 (by omega))

theorem app_at {v u : Value} {n : Nat} (m : Int) (R : List (List UInt8)) (s : Int) (b : List UInt8) (w : World) (hn : RBss S w v R) (hb : ∀ x ∈ R, x.length ≤ 140737488355328) (hR : R.length ≤ 5864062014804) (hf : Fl S w 1 u n (byteVals b)) (hbb : b.length ≤ 140737488355328) :
  Calls Try.prog 15 #[.agg #[.int .i64 m, v, .int .i64 s], u] w (LogRet S w ((Lg.mk m R s).append b)) := by
 have h1 := hf.blen
 subst h1
 obtain ⟨A, c, rfl, _⟩ := hn.form
 obtain ⟨B, e, rfl, _⟩ := hf.form
 exact app_any m A c R s B e b w hn hb hR hf hbb

end Go.Proofs.Ytfmhnplkpohogaa

namespace Go.Proofs.Ytfmhnplkpohogaa
open Go.RowKit

variable {S S' : Nat → Prop}

set_option maxRecDepth 100000 in
set_option maxHeartbeats 4000000 in
theorem sane9_any  (w : World)  :
  Calls Try.prog 10 #[] w (RB w true) := by
 have hAB : ([[97, 98]] : List (List UInt8)).length = 1 := rfl; have hNT : (@List.nil (List UInt8)).length = 0 := rfl; have hab : ([97, 98] : List UInt8).length = 2 := rfl; have hzz : (List.replicate 113 (0 : UInt8)).length = 113 := List.length_replicate
 refine calls_enter (l := []) Try.func10 rfl rfl rfl (fun aA hF => ?_)
 refine wp_seq_k (fun K1 hK1 => ?_)
 refine wp_region_lit ?_
 refine qv 0 (.bool false) hF rfl (rn_assign rfl) fun _ F3 => ?_; clear hF
 refine wpList_nil ?_
 refine hK1 _ _ ?_
 clear hK1
 refine wp_seq_k (fun K4 hK4 => ?_)
 refine wp_region_lit ?_
 have hnew := sane_1
 refine wpl_op (i := 0) rfl (o_call F3 rfl rfl rfl rfl (rn_call (args1 rfl) rfl (by kernel_rfl)) (calls_conv (new_any (S := fun _ => False) _ _) (congrArg Prod.fst sane_1) (congrArg Prod.snd sane_1)) ?_)
 rintro _ w11 ⟨v10, rfl, hd9, hx12⟩
 obtain ⟨A5, c6, B7, e8, rfl, -, -⟩ := hd9.form
 have hd9 := hd9.clip
 refine ⟨_, rfl, ?_⟩; intro a13 F14; clear F3; have z15 := hx12.size
 refine qv 1 (.tuple #[(.agg #[(.slice A5 sD.sectors.length c6), (.slice B7 sD.pending.length e8), (.int .i64 sD.left), (.bool sD.stopped)]), (.int .i64 0)]) F14 rfl (rn_move (F14.get rfl)) fun _ F17 => ?_; clear F14
 refine qv 2 (.agg #[(.slice A5 sD.sectors.length c6), (.slice B7 sD.pending.length e8), (.int .i64 sD.left), (.bool sD.stopped)]) F17 rfl (rn_extract (F17.get rfl) rfl) fun _ F19 => ?_; clear F17
 refine qv 3 (.int .i64 0) F19 rfl (rn_extract (F19.get rfl) rfl) fun _ F21 => ?_; clear F19
 refine wpl_op (i := 4) rfl (o_new (fun g => (.pointer (some ⟨g, 0, none⟩))) [(.slice none 0 0), (.slice none 0 0), (.int .i64 0), (.bool false)] 25 F21 rfl rfl rfl rfl (by kernel_rfl) ?_)
 intro g22 w23 a28 F29 z26 z27 b24 hx25; clear F21
 refine wpl_op (i := 5) rfl (o_store (cells := [(.slice A5 sD.sectors.length c6), (.slice B7 sD.pending.length e8), (.int .i64 sD.left), (.bool sD.stopped)]) F29 rfl rfl rfl rfl (F29.get rfl) (F29.get rfl) b24 inf25 rfl (by simp [Value.oneCell']) ?_)
 intro w30 b31 hg32; have z33 := hg32.size
 refine qv 6 (.int .i64 0) F29 rfl (rn_assign (F29.get rfl)) fun _ F35 => ?_; clear F29
 refine wpList_nil ?_
 refine hK4 _ _ ?_
 clear hK4
 have F36 := (((F35.nil.c F35 2 rfl).c F35 1 rfl).c F35 0 rfl)
 clear F35
 refine wp_seq_k (fun K37 hK37 => ?_)
 refine wp_region_lit ?_
 refine qv 0 (.agg #[(.slice A5 sD.sectors.length c6), (.slice B7 sD.pending.length e8), (.int .i64 sD.left), (.bool sD.stopped)]) F36 rfl (rn_loadBlk (F36.get rfl) b31 Try.underlying25 rfl inf25) fun _ F39 => ?_; clear F36
 have d40 := (hd9.pres (((Pres.refl w11).ext hx25).grownN hg32 (fun h => by first | (simp only [Clip, ne_eq, not_true_eq_false, and_false, false_and] at h; done) | (have h2 := h.2; omega) | (rcases h.1 with h | h; (focus (first | (simp only [Clip, ne_eq, not_true_eq_false, and_false, false_and] at h; done) | (rcases h with h | h; (focus (simp only [Clip, ne_eq, not_true_eq_false, and_false, false_and] at h)); ((try simp only [Clip] at h); omega)))); omega))))
 refine wpl_op (i := 1) rfl (o_call F39 rfl rfl rfl rfl (rn_call (args1 (F39.get rfl)) rfl (by kernel_rfl)) (open_conv (open_at (v := (.agg #[(.slice A5 sD.sectors.length c6), (.slice B7 sD.pending.length e8), (.int .i64 sD.left), (.bool sD.stopped)])) sD _ d40) sane_2) ?_)
 rintro _ w44 ⟨A41, c42, rfl, hb43, hx45⟩
 refine ⟨_, rfl, ?_⟩; intro a46 F47; clear F39; have z48 := hx45.size
 have hf49 := RBss.clip hb43
 obtain ⟨-, z50, z51⟩ := RBss.at hb43
 refine qv 2 (.tuple #[(.agg #[(.int .i64 1), (.slice A41 0 c42), (.int .i64 0)]), (.int .i64 0)]) F47 rfl (rn_move (F47.get rfl)) fun _ F53 => ?_; clear F47
 refine qv 3 (.agg #[(.int .i64 1), (.slice A41 0 c42), (.int .i64 0)]) F53 rfl (rn_extract (F53.get rfl) rfl) fun _ F55 => ?_; clear F53
 refine qv 4 (.int .i64 0) F55 rfl (rn_extract (F55.get rfl) rfl) fun _ F57 => ?_; clear F55
 refine wpl_op (i := 5) rfl (o_new (fun g => (.pointer (some ⟨g, 0, none⟩))) [(.int .i64 0), (.slice none 0 0), (.int .i64 0)] 29 F57 rfl rfl rfl rfl (by kernel_rfl) ?_)
 intro g58 w59 a64 F65 z62 z63 b60 hx61; clear F57
 refine wpl_op (i := 6) rfl (o_store (cells := [(.int .i64 1), (.slice A41 0 c42), (.int .i64 0)]) F65 rfl rfl rfl rfl (F65.get rfl) (F65.get rfl) b60 inf29 rfl (by simp [Value.oneCell']) ?_)
 intro w66 b67 hg68; have z69 := hg68.size
 refine qv 7 (.int .i64 0) F65 rfl (rn_assign (F65.get rfl)) fun _ F71 => ?_; clear F65
 refine wpList_nil ?_
 refine hK37 _ _ ?_
 clear hK37
 have F72 := (((((F71.nil.c F71 4 rfl).c F71 3 rfl).c F71 2 rfl).c F71 1 rfl).c F71 0 rfl)
 clear F71
 refine wp_seq_k (fun K73 hK73 => ?_)
 have hx75 : ∃ W, w66.drew = W ∧ Ext w66 W := ⟨_, rfl, (Ext.refl _).drew⟩
 obtain ⟨w74, e76, hx75⟩ := hx75
 have z77 := hx75.size
 refine any_start (fun W => Ext w74 W ∧ Blk W g58 29 [(.int .i64 1), (.slice A41 0 c42), (.int .i64 0)]) (fun i => i == 7) 9 #[false, false, false, false, false, false, false, false, false] rfl rfl rfl ?_
 rw [e76]; clear e76
 refine any_have (n1 := 2) (L1 := #[true, true, true, true, true, true, true, false, false]) (fun a' W => ∃ (g128 : Nat) (A101 : Option Addr) (c102 : Nat) (g82 : Nat), Sl 119 [(0, (.bool false)), (1, (.pointer (some ⟨g22, 0, none⟩))), (2, (.int .i64 0)), (3, (.pointer (some ⟨g58, 0, none⟩))), (4, (.int .i64 0)), (5, (.pointer (some ⟨g128, 0, none⟩))), (30, (.agg #[(.int .i64 0), (.slice A101 ((@List.nil (List UInt8)).length) c102), (.int .i64 0)])), (31, (.int .i64 2))] a' ∧ Ext w74 W ∧ Blk W g82 5 (byteVals (List.replicate 113 0)) ∧ w74.heap.size ≤ g82 ∧ Blk W g128 29 [(.int .i64 0), (.slice none 0 0), (.int .i64 0)] ∧ w74.heap.size ≤ g128 ∧ g82 ≠ g128) ?_ (fun st143 => ?_)
 ·skip
  rintro a144 w145 ⟨g128, A101, c102, g82, F146, hx147, b148, z149, b150, z151, z152⟩
  clear F72
  have z153 := hx147.size
  have z154 := b148.lt
  have z155 := b150.lt
  refine any_one (i := 7) (by decide +kernel) rfl ?_
  refine o_store (cells := [(.int .i64 0), (.slice A101 ((@List.nil (List UInt8)).length) c102), (.int .i64 0)]) F146 rfl rfl rfl rfl (F146.get rfl) (F146.get rfl) b150 inf29 rfl (by simp [Value.oneCell']) ?_
  intro w156 b157 hg158; have z159 := hg158.size
  refine ⟨fun h => absurd h (by decide), ?_⟩
  refine qp 8 (.int .i64 2) F146 rfl rfl (fun W => (rn_assign (F146.get rfl))) fun _ F161 => ?_; clear F146
  refine any_nil (by decide +kernel) ?_
  refine hK73 _ _ ?_
  clear hK73
  refine wp_seq_k (fun K162 hK162 => ?_)
  refine wp_region_lit ?_
  have b163 := (((b67.ext hx75).ext hx147).grownN hg158 (by omega))
  refine qv 0 (.agg #[(.int .i64 1), (.slice A41 0 c42), (.int .i64 0)]) F161 rfl (rn_loadBlk (F161.get rfl) b163 Try.underlying29 rfl inf29) fun _ F165 => ?_; clear F161
  refine wpl_op (i := 1) rfl (o_new (fun g => (.slice (some ⟨g, 0, none⟩) 2 2)) [(.int .u8 97), (.int .u8 98)] 5 F165 rfl rfl rfl rfl (rn_buildSlice (parts2 rfl rfl) (by kernel_rfl)) ?_)
  intro g166 w167 a172 F173 z170 z171 b168 hx169; clear F165
  refine wpl_op (i := 2) rfl (o_mark (l := [(97 : UInt8), (98 : UInt8)]) F173 rfl rfl rfl rfl rfl (F173.get rfl) Try.underlying35 Try.underlying5 b168 rfl (by omega) (by omega) ?_)
  intro w174 a177 F178 hf175 hg176; clear F173; have z179 := hg176.size
  have d180 := (hf49.pres ((((((((Pres.refl w44).ext hx61).grownN hg68 (fun h => by simp only [Clip] at h; omega)).ext hx75).ext hx147).grownN hg158 (fun h => by simp only [Clip] at h; omega)).ext hx169).grownN hg176 (fun h => by simp only [Clip] at h; omega)))
  refine wpl_op (i := 3) rfl (o_call F178 rfl rfl rfl rfl (rn_call (args2 (F178.get rfl) (F178.get rfl)) rfl (by kernel_rfl)) (app_conv (app_at (S := (fun b => (Clip (fun b => w30.heap.size ≤ b) w44) b ∨ (fun b => b = g166) b)) (v := (.slice A41 0 c42)) (u := (.slice (some ⟨g166, 0, none⟩) 2 2)) (n := 2) 1 (@List.nil (List UInt8)) 0 ([(97 : UInt8), (98 : UInt8)]) _ (RBss.sub d180 fun b hb => .inl hb) (fun x hx => absurd hx (by simp)) (by omega) (Fl.sub hf175 fun b hb => .inr hb) (by omega)) sane_4) ?_)
  rintro _ w184 ⟨A181, c182, rfl, hb183, hx185⟩
  refine ⟨_, rfl, ?_⟩; intro a186 F187; clear F178; have z188 := hx185.size
  have hf189 := RBss.clip hb183
  obtain ⟨-, z190, z191⟩ := RBss.at hb183
  refine qv 4 (.tuple #[(.agg #[(.int .i64 1), (.slice A181 (([[97, 98]] : List (List UInt8)).length) c182), (.int .i64 0)]), (.int .i64 0)]) F187 rfl (rn_move (F187.get rfl)) fun _ F193 => ?_; clear F187
  refine qv 5 (.agg #[(.int .i64 1), (.slice A181 (([[97, 98]] : List (List UInt8)).length) c182), (.int .i64 0)]) F193 rfl (rn_extract (F193.get rfl) rfl) fun _ F195 => ?_; clear F193
  refine qv 6 (.int .i64 0) F195 rfl (rn_extract (F195.get rfl) rfl) fun _ F197 => ?_; clear F195
  refine wpl_op (i := 7) rfl (o_new (fun g => (.pointer (some ⟨g, 0, none⟩))) [(.int .i64 0), (.slice none 0 0), (.int .i64 0)] 29 F197 rfl rfl rfl rfl (by kernel_rfl) ?_)
  intro g198 w199 a204 F205 z202 z203 b200 hx201; clear F197
  refine wpl_op (i := 8) rfl (o_store (cells := [(.int .i64 1), (.slice A181 (([[97, 98]] : List (List UInt8)).length) c182), (.int .i64 0)]) F205 rfl rfl rfl rfl (F205.get rfl) (F205.get rfl) b200 inf29 rfl (by simp [Value.oneCell']) ?_)
  intro w206 b207 hg208; have z209 := hg208.size
  refine qv 9 (.int .i64 0) F205 rfl (rn_assign (F205.get rfl)) fun _ F211 => ?_; clear F205
  refine wpList_nil ?_
  refine hK162 _ _ ?_
  clear hK162
  have F212 := ((((((((F211.nil.c F211 8 rfl).c F211 7 rfl).c F211 6 rfl).c F211 4 rfl).c F211 3 rfl).c F211 2 rfl).c F211 1 rfl).c F211 0 rfl)
  clear F211
  refine wp_seq_k (fun K213 hK213 => ?_)
  refine wp_region_lit ?_
  refine qv 0 (.agg #[(.int .i64 1), (.slice A181 (([[97, 98]] : List (List UInt8)).length) c182), (.int .i64 0)]) F212 rfl (rn_loadBlk (F212.get rfl) b207 Try.underlying29 rfl inf29) fun _ F215 => ?_; clear F212
  have b216 := (((((((((((b31.ext hx45).ext hx61).grownN hg68 (by omega)).ext hx75).ext hx147).grownN hg158 (by omega)).ext hx169).grownN hg176 (by omega)).ext hx185).ext hx201).grownN hg208 (by omega))
  refine qv 1 (.agg #[(.slice A5 sD.sectors.length c6), (.slice B7 sD.pending.length e8), (.int .i64 sD.left), (.bool sD.stopped)]) F215 rfl (rn_loadBlk (F215.get rfl) b216 Try.underlying25 rfl inf25) fun _ F218 => ?_; clear F215
  have d219 := (hf189.pres (((Pres.refl w184).ext hx201).grownN hg208 (fun h => by simp only [Clip] at h; omega)))
  have d220 := (hd9.pres ((((((((((((((Pres.refl w11).ext hx25).grownN hg32 (fun h => by first | (simp only [Clip, ne_eq, not_true_eq_false, and_false, false_and] at h; done) | (have h2 := h.2; omega) | (rcases h.1 with h | h; (focus (first | (simp only [Clip, ne_eq, not_true_eq_false, and_false, false_and] at h; done) | (rcases h with h | h; (focus (simp only [Clip, ne_eq, not_true_eq_false, and_false, false_and] at h)); ((try simp only [Clip] at h); omega)))); omega))).ext hx45).ext hx61).grownN hg68 (fun h => by first | (simp only [Clip, ne_eq, not_true_eq_false, and_false, false_and] at h; done) | (have h2 := h.2; omega) | (rcases h.1 with h | h; (focus (first | (simp only [Clip, ne_eq, not_true_eq_false, and_false, false_and] at h; done) | (rcases h with h | h; (focus (simp only [Clip, ne_eq, not_true_eq_false, and_false, false_and] at h)); ((try simp only [Clip] at h); omega)))); omega))).ext hx75).ext hx147).grownN hg158 (fun h => by first | (simp only [Clip, ne_eq, not_true_eq_false, and_false, false_and] at h; done) | (have h2 := h.2; omega) | (rcases h.1 with h | h; (focus (first | (simp only [Clip, ne_eq, not_true_eq_false, and_false, false_and] at h; done) | (rcases h with h | h; (focus (simp only [Clip, ne_eq, not_true_eq_false, and_false, false_and] at h)); ((try simp only [Clip] at h); omega)))); omega))).ext hx169).grownN hg176 (fun h => by first | (simp only [Clip, ne_eq, not_true_eq_false, and_false, false_and] at h; done) | (have h2 := h.2; omega) | (rcases h.1 with h | h; (focus (first | (simp only [Clip, ne_eq, not_true_eq_false, and_false, false_and] at h; done) | (rcases h with h | h; (focus (simp only [Clip, ne_eq, not_true_eq_false, and_false, false_and] at h)); ((try simp only [Clip] at h); omega)))); omega))).ext hx185).ext hx201).grownN hg208 (fun h => by first | (simp only [Clip, ne_eq, not_true_eq_false, and_false, false_and] at h; done) | (have h2 := h.2; omega) | (rcases h.1 with h | h; (focus (first | (simp only [Clip, ne_eq, not_true_eq_false, and_false, false_and] at h; done) | (rcases h with h | h; (focus (simp only [Clip, ne_eq, not_true_eq_false, and_false, false_and] at h)); ((try simp only [Clip] at h); omega)))); omega))))
  refine wpl_op (i := 2) rfl (o_call F218 rfl rfl rfl rfl (rn_call (args2 (F218.get rfl) (F218.get rfl)) rfl (by kernel_rfl)) (sync_conv (sync9_at (S := (fun b => (Clip (Fr (fun b => (Clip (fun b => w30.heap.size ≤ b) w44) b ∨ (fun b => b = g166) b) w174) w184) b ∨ (Clip (Fr (fun _ => False) w) w11) b)) (v := (.slice A181 (([[97, 98]] : List (List UInt8)).length) c182)) (u := (.agg #[(.slice A5 sD.sectors.length c6), (.slice B7 sD.pending.length e8), (.int .i64 sD.left), (.bool sD.stopped)])) 1 ([[97, 98]] : List (List UInt8)) 0 sD _ (RBss.sub d219 fun b hb => .inl hb) (fun x hx => by simp at hx; subst hx; decide) (by decide) (RDk.sub d220 fun b hb => .inr hb)) sane_5) ?_)
  rintro _ w230 ⟨A221, c222, v223, rfl, hb224, hd225, hx231⟩
  obtain ⟨A226, c227, B228, e229, rfl, -, -⟩ := hd225.form
  have hd225 := hd225.clip
  refine ⟨_, rfl, ?_⟩; intro a232 F233; clear F218; have z234 := hx231.size
  have hf235 := RBss.clip hb224
  obtain ⟨-, z236, z237⟩ := RBss.at hb224
  refine qv 3 (.tuple #[(.agg #[(.int .i64 1), (.slice A221 (([[97, 98]] : List (List UInt8)).length) c222), (.int .i64 1)]), (.agg #[(.slice A226 sC.sectors.length c227), (.slice B228 sC.pending.length e229), (.int .i64 sC.left), (.bool sC.stopped)]), (.int .i64 0)]) F233 rfl (rn_move (F233.get rfl)) fun _ F239 => ?_; clear F233
  refine qv 4 (.agg #[(.int .i64 1), (.slice A221 (([[97, 98]] : List (List UInt8)).length) c222), (.int .i64 1)]) F239 rfl (rn_extract (F239.get rfl) rfl) fun _ F241 => ?_; clear F239
  refine qv 5 (.agg #[(.slice A226 sC.sectors.length c227), (.slice B228 sC.pending.length e229), (.int .i64 sC.left), (.bool sC.stopped)]) F241 rfl (rn_extract (F241.get rfl) rfl) fun _ F243 => ?_; clear F241
  refine qv 6 (.int .i64 0) F243 rfl (rn_extract (F243.get rfl) rfl) fun _ F245 => ?_; clear F243
  refine wpl_op (i := 7) rfl (o_new (fun g => (.pointer (some ⟨g, 0, none⟩))) [(.int .i64 0), (.slice none 0 0), (.int .i64 0)] 29 F245 rfl rfl rfl rfl (by kernel_rfl) ?_)
  intro g246 w247 a252 F253 z250 z251 b248 hx249; clear F245
  refine wpl_op (i := 8) rfl (o_new (fun g => (.pointer (some ⟨g, 0, none⟩))) [(.slice none 0 0), (.slice none 0 0), (.int .i64 0), (.bool false)] 25 F253 rfl rfl rfl rfl (by kernel_rfl) ?_)
  intro g254 w255 a260 F261 z258 z259 b256 hx257; clear F253
  have b265 := (b248.ext hx257)
  refine wpl_op (i := 9) rfl (o_store (cells := [(.int .i64 1), (.slice A221 (([[97, 98]] : List (List UInt8)).length) c222), (.int .i64 1)]) F261 rfl rfl rfl rfl (F261.get rfl) (F261.get rfl) b265 inf29 rfl (by simp [Value.oneCell']) ?_)
  intro w262 b263 hg264; have z266 := hg264.size
  have b270 := (b256.grownN hg264 (by omega))
  refine wpl_op (i := 10) rfl (o_store (cells := [(.slice A226 sC.sectors.length c227), (.slice B228 sC.pending.length e229), (.int .i64 sC.left), (.bool sC.stopped)]) F261 rfl rfl rfl rfl (F261.get rfl) (F261.get rfl) b270 inf25 rfl (by simp [Value.oneCell']) ?_)
  intro w267 b268 hg269; have z271 := hg269.size
  refine qv 11 (.int .i64 0) F261 rfl (rn_assign (F261.get rfl)) fun _ F273 => ?_; clear F261
  refine wpList_nil ?_
  refine hK213 _ _ ?_
  clear hK213
  have F274 := (((((((((((F273.nil.c F273 11 rfl).c F273 10 rfl).c F273 9 rfl).c F273 8 rfl).c F273 7 rfl).c F273 6 rfl).c F273 4 rfl).c F273 3 rfl).c F273 2 rfl).c F273 1 rfl).c F273 0 rfl)
  clear F273
  refine wp_seq_k (fun K275 hK275 => ?_)
  refine wp_region_lit ?_
  refine qv 0 (.agg #[(.slice A226 sC.sectors.length c227), (.slice B228 sC.pending.length e229), (.int .i64 sC.left), (.bool sC.stopped)]) F274 rfl (rn_loadBlk (F274.get rfl) b268 Try.underlying25 rfl inf25) fun _ F277 => ?_; clear F274
  have d278 := (hd225.pres (((((Pres.refl w230).ext hx249).ext hx257).grownN hg264 (fun h => by first | (simp only [Clip, ne_eq, not_true_eq_false, and_false, false_and] at h; done) | (have h2 := h.2; omega) | (rcases h.1 with h | h; (focus (first | (simp only [Clip, ne_eq, not_true_eq_false, and_false, false_and] at h; done) | (rcases h with h | h; (focus (simp only [Clip, ne_eq, not_true_eq_false, and_false, false_and] at h)); ((try simp only [Clip] at h); omega)))); omega))).grownN hg269 (fun h => by first | (simp only [Clip, ne_eq, not_true_eq_false, and_false, false_and] at h; done) | (have h2 := h.2; omega) | (rcases h.1 with h | h; (focus (first | (simp only [Clip, ne_eq, not_true_eq_false, and_false, false_and] at h; done) | (rcases h with h | h; (focus (simp only [Clip, ne_eq, not_true_eq_false, and_false, false_and] at h)); ((try simp only [Clip] at h); omega)))); omega))))
  refine wpl_op (i := 1) rfl (o_call F277 rfl rfl rfl rfl (rn_call (args1 (F277.get rfl)) rfl (by kernel_rfl)) (open_conv (open_at (v := (.agg #[(.slice A226 sC.sectors.length c227), (.slice B228 sC.pending.length e229), (.int .i64 sC.left), (.bool sC.stopped)])) sC _ d278) sane_6) ?_)
  rintro _ w282 ⟨A279, c280, rfl, hb281, hx283⟩
  refine ⟨_, rfl, ?_⟩; intro a284 F285; clear F277; have z286 := hx283.size
  have hf287 := RBss.clip hb281
  obtain ⟨-, z288, z289⟩ := RBss.at hb281
  refine qv 2 (.tuple #[(.agg #[(.int .i64 1), (.slice A279 1 c280), (.int .i64 1)]), (.int .i64 0)]) F285 rfl (rn_move (F285.get rfl)) fun _ F291 => ?_; clear F285
  refine qv 3 (.agg #[(.int .i64 1), (.slice A279 1 c280), (.int .i64 1)]) F291 rfl (rn_extract (F291.get rfl) rfl) fun _ F293 => ?_; clear F291
  refine qv 4 (.int .i64 0) F293 rfl (rn_extract (F293.get rfl) rfl) fun _ F295 => ?_; clear F293
  refine wpl_op (i := 5) rfl (o_new (fun g => (.pointer (some ⟨g, 0, none⟩))) [(.int .i64 0), (.slice none 0 0), (.int .i64 0)] 29 F295 rfl rfl rfl rfl (by kernel_rfl) ?_)
  intro g296 w297 a302 F303 z300 z301 b298 hx299; clear F295
  refine wpl_op (i := 6) rfl (o_store (cells := [(.int .i64 1), (.slice A279 1 c280), (.int .i64 1)]) F303 rfl rfl rfl rfl (F303.get rfl) (F303.get rfl) b298 inf29 rfl (by simp [Value.oneCell']) ?_)
  intro w304 b305 hg306; have z307 := hg306.size
  refine qv 7 (.int .i64 0) F303 rfl (rn_assign (F303.get rfl)) fun _ F309 => ?_; clear F303
  refine wpList_nil ?_
  refine hK275 _ _ ?_
  clear hK275
  have F310 := (((((((((((((F309.nil.c F309 13 rfl).c F309 12 rfl).c F309 11 rfl).c F309 10 rfl).c F309 9 rfl).c F309 8 rfl).c F309 7 rfl).c F309 6 rfl).c F309 4 rfl).c F309 3 rfl).c F309 2 rfl).c F309 1 rfl).c F309 0 rfl)
  clear F309
  refine wp_seq_k (fun K311 hK311 => ?_)
  refine wp_region_lit ?_
  have b312 := ((((((((b207.ext hx231).ext hx249).ext hx257).grownN hg264 (by omega)).grownN hg269 (by omega)).ext hx283).ext hx299).grownN hg306 (by omega))
  refine qv 0 (.agg #[(.int .i64 1), (.slice A181 (([[97, 98]] : List (List UInt8)).length) c182), (.int .i64 0)]) F310 rfl (rn_loadBlk (F310.get rfl) b312 Try.underlying29 rfl inf29) fun _ F314 => ?_; clear F310
  have b315 := (((b268.ext hx283).ext hx299).grownN hg306 (by omega))
  refine qv 1 (.agg #[(.slice A226 sC.sectors.length c227), (.slice B228 sC.pending.length e229), (.int .i64 sC.left), (.bool sC.stopped)]) F314 rfl (rn_loadBlk (F314.get rfl) b315 Try.underlying25 rfl inf25) fun _ F317 => ?_; clear F314
  have d318 := (hf189.pres (((((((((((Pres.refl w184).ext hx201).grownN hg208 (fun h => by simp only [Clip] at h; omega)).ext hx231).ext hx249).ext hx257).grownN hg264 (fun h => by simp only [Clip] at h; omega)).grownN hg269 (fun h => by simp only [Clip] at h; omega)).ext hx283).ext hx299).grownN hg306 (fun h => by simp only [Clip] at h; omega)))
  have d319 := (hd225.pres ((((((((Pres.refl w230).ext hx249).ext hx257).grownN hg264 (fun h => by first | (simp only [Clip, ne_eq, not_true_eq_false, and_false, false_and] at h; done) | (have h2 := h.2; omega) | (rcases h.1 with h | h; (focus (first | (simp only [Clip, ne_eq, not_true_eq_false, and_false, false_and] at h; done) | (rcases h with h | h; (focus (simp only [Clip, ne_eq, not_true_eq_false, and_false, false_and] at h)); ((try simp only [Clip] at h); omega)))); omega))).grownN hg269 (fun h => by first | (simp only [Clip, ne_eq, not_true_eq_false, and_false, false_and] at h; done) | (have h2 := h.2; omega) | (rcases h.1 with h | h; (focus (first | (simp only [Clip, ne_eq, not_true_eq_false, and_false, false_and] at h; done) | (rcases h with h | h; (focus (simp only [Clip, ne_eq, not_true_eq_false, and_false, false_and] at h)); ((try simp only [Clip] at h); omega)))); omega))).ext hx283).ext hx299).grownN hg306 (fun h => by first | (simp only [Clip, ne_eq, not_true_eq_false, and_false, false_and] at h; done) | (have h2 := h.2; omega) | (rcases h.1 with h | h; (focus (first | (simp only [Clip, ne_eq, not_true_eq_false, and_false, false_and] at h; done) | (rcases h with h | h; (focus (simp only [Clip, ne_eq, not_true_eq_false, and_false, false_and] at h)); ((try simp only [Clip] at h); omega)))); omega))))
  refine wpl_op (i := 2) rfl (o_call F317 rfl rfl rfl rfl (rn_call (args2 (F317.get rfl) (F317.get rfl)) rfl (by kernel_rfl)) (sync_conv (sync9_at (S := (fun b => (Clip (Fr (fun b => (Clip (fun b => w30.heap.size ≤ b) w44) b ∨ (fun b => b = g166) b) w174) w184) b ∨ (Clip (Fr (fun b => (Clip (Fr (fun b => (Clip (fun b => w30.heap.size ≤ b) w44) b ∨ (fun b => b = g166) b) w174) w184) b ∨ (Clip (Fr (fun _ => False) w) w11) b) w206) w230) b)) (v := (.slice A181 (([[97, 98]] : List (List UInt8)).length) c182)) (u := (.agg #[(.slice A226 sC.sectors.length c227), (.slice B228 sC.pending.length e229), (.int .i64 sC.left), (.bool sC.stopped)])) 1 ([[97, 98]] : List (List UInt8)) 0 sC _ (RBss.sub d318 fun b hb => .inl hb) (fun x hx => by simp at hx; subst hx; decide) (by decide) (RDk.sub d319 fun b hb => .inr hb)) sane_7) ?_)
  rintro _ w329 ⟨A320, c321, v322, rfl, hb323, hd324, hx330⟩
  obtain ⟨A325, c326, B327, e328, rfl, -, -⟩ := hd324.form
  have hd324 := hd324.clip
  refine ⟨_, rfl, ?_⟩; intro a331 F332; clear F317; have z333 := hx330.size
  have hf334 := RBss.clip hb323
  obtain ⟨-, z335, z336⟩ := RBss.at hb323
  refine qv 3 (.tuple #[(.agg #[(.int .i64 0), (.slice A320 ((@List.nil (List UInt8)).length) c321), (.int .i64 0)]), (.agg #[(.slice A325 Dk.zero.sectors.length c326), (.slice B327 Dk.zero.pending.length e328), (.int .i64 Dk.zero.left), (.bool Dk.zero.stopped)]), (.int .i64 390)]) F332 rfl (rn_move (F332.get rfl)) fun _ F338 => ?_; clear F332
  refine qv 4 (.agg #[(.int .i64 0), (.slice A320 ((@List.nil (List UInt8)).length) c321), (.int .i64 0)]) F338 rfl (rn_extract (F338.get rfl) rfl) fun _ F340 => ?_; clear F338
  refine qv 5 (.agg #[(.slice A325 Dk.zero.sectors.length c326), (.slice B327 Dk.zero.pending.length e328), (.int .i64 Dk.zero.left), (.bool Dk.zero.stopped)]) F340 rfl (rn_extract (F340.get rfl) rfl) fun _ F342 => ?_; clear F340
  refine qv 6 (.int .i64 390) F342 rfl (rn_extract (F342.get rfl) rfl) fun _ F344 => ?_; clear F342
  refine wpl_op (i := 7) rfl (o_new (fun g => (.pointer (some ⟨g, 0, none⟩))) [(.int .i64 0), (.slice none 0 0), (.int .i64 0)] 29 F344 rfl rfl rfl rfl (by kernel_rfl) ?_)
  intro g345 w346 a351 F352 z349 z350 b347 hx348; clear F344
  refine wpl_op (i := 8) rfl (o_new (fun g => (.pointer (some ⟨g, 0, none⟩))) [(.slice none 0 0), (.slice none 0 0), (.int .i64 0), (.bool false)] 25 F352 rfl rfl rfl rfl (by kernel_rfl) ?_)
  intro g353 w354 a359 F360 z357 z358 b355 hx356; clear F352
  have b364 := (b347.ext hx356)
  refine wpl_op (i := 9) rfl (o_store (cells := [(.int .i64 0), (.slice A320 ((@List.nil (List UInt8)).length) c321), (.int .i64 0)]) F360 rfl rfl rfl rfl (F360.get rfl) (F360.get rfl) b364 inf29 rfl (by simp [Value.oneCell']) ?_)
  intro w361 b362 hg363; have z365 := hg363.size
  have b369 := (b355.grownN hg363 (by omega))
  refine wpl_op (i := 10) rfl (o_store (cells := [(.slice A325 Dk.zero.sectors.length c326), (.slice B327 Dk.zero.pending.length e328), (.int .i64 Dk.zero.left), (.bool Dk.zero.stopped)]) F360 rfl rfl rfl rfl (F360.get rfl) (F360.get rfl) b369 inf25 rfl (by simp [Value.oneCell']) ?_)
  intro w366 b367 hg368; have z370 := hg368.size
  refine qv 11 (.int .i64 390) F360 rfl (rn_assign (F360.get rfl)) fun _ F372 => ?_; clear F360
  refine wpList_nil ?_
  refine hK311 _ _ ?_
  clear hK311
  have F373 := ((((((((((((((F372.nil.c F372 16 rfl).c F372 13 rfl).c F372 12 rfl).c F372 11 rfl).c F372 10 rfl).c F372 9 rfl).c F372 8 rfl).c F372 7 rfl).c F372 6 rfl).c F372 4 rfl).c F372 3 rfl).c F372 2 rfl).c F372 1 rfl).c F372 0 rfl)
  clear F372
  refine wp_seq_k (fun K374 hK374 => ?_)
  refine wp_region_lit ?_
  refine qv 0 (.int .i64 0) F373 rfl (rn_move (F373.get rfl)) fun _ F376 => ?_; clear F373
  refine qv 1 (.bool true) F376 rfl (rn_eql' (F376.get rfl) rfl (by decide)) fun _ F378 => ?_; clear F376
  refine qv 2 (.bool true) F378 rfl (rn_move (F378.get rfl)) fun _ F380 => ?_; clear F378
  refine qg 3 (.int .i64 0) F380 rfl (rn_move (F380.get rfl)) fun _ F382 => ?_; clear F380
  refine qg 4 (.bool true) F382 rfl (rn_eql' (F382.get rfl) rfl (by decide)) fun _ F384 => ?_; clear F382
  refine qv 5 (.bool true) F384 rfl (rn_pickT (c_true F384 rfl rfl) (F384.get rfl)) fun _ F386 => ?_; clear F384
  refine qv 6 (.bool true) F386 rfl (rn_move (F386.get rfl)) fun _ F388 => ?_; clear F386
  refine qg 7 (.pointer (some ⟨g58, 1, none⟩)) F388 rfl (rn_field Try.underlying29 rfl (by kernel_rfl) (F388.get rfl) rfl) fun _ F390 => ?_; clear F388
  have b391 := ((((((((((((((((((b163.ext hx169).grownN hg176 (by omega)).ext hx185).ext hx201).grownN hg208 (by omega)).ext hx231).ext hx249).ext hx257).grownN hg264 (by omega)).grownN hg269 (by omega)).ext hx283).ext hx299).grownN hg306 (by omega)).ext hx330).ext hx348).ext hx356).grownN hg363 (by omega)).grownN hg368 (by omega))
  refine qg 8 (.slice A41 0 c42) F390 rfl (rn_load (isAgg_no Try.underlying22 rfl) (F390.get rfl) (b391.rule.1 1)) fun _ F393 => ?_; clear F390
  refine qg 9 (.int .i64 0) F393 rfl (rn_len_slice Try.underlying22 (F393.get rfl)) fun _ F395 => ?_; clear F393
  refine qg 10 (.bool true) F395 rfl (rn_eql' (F395.get rfl) rfl (by decide)) fun _ F397 => ?_; clear F395
  refine qv 11 (.bool true) F397 rfl (rn_pickT (c_true F397 rfl rfl) (F397.get rfl)) fun _ F399 => ?_; clear F397
  refine qv 12 (.bool true) F399 rfl (rn_move (F399.get rfl)) fun _ F401 => ?_; clear F399
  refine qg 13 (.agg #[(.int .i64 1), (.slice A41 0 c42), (.int .i64 0)]) F401 rfl (rn_loadBlk (F401.get rfl) b391 Try.underlying29 rfl inf29) fun _ F403 => ?_; clear F401
  have d404 := (hf49.pres ((((((((((((((((((((((((Pres.refl w44).ext hx61).grownN hg68 (fun h => by simp only [Clip] at h; omega)).ext hx75).ext hx147).grownN hg158 (fun h => by simp only [Clip] at h; omega)).ext hx169).grownN hg176 (fun h => by simp only [Clip] at h; omega)).ext hx185).ext hx201).grownN hg208 (fun h => by simp only [Clip] at h; omega)).ext hx231).ext hx249).ext hx257).grownN hg264 (fun h => by simp only [Clip] at h; omega)).grownN hg269 (fun h => by simp only [Clip] at h; omega)).ext hx283).ext hx299).grownN hg306 (fun h => by simp only [Clip] at h; omega)).ext hx330).ext hx348).ext hx356).grownN hg363 (fun h => by simp only [Clip] at h; omega)).grownN hg368 (fun h => by simp only [Clip] at h; omega)))
  have hrm := room_at (v := (.slice A41 0 c42)) 1 (@List.nil (List UInt8)) 0 w366 d404 (fun x hx => absurd hx (by simp))
  rw [sane_8] at hrm
  refine wpl_op (i := 14) rfl (o_call F403 rfl (wanted_guard rfl rfl rfl F403 rfl rfl rfl) rfl rfl (rn_call (args1 (F403.get rfl)) rfl (by kernel_rfl)) hrm ?_)
  rintro _ w405 ⟨rfl, hx406⟩
  refine ⟨_, rfl, ?_⟩; intro a407 F408; clear F403; have z409 := hx406.size
  refine qg 15 (.bool true) F408 rfl (rn_eql' (F408.get rfl) rfl (by decide)) fun _ F411 => ?_; clear F408
  refine qv 16 (.bool true) F411 rfl (rn_pickT (c_true F411 rfl rfl) (F411.get rfl)) fun _ F413 => ?_; clear F411
  refine qv 17 (.bool true) F413 rfl (rn_move (F413.get rfl)) fun _ F415 => ?_; clear F413
  refine qg 18 (.int .i64 2) F415 rfl (rn_move (F415.get rfl)) fun _ F417 => ?_; clear F415
  refine qg 19 (.bool true) F417 rfl (rn_eql' (F417.get rfl) rfl (by decide)) fun _ F419 => ?_; clear F417
  refine qv 20 (.bool true) F419 rfl (rn_pickT (c_true F419 rfl rfl) (F419.get rfl)) fun _ F421 => ?_; clear F419
  refine qv 21 (.bool true) F421 rfl (rn_move (F421.get rfl)) fun _ F423 => ?_; clear F421
  refine qg 22 (.int .i64 0) F423 rfl (rn_move (F423.get rfl)) fun _ F425 => ?_; clear F423
  refine qg 23 (.bool true) F425 rfl (rn_eql' (F425.get rfl) rfl (by decide)) fun _ F427 => ?_; clear F425
  refine qv 24 (.bool true) F427 rfl (rn_pickT (c_true F427 rfl rfl) (F427.get rfl)) fun _ F429 => ?_; clear F427
  refine qv 25 (.bool true) F429 rfl (rn_move (F429.get rfl)) fun _ F431 => ?_; clear F429
  refine qg 26 (.int .i64 0) F431 rfl (rn_move (F431.get rfl)) fun _ F433 => ?_; clear F431
  refine qg 27 (.bool true) F433 rfl (rn_eql' (F433.get rfl) rfl (by decide)) fun _ F435 => ?_; clear F433
  refine qv 28 (.bool true) F435 rfl (rn_pickT (c_true F435 rfl rfl) (F435.get rfl)) fun _ F437 => ?_; clear F435
  refine qv 29 (.bool true) F437 rfl (rn_move (F437.get rfl)) fun _ F439 => ?_; clear F437
  refine qg 30 (.pointer (some ⟨g246, 2, none⟩)) F439 rfl (rn_field Try.underlying29 rfl (by kernel_rfl) (F439.get rfl) rfl) fun _ F441 => ?_; clear F439
  have b442 := ((((((((((b263.grownN hg269 (by omega)).ext hx283).ext hx299).grownN hg306 (by omega)).ext hx330).ext hx348).ext hx356).grownN hg363 (by omega)).grownN hg368 (by omega)).ext hx406)
  refine qg 31 (.int .i64 1) F441 rfl (rn_load (isAgg_no Try.underlying3 rfl) (F441.get rfl) (b442.rule.1 2)) fun _ F444 => ?_; clear F441
  refine qg 32 (.bool true) F444 rfl (rn_eql' (F444.get rfl) rfl (by decide)) fun _ F446 => ?_; clear F444
  refine qv 33 (.bool true) F446 rfl (rn_pickT (c_true F446 rfl rfl) (F446.get rfl)) fun _ F448 => ?_; clear F446
  refine qv 34 (.bool true) F448 rfl (rn_move (F448.get rfl)) fun _ F450 => ?_; clear F448
  refine qg 35 (.int .i64 0) F450 rfl (rn_move (F450.get rfl)) fun _ F452 => ?_; clear F450
  refine qg 36 (.bool true) F452 rfl (rn_eql' (F452.get rfl) rfl (by decide)) fun _ F454 => ?_; clear F452
  refine qv 37 (.bool true) F454 rfl (rn_pickT (c_true F454 rfl rfl) (F454.get rfl)) fun _ F456 => ?_; clear F454
  refine qv 38 (.bool true) F456 rfl (rn_move (F456.get rfl)) fun _ F458 => ?_; clear F456
  refine qg 39 (.pointer (some ⟨g296, 1, none⟩)) F458 rfl (rn_field Try.underlying29 rfl (by kernel_rfl) (F458.get rfl) rfl) fun _ F460 => ?_; clear F458
  have b461 := ((((((b305.ext hx330).ext hx348).ext hx356).grownN hg363 (by omega)).grownN hg368 (by omega)).ext hx406)
  refine qg 40 (.slice A279 1 c280) F460 rfl (rn_load (isAgg_no Try.underlying22 rfl) (F460.get rfl) (b461.rule.1 1)) fun _ F463 => ?_; clear F460
  refine qg 41 (.int .i64 1) F463 rfl (rn_len_slice Try.underlying22 (F463.get rfl)) fun _ F465 => ?_; clear F463
  refine qg 42 (.bool true) F465 rfl (rn_eql' (F465.get rfl) rfl (by decide)) fun _ F467 => ?_; clear F465
  refine qv 43 (.bool true) F467 rfl (rn_pickT (c_true F467 rfl rfl) (F467.get rfl)) fun _ F469 => ?_; clear F467
  refine qv 44 (.bool true) F469 rfl (rn_move (F469.get rfl)) fun _ F471 => ?_; clear F469
  refine qg 45 (.pointer (some ⟨g296, 1, none⟩)) F471 rfl (rn_field Try.underlying29 rfl (by kernel_rfl) (F471.get rfl) rfl) fun _ F473 => ?_; clear F471
  refine qg 46 (.slice A279 1 c280) F473 rfl (rn_load (isAgg_no Try.underlying22 rfl) (F473.get rfl) (b461.rule.1 1)) fun _ F475 => ?_; clear F473
  have d489 := (hf287.pres (((((((((Pres.refl w282).ext hx299).grownN hg306 (fun h => by simp only [Clip] at h; omega)).ext hx330).ext hx348).ext hx356).grownN hg363 (fun h => by simp only [Clip] at h; omega)).grownN hg368 (fun h => by simp only [Clip] at h; omega)).ext hx406))
  obtain ⟨x476, hi477, hm478⟩ := nth_of_lt ([[97, 98]] : List (List UInt8)) 0 (by omega)
  obtain ⟨b479, o480, A481, c482, hA483, hl484, hc485, hr486, le487, le488⟩ := RBss.get d489 hi477
  have hxx : x476 = [97, 98] := by have h := hi477; simp at h; exact h.symm
  refine qg 47 (.pointer (some ⟨b479, o480 + 0, none⟩)) F475 rfl (rn_index1 Try.underlying22 inf35 ((F475.get rfl).trans (by rw [hA483])) rfl (by omega : (0 : Int) ≤ 0) (by omega : (0 : Int) < ((1 : Nat) : Int))) fun _ F491 => ?_; clear F475
  refine qg 48 (.slice A481 x476.length c482) F491 rfl (rn_load (isAgg_no Try.underlying35 rfl) (F491.get rfl) (Ext.keep (Ext.refl w405) hc485)) fun _ F493 => ?_; clear F491
  refine qg 49 (strOf x476) F493 rfl (rn_str (F493.get rfl) (Fl.rbs (RBs.fl hr486)) Try.underlying35 Try.underlying5 Try.underlying9) fun _ F495 => ?_; clear F493
  refine qg 50 (.bool (decide (x476 = ([97, 98])))) F495 rfl (rn_eqs (F495.get rfl) rfl rfl) fun _ F497 => ?_; clear F495
  refine qv 51 (.bool (decide (x476 = ([97, 98])))) F497 rfl (rn_pickT (c_true F497 rfl rfl) (F497.get rfl)) fun _ F499 => ?_; clear F497
  refine qv 52 (.bool (decide (x476 = ([97, 98])))) F499 rfl (rn_move (F499.get rfl)) fun _ F501 => ?_; clear F499
  refine qg 53 (.int .i64 390) F501 ((decide_eq_true hxx) : decide (x476 = ([97, 98])) = true) (rn_move (F501.get rfl)) fun _ F504 => ?_; clear F501
  refine qg 54 (.bool true) F504 ((decide_eq_true hxx) : decide (x476 = ([97, 98])) = true) (rn_eql' (F504.get rfl) rfl (by decide)) fun _ F506 => ?_; clear F504
  refine qv 55 (.bool true) F506 rfl (rn_pickT (c_true F506 rfl ((decide_eq_true hxx) : decide (x476 = ([97, 98])) = true)) (F506.get rfl)) fun _ F508 => ?_; clear F506
  refine qv 56 (.bool true) F508 rfl (rn_move (F508.get rfl)) fun _ F510 => ?_; clear F508
  refine qg 57 (.agg #[(.int .i64 0), (.slice none 0 0), (.int .i64 0)]) F510 rfl (rn_build (parts0 ) (by kernel_rfl)) fun _ F512 => ?_; clear F510
  have hck := chk_at (v := .slice none 0 0) 0 [] 0 w405 (RSl.nil _ : RBss (fun _ => False) _ _ _) (fun x hx => absurd hx (by simp))
  rw [sane_9] at hck
  refine wpl_op (i := 58) rfl (o_call F512 rfl (wanted_guard rfl rfl rfl F512 rfl rfl rfl) rfl rfl (rn_call (args1 (F512.get rfl)) rfl (by kernel_rfl)) hck ?_)
  rintro _ w513 ⟨rfl, hx514⟩
  refine ⟨_, rfl, ?_⟩; intro a515 F516; clear F512; have z517 := hx514.size
  refine qg 59 (.bool true) F516 rfl (rn_eql' (F516.get rfl) rfl (by decide)) fun _ F519 => ?_; clear F516
  refine qv 60 (.bool true) F519 rfl (rn_pickT (c_true F519 rfl rfl) (F519.get rfl)) fun _ F521 => ?_; clear F519
  refine qv 61 (.bool true) F521 rfl (rn_assign (F521.get rfl)) fun _ F523 => ?_; clear F521
  refine wpList_nil ?_
  refine hK374 _ _ ?_
  clear hK374
  have F524 := ((((((((((((((F523.nil.c F523 16 rfl).c F523 13 rfl).c F523 12 rfl).c F523 11 rfl).c F523 10 rfl).c F523 9 rfl).c F523 8 rfl).c F523 7 rfl).c F523 6 rfl).c F523 4 rfl).c F523 3 rfl).c F523 2 rfl).c F523 1 rfl).c F523 0 rfl)
  clear F523
  refine wp_ret ?_
  refine ret1 F524 rfl rfl ?_
  exact ⟨congrArg (fun b => Ending.returned (.bool b)) (rfl : true = true), ((((((((((((((((((((((((((((((Ext.refl w).trans hx12).trans hx25).grownN hg32 (by omega)).trans hx45).trans hx61).grownN hg68 (by omega)).trans hx75).trans hx147).grownN hg158 (by omega)).trans hx169).grownN hg176 (by omega)).trans hx185).trans hx201).grownN hg208 (by omega)).trans hx231).trans hx249).trans hx257).grownN hg264 (by omega)).grownN hg269 (by omega)).trans hx283).trans hx299).grownN hg306 (by omega)).trans hx330).trans hx348).trans hx356).grownN hg363 (by omega)).grownN hg368 (by omega)).trans hx406).trans hx514)⟩
 refine any_have (n1 := 6) (L1 := #[true, true, false, false, false, false, true, false, false]) (fun a' W => ∃ (g119 : Nat) (g82 : Nat), Sl 119 [(0, (.bool false)), (1, (.pointer (some ⟨g22, 0, none⟩))), (2, (.int .i64 0)), (3, (.pointer (some ⟨g58, 0, none⟩))), (4, (.int .i64 0)), (5, (.pointer (some ⟨g119, 0, none⟩))), (27, (.agg #[(.int .i64 1), (.slice A41 0 c42), (.int .i64 0)])), (28, (.slice (some ⟨g82, 0, none⟩) 113 113))] a' ∧ Ext w74 W ∧ Blk W g82 5 (byteVals (List.replicate 113 0)) ∧ w74.heap.size ≤ g82 ∧ Blk W g119 29 [(.int .i64 0), (.slice none 0 0), (.int .i64 0)] ∧ w74.heap.size ≤ g119 ∧ g82 ≠ g119) ?_ (fun st525 => ?_)
 ·skip
  rintro a526 w527 ⟨g119, g82, F528, hx529, b530, z531, b532, z533, z534⟩
  clear F72
  have z535 := hx529.size
  have z536 := b530.lt
  have z537 := b532.lt
  refine any_one (i := 2) (by decide +kernel) rfl ?_
  have d538 := (hf49.pres (((((Pres.refl w44).ext hx61).grownN hg68 (fun h => by simp only [Clip] at h; omega)).ext hx75).ext hx529))
  refine o_call F528 rfl rfl rfl rfl (rn_call (args2 (F528.get rfl) (F528.get rfl)) rfl (by kernel_rfl)) (app_conv (app_at (S := (fun b => (Clip (fun b => w30.heap.size ≤ b) w44) b ∨ (fun b => b = g82) b)) (v := (.slice A41 0 c42)) (u := (.slice (some ⟨g82, 0, none⟩) 113 113)) (n := 113) 1 (@List.nil (List UInt8)) 0 (List.replicate 113 0) _ (RBss.sub d538 fun b hb => .inl hb) (fun x hx => absurd hx (by simp)) (by omega) (Fl.sub (Fl.blk (S := fun b => b = g82) (k := 1) (n := 113) (c := 113) b530 (by rw [byteVals_len (List.length_replicate (n := 113) (a := (0 : UInt8))), Nat.mul_one]) (byteVals_one _) (by omega) rfl) fun b hb => .inr hb) (by omega)) sane_3) ?_
  rintro _ w542 ⟨A539, c540, rfl, hb541, hx543⟩
  refine ⟨_, rfl, ?_⟩; intro a544 F545; clear F528; have z546 := hx543.size
  have hf547 := RBss.clip hb541
  obtain ⟨-, z548, z549⟩ := RBss.at hb541
  have b550 := (((b67.ext hx75).ext hx529).ext hx543)
  refine ⟨fun _ _ => ⟨(((Ext.refl w74).trans hx529).trans hx543), b550⟩, ?_⟩
  refine qp 3 (.tuple #[(.agg #[(.int .i64 0), (.slice A539 ((@List.nil (List UInt8)).length) c540), (.int .i64 0)]), (.int .i64 2)]) F545 rfl rfl (fun W => (rn_move (F545.get rfl))) fun _ F552 => ?_; clear F545
  refine qp 4 (.agg #[(.int .i64 0), (.slice A539 ((@List.nil (List UInt8)).length) c540), (.int .i64 0)]) F552 rfl rfl (fun W => (rn_extract (F552.get rfl) rfl)) fun _ F554 => ?_; clear F552
  refine qp 5 (.int .i64 2) F554 rfl rfl (fun W => (rn_extract (F554.get rfl) rfl)) fun _ F556 => ?_; clear F554
  have b557 := (b530.ext hx543)
  have b558 := (b532.ext hx543)
  exact st143 _ _ ⟨g119, A539, c540, g82, ((((((((F556.nil.c F556 31 rfl).c F556 30 rfl).c F556 5 rfl).c F556 4 rfl).c F556 3 rfl).c F556 2 rfl).c F556 1 rfl).c F556 0 rfl), (((Ext.refl w74).trans hx529).trans hx543), b557, (by omega), b558, (by omega), (by omega)⟩
 have b560 := (b67.ext hx75)
 have hS559 : Ext w74 w74 ∧ Blk w74 g58 29 [(.int .i64 1), (.slice A41 0 c42), (.int .i64 0)] := ⟨(Ext.refl w74), b560⟩
 refine qs 0 (.agg #[(.int .i64 1), (.slice A41 0 c42), (.int .i64 0)]) F72 rfl rfl hS559 (fun W hW => (rn_loadBlk (F72.get rfl) hW.2 Try.underlying29 rfl inf29)) fun _ F562 => ?_; clear F72
 refine any_two (i := 1) (k := 6) (by decide +kernel) rfl rfl ?_ ?_
 ·skip
  refine o_new (fun g => (.slice (some ⟨g, 0, none⟩) 113 113)) (byteVals (List.replicate 113 0)) 5 F562 rfl rfl rfl rfl (rn_makeN El35 rfl rfl rfl (by omega) (by omega) (by simp [byteVals])) ?_
  intro g563 w564 a569 F570 z567 z568 b565 hx566; clear F562
  have b571 := (b560.ext hx566)
  refine ⟨fun _ _ => ⟨((Ext.refl w74).trans hx566), b571⟩, ?_⟩
  refine any_two (i := 2) (k := 6) (by decide +kernel) rfl rfl ?_ ?_
  ·skip
   have d572 := (hf49.pres (((((Pres.refl w44).ext hx61).grownN hg68 (fun h => by simp only [Clip] at h; omega)).ext hx75).ext hx566))
   refine o_call F570 rfl rfl rfl rfl (rn_call (args2 (F570.get rfl) (F570.get rfl)) rfl (by kernel_rfl)) (app_conv (app_at (S := (fun b => (Clip (fun b => w30.heap.size ≤ b) w44) b ∨ (fun b => b = g563) b)) (v := (.slice A41 0 c42)) (u := (.slice (some ⟨g563, 0, none⟩) 113 113)) (n := 113) 1 (@List.nil (List UInt8)) 0 (List.replicate 113 0) _ (RBss.sub d572 fun b hb => .inl hb) (fun x hx => absurd hx (by simp)) (by omega) (Fl.sub (Fl.blk (S := fun b => b = g563) (k := 1) (n := 113) (c := 113) b565 (by rw [byteVals_len (List.length_replicate (n := 113) (a := (0 : UInt8))), Nat.mul_one]) (byteVals_one _) (by omega) rfl) fun b hb => .inr hb) (by omega)) sane_3) ?_
   rintro _ w576 ⟨A573, c574, rfl, hb575, hx577⟩
   refine ⟨_, rfl, ?_⟩; intro a578 F579; clear F570; have z580 := hx577.size
   have hf581 := RBss.clip hb575
   obtain ⟨-, z582, z583⟩ := RBss.at hb575
   have b584 := (b571.ext hx577)
   refine ⟨fun _ _ => ⟨(((Ext.refl w74).trans hx566).trans hx577), b584⟩, ?_⟩
   refine qp 3 (.tuple #[(.agg #[(.int .i64 0), (.slice A573 ((@List.nil (List UInt8)).length) c574), (.int .i64 0)]), (.int .i64 2)]) F579 rfl rfl (fun W => (rn_move (F579.get rfl))) fun _ F586 => ?_; clear F579
   refine qp 4 (.agg #[(.int .i64 0), (.slice A573 ((@List.nil (List UInt8)).length) c574), (.int .i64 0)]) F586 rfl rfl (fun W => (rn_extract (F586.get rfl) rfl)) fun _ F588 => ?_; clear F586
   refine qp 5 (.int .i64 2) F588 rfl rfl (fun W => (rn_extract (F588.get rfl) rfl)) fun _ F590 => ?_; clear F588
   refine any_one (i := 6) (by decide +kernel) rfl ?_
   refine o_new (fun g => (.pointer (some ⟨g, 0, none⟩))) [(.int .i64 0), (.slice none 0 0), (.int .i64 0)] 29 F590 rfl rfl rfl rfl (by kernel_rfl) ?_
   intro g591 w592 a597 F598 z595 z596 b593 hx594; clear F590
   have b599 := (b584.ext hx594)
   refine ⟨fun _ _ => ⟨((((Ext.refl w74).trans hx566).trans hx577).trans hx594), b599⟩, ?_⟩
   have b600 := ((b565.ext hx577).ext hx594)
   exact st143 _ _ ⟨g591, A573, c574, g563, ((((((((F598.nil.c F598 31 rfl).c F598 30 rfl).c F598 5 rfl).c F598 4 rfl).c F598 3 rfl).c F598 2 rfl).c F598 1 rfl).c F598 0 rfl), ((((Ext.refl w74).trans hx566).trans hx577).trans hx594), b600, (by omega), b593, (by omega), (by omega)⟩
  ·skip
   refine o_new (fun g => (.pointer (some ⟨g, 0, none⟩))) [(.int .i64 0), (.slice none 0 0), (.int .i64 0)] 29 F570 rfl rfl rfl rfl (by kernel_rfl) ?_
   intro g601 w602 a607 F608 z605 z606 b603 hx604; clear F570
   have b609 := (b571.ext hx604)
   refine ⟨fun _ _ => ⟨(((Ext.refl w74).trans hx566).trans hx604), b609⟩, ?_⟩
   have b610 := (b565.ext hx604)
   exact st525 _ _ ⟨g601, g563, ((((((((F608.nil.c F608 28 rfl).c F608 27 rfl).c F608 5 rfl).c F608 4 rfl).c F608 3 rfl).c F608 2 rfl).c F608 1 rfl).c F608 0 rfl), (((Ext.refl w74).trans hx566).trans hx604), b610, (by omega), b603, (by omega), (by omega)⟩
 ·skip
  refine o_new (fun g => (.pointer (some ⟨g, 0, none⟩))) [(.int .i64 0), (.slice none 0 0), (.int .i64 0)] 29 F562 rfl rfl rfl rfl (by kernel_rfl) ?_
  intro g611 w612 a617 F618 z615 z616 b613 hx614; clear F562
  have b619 := (b560.ext hx614)
  refine ⟨fun _ _ => ⟨((Ext.refl w74).trans hx614), b619⟩, ?_⟩
  refine any_one (i := 1) (by decide +kernel) rfl ?_
  refine o_new (fun g => (.slice (some ⟨g, 0, none⟩) 113 113)) (byteVals (List.replicate 113 0)) 5 F618 rfl rfl rfl rfl (rn_makeN El35 rfl rfl rfl (by omega) (by omega) (by simp [byteVals])) ?_
  intro g620 w621 a626 F627 z624 z625 b622 hx623; clear F618
  have b628 := (b619.ext hx623)
  refine ⟨fun _ _ => ⟨(((Ext.refl w74).trans hx614).trans hx623), b628⟩, ?_⟩
  have b629 := (b613.ext hx623)
  exact st525 _ _ ⟨g611, g620, ((((((((F627.nil.c F627 28 rfl).c F627 27 rfl).c F627 5 rfl).c F627 4 rfl).c F627 3 rfl).c F627 2 rfl).c F627 1 rfl).c F627 0 rfl), (((Ext.refl w74).trans hx614).trans hx623), b622, (by omega), b629, (by omega), (by omega)⟩

end Go.Proofs.Ytfmhnplkpohogaa

namespace Go.Proofs.Ytfmhnplkpohogaa
open Go.RowKit

/-- a disk of n sectors on which the records R lie, with generations up to G -/
structure St (n : Nat) (d : Dk) (R : List (List UInt8)) (G : Nat) : Prop where
  run : d.runs = true
  pend : d.pending = []
  sect : d.sectors.length = n
  rcs : recsOf d.sectors = R
  gn : maxG d.sectors ≤ G
section
variable {n G : Nat} {d : Dk} {R R' : List (List UInt8)} {s : Int}
theorem St.op (h : St n d R G) : openE d = 0 := by
  have hc := runs_check h.run
  have hs : d.stopped = false := (runs_facts h.run).2.2.2.2.2.1
  exact openE_0 hc hs (by rw [h.pend]; simp)
theorem St.opR (h : St n d R G) : openR d = R ∧ openM d = (n : Nat) := by
  obtain ⟨h1, h2⟩ := open_good h.op
  rw [h1, h2, h.rcs, h.sect]; exact ⟨rfl, rfl⟩
theorem St.open3 (h : St n d R G) : openE d = 0 ∧ openR d = R ∧ openM d = (n : Nat) := ⟨h.op, h.opR.1, h.opR.2⟩
theorem St.nb (h : St n d R G) : 1 ≤ n ∧ n ≤ 4096 := by
  have := runs_facts h.run
  have := h.sect
  omega
theorem St.goes (h : St n d R G) (hG : G + 1 < 4294967296) (hs : s = (R.length : Nat)) (hR : R'.take R.length = R) (hf : usedL R' ≤ n) : Goes ⟨(n : Nat), R', s⟩ d := by
  have hn := h.nb
  have hl := congrArg List.length hR
  rw [List.length_take] at hl
  exact ⟨check_eq (by omega) (by omega) (by omega) (by omega) (by omega), by show ((n : Nat) : Int) = _; rw [h.sect], h.op, by show _ = R'.take s.toNat; rw [hs, Int.toNat_natCast, hR, h.rcs], by have := h.gn; omega⟩
theorem maxG_parts {a b c : List (List UInt8)} {G : Nat} (h1 : ∀ x ∈ a, gen x ≤ G ∧ gen2 x ≤ G) (h2 : ∀ x ∈ b, gen x ≤ G ∧ gen2 x ≤ G) (h3 : ∀ x ∈ c, gen x ≤ G ∧ gen2 x ≤ G) : maxG (a ++ b ++ c) ≤ G := maxG_le fun x hx => by
  rcases List.mem_append.1 hx with hx | hx
  · rcases List.mem_append.1 hx with hx | hx
    · exact h1 x hx
    · exact h2 x hx
  · exact h3 x hx
/-- the next sync -/
theorem St.sync (h : St n d R G) (hG : G + 1 < 4294967296) (hs : s = (R.length : Nat)) (hR : R'.take R.length = R) (hf : usedL R' ≤ n) (hl : d.left < 0 ∨ ((usedL (R'.drop R.length) : Nat) : Int) ≤ d.left) :
    ∃ d', (Lg.mk (n : Nat) R' s).sync d = (⟨(n : Nat), R', (R'.length : Nat)⟩, d', 0) ∧ St n d' R' (G + 1) ∧ (d.left < 0 → d'.left = d.left) := by
  have hg := h.goes hG hs hR hf
  have hn := h.nb
  have hst : s.toNat = R.length := by omega
  by_cases h6 : s = (R'.length : Nat)
  · have e : R' = R := by rw [← hR, List.take_of_length_le (by omega)]
    subst e
    refine ⟨d, ?_, ⟨h.run, h.pend, h.sect, h.rcs, by have := h.gn; omega⟩, fun _ => rfl⟩
    rw [sync_6 hg h6, h6]
  · have hu : usedL (Lg.mk (n : Nat) R' s).recs < 9223372036854775808 := by show usedL R' < _; omega
    have hat : (Lg.mk (n : Nat) R' s).at = usedL R := by show usedL (R'.take s.toNat) = _; rw [hst, hR]
    have hdl : (Lg.mk (n : Nat) R' s).recs.drop (Lg.mk (n : Nat) R' s).synced.toNat = R'.drop R.length := by show R'.drop s.toNat = _; rw [hst]
    have hgd := sync_good hg hu (by rw [hdl]; exact hl)
    refine ⟨_, sync_8 hg h6 (by rw [hgd]), ?_, ?_⟩
    · have hfit := wr_fit hg hu
      have h8 := (runs_facts h.run).2.2.2.2.2.2.2
      obtain ⟨-, -, -, hle4, hle5, -⟩ := runs_facts h.run
      rw [hgd]
      have h128 : ∀ x ∈ d.sectors.take (Lg.mk (n : Nat) R' s).at ++ (Lg.mk (n : Nat) R' s).secs d ++ d.sectors.drop ((Lg.mk (n : Nat) R' s).at + ((Lg.mk (n : Nat) R' s).secs d).length), x.length = 128 := fun x hx => by
        rcases List.mem_append.1 hx with hx | hx
        · rcases List.mem_append.1 hx with hx | hx
          · exact h8 x (List.mem_of_mem_take hx)
          · exact secs_128 x hx
        · exact h8 x (List.mem_of_mem_drop hx)
      have hlen : (d.sectors.take (Lg.mk (n : Nat) R' s).at ++ (Lg.mk (n : Nat) R' s).secs d ++ d.sectors.drop ((Lg.mk (n : Nat) R' s).at + ((Lg.mk (n : Nat) R' s).secs d).length)).length = n := by
        have := h.sect
        rw [List.length_append, List.length_append, List.length_take, List.length_drop]; omega
      refine ⟨runs_of (Nat.le_trans hn.1 (Nat.le_of_eq hlen.symm)) (Nat.le_trans (Nat.le_of_eq hlen) hn.2) (by show (0 : Nat) ≤ _; omega) ?_ ?_ rfl (fun x hx => by cases hx) h128, rfl, hlen, recs_good hg h6 _, ?_⟩
      · show -1 ≤ (if 0 ≤ d.left then _ else _)
        rw [hdl]
        split <;> omega
      · show (if 0 ≤ d.left then _ else _) ≤ (65536 : Int)
        rw [hdl]
        split <;> omega
      · have hgn := h.gn
        have hle2 := fun x (hx : x ∈ d.sectors) => le_maxG x hx
        refine maxG_parts (fun x hx => ?_) (fun x hx => ?_) (fun x hx => ?_)
        · have := hle2 x (List.mem_of_mem_take hx); omega
        · have := secs_gens hg x hx; omega
        · have := hle2 x (List.mem_of_mem_drop hx); omega
    · intro hlt
      rw [hgd]
      show (if 0 ≤ d.left then _ else _) = d.left
      rw [if_neg (by omega)]
end
/-- bounds of what holds little -/
theorem used_bnd {R : List (List UInt8)} {n : Nat} (h : usedL R ≤ n) (hn : n ≤ 4096) : (∀ x ∈ R, x.length ≤ 140737488355328) ∧ R.length ≤ 4096 := by
  refine ⟨fun x hx => ?_, by have := usedL_len R; omega⟩
  have := secs_bnd (Nat.le_trans (mem_used hx) h)
  omega
def n40 : Dk := ⟨List.replicate 40 (List.replicate 128 0), [], -1, false⟩
theorem new_40 : Dk.new 40 = (n40, 0) := by kernel_rfl
theorem st_40 : St 40 n40 [] 0 := ⟨by kernel_rfl, rfl, by kernel_rfl, by kernel_rfl, by decide +kernel⟩

theorem RVS.app {S : Nat → Prop} {w : World} {vs us : List Value} {l m : List (List UInt8)} (h : RVS S w vs l) (k : RVS S w us m) : RVS S w (vs ++ us) (l ++ m) := by
  refine ⟨by simp [h.1, k.1], fun i h1 h2 => ?_⟩
  by_cases hi : i < l.length
  · rw [List.getElem_append_left hi, List.getElem_append_left (by rw [h.1]; exact hi)]
    exact h.2 i hi _
  · rw [List.length_append] at h1 h2
    rw [List.getElem_append_right (by rw [h.1]; omega), List.getElem_append_right (by omega)]
    simp only [h.1]
    exact k.2 _ _ _
section
variable {S : Nat → Prop} {N : Nat} {m : List (Nat × Value)} {a : Act} {P : Program} {ops : Array Oper} {Q : Exit → Act → World → Prop} {i : Nat} {w : World} {o : Oper} {K : Act → World → Prop} {d : Nat}
end

end Go.Proofs.Ytfmhnplkpohogaa

namespace Go.Proofs.Ytfmhnplkpohogaa
open Go.RowKit

section
variable {n G : Nat} {d : Dk} {R R' : List (List UInt8)} {s : Int}
theorem St.same {d' : Dk} (h : St n d R G) (hs : d'.sectors = d.sectors) (hp : d'.pending = []) (hst : d'.stopped = false) (h1 : -1 ≤ d'.left) (h2 : d'.left ≤ 65536) : St n d' R G := by
  obtain ⟨f1, f2, f3, f4, f5, f6, f7, f8⟩ := runs_facts h.run
  exact ⟨runs_of (by rw [hs]; exact f1) (by rw [hs]; exact f2) (by rw [hp]; exact Nat.zero_le _) h1 h2 hst (fun x hx => by rw [hp] at hx; cases hx) (by rw [hs]; exact f8), hp, by rw [hs]; exact h.sect, by rw [hs]; exact h.rcs, by rw [hs]; exact h.gn⟩
theorem St.stop (h : St n d R G) {l : Int} (h1 : 0 ≤ l) (h2 : l ≤ 65536) : d.stop l = (⟨d.sectors, d.pending, l, d.stopped⟩, 0) ∧ St n ⟨d.sectors, d.pending, l, d.stopped⟩ R G := by
  refine ⟨?_, h.same rfl h.pend (runs_facts h.run).2.2.2.2.2.1 (by show -1 ≤ l; omega) h2⟩
  unfold Dk.stop
  rw [h.run, if_neg (by decide), if_neg (by omega)]
end

end Go.Proofs.Ytfmhnplkpohogaa

namespace Go.Proofs.Ytfmhnplkpohogaa
open Go.RowKit

def zero128 : List UInt8 := List.replicate 128 0
/-- the disk on which the records Q were synced -/
def dmgD (Q : List (List UInt8)) : Dk := ⟨allSecs 1 0 Q ++ List.replicate (40 - usedL Q) zero128, [], -1, false⟩
section
variable {Q : List (List UInt8)}
theorem dmg_len (hu : usedL Q ≤ 40) : (dmgD Q).sectors.length = 40 := by
  show (allSecs 1 0 Q ++ List.replicate (40 - usedL Q) zero128).length = 40
  rw [List.length_append, allSecs_len, List.length_replicate]; omega
theorem dmg_128 : ∀ x ∈ (dmgD Q).sectors, x.length = 128 := fun x hx => by
  rcases List.mem_append.1 hx with h | h
  · exact allSecs_128 _ _ _ x h
  · rw [List.eq_of_mem_replicate h]; exact List.length_replicate
theorem dmg_sync (hQ : Q ≠ []) (hu : usedL Q ≤ 40) : (Lg.mk (40 : Nat) Q 0).sync n40 = (⟨(40 : Nat), Q, (Q.length : Nat)⟩, dmgD Q, 0) := by
  have hg := St.goes (R' := Q) (s := 0) st_40 (by decide) rfl rfl hu
  have hu' : usedL (Lg.mk (40 : Nat) Q 0).recs < 9223372036854775808 := by show usedL Q < _; omega
  have hgd := sync_good hg hu' (.inl (by decide))
  have h6 : (Lg.mk (40 : Nat) Q 0).synced ≠ ((Lg.mk (40 : Nat) Q 0).recs.length : Nat) := by
    show (0 : Int) ≠ (Q.length : Nat)
    rcases Q with _ | ⟨b, Q⟩
    · exact absurd rfl hQ
    · rw [List.length_cons]; omega
  have hat : (Lg.mk (40 : Nat) Q 0).at = 0 := rfl
  have hsec : (Lg.mk (40 : Nat) Q 0).secs n40 = allSecs 1 0 Q := by
    show allSecs (maxG n40.sectors + 1) 0 Q = _
    rw [show maxG n40.sectors = 0 by kernel_rfl]
  have hsl : (allSecs 1 0 Q).length = usedL Q := allSecs_len _ _ _
  rw [sync_8 hg h6 (by rw [hgd]), hgd, hat, hsec, hsl]
  refine Prod.ext rfl (Prod.ext ?_ rfl)
  show Dk.mk (n40.sectors.take 0 ++ allSecs 1 0 Q ++ n40.sectors.drop (0 + usedL Q)) [] _ false = dmgD Q
  rw [List.take_zero, List.nil_append, Nat.zero_add, show n40.sectors.drop (usedL Q) = List.replicate (40 - usedL Q) zero128 by show (List.replicate 40 _).drop _ = _; rw [List.drop_replicate]; rfl]
  rfl
theorem dmg_runs (hu : usedL Q ≤ 40) {ss : List (List UInt8)} (hl : ss.length = 40) (h : ∀ x ∈ ss, x.length = 128) {p : List (Int × List UInt8)} (hp : p.length ≤ 4096) (hpp : ∀ x ∈ p, 0 ≤ x.1 ∧ x.1 < 40 ∧ x.2.length = 128) : (Dk.mk ss p (-1) false).runs = true :=
  runs_of (by show 1 ≤ ss.length; omega) (by show ss.length ≤ 4096; omega) hp (by show (-1 : Int) ≤ -1; omega) (by show (-1 : Int) ≤ _; omega) rfl (fun x hx => by have := hpp x hx; exact ⟨this.1, by show x.1 < ((ss.length : Nat) : Int); omega, this.2.2⟩) h
/-- a sector is written -/
def dmgW (Q : List (List UInt8)) (k : Nat) (s : List UInt8) : Dk := ⟨(dmgD Q).sectors, [((k : Nat), s)], -1, false⟩
def dmgS (Q : List (List UInt8)) (k : Nat) (s : List UInt8) : Dk := ⟨(dmgD Q).sectors.set k s, [], -1, false⟩
theorem dmg_write (hu : usedL Q ≤ 40) {k : Nat} (hk : k < 40) {s : List UInt8} (hs : s.length = 128) : (dmgD Q).write (k : Nat) s = (dmgW Q k s, 0) := by
  have hr : (dmgD Q).runs = true := dmg_runs hu (dmg_len hu) dmg_128 (by simp) (fun x hx => by cases hx)
  rw [write_good hr (has_iff.2 ⟨by omega, by rw [dmg_len hu]; omega⟩) (by omega) (by show (0 : Nat) < 4096; omega)]
  have e : fill128 s = s := by unfold fill128; rw [hs]; simp
  rw [e]; rfl
theorem dmg_sync2 (hu : usedL Q ≤ 40) {k : Nat} (hk : k < 40) {s : List UInt8} (hs : s.length = 128) : (dmgW Q k s).sync = (dmgS Q k s, 0) := by
  have hr : (dmgW Q k s).runs = true := dmg_runs hu (dmg_len hu) dmg_128 (by simp) (fun x hx => by rw [List.mem_singleton.1 hx]; exact ⟨by show (0 : Int) ≤ (k : Nat); omega, by show ((k : Nat) : Int) < 40; omega, hs⟩)
  unfold Dk.sync
  rw [hr, if_neg (by decide), if_neg (by show ¬ ((0 : Int) ≤ -1 ∧ _); omega)]
  rfl
theorem pieces_good {g : Nat} (h0 : 0 < g) (hg : g < 4294967296) : ∀ (n k : Nat) (first : Bool) (b : List UInt8) (j : Nat) (x : List UInt8), n + 1 = secs b.length → (first = false → b ≠ []) → (pieces g (n + 1) k first b)[j]? = some x → goodS x (k + j) = true
  | n, k, first, b, 0, x, hn, hb, hx => by
    rw [pieces, List.getElem?_cons_zero] at hx
    injection hx with hx
    rw [← hx]
    exact encL_good (kind_ok hn hb) h0 hg
  | 0, k, first, b, j + 1, x, hn, hb, hx => by
    rw [pieces, List.getElem?_cons_succ, pieces] at hx
    simp at hx
  | n + 1, k, first, b, j + 1, x, hn, hb, hx => by
    have h1 : 112 < b.length := by unfold secs at hn; omega
    rw [pieces, List.getElem?_cons_succ] at hx
    have ih := pieces_good h0 hg n (k + 1) false (b.drop 112) j x (by rw [List.length_drop]; have := secs_gt h1; omega) (fun _ he => by have := congrArg List.length he; rw [List.length_drop] at this; simp at this; omega) hx
    rw [← ih]; congr 1; omega
theorem allSecs_good {g : Nat} (h0 : 0 < g) (hg : g < 4294967296) : ∀ (k : Nat) (rs : List (List UInt8)) (j : Nat) (x : List UInt8), (allSecs g k rs)[j]? = some x → goodS x (k + j) = true
  | _, [], j, x, hx => by simp [allSecs] at hx
  | k, b :: rs, j, x, hx => by
    have hp := secs_pos b.length
    rw [allSecs] at hx
    by_cases hj : j < secs b.length
    · rw [List.getElem?_append_left (by rw [pieces_len]; exact hj)] at hx
      have e : secs b.length - 1 + 1 = secs b.length := by omega
      rw [← e] at hx
      exact pieces_good h0 hg _ k true b j x e (fun h => by cases h) hx
    · rw [List.getElem?_append_right (by rw [pieces_len]; omega), pieces_len] at hx
      have ih := allSecs_good h0 hg (k + secs b.length) rs (j - secs b.length) x hx
      rw [← ih]; congr 1; omega
/-- what is read then -/
theorem dmg_open (hu : usedL Q ≤ 40) {k : Nat} (hk : k < usedL Q) {x s : List UInt8} (hx : (dmgD Q).sectors[k]? = some x) {i : Nat} {c : UInt8} (hi : i < 128) (hc : c ≠ x.getD i 0) (hs : s = x.set i c) : openE (dmgS Q k s) = 0 ∧ openR (dmgS Q k s) = Q.take (ended k Q) ∧ openM (dmgS Q k s) = (40 : Nat) := by
  have hal := allSecs_len 1 0 Q
  have hxa : (allSecs 1 0 Q)[k]? = some x := by
    have e : (dmgD Q).sectors[k]? = (allSecs 1 0 Q)[k]? := List.getElem?_append_left (by omega)
    rw [← e]; exact hx
  have hxm := List.mem_of_getElem? hxa
  have hx8 := allSecs_128 1 0 Q x hxm
  have hs8 : s.length = 128 := by rw [hs, List.length_set]; exact hx8
  have hset : (dmgD Q).sectors.set k s = (allSecs 1 0 Q).take k ++ s :: ((allSecs 1 0 Q).drop (k + 1) ++ List.replicate (40 - usedL Q) zero128) := by
    show (allSecs 1 0 Q ++ List.replicate (40 - usedL Q) zero128).set k s = _
    rw [List.set_append_left _ _ (by omega), List.set_eq_take_append_cons_drop, if_pos (by omega), List.append_assoc, List.cons_append]
  have hr : (dmgS Q k s).runs = true := dmg_runs hu (by rw [List.length_set]; exact dmg_len hu) (fun y hy => by
    rcases List.mem_or_eq_of_mem_set hy with h | h
    · exact dmg_128 y h
    · rw [h]; exact hs8) (by simp) (fun x hx => by cases hx)
  have hb : goodS s (0 + k) = false := by
    rw [Nat.zero_add]
    cases hgx : goodS x k with
    | true => rw [hs]; exact changed_bad hgx hi hc
    | false => exact absurd (allSecs_good (by decide) (by decide) 0 Q k x hxa) (by rw [Nat.zero_add, hgx]; decide)
  have hop : openE (dmgS Q k s) = 0 := openE_0 (runs_check hr) rfl (by show ¬ 0 < (0 : Nat); omega)
  obtain ⟨h1, h2⟩ := open_good hop
  refine ⟨hop, ?_, by rw [h2]; show (((dmgD Q).sectors.set k s).length : Int) = _; rw [List.length_set, dmg_len hu]⟩
  rw [h1]
  show recsOf ((dmgD Q).sectors.set k s) = _
  rw [hset, recsOf_at]
  exact recs_bad (by decide) (by decide) Q 0 0 k (by omega) hk hb
/-! where the records end -/
def endsL (Q : List (List UInt8)) : List Int := (List.range Q.length).map fun i => ((usedL (Q.take (i + 1)) : Nat) : Int)
theorem ends_len (Q : List (List UInt8)) : (endsL Q).length = Q.length := by simp [endsL]
theorem ends_snoc (Q : List (List UInt8)) (b : List UInt8) : endsL (Q ++ [b]) = endsL Q ++ [((usedL (Q ++ [b]) : Nat) : Int)] := by
  unfold endsL
  rw [List.length_append, List.length_singleton, List.range_succ, List.map_append, List.map_singleton, List.take_of_length_le (by simp)]
  congr 1
  refine List.map_congr_left fun i hi => ?_
  rw [List.take_append_of_le_length (by have := List.mem_range.1 hi; omega)]
theorem ends_get {i : Nat} (h : i < Q.length) : (endsL Q).getD i 0 = ((usedL (Q.take (i + 1)) : Nat) : Int) := by
  rw [List.getD_eq_getElem?_getD, endsL, List.getElem?_map, List.getElem?_range h]; rfl
theorem ends_last (h : 0 < Q.length) : (endsL Q).getD (Q.length - 1) 0 = ((usedL Q : Nat) : Int) := by
  rw [ends_get (by omega), show Q.length - 1 + 1 = Q.length by omega, List.take_length]
theorem ended_of : ∀ {Q : List (List UInt8)} {k j : Nat}, j ≤ Q.length → (∀ i, i < j → usedL (Q.take (i + 1)) ≤ k) → (j = Q.length ∨ k < usedL (Q.take (j + 1))) → ended k Q = j
  | [], k, j, hj, _, _ => by
    have : j = 0 := by simpa using hj
    subst this; rfl
  | b :: Q, k, 0, _, _, h => by
    rcases h with h | h
    · cases h
    · rw [List.take_succ_cons, List.take_zero, usedL_cons, usedL_nil] at h
      rw [ended, if_neg (by omega)]
  | b :: Q, k, j + 1, hj, h1, h2 => by
    have h0 := h1 0 (by omega)
    rw [List.take_succ_cons, List.take_zero, usedL_cons, usedL_nil] at h0
    have ih := ended_of (Q := Q) (k := k - secs b.length) (j := j) (by simpa using hj) (fun i hi => by
      have := h1 (i + 1) (by omega)
      rw [List.take_succ_cons, usedL_cons] at this
      omega) (by
      rcases h2 with h2 | h2
      · left; simpa using h2
      · right
        rw [List.take_succ_cons, usedL_cons] at h2
        omega)
    rw [ended, if_pos (by omega), ih]
end

end Go.Proofs.Ytfmhnplkpohogaa

namespace Go.Proofs.Ytfmhnplkpohogaa
open Go.RowKit

theorem cvz_64 (n : Int) : IntKind.wrap .u64 n = (((n % 18446744073709551616).toNat : Nat) : Int) := by
  rw [IntKind.wrap_u64]
  omega
section
variable {P : Program} {ρ : Operand → Value} {W : World} {d : Option Tmp} {t xt yt : TypeId} {p : String} {af : Array Edge} {g : Option (Nat × Bool)} {x y : Operand}
theorem b_xor8 (a b : UInt8) : (binOp .xor t (.int .u8 (a.toNat : Nat)) (.int .u8 (b.toNat : Nat))).run P W = .ok (.int .u8 ((a ^^^ b).toNat : Nat)) W := by
  show Sem.run P (pure (Value.int .u8 (IntKind.u8.wrap ((BitVec.ofInt IntKind.u8.bits ((a.toNat : Nat) : Int) ^^^ BitVec.ofInt IntKind.u8.bits ((b.toNat : Nat) : Int)).toNat : Nat)))) W = _
  rw [ofInt8, ofInt8, Sem.run_pure, wrap8n _ (BitVec.isLt _)]
  rfl
theorem rn_xor8 {a b : UInt8} (hx : ρ x = .int .u8 (a.toNat : Nat)) (hy : ρ y = .int .u8 (b.toNat : Nat)) : (execOp ρ ⟨d, .binOp .xor xt x y yt, t, p, af, g⟩).run P W = .ok (.value (.int .u8 ((a ^^^ b).toNat : Nat))) W := rn_bin hx hy guard_int (b_xor8 a b)
end
theorem Pres.rowO {S : Nat → Prop} {a w w' : World} {v : Value} (h : Pres S a w) (hg : w.grownBy w' v.ownBlock) (hn : ∀ b, S b → some b ≠ v.ownBlock) : Pres S a w' := h.trans ⟨hg.size, fun b hb hl => hg.block b hl (hn b hb)⟩
theorem xor_ne {a q : UInt8} (h : q.toNat ≠ 0) : a ^^^ q ≠ a := fun e => h (by
  have h1 : a ^^^ (a ^^^ q) = a ^^^ a := by rw [e]
  rw [← UInt8.xor_assoc, UInt8.xor_self, UInt8.zero_xor] at h1
  rw [h1]; rfl)
theorem snoc_eq {E : List Int} {Q : List (List UInt8)} {b : List UInt8} {z : Int} (hE : E = endsL Q) (hz : z = ((usedL (Q ++ [b]) : Nat) : Int)) : E ++ [z] = endsL (Q ++ [b]) := by rw [hE, hz, ends_snoc]
theorem all_step {P : Nat → Prop} {j : Nat} (h : ∀ i, i < j → P i) (hj : P j) : ∀ i, i < j + 1 → P i := fun i hi => by
  by_cases e : i = j
  · rw [e]; exact hj
  · exact h i (by omega)
theorem used_zero {Q : List (List UInt8)} (h : Q.length = 0) : usedL Q = 0 := by
  rw [List.eq_nil_of_length_eq_zero h]; rfl
theorem ne_nil_of {Q : List (List UInt8)} (h : ¬ Q.length = 0) : Q ≠ [] := fun e => h (by rw [e]; rfl)

end Go.Proofs.Ytfmhnplkpohogaa
