/- The law BoundsFewer, walked. -/
import Derived.Test.YtjmdodgmoehfkaaProg
import Derived.Test.YtjmdodgmoehfkaaBndS
import Derived.KernelRfl
namespace Go.Proofs.Ytjmdodgmoehfkaa
open Go.RowKit

variable {S S' : Nat → Prop}

set_option maxRecDepth 100000 in
set_option maxHeartbeats 1000000 in
theorem fewer_any (A : Option Addr) (c : Nat) (n : Int) (l : List E3) (xa xb xw : Int) (w : World) (hf : Fl S w 3 (.slice A l.length c) l.length (edVals l)) :
    Calls Try.prog 6 #[.agg #[.int .i64 n, .slice A l.length c], .agg #[.int .i64 xa, .int .i64 xb, .int .i64 xw]] w (fun e w' => e = .returned (.bool true) ∧ Ext w w') := by
  have hc : Fl (Clip S w) w 3 (.slice A l.length c) l.length (edVals l) := hf.clip
  have hcc := (Fl.cel hc).2.1
  refine calls_enter (l := [(.agg #[(.int .i64 n), (.slice A l.length c)]), (.agg #[(.int .i64 xa), (.int .i64 xb), (.int .i64 xw)])]) Try.func6 rfl rfl rfl (fun aA hF => ?_)
  refine wp_seq_k (fun K1 hK1 => ?_)
  refine wp_region_lit ?_
  refine wpl_op (i := 0) rfl (o_new (fun g => (.pointer (some ⟨g, 0, none⟩))) [(.int .i64 n), (.slice A l.length c)] 24 hF rfl rfl rfl rfl (rn_box (hF.get rfl) (by kernel_rfl)) ?_)
  intro g2 w3 a8 hF9 z6 z7 b4 hx5; clear hF
  refine wpl_op (i := 1) rfl (o_new (fun g => (.pointer (some ⟨g, 0, none⟩))) [(.int .i64 xa), (.int .i64 xb), (.int .i64 xw)] 41 hF9 rfl rfl rfl rfl (rn_box (hF9.get rfl) (by kernel_rfl)) ?_)
  intro g10 w11 a16 hF17 z14 z15 b12 hx13; clear hF9
  refine wpl_op (i := 2) rfl (o_val (v := (.bool false)) hF17 rfl rfl rfl rfl (rn_assign rfl) ?_)
  intro a18 hF19; clear hF17
  refine wpList_nil ?_
  refine hK1 _ _ ?_
  clear hK1
  refine wp_seq_k (fun K20 hK20 => ?_)
  refine wp_seq_k (fun K21 hK21 => ?_)
  refine wp_region_lit ?_
  refine wpl_op (i := 0) rfl (o_call hF19 rfl rfl rfl rfl (rn_call (args0 ) rfl (by kernel_rfl)) (sane_any _) ?_)
  rintro _ w22 ⟨rfl, hx23⟩
  refine ⟨_, rfl, ?_⟩; intro a24 hF25; clear hF19; have z26 := hx23.size
  refine wpl_op (i := 1) rfl (o_val (v := (.bool false)) hF25 rfl rfl rfl rfl (rn_not' (hF25.get rfl) rfl) ?_)
  intro a27 hF28; clear hF25
  refine wpList_nil ?_
  refine hK21 _ _ ?_
  clear hK21
  refine wp_cond_false (c_false hF28 rfl rfl) ?_
  refine wp_skip ?_
  refine hK20 _ _ ?_
  clear hK20
  refine wp_seq_k (fun K29 hK29 => ?_)
  refine wp_seq_k (fun K30 hK30 => ?_)
  refine wp_region_lit ?_
  have b31 : Blk w22 g2 24 [(.int .i64 n), (.slice A l.length c)] := ((b4.ext hx13).ext hx23)
  refine wpl_op (i := 0) rfl (o_val (v := (.agg #[(.int .i64 n), (.slice A l.length c)])) hF28 rfl rfl rfl rfl (rn_loadBlk (hF28.get rfl) b31 Try.underlying24 rfl (by kernel_rfl : (Try.prog.info? 24).map (·.size) = some 2)) ?_)
  intro a32 hF33; clear hF28
  have d34 := (((hc.ext hx5).ext hx13).ext hx23)
  refine wpl_op (i := 1) rfl (o_call hF33 rfl rfl rfl rfl (rn_call (args1 (hF33.get rfl)) rfl (by kernel_rfl)) (few_at (v := (.slice A l.length c)) n l _ d34) ?_)
  rintro _ w35 ⟨rfl, hx36⟩
  refine ⟨_, rfl, ?_⟩; intro a37 hF38; clear hF33; have z39 := hx36.size
  refine wpl_op (i := 2) rfl (o_val (v := (.bool (!(few n l)))) hF38 rfl rfl rfl rfl (rn_not' (hF38.get rfl) rfl) ?_)
  intro a40 hF41; clear hF38
  refine wpl_op (i := 3) rfl (o_val (v := (.bool (!(few n l)))) hF41 rfl rfl rfl rfl (rn_move (hF41.get rfl)) ?_)
  intro a42 hF43; clear hF41
  rcases Bool.eq_false_or_eq_true (few n l) with hc44 | hc44
  · skip
    refine wpl_op (i := 4) rfl (o_val (v := (.pointer (some ⟨g2, 1, none⟩))) hF43 rfl (wanted_guard rfl rfl rfl hF43 rfl (not_t hc44) rfl) rfl rfl (rn_field Try.underlying24 rfl (by kernel_rfl) (hF43.get rfl) rfl) ?_)
    intro a45 hF46; clear hF43
    have b47 : Blk w35 g2 24 [(.int .i64 n), (.slice A l.length c)] := (b31.ext hx36)
    refine wpl_op (i := 5) rfl (o_val (v := (.slice A l.length c)) hF46 rfl (wanted_guard rfl rfl rfl hF46 rfl (not_t hc44) rfl) rfl rfl (rn_load (isAgg_no Try.underlying22 rfl) (hF46.get rfl) (b47.rule.1 1)) ?_)
    intro a48 hF49; clear hF46
    refine wpl_op (i := 6) rfl (o_val (v := (.int .i64 (l.length : Nat))) hF49 rfl (wanted_guard rfl rfl rfl hF49 rfl (not_t hc44) rfl) rfl rfl (rn_len_slice Try.underlying22 (hF49.get rfl)) ?_)
    intro a50 hF51; clear hF49
    refine wpl_op (i := 7) rfl (o_val (v := (.bool (decide ((29 : Int) < ((l.length : Nat) : Int))))) hF51 rfl (wanted_guard rfl rfl rfl hF51 rfl (not_t hc44) rfl) rfl rfl (rn_gtr (hF51.get rfl) rfl) ?_)
    intro a52 hF53; clear hF51
    refine wpl_op (i := 8) rfl (o_val (v := (.bool (decide ((29 : Int) < ((l.length : Nat) : Int))))) hF53 rfl rfl rfl rfl (rn_pickF (c_false hF53 rfl (not_t hc44)) (hF53.get rfl)) ?_)
    intro a54 hF55; clear hF53
    refine wpList_nil ?_
    refine hK30 _ _ ?_
    clear hK30
    have hF56 := (((((((hF55.nil.cons (hF55.get (t := 24) (v := (.bool (decide ((29 : Int) < ((l.length : Nat) : Int))))) rfl)).cons (hF55.get (t := 15) (v := (.bool false)) rfl)).cons (hF55.get (t := 4) (v := (.bool false)) rfl)).cons (hF55.get (t := 3) (v := (.pointer (some ⟨g10, 0, none⟩))) rfl)).cons (hF55.get (t := 2) (v := (.pointer (some ⟨g2, 0, none⟩))) rfl)).cons (hF55.get (t := 1) (v := (.agg #[(.int .i64 xa), (.int .i64 xb), (.int .i64 xw)])) rfl)).cons (hF55.get (t := 0) (v := (.agg #[(.int .i64 n), (.slice A l.length c)])) rfl))
    clear hF55
    by_cases hc57 : (29 : Int) < ((l.length : Nat) : Int)
    · skip
      refine wp_cond_true (c_true hF56 rfl (decide_eq_true hc57)) ?_
      refine wp_seq_k (fun K58 hK58 => ?_)
      refine wp_region_lit ?_
      refine wpl_op (i := 0) rfl (o_val (v := (.bool true)) hF56 rfl rfl rfl rfl (rn_assign rfl) ?_)
      intro a59 hF60; clear hF56
      refine wpList_nil ?_
      refine hK58 _ _ ?_
      clear hK58
      refine wp_ret ?_
      refine ret_then ?_
      refine ret1 hF60 rfl rfl ?_
      exact ⟨rfl, (((((Ext.refl w).trans hx5).trans hx13).trans hx23).trans hx36)⟩
    · skip
      refine wp_cond_false (c_false hF56 rfl (decide_eq_false hc57)) ?_
      refine wp_skip ?_
      refine hK29 _ _ ?_
      clear hK29
      refine wp_seq_k (fun K61 hK61 => ?_)
      have hfw : n ≤ 8 ∧ l.length ≤ 30 := of_decide_eq_true (show decide _ = true from hc44)
      refine wp_region_lit ?_
      refine wpl_op (i := 0) rfl (o_val (v := (.agg #[(.int .i64 n), (.slice A l.length c)])) hF56 rfl rfl rfl rfl (rn_loadBlk (hF56.get rfl) b47 Try.underlying24 rfl (by kernel_rfl : (Try.prog.info? 24).map (·.size) = some 2)) ?_)
      intro a62 hF63; clear hF56
      refine wpl_op (i := 1) rfl (o_new (fun g => (.pointer (some ⟨g, 0, none⟩))) [(.int .i64 0), (.slice none 0 0)] 24 hF63 rfl rfl rfl rfl (by kernel_rfl) ?_)
      intro g64 w65 a70 hF71 z68 z69 b66 hx67; clear hF63
      refine wpl_op (i := 2) rfl (o_store (cells := [(.int .i64 n), (.slice A l.length c)]) hF71 rfl rfl rfl rfl (hF71.get rfl) (hF71.get rfl) b66 (by kernel_rfl : (Try.prog.info? 24).map (·.size) = some 2) rfl (by simp [Value.oneCell']) ?_)
      intro w72 b73 hg74; have z75 := hg74.size
      refine wpList_nil ?_
      refine hK61 _ _ ?_
      clear hK61
      refine wp_seq_k (fun K76 hK76 => ?_)
      have hx78 : ∃ W, w72.drew = W ∧ Ext w72 W := ⟨_, rfl, (Ext.refl _).drew⟩
      obtain ⟨w77, e79, hx78⟩ := hx78
      have z80 := hx78.size
      refine any_start (fun W => Ext w77 W ∧ Blk W g2 24 [(.int .i64 n), (.slice A l.length c)] ∧ Blk W g10 41 [(.int .i64 xa), (.int .i64 xb), (.int .i64 xw)] ∧ Blk W g64 24 [(.int .i64 n), (.slice A l.length c)]) (fun i => i == 8) 9 #[false, false, false, false, false, false, false, false, false] rfl rfl rfl ?_
      rw [e79]; clear e79
      refine any_have (n1 := 3) (L1 := #[true, true, true, true, true, true, false, false, false]) (fun a' W => ∃ (A115 : Option Addr) (c116 : Nat) (g146 : Nat), Sl 144 [(0, (.agg #[(.int .i64 n), (.slice A l.length c)])), (1, (.agg #[(.int .i64 xa), (.int .i64 xb), (.int .i64 xw)])), (2, (.pointer (some ⟨g2, 0, none⟩))), (3, (.pointer (some ⟨g10, 0, none⟩))), (4, (.bool false)), (5, (.pointer (some ⟨g64, 0, none⟩))), (15, (.bool false)), (24, (.bool (decide ((29 : Int) < ((l.length : Nat) : Int))))), (29, (.slice A115 (0 + l.length) c116)), (31, (.slice (some ⟨g146, 0, none⟩) 1 1))] a' ∧ Ext w77 W ∧ Blk W g146 41 [(.int .i64 xa), (.int .i64 xb), (.int .i64 xw)] ∧ w77.heap.size ≤ g146 ∧ W.ownsRow w77.heap.size 41 3 (.slice A115 (0 + l.length) c116) (0 + l.length) (edVals l) ∧ some g146 ≠ (Value.slice A115 (0 + l.length) c116).ownBlock) ?_ (fun st186 => ?_)
      · skip
        rintro a187 w188 ⟨A115, c116, g146, hF189, hx190, b191, z192, r193, nb194⟩
        clear hF71
        have z195 := hx190.size
        have z196 := b191.lt
        have z197 := own_form0 r193
        refine any_one (i := 6) (by decide +kernel) rfl ?_
        have hf206 := r193
        have b207 : Blk w188 g10 41 [(.int .i64 xa), (.int .i64 xb), (.int .i64 xw)] := ((((((b12.ext hx23).ext hx36).ext hx67).grownN hg74 (by omega)).ext hx78).ext hx190)
        have nb208 : some g10 ≠ (Value.slice A115 (0 + l.length) c116).ownBlock := (own_ne r193 (by omega : g10 < w77.heap.size))
        have z209 := b207.lt
        have nb210 : some g146 ≠ (Value.slice A115 (0 + l.length) c116).ownBlock := nb194
        have z211 := b191.lt
        refine o_appB (zs := edVals (l ++ ([(⟨xa, xb, xw⟩ : E3)]))) El22 hF189 rfl rfl rfl rfl rfl (hF189.get rfl) (hF189.get rfl) hf206 (Fl.cel (Fl.blk (S := fun b => b = g146) (k := 3) (n := 1) (c := 1) (cs := edVals [(⟨xa, xb, xw⟩ : E3)]) b191 rfl (edVals_one _) (by omega) rfl)).2.2 (by omega) (by omega) (by omega) (edVals_app _ _) ?_
        intro A198 c199 w200 a212 hF213 r201 hg202 z203 z204 hnb205; clear hF189; have z214 := hg202.size
        have nb215 := hnb205 g10 (by omega) nb208
        have nb216 := hnb205 g146 (by omega) nb210
        have b217 : Blk w200 g2 24 [(.int .i64 n), (.slice A l.length c)] := (grown_blk hf206 hg202 ((((b47.ext hx67).grownN hg74 (by omega)).ext hx78).ext hx190) (by decide))
        have b218 : Blk w200 g10 41 [(.int .i64 xa), (.int .i64 xb), (.int .i64 xw)] := (b207.grown hg202 nb208)
        have b219 : Blk w200 g64 24 [(.int .i64 n), (.slice A l.length c)] := (grown_blk hf206 hg202 ((b73.ext hx78).ext hx190) (by decide))
        refine ⟨fun _ _ => ⟨(ext_row ((Ext.refl w77).trans hx190) hg202 hf206 (by omega)), b217, b218, b219⟩, ?_⟩
        refine any_pure (i := 7) (v := (.pointer (some ⟨g64, 1, none⟩))) hF213 (by decide +kernel) (by decide +kernel) rfl rfl rfl rfl (fun _ _ _ _ h => h) rfl (fun W => (rn_field Try.underlying24 rfl (by kernel_rfl) (hF213.get rfl) rfl)) ?_
        intro a220 hF221; clear hF213
        refine any_one (i := 8) (by decide +kernel) rfl ?_
        refine o_store1 (new := [(.int .i64 n), (.slice A198 ((0 + l.length) + 1) c199)]) hF221 rfl rfl rfl rfl (hF221.get rfl) (hF221.get rfl) b219 (by kernel_rfl : (Try.prog.info? 22).map (·.size) = some 1) (by simp) rfl rfl ?_
        intro w222 b223 hg224; have z225 := hg224.size
        refine ⟨fun h => absurd h (by decide), ?_⟩
        refine any_nil (by decide +kernel) ?_
        refine hK76 _ _ ?_
        clear hK76
        have hF226 := ((((((((hF221.nil.cons (hF221.get (t := 24) (v := (.bool (decide ((29 : Int) < ((l.length : Nat) : Int))))) rfl)).cons (hF221.get (t := 15) (v := (.bool false)) rfl)).cons (hF221.get (t := 5) (v := (.pointer (some ⟨g64, 0, none⟩))) rfl)).cons (hF221.get (t := 4) (v := (.bool false)) rfl)).cons (hF221.get (t := 3) (v := (.pointer (some ⟨g10, 0, none⟩))) rfl)).cons (hF221.get (t := 2) (v := (.pointer (some ⟨g2, 0, none⟩))) rfl)).cons (hF221.get (t := 1) (v := (.agg #[(.int .i64 xa), (.int .i64 xb), (.int .i64 xw)])) rfl)).cons (hF221.get (t := 0) (v := (.agg #[(.int .i64 n), (.slice A l.length c)])) rfl))
        clear hF221
        refine wp_seq_k (fun K227 hK227 => ?_)
        refine wp_seq_k (fun K228 hK228 => ?_)
        refine wp_region_lit ?_
        refine wpl_op (i := 0) rfl (o_val (v := (.agg #[(.int .i64 n), (.slice A198 ((0 + l.length) + 1) c199)])) hF226 rfl rfl rfl rfl (rn_loadBlk (hF226.get rfl) b223 Try.underlying24 rfl (by kernel_rfl : (Try.prog.info? 24).map (·.size) = some 2)) ?_)
        intro a229 hF230; clear hF226
        have r231 := (own_grownT r201 b219 hg224 (by decide))
        refine wpl_op (i := 1) rfl (o_call hF230 rfl rfl rfl rfl (rn_call (args1 (hF230.get rfl)) rfl (by kernel_rfl)) (rcheck_at (v := (.slice A198 ((0 + l.length) + 1) c199)) n (l ++ ([(⟨xa, xb, xw⟩ : E3)])) _ (Fl.own (S := fun b => w77.heap.size ≤ b) r231 (fun b hb => hb) (edVals_one _))) ?_)
        rintro _ w232 ⟨rfl, hx233⟩
        refine ⟨_, rfl, ?_⟩; intro a234 hF235; clear hF230; have z236 := hx233.size
        refine wpl_op (i := 2) rfl (o_val (v := (.bool (decide (((chk n (l ++ ([(⟨xa, xb, xw⟩ : E3)]))) : Int) ≠ (0 : Int))))) hF235 rfl rfl rfl rfl (rn_neq (hF235.get rfl) rfl) ?_)
        intro a237 hF238; clear hF235
        refine wpList_nil ?_
        refine hK228 _ _ ?_
        clear hK228
        by_cases hc239 : ((chk n (l ++ ([(⟨xa, xb, xw⟩ : E3)]))) : Int) ≠ (0 : Int)
        · skip
          refine wp_cond_true (c_true hF238 rfl (decide_eq_true hc239)) ?_
          refine wp_seq_k (fun K240 hK240 => ?_)
          refine wp_region_lit ?_
          refine wpl_op (i := 0) rfl (o_val (v := (.bool true)) hF238 rfl rfl rfl rfl (rn_assign rfl) ?_)
          intro a241 hF242; clear hF238
          refine wpList_nil ?_
          refine hK240 _ _ ?_
          clear hK240
          refine wp_ret ?_
          refine ret_then ?_
          refine ret1 hF242 rfl rfl ?_
          exact ⟨rfl, (((ext_row (((((((((Ext.refl w).trans hx5).trans hx13).trans hx23).trans hx36).trans hx67).grownN hg74 (by omega)).trans hx78).trans hx190) hg202 hf206 (by omega)).grownN hg224 (by omega)).trans hx233)⟩
        · skip
          refine wp_cond_false (c_false hF238 rfl (decide_eq_false hc239)) ?_
          refine wp_skip ?_
          refine hK227 _ _ ?_
          clear hK227
          refine wp_seq_k (fun K243 hK243 => ?_)
          have hvo2 := chk_v (by omega : chk n (l ++ [(⟨xa, xb, xw⟩ : E3)]) = 0)
          obtain ⟨hvo1, hxo0⟩ := vOk_snoc hvo2
          have hxo : (0 ≤ xa ∧ xa < n) ∧ (0 ≤ xb ∧ xb < n) ∧ -35184372088832 ≤ xw ∧ xw ≤ 35184372088832 := hxo0; clear hxo0
          refine wp_region_lit ?_
          have b244 : Blk w232 g2 24 [(.int .i64 n), (.slice A l.length c)] := ((b217.grownN hg224 (by omega)).ext hx233)
          refine wpl_op (i := 0) rfl (o_val (v := (.agg #[(.int .i64 n), (.slice A l.length c)])) hF238 rfl rfl rfl rfl (rn_loadBlk (hF238.get rfl) b244 Try.underlying24 rfl (by kernel_rfl : (Try.prog.info? 24).map (·.size) = some 2)) ?_)
          intro a245 hF246; clear hF238
          have d247 := (hc.pres (((Pres.row (((((((((Pres.refl w).ext hx5).ext hx13).ext hx23).ext hx36).ext hx67).grownN hg74 (fun h => by simp only [Clip] at h; omega)).ext hx78).ext hx190) hg202 hf206 (fun b hb h => by simp only [Clip] at h; omega)).grownN hg224 (fun h => by simp only [Clip] at h; omega)).ext hx233))
          refine wpl_op (i := 1) rfl (o_call hF246 rfl rfl rfl rfl (rn_call (args1 (hF246.get rfl)) rfl (by kernel_rfl)) (far_at (v := (.slice A l.length c)) n l _ d247 (fun _ => ⟨by omega, by first | omega | (simp; omega)⟩)) ?_)
          rintro _ w262 ⟨A248, m249, c250, t251, B252, k253, c254, cyc255, er256, rfl, ht257, hf258, hfar259, hx263⟩
          have z260 := RIss.len ht257
          have z261 := Fl.ilen hf258
          refine ⟨_, rfl, ?_⟩; intro a264 hF265; clear hF246; have z266 := hx263.size
          have hf267 : RIss (Clip (fun b => w232.heap.size ≤ b) w262) w262 (.slice A248 m249 c250) t251 := ht257.clip
          have hf268 : Fl (Clip (fun b => w232.heap.size ≤ b) w262) w262 1 (.slice B252 k253 c254) k253 (intVals cyc255) := hf258.clip
          refine wpl_op (i := 2) rfl (o_val (v := (.tuple #[(.slice A248 m249 c250), (.slice B252 k253 c254), (.int .i64 er256)])) hF265 rfl rfl rfl rfl (rn_move (hF265.get rfl)) ?_)
          intro a269 hF270; clear hF265
          refine wpl_op (i := 3) rfl (o_val (v := (.slice A248 m249 c250)) hF270 rfl rfl rfl rfl (rn_extract (hF270.get rfl) rfl) ?_)
          intro a271 hF272; clear hF270
          refine wpl_op (i := 4) rfl (o_val (v := (.slice B252 k253 c254)) hF272 rfl rfl rfl rfl (rn_extract (hF272.get rfl) rfl) ?_)
          intro a273 hF274; clear hF272
          refine wpl_op (i := 5) rfl (o_val (v := (.int .i64 er256)) hF274 rfl rfl rfl rfl (rn_extract (hF274.get rfl) rfl) ?_)
          intro a275 hF276; clear hF274
          refine wpl_op (i := 6) rfl (o_val (v := (.slice A248 m249 c250)) hF276 rfl rfl rfl rfl (rn_assign (hF276.get rfl)) ?_)
          intro a277 hF278; clear hF276
          refine wpl_op (i := 7) rfl (o_val (v := (.slice B252 k253 c254)) hF278 rfl rfl rfl rfl (rn_assign (hF278.get rfl)) ?_)
          intro a279 hF280; clear hF278
          refine wpl_op (i := 8) rfl (o_val (v := (.int .i64 er256)) hF280 rfl rfl rfl rfl (rn_assign (hF280.get rfl)) ?_)
          intro a281 hF282; clear hF280
          refine wpList_nil ?_
          refine hK243 _ _ ?_
          clear hK243
          have hF283 := (((((((((((hF282.nil.cons (hF282.get (t := 8) (v := (.int .i64 er256)) rfl)).cons (hF282.get (t := 6) (v := (.slice A248 m249 c250)) rfl)).cons (hF282.get (t := 36) (v := (.bool (decide (((chk n (l ++ ([(⟨xa, xb, xw⟩ : E3)]))) : Int) ≠ (0 : Int))))) rfl)).cons (hF282.get (t := 24) (v := (.bool (decide ((29 : Int) < ((l.length : Nat) : Int))))) rfl)).cons (hF282.get (t := 15) (v := (.bool false)) rfl)).cons (hF282.get (t := 5) (v := (.pointer (some ⟨g64, 0, none⟩))) rfl)).cons (hF282.get (t := 4) (v := (.bool false)) rfl)).cons (hF282.get (t := 3) (v := (.pointer (some ⟨g10, 0, none⟩))) rfl)).cons (hF282.get (t := 2) (v := (.pointer (some ⟨g2, 0, none⟩))) rfl)).cons (hF282.get (t := 1) (v := (.agg #[(.int .i64 xa), (.int .i64 xb), (.int .i64 xw)])) rfl)).cons (hF282.get (t := 0) (v := (.agg #[(.int .i64 n), (.slice A l.length c)])) rfl))
          clear hF282
          refine wp_seq_k (fun K284 hK284 => ?_)
          refine wp_region_lit ?_
          have b285 : Blk w262 g64 24 [(.int .i64 n), (.slice A198 ((0 + l.length) + 1) c199)] := ((b223.ext hx233).ext hx263)
          refine wpl_op (i := 0) rfl (o_val (v := (.agg #[(.int .i64 n), (.slice A198 ((0 + l.length) + 1) c199)])) hF283 rfl rfl rfl rfl (rn_loadBlk (hF283.get rfl) b285 Try.underlying24 rfl (by kernel_rfl : (Try.prog.info? 24).map (·.size) = some 2)) ?_)
          intro a286 hF287; clear hF283
          have r288 := (own_ext (own_ext r231 hx233) hx263)
          refine wpl_op (i := 1) rfl (o_call hF287 rfl rfl rfl rfl (rn_call (args1 (hF287.get rfl)) rfl (by kernel_rfl)) (far_at (v := (.slice A198 ((0 + l.length) + 1) c199)) n (l ++ ([(⟨xa, xb, xw⟩ : E3)])) _ (Fl.own (S := fun b => w77.heap.size ≤ b) r288 (fun b hb => hb) (edVals_one _)) (fun _ => ⟨by omega, by first | omega | (simp; omega)⟩)) ?_)
          rintro _ w303 ⟨A289, m290, c291, t292, B293, k294, c295, cyc296, er297, rfl, ht298, hf299, hfar300, hx304⟩
          have z301 := RIss.len ht298
          have z302 := Fl.ilen hf299
          refine ⟨_, rfl, ?_⟩; intro a305 hF306; clear hF287; have z307 := hx304.size
          have hf308 : RIss (Clip (fun b => w262.heap.size ≤ b) w303) w303 (.slice A289 m290 c291) t292 := ht298.clip
          have hf309 : Fl (Clip (fun b => w262.heap.size ≤ b) w303) w303 1 (.slice B293 k294 c295) k294 (intVals cyc296) := hf299.clip
          refine wpl_op (i := 2) rfl (o_val (v := (.tuple #[(.slice A289 m290 c291), (.slice B293 k294 c295), (.int .i64 er297)])) hF306 rfl rfl rfl rfl (rn_move (hF306.get rfl)) ?_)
          intro a310 hF311; clear hF306
          refine wpl_op (i := 3) rfl (o_val (v := (.slice A289 m290 c291)) hF311 rfl rfl rfl rfl (rn_extract (hF311.get rfl) rfl) ?_)
          intro a312 hF313; clear hF311
          refine wpl_op (i := 4) rfl (o_val (v := (.slice B293 k294 c295)) hF313 rfl rfl rfl rfl (rn_extract (hF313.get rfl) rfl) ?_)
          intro a314 hF315; clear hF313
          refine wpl_op (i := 5) rfl (o_val (v := (.int .i64 er297)) hF315 rfl rfl rfl rfl (rn_extract (hF315.get rfl) rfl) ?_)
          intro a316 hF317; clear hF315
          refine wpl_op (i := 6) rfl (o_val (v := (.slice A289 m290 c291)) hF317 rfl rfl rfl rfl (rn_assign (hF317.get rfl)) ?_)
          intro a318 hF319; clear hF317
          refine wpl_op (i := 7) rfl (o_val (v := (.slice B293 k294 c295)) hF319 rfl rfl rfl rfl (rn_assign (hF319.get rfl)) ?_)
          intro a320 hF321; clear hF319
          refine wpl_op (i := 8) rfl (o_val (v := (.int .i64 er297)) hF321 rfl rfl rfl rfl (rn_assign (hF321.get rfl)) ?_)
          intro a322 hF323; clear hF321
          refine wpList_nil ?_
          refine hK284 _ _ ?_
          clear hK284
          have hF324 := (((((((((((((hF323.nil.cons (hF323.get (t := 11) (v := (.int .i64 er297)) rfl)).cons (hF323.get (t := 9) (v := (.slice A289 m290 c291)) rfl)).cons (hF323.get (t := 8) (v := (.int .i64 er256)) rfl)).cons (hF323.get (t := 6) (v := (.slice A248 m249 c250)) rfl)).cons (hF323.get (t := 36) (v := (.bool (decide (((chk n (l ++ ([(⟨xa, xb, xw⟩ : E3)]))) : Int) ≠ (0 : Int))))) rfl)).cons (hF323.get (t := 24) (v := (.bool (decide ((29 : Int) < ((l.length : Nat) : Int))))) rfl)).cons (hF323.get (t := 15) (v := (.bool false)) rfl)).cons (hF323.get (t := 5) (v := (.pointer (some ⟨g64, 0, none⟩))) rfl)).cons (hF323.get (t := 4) (v := (.bool false)) rfl)).cons (hF323.get (t := 3) (v := (.pointer (some ⟨g10, 0, none⟩))) rfl)).cons (hF323.get (t := 2) (v := (.pointer (some ⟨g2, 0, none⟩))) rfl)).cons (hF323.get (t := 1) (v := (.agg #[(.int .i64 xa), (.int .i64 xb), (.int .i64 xw)])) rfl)).cons (hF323.get (t := 0) (v := (.agg #[(.int .i64 n), (.slice A l.length c)])) rfl))
          clear hF323
          refine wp_seq_k (fun K325 hK325 => ?_)
          refine wp_seq_k (fun K326 hK326 => ?_)
          refine wp_region_lit ?_
          refine wpl_op (i := 0) rfl (o_val (v := (.int .i64 er256)) hF324 rfl rfl rfl rfl (rn_move (hF324.get rfl)) ?_)
          intro a327 hF328; clear hF324
          refine wpl_op (i := 1) rfl (o_val (v := (.bool (decide ((er256 : Int) ≠ (0 : Int))))) hF328 rfl rfl rfl rfl (rn_neq (hF328.get rfl) rfl) ?_)
          intro a329 hF330; clear hF328
          refine wpList_nil ?_
          refine hK326 _ _ ?_
          clear hK326
          by_cases hc331 : (er256 : Int) ≠ (0 : Int)
          · skip
            refine wp_cond_true (c_true hF330 rfl (decide_eq_true hc331)) ?_
            refine wp_seq_k (fun K332 hK332 => ?_)
            have hmn := more_neg hfar259.1 hfar300.1 hvo2 (by omega)
            refine wp_region_lit ?_
            refine wpl_op (i := 0) rfl (o_val (v := (.int .i64 er256)) hF330 rfl rfl rfl rfl (rn_move (hF330.get rfl)) ?_)
            intro a333 hF334; clear hF330
            refine wpl_op (i := 1) rfl (o_val (v := (.bool (decide ((er256 : Int) = (151 : Int))))) hF334 rfl rfl rfl rfl (rn_eql (hF334.get rfl) rfl) ?_)
            intro a335 hF336; clear hF334
            refine wpl_op (i := 2) rfl (o_val (v := (.bool (decide ((er256 : Int) = (151 : Int))))) hF336 rfl rfl rfl rfl (rn_move (hF336.get rfl)) ?_)
            intro a337 hF338; clear hF336
            by_cases hc339 : (er256 : Int) = (151 : Int)
            · skip
              refine wpl_op (i := 3) rfl (o_val (v := (.int .i64 er297)) hF338 rfl (wanted_guard rfl rfl rfl hF338 rfl (decide_eq_true hc339) rfl) rfl rfl (rn_move (hF338.get rfl)) ?_)
              intro a340 hF341; clear hF338
              refine wpl_op (i := 4) rfl (o_val (v := (.bool (decide ((er297 : Int) = (151 : Int))))) hF341 rfl (wanted_guard rfl rfl rfl hF341 rfl (decide_eq_true hc339) rfl) rfl rfl (rn_eql (hF341.get rfl) rfl) ?_)
              intro a342 hF343; clear hF341
              refine wpl_op (i := 5) rfl (o_val (v := (.bool (decide ((er297 : Int) = (151 : Int))))) hF343 rfl rfl rfl rfl (rn_pickT (c_true hF343 rfl (decide_eq_true hc339)) (hF343.get rfl)) ?_)
              intro a344 hF345; clear hF343
              refine wpl_op (i := 6) rfl (o_val (v := (.bool (decide ((er297 : Int) = (151 : Int))))) hF345 rfl rfl rfl rfl (rn_assign (hF345.get rfl)) ?_)
              intro a346 hF347; clear hF345
              refine wpList_nil ?_
              refine hK332 _ _ ?_
              clear hK332
              have hF348 := ((((((((((((((hF347.nil.cons (hF347.get (t := 50) (v := (.bool (decide ((er256 : Int) ≠ (0 : Int))))) rfl)).cons (hF347.get (t := 11) (v := (.int .i64 er297)) rfl)).cons (hF347.get (t := 9) (v := (.slice A289 m290 c291)) rfl)).cons (hF347.get (t := 8) (v := (.int .i64 er256)) rfl)).cons (hF347.get (t := 6) (v := (.slice A248 m249 c250)) rfl)).cons (hF347.get (t := 36) (v := (.bool (decide (((chk n (l ++ ([(⟨xa, xb, xw⟩ : E3)]))) : Int) ≠ (0 : Int))))) rfl)).cons (hF347.get (t := 24) (v := (.bool (decide ((29 : Int) < ((l.length : Nat) : Int))))) rfl)).cons (hF347.get (t := 15) (v := (.bool false)) rfl)).cons (hF347.get (t := 5) (v := (.pointer (some ⟨g64, 0, none⟩))) rfl)).cons (hF347.get (t := 4) (v := (.bool (decide ((er297 : Int) = (151 : Int))))) rfl)).cons (hF347.get (t := 3) (v := (.pointer (some ⟨g10, 0, none⟩))) rfl)).cons (hF347.get (t := 2) (v := (.pointer (some ⟨g2, 0, none⟩))) rfl)).cons (hF347.get (t := 1) (v := (.agg #[(.int .i64 xa), (.int .i64 xb), (.int .i64 xw)])) rfl)).cons (hF347.get (t := 0) (v := (.agg #[(.int .i64 n), (.slice A l.length c)])) rfl))
              clear hF347
              refine wp_ret ?_
              refine ret_then ?_
              refine ret1 hF348 rfl rfl ?_
              exact ⟨by rw [show (decide ((er297 : Int) = (151 : Int))) = true from decide_eq_true (by omega)], (((((ext_row (((((((((Ext.refl w).trans hx5).trans hx13).trans hx23).trans hx36).trans hx67).grownN hg74 (by omega)).trans hx78).trans hx190) hg202 hf206 (by omega)).grownN hg224 (by omega)).trans hx233).trans hx263).trans hx304)⟩
            · skip
              refine wpl_op (i := 3) rfl (o_skip hF338 rfl (unwanted_guard rfl rfl rfl hF338 rfl (decide_eq_false hc339) rfl) rfl rfl ?_)
              intro a349 hF350; clear hF338
              refine wpl_op (i := 4) rfl (o_skip hF350 rfl (unwanted_guard rfl rfl rfl hF350 rfl (decide_eq_false hc339) rfl) rfl rfl ?_)
              intro a351 hF352; clear hF350
              refine wpl_op (i := 5) rfl (o_val (v := (.bool false)) hF352 rfl rfl rfl rfl (rn_pickF (c_false hF352 rfl (decide_eq_false hc339)) rfl) ?_)
              intro a353 hF354; clear hF352
              refine wpl_op (i := 6) rfl (o_val (v := (.bool false)) hF354 rfl rfl rfl rfl (rn_assign (hF354.get rfl)) ?_)
              intro a355 hF356; clear hF354
              refine wpList_nil ?_
              refine hK332 _ _ ?_
              clear hK332
              have hF357 := ((((((((((((((hF356.nil.cons (hF356.get (t := 50) (v := (.bool (decide ((er256 : Int) ≠ (0 : Int))))) rfl)).cons (hF356.get (t := 11) (v := (.int .i64 er297)) rfl)).cons (hF356.get (t := 9) (v := (.slice A289 m290 c291)) rfl)).cons (hF356.get (t := 8) (v := (.int .i64 er256)) rfl)).cons (hF356.get (t := 6) (v := (.slice A248 m249 c250)) rfl)).cons (hF356.get (t := 36) (v := (.bool (decide (((chk n (l ++ ([(⟨xa, xb, xw⟩ : E3)]))) : Int) ≠ (0 : Int))))) rfl)).cons (hF356.get (t := 24) (v := (.bool (decide ((29 : Int) < ((l.length : Nat) : Int))))) rfl)).cons (hF356.get (t := 15) (v := (.bool false)) rfl)).cons (hF356.get (t := 5) (v := (.pointer (some ⟨g64, 0, none⟩))) rfl)).cons (hF356.get (t := 4) (v := (.bool false)) rfl)).cons (hF356.get (t := 3) (v := (.pointer (some ⟨g10, 0, none⟩))) rfl)).cons (hF356.get (t := 2) (v := (.pointer (some ⟨g2, 0, none⟩))) rfl)).cons (hF356.get (t := 1) (v := (.agg #[(.int .i64 xa), (.int .i64 xb), (.int .i64 xw)])) rfl)).cons (hF356.get (t := 0) (v := (.agg #[(.int .i64 n), (.slice A l.length c)])) rfl))
              clear hF356
              refine wp_ret ?_
              refine ret_then ?_
              refine ret1 hF357 rfl rfl ?_
              exfalso; omega
          · skip
            refine wp_cond_false (c_false hF330 rfl (decide_eq_false hc331)) ?_
            refine wp_skip ?_
            refine hK325 _ _ ?_
            clear hK325
            refine wp_seq_k (fun K358 hK358 => ?_)
            refine wp_seq_k (fun K359 hK359 => ?_)
            have her1 : er256 = 0 := by omega
            obtain ⟨hvo, hng, hdt⟩ := hfar259.1.zero her1
            have hn1 := vOk_n hvo
            have htl := hdt.len
            refine wp_region_lit ?_
            refine wpl_op (i := 0) rfl (o_val (v := (.slice A248 m249 c250)) hF330 rfl rfl rfl rfl (rn_move (hF330.get rfl)) ?_)
            intro a360 hF361; clear hF330
            refine wpl_op (i := 1) rfl (o_val (v := (.pointer (some ⟨g2, 0, none⟩))) hF361 rfl rfl rfl rfl (rn_field Try.underlying24 rfl (by kernel_rfl) (hF361.get rfl) rfl) ?_)
            intro a362 hF363; clear hF361
            have b364 : Blk w303 g2 24 [(.int .i64 n), (.slice A l.length c)] := ((b244.ext hx263).ext hx304)
            refine wpl_op (i := 2) rfl (o_val (v := (.int .i64 n)) hF363 rfl rfl rfl rfl (rn_load (isAgg_no Try.underlying3 rfl) (hF363.get rfl) (b364.rule.1 0)) ?_)
            intro a365 hF366; clear hF363
            have d367 := (hf267.ext hx304)
            refine wpl_op (i := 3) rfl (o_call hF366 rfl rfl rfl rfl (rn_call (args2 (hF366.get rfl) (hF366.get rfl)) rfl (by kernel_rfl)) (table_at (u := (.slice A248 m249 c250)) n t251 _ d367 (by omega) hdt.len hdt.row) ?_)
            rintro _ w368 ⟨rfl, hx369⟩
            refine ⟨_, rfl, ?_⟩; intro a370 hF371; clear hF366; have z372 := hx369.size
            refine wpl_op (i := 4) rfl (o_val (v := (.bool false)) hF371 rfl rfl rfl rfl (rn_not' (hF371.get rfl) rfl) ?_)
            intro a373 hF374; clear hF371
            refine wpList_nil ?_
            refine hK359 _ _ ?_
            clear hK359
            have hF375 := (((((((((((((((hF374.nil.cons (hF374.get (t := 61) (v := (.bool false)) rfl)).cons (hF374.get (t := 50) (v := (.bool (decide ((er256 : Int) ≠ (0 : Int))))) rfl)).cons (hF374.get (t := 11) (v := (.int .i64 er297)) rfl)).cons (hF374.get (t := 9) (v := (.slice A289 m290 c291)) rfl)).cons (hF374.get (t := 8) (v := (.int .i64 er256)) rfl)).cons (hF374.get (t := 6) (v := (.slice A248 m249 c250)) rfl)).cons (hF374.get (t := 36) (v := (.bool (decide (((chk n (l ++ ([(⟨xa, xb, xw⟩ : E3)]))) : Int) ≠ (0 : Int))))) rfl)).cons (hF374.get (t := 24) (v := (.bool (decide ((29 : Int) < ((l.length : Nat) : Int))))) rfl)).cons (hF374.get (t := 15) (v := (.bool false)) rfl)).cons (hF374.get (t := 5) (v := (.pointer (some ⟨g64, 0, none⟩))) rfl)).cons (hF374.get (t := 4) (v := (.bool false)) rfl)).cons (hF374.get (t := 3) (v := (.pointer (some ⟨g10, 0, none⟩))) rfl)).cons (hF374.get (t := 2) (v := (.pointer (some ⟨g2, 0, none⟩))) rfl)).cons (hF374.get (t := 1) (v := (.agg #[(.int .i64 xa), (.int .i64 xb), (.int .i64 xw)])) rfl)).cons (hF374.get (t := 0) (v := (.agg #[(.int .i64 n), (.slice A l.length c)])) rfl))
            clear hF374
            refine wp_cond_false (c_false hF375 rfl rfl) ?_
            refine wp_skip ?_
            refine hK358 _ _ ?_
            clear hK358
            refine wp_seq_k (fun K376 hK376 => ?_)
            refine wp_seq_k (fun K377 hK377 => ?_)
            have hx379 : ∃ W, w368.drew = W ∧ Ext w368 W := ⟨_, rfl, (Ext.refl _).drew⟩
            obtain ⟨w378, e380, hx379⟩ := hx379
            have z381 := hx379.size
            refine any_start (fun W => Ext w378 W ∧ Blk W g10 41 [(.int .i64 xa), (.int .i64 xb), (.int .i64 xw)]) (fun i => false) 12 #[false, false, false, false, false, false, false, false, false, false, false, false] rfl rfl rfl ?_
            rw [e380]; clear e380
            refine any_pure (i := 0) (v := (.slice A248 m249 c250)) hF375 (by decide +kernel) (by decide +kernel) rfl rfl rfl rfl (fun _ _ _ _ h => h) rfl (fun W => (rn_move (hF375.get rfl))) ?_
            intro a382 hF383; clear hF375
            refine any_pure (i := 1) (v := (.pointer (some ⟨g10, 0, none⟩))) hF383 (by decide +kernel) (by decide +kernel) rfl rfl rfl rfl (fun _ _ _ _ h => h) rfl (fun W => (rn_field Try.underlying41 rfl (by kernel_rfl) (hF383.get rfl) rfl)) ?_
            intro a384 hF385; clear hF383
            have b387 : Blk w378 g10 41 [(.int .i64 xa), (.int .i64 xb), (.int .i64 xw)] := ((((((b218.grownN hg224 (by omega)).ext hx233).ext hx263).ext hx304).ext hx369).ext hx379)
            have hS386 : Ext w378 w378 ∧ Blk w378 g10 41 [(.int .i64 xa), (.int .i64 xb), (.int .i64 xw)] := ⟨(Ext.refl w378), b387⟩
            refine any_val (i := 2) (v := (.int .i64 xa)) hF385 (by decide +kernel) (by decide +kernel) rfl rfl rfl rfl (fun _ _ _ _ h => h) rfl hS386 (fun W hW => (rn_load (isAgg_no Try.underlying3 rfl) (hF385.get rfl) (hW.2.rule.1 0))) ?_
            intro a388 hF389; clear hF385
            have d400 := (((hf267.ext hx304).ext hx369).ext hx379)
            obtain ⟨b390, o391, A392, c393, hA394, hl395, hc396, hr397, z398, z399⟩ := RIss.get (i := (xa : Int).toNat) d400 (by omega)
            have z401 := hdt.row ((xa : Int).toNat) (by omega)
            refine any_pure (i := 3) (v := (.pointer (some ⟨b390, o391 + (xa : Int).toNat, none⟩))) hF389 (by decide +kernel) (by decide +kernel) rfl rfl rfl rfl (fun _ _ _ _ h => h) rfl (fun W => (rn_index1 Try.underlying33 (by kernel_rfl : (Try.prog.info? 25).map (·.size) = some 1) ((hF389.get rfl).trans (by rw [hA394])) (hF389.get rfl) (by omega : (0 : Int) ≤ xa) (by omega : (xa : Int) < ((m249 : Nat) : Int)))) ?_
            intro a402 hF403; clear hF389
            refine any_val (i := 4) (v := (.slice A392 ((t251.getD ((xa : Int).toNat) []).length) c393)) hF403 (by decide +kernel) (by decide +kernel) rfl rfl rfl rfl (fun _ _ _ _ h => h) rfl hS386 (fun W hW => (rn_load (isAgg_no Try.underlying25 rfl) (hF403.get rfl) (Ext.keep ((Ext.refl w378).trans hW.1) hc396))) ?_
            intro a404 hF405; clear hF403
            refine any_pure (i := 5) (v := (.pointer (some ⟨g10, 1, none⟩))) hF405 (by decide +kernel) (by decide +kernel) rfl rfl rfl rfl (fun _ _ _ _ h => h) rfl (fun W => (rn_field Try.underlying41 rfl (by kernel_rfl) (hF405.get rfl) rfl)) ?_
            intro a406 hF407; clear hF405
            refine any_val (i := 6) (v := (.int .i64 xb)) hF407 (by decide +kernel) (by decide +kernel) rfl rfl rfl rfl (fun _ _ _ _ h => h) rfl hS386 (fun W hW => (rn_load (isAgg_no Try.underlying3 rfl) (hF407.get rfl) (hW.2.rule.1 1))) ?_
            intro a408 hF409; clear hF407
            obtain ⟨b410, o411, hA412, -⟩ := Fl.at hr397 (by omega)
            refine any_pure (i := 7) (v := (.pointer (some ⟨b410, o411 + (xb : Int).toNat, none⟩))) hF409 (by decide +kernel) (by decide +kernel) rfl rfl rfl rfl (fun _ _ _ _ h => h) rfl (fun W => (rn_index1 Try.underlying25 (by kernel_rfl : (Try.prog.info? 3).map (·.size) = some 1) ((hF409.get rfl).trans (by rw [hA412])) (hF409.get rfl) (by omega : (0 : Int) ≤ xb) (by omega : (xb : Int) < (((t251.getD ((xa : Int).toNat) []).length : Nat) : Int)))) ?_
            intro a413 hF414; clear hF409
            refine any_val (i := 8) (v := (.int .i64 ((t251.getD ((xa : Int).toNat) []).getD ((xb : Int).toNat) 0))) hF414 (by decide +kernel) (by decide +kernel) rfl rfl rfl rfl (fun _ _ _ _ h => h) rfl hS386 (fun W hW => (rn_load (isAgg_no Try.underlying3 rfl) (hF414.get rfl) (Fl.cellAt (hr397.ext hW.1) hA412 (intVals_at (i := (xb : Int).toNat) (by omega))))) ?_
            intro a415 hF416; clear hF414
            refine any_pure (i := 9) (v := (.pointer (some ⟨g10, 2, none⟩))) hF416 (by decide +kernel) (by decide +kernel) rfl rfl rfl rfl (fun _ _ _ _ h => h) rfl (fun W => (rn_field Try.underlying41 rfl (by kernel_rfl) (hF416.get rfl) rfl)) ?_
            intro a417 hF418; clear hF416
            refine any_val (i := 10) (v := (.int .i64 xw)) hF418 (by decide +kernel) (by decide +kernel) rfl rfl rfl rfl (fun _ _ _ _ h => h) rfl hS386 (fun W hW => (rn_load (isAgg_no Try.underlying3 rfl) (hF418.get rfl) (hW.2.rule.1 2))) ?_
            intro a419 hF420; clear hF418
            refine any_pure (i := 11) (v := (.bool (decide ((((t251.getD ((xa : Int).toNat) []).getD ((xb : Int).toNat) 0) : Int) ≤ (xw : Int))))) hF420 (by decide +kernel) (by decide +kernel) rfl rfl rfl rfl (fun _ _ _ _ h => h) rfl (fun W => (rn_leq (hF420.get rfl) (hF420.get rfl))) ?_
            intro a421 hF422; clear hF420
            refine any_nil (by decide +kernel) ?_
            refine hK377 _ _ ?_
            clear hK377
            have hF423 := ((((((((((((((((hF422.nil.cons (hF422.get (t := 73) (v := (.bool (decide ((((t251.getD ((xa : Int).toNat) []).getD ((xb : Int).toNat) 0) : Int) ≤ (xw : Int))))) rfl)).cons (hF422.get (t := 61) (v := (.bool false)) rfl)).cons (hF422.get (t := 50) (v := (.bool (decide ((er256 : Int) ≠ (0 : Int))))) rfl)).cons (hF422.get (t := 11) (v := (.int .i64 er297)) rfl)).cons (hF422.get (t := 9) (v := (.slice A289 m290 c291)) rfl)).cons (hF422.get (t := 8) (v := (.int .i64 er256)) rfl)).cons (hF422.get (t := 6) (v := (.slice A248 m249 c250)) rfl)).cons (hF422.get (t := 36) (v := (.bool (decide (((chk n (l ++ ([(⟨xa, xb, xw⟩ : E3)]))) : Int) ≠ (0 : Int))))) rfl)).cons (hF422.get (t := 24) (v := (.bool (decide ((29 : Int) < ((l.length : Nat) : Int))))) rfl)).cons (hF422.get (t := 15) (v := (.bool false)) rfl)).cons (hF422.get (t := 5) (v := (.pointer (some ⟨g64, 0, none⟩))) rfl)).cons (hF422.get (t := 4) (v := (.bool false)) rfl)).cons (hF422.get (t := 3) (v := (.pointer (some ⟨g10, 0, none⟩))) rfl)).cons (hF422.get (t := 2) (v := (.pointer (some ⟨g2, 0, none⟩))) rfl)).cons (hF422.get (t := 1) (v := (.agg #[(.int .i64 xa), (.int .i64 xb), (.int .i64 xw)])) rfl)).cons (hF422.get (t := 0) (v := (.agg #[(.int .i64 n), (.slice A l.length c)])) rfl))
            clear hF422
            by_cases hc424 : (((t251.getD ((xa : Int).toNat) []).getD ((xb : Int).toNat) 0) : Int) ≤ (xw : Int)
            · skip
              refine wp_cond_true (c_true hF423 rfl (decide_eq_true hc424)) ?_
              refine wp_seq_k (fun K425 hK425 => ?_)
              obtain ⟨hm1, hm2⟩ := more_idle hfar259.1 hfar300.1 hvo2 her1 (x := (⟨xa, xb, xw⟩ : E3)) (by omega)
              refine wp_region_lit ?_
              refine wpl_op (i := 0) rfl (o_val (v := (.int .i64 er297)) hF423 rfl rfl rfl rfl (rn_move (hF423.get rfl)) ?_)
              intro a426 hF427; clear hF423
              refine wpl_op (i := 1) rfl (o_val (v := (.bool (decide ((er297 : Int) = (0 : Int))))) hF427 rfl rfl rfl rfl (rn_eql (hF427.get rfl) rfl) ?_)
              intro a428 hF429; clear hF427
              refine wpl_op (i := 2) rfl (o_val (v := (.bool (decide ((er297 : Int) = (0 : Int))))) hF429 rfl rfl rfl rfl (rn_move (hF429.get rfl)) ?_)
              intro a430 hF431; clear hF429
              by_cases hc432 : (er297 : Int) = (0 : Int)
              · skip
                refine wpl_op (i := 3) rfl (o_val (v := (.slice A248 m249 c250)) hF431 rfl (wanted_guard rfl rfl rfl hF431 rfl (decide_eq_true hc432) rfl) rfl rfl (rn_move (hF431.get rfl)) ?_)
                intro a433 hF434; clear hF431
                refine wpl_op (i := 4) rfl (o_val (v := (.slice A289 m290 c291)) hF434 rfl (wanted_guard rfl rfl rfl hF434 rfl (decide_eq_true hc432) rfl) rfl rfl (rn_move (hF434.get rfl)) ?_)
                intro a435 hF436; clear hF434
                have d437 := ((hf308.ext hx369).ext hx379)
                refine wpl_op (i := 5) rfl (o_call hF436 rfl (wanted_guard rfl rfl rfl hF436 rfl (decide_eq_true hc432) rfl) rfl rfl (rn_call (args2 (hF436.get rfl) (hF436.get rfl)) rfl (by kernel_rfl)) (samefar_at (u := (.slice A248 m249 c250)) (v := (.slice A289 m290 c291)) t251 t292 _ d400 d437) ?_)
                rintro _ w438 ⟨rfl, hx439⟩
                refine ⟨_, rfl, ?_⟩; intro a440 hF441; clear hF436; have z442 := hx439.size
                refine wpl_op (i := 6) rfl (o_val (v := (.bool (decide (t251 = t292)))) hF441 rfl rfl rfl rfl (rn_pickT (c_true hF441 rfl (decide_eq_true hc432)) (hF441.get rfl)) ?_)
                intro a443 hF444; clear hF441
                refine wpl_op (i := 7) rfl (o_val (v := (.bool (decide (t251 = t292)))) hF444 rfl rfl rfl rfl (rn_assign (hF444.get rfl)) ?_)
                intro a445 hF446; clear hF444
                refine wpList_nil ?_
                refine hK425 _ _ ?_
                clear hK425
                have hF447 := ((((((((((((((((hF446.nil.cons (hF446.get (t := 73) (v := (.bool (decide ((((t251.getD ((xa : Int).toNat) []).getD ((xb : Int).toNat) 0) : Int) ≤ (xw : Int))))) rfl)).cons (hF446.get (t := 61) (v := (.bool false)) rfl)).cons (hF446.get (t := 50) (v := (.bool (decide ((er256 : Int) ≠ (0 : Int))))) rfl)).cons (hF446.get (t := 11) (v := (.int .i64 er297)) rfl)).cons (hF446.get (t := 9) (v := (.slice A289 m290 c291)) rfl)).cons (hF446.get (t := 8) (v := (.int .i64 er256)) rfl)).cons (hF446.get (t := 6) (v := (.slice A248 m249 c250)) rfl)).cons (hF446.get (t := 36) (v := (.bool (decide (((chk n (l ++ ([(⟨xa, xb, xw⟩ : E3)]))) : Int) ≠ (0 : Int))))) rfl)).cons (hF446.get (t := 24) (v := (.bool (decide ((29 : Int) < ((l.length : Nat) : Int))))) rfl)).cons (hF446.get (t := 15) (v := (.bool false)) rfl)).cons (hF446.get (t := 5) (v := (.pointer (some ⟨g64, 0, none⟩))) rfl)).cons (hF446.get (t := 4) (v := (.bool (decide (t251 = t292)))) rfl)).cons (hF446.get (t := 3) (v := (.pointer (some ⟨g10, 0, none⟩))) rfl)).cons (hF446.get (t := 2) (v := (.pointer (some ⟨g2, 0, none⟩))) rfl)).cons (hF446.get (t := 1) (v := (.agg #[(.int .i64 xa), (.int .i64 xb), (.int .i64 xw)])) rfl)).cons (hF446.get (t := 0) (v := (.agg #[(.int .i64 n), (.slice A l.length c)])) rfl))
                clear hF446
                refine wp_ret ?_
                refine ret_then ?_
                refine ret1 hF447 rfl rfl ?_
                exact ⟨by rw [show (decide (t251 = t292)) = true from decide_eq_true hm2], ((((((((ext_row (((((((((Ext.refl w).trans hx5).trans hx13).trans hx23).trans hx36).trans hx67).grownN hg74 (by omega)).trans hx78).trans hx190) hg202 hf206 (by omega)).grownN hg224 (by omega)).trans hx233).trans hx263).trans hx304).trans hx369).trans hx379).trans hx439)⟩
              · skip
                refine wpl_op (i := 3) rfl (o_skip hF431 rfl (unwanted_guard rfl rfl rfl hF431 rfl (decide_eq_false hc432) rfl) rfl rfl ?_)
                intro a448 hF449; clear hF431
                refine wpl_op (i := 4) rfl (o_skip hF449 rfl (unwanted_guard rfl rfl rfl hF449 rfl (decide_eq_false hc432) rfl) rfl rfl ?_)
                intro a450 hF451; clear hF449
                refine wpl_op (i := 5) rfl (o_skip hF451 rfl (unwanted_guard rfl rfl rfl hF451 rfl (decide_eq_false hc432) rfl) rfl rfl ?_)
                intro a452 hF453; clear hF451
                refine wpl_op (i := 6) rfl (o_val (v := (.bool false)) hF453 rfl rfl rfl rfl (rn_pickF (c_false hF453 rfl (decide_eq_false hc432)) rfl) ?_)
                intro a454 hF455; clear hF453
                refine wpl_op (i := 7) rfl (o_val (v := (.bool false)) hF455 rfl rfl rfl rfl (rn_assign (hF455.get rfl)) ?_)
                intro a456 hF457; clear hF455
                refine wpList_nil ?_
                refine hK425 _ _ ?_
                clear hK425
                have hF458 := ((((((((((((((((hF457.nil.cons (hF457.get (t := 73) (v := (.bool (decide ((((t251.getD ((xa : Int).toNat) []).getD ((xb : Int).toNat) 0) : Int) ≤ (xw : Int))))) rfl)).cons (hF457.get (t := 61) (v := (.bool false)) rfl)).cons (hF457.get (t := 50) (v := (.bool (decide ((er256 : Int) ≠ (0 : Int))))) rfl)).cons (hF457.get (t := 11) (v := (.int .i64 er297)) rfl)).cons (hF457.get (t := 9) (v := (.slice A289 m290 c291)) rfl)).cons (hF457.get (t := 8) (v := (.int .i64 er256)) rfl)).cons (hF457.get (t := 6) (v := (.slice A248 m249 c250)) rfl)).cons (hF457.get (t := 36) (v := (.bool (decide (((chk n (l ++ ([(⟨xa, xb, xw⟩ : E3)]))) : Int) ≠ (0 : Int))))) rfl)).cons (hF457.get (t := 24) (v := (.bool (decide ((29 : Int) < ((l.length : Nat) : Int))))) rfl)).cons (hF457.get (t := 15) (v := (.bool false)) rfl)).cons (hF457.get (t := 5) (v := (.pointer (some ⟨g64, 0, none⟩))) rfl)).cons (hF457.get (t := 4) (v := (.bool false)) rfl)).cons (hF457.get (t := 3) (v := (.pointer (some ⟨g10, 0, none⟩))) rfl)).cons (hF457.get (t := 2) (v := (.pointer (some ⟨g2, 0, none⟩))) rfl)).cons (hF457.get (t := 1) (v := (.agg #[(.int .i64 xa), (.int .i64 xb), (.int .i64 xw)])) rfl)).cons (hF457.get (t := 0) (v := (.agg #[(.int .i64 n), (.slice A l.length c)])) rfl))
                clear hF457
                refine wp_ret ?_
                refine ret_then ?_
                refine ret1 hF458 rfl rfl ?_
                exfalso; omega
            · skip
              refine wp_cond_false (c_false hF423 rfl (decide_eq_false hc424)) ?_
              refine wp_skip ?_
              refine hK376 _ _ ?_
              clear hK376
              refine wp_seq_k (fun K459 hK459 => ?_)
              refine wp_seq_k (fun K460 hK460 => ?_)
              refine wp_region_lit ?_
              refine wpl_op (i := 0) rfl (o_val (v := (.int .i64 er297)) hF423 rfl rfl rfl rfl (rn_move (hF423.get rfl)) ?_)
              intro a461 hF462; clear hF423
              refine wpl_op (i := 1) rfl (o_val (v := (.bool (decide ((er297 : Int) ≠ (0 : Int))))) hF462 rfl rfl rfl rfl (rn_neq (hF462.get rfl) rfl) ?_)
              intro a463 hF464; clear hF462
              refine wpList_nil ?_
              refine hK460 _ _ ?_
              clear hK460
              by_cases hc465 : (er297 : Int) ≠ (0 : Int)
              · skip
                refine wp_cond_true (c_true hF464 rfl (decide_eq_true hc465)) ?_
                refine wp_seq_k (fun K466 hK466 => ?_)
                obtain ⟨hm1, hm2', hm3'⟩ := more_cyc hfar259.1 hfar300.1 hvo2 her1 (by omega)
                have hm2 : (t251.getD xb.toNat []).getD xa.toNat 0 < 1152921504606846976 := hm2'; have hm3 : (t251.getD xb.toNat []).getD xa.toNat 0 + xw < 0 := hm3'; clear hm2' hm3'
                have z467 := hdt.sm (xb.toNat) (xa.toNat) (by omega) (by omega); simp only [T] at z467
                have hx469 : ∃ W, w378.drew = W ∧ Ext w378 W := ⟨_, rfl, (Ext.refl _).drew⟩
                obtain ⟨w468, e470, hx469⟩ := hx469
                have z471 := hx469.size
                refine any_start (fun W => Ext w468 W ∧ Blk W g10 41 [(.int .i64 xa), (.int .i64 xb), (.int .i64 xw)]) (fun i => false) 30 #[false, false, false, false, false, false, false, false, false, false, false, false, false, false, false, false, false, false, false, false, false, false, false, false, false, false, false, false, false, false] rfl rfl rfl ?_
                rw [e470]; clear e470
                refine any_pure (i := 0) (v := (.int .i64 er297)) hF464 (by decide +kernel) (by decide +kernel) rfl rfl rfl rfl (fun _ _ _ _ h => h) rfl (fun W => (rn_move (hF464.get rfl))) ?_
                intro a472 hF473; clear hF464
                refine any_pure (i := 1) (v := (.bool (decide ((er297 : Int) = (151 : Int))))) hF473 (by decide +kernel) (by decide +kernel) rfl rfl rfl rfl (fun _ _ _ _ h => h) rfl (fun W => (rn_eql (hF473.get rfl) rfl)) ?_
                intro a474 hF475; clear hF473
                refine any_pure (i := 2) (v := (.bool (decide ((er297 : Int) = (151 : Int))))) hF475 (by decide +kernel) (by decide +kernel) rfl rfl rfl rfl (fun _ _ _ _ h => h) rfl (fun W => (rn_move (hF475.get rfl))) ?_
                intro a476 hF477; clear hF475
                by_cases hc478 : (er297 : Int) = (151 : Int)
                · skip
                  refine any_pure (i := 3) (v := (.slice A248 m249 c250)) hF477 (by decide +kernel) (by decide +kernel) rfl rfl rfl rfl (fun _ _ _ _ h => h) (wanted_guard rfl rfl rfl hF477 rfl (decide_eq_true hc478) rfl) (fun W => (rn_move (hF477.get rfl))) ?_
                  intro a479 hF480; clear hF477
                  refine any_pure (i := 4) (v := (.pointer (some ⟨g10, 1, none⟩))) hF480 (by decide +kernel) (by decide +kernel) rfl rfl rfl rfl (fun _ _ _ _ h => h) (wanted_guard rfl rfl rfl hF480 rfl (decide_eq_true hc478) rfl) (fun W => (rn_field Try.underlying41 rfl (by kernel_rfl) (hF480.get rfl) rfl)) ?_
                  intro a481 hF482; clear hF480
                  have b484 : Blk w468 g10 41 [(.int .i64 xa), (.int .i64 xb), (.int .i64 xw)] := (b387.ext hx469)
                  have hS483 : Ext w468 w468 ∧ Blk w468 g10 41 [(.int .i64 xa), (.int .i64 xb), (.int .i64 xw)] := ⟨(Ext.refl w468), b484⟩
                  refine any_val (i := 5) (v := (.int .i64 xb)) hF482 (by decide +kernel) (by decide +kernel) rfl rfl rfl rfl (fun _ _ _ _ h => h) (wanted_guard rfl rfl rfl hF482 rfl (decide_eq_true hc478) rfl) hS483 (fun W hW => (rn_load (isAgg_no Try.underlying3 rfl) (hF482.get rfl) (hW.2.rule.1 1))) ?_
                  intro a485 hF486; clear hF482
                  have d497 := ((((hf267.ext hx304).ext hx369).ext hx379).ext hx469)
                  obtain ⟨b487, o488, A489, c490, hA491, hl492, hc493, hr494, z495, z496⟩ := RIss.get (i := (xb : Int).toNat) d497 (by omega)
                  have z498 := hdt.row ((xb : Int).toNat) (by omega)
                  refine any_pure (i := 6) (v := (.pointer (some ⟨b487, o488 + (xb : Int).toNat, none⟩))) hF486 (by decide +kernel) (by decide +kernel) rfl rfl rfl rfl (fun _ _ _ _ h => h) (wanted_guard rfl rfl rfl hF486 rfl (decide_eq_true hc478) rfl) (fun W => (rn_index1 Try.underlying33 (by kernel_rfl : (Try.prog.info? 25).map (·.size) = some 1) ((hF486.get rfl).trans (by rw [hA491])) (hF486.get rfl) (by omega : (0 : Int) ≤ xb) (by omega : (xb : Int) < ((m249 : Nat) : Int)))) ?_
                  intro a499 hF500; clear hF486
                  refine any_val (i := 7) (v := (.slice A489 ((t251.getD ((xb : Int).toNat) []).length) c490)) hF500 (by decide +kernel) (by decide +kernel) rfl rfl rfl rfl (fun _ _ _ _ h => h) (wanted_guard rfl rfl rfl hF500 rfl (decide_eq_true hc478) rfl) hS483 (fun W hW => (rn_load (isAgg_no Try.underlying25 rfl) (hF500.get rfl) (Ext.keep ((Ext.refl w468).trans hW.1) hc493))) ?_
                  intro a501 hF502; clear hF500
                  refine any_pure (i := 8) (v := (.pointer (some ⟨g10, 0, none⟩))) hF502 (by decide +kernel) (by decide +kernel) rfl rfl rfl rfl (fun _ _ _ _ h => h) (wanted_guard rfl rfl rfl hF502 rfl (decide_eq_true hc478) rfl) (fun W => (rn_field Try.underlying41 rfl (by kernel_rfl) (hF502.get rfl) rfl)) ?_
                  intro a503 hF504; clear hF502
                  refine any_val (i := 9) (v := (.int .i64 xa)) hF504 (by decide +kernel) (by decide +kernel) rfl rfl rfl rfl (fun _ _ _ _ h => h) (wanted_guard rfl rfl rfl hF504 rfl (decide_eq_true hc478) rfl) hS483 (fun W hW => (rn_load (isAgg_no Try.underlying3 rfl) (hF504.get rfl) (hW.2.rule.1 0))) ?_
                  intro a505 hF506; clear hF504
                  obtain ⟨b507, o508, hA509, -⟩ := Fl.at hr494 (by omega)
                  refine any_pure (i := 10) (v := (.pointer (some ⟨b507, o508 + (xa : Int).toNat, none⟩))) hF506 (by decide +kernel) (by decide +kernel) rfl rfl rfl rfl (fun _ _ _ _ h => h) (wanted_guard rfl rfl rfl hF506 rfl (decide_eq_true hc478) rfl) (fun W => (rn_index1 Try.underlying25 (by kernel_rfl : (Try.prog.info? 3).map (·.size) = some 1) ((hF506.get rfl).trans (by rw [hA509])) (hF506.get rfl) (by omega : (0 : Int) ≤ xa) (by omega : (xa : Int) < (((t251.getD ((xb : Int).toNat) []).length : Nat) : Int)))) ?_
                  intro a510 hF511; clear hF506
                  refine any_val (i := 11) (v := (.int .i64 ((t251.getD ((xb : Int).toNat) []).getD ((xa : Int).toNat) 0))) hF511 (by decide +kernel) (by decide +kernel) rfl rfl rfl rfl (fun _ _ _ _ h => h) (wanted_guard rfl rfl rfl hF511 rfl (decide_eq_true hc478) rfl) hS483 (fun W hW => (rn_load (isAgg_no Try.underlying3 rfl) (hF511.get rfl) (Fl.cellAt (hr494.ext hW.1) hA509 (intVals_at (i := (xa : Int).toNat) (by omega))))) ?_
                  intro a512 hF513; clear hF511
                  refine any_pure (i := 12) (v := (.bool (decide ((((t251.getD ((xb : Int).toNat) []).getD ((xa : Int).toNat) 0) : Int) < (1152921504606846976 : Int))))) hF513 (by decide +kernel) (by decide +kernel) rfl rfl rfl rfl (fun _ _ _ _ h => h) (wanted_guard rfl rfl rfl hF513 rfl (decide_eq_true hc478) rfl) (fun W => (rn_lss (hF513.get rfl) rfl)) ?_
                  intro a514 hF515; clear hF513
                  refine any_pure (i := 13) (v := (.bool (decide ((((t251.getD ((xb : Int).toNat) []).getD ((xa : Int).toNat) 0) : Int) < (1152921504606846976 : Int))))) hF515 (by decide +kernel) (by decide +kernel) rfl rfl rfl rfl (fun _ _ _ _ h => h) rfl (fun W => (rn_pickT (c_true hF515 rfl (decide_eq_true hc478)) (hF515.get rfl))) ?_
                  intro a516 hF517; clear hF515
                  refine any_pure (i := 14) (v := (.bool (decide ((((t251.getD ((xb : Int).toNat) []).getD ((xa : Int).toNat) 0) : Int) < (1152921504606846976 : Int))))) hF517 (by decide +kernel) (by decide +kernel) rfl rfl rfl rfl (fun _ _ _ _ h => h) rfl (fun W => (rn_move (hF517.get rfl))) ?_
                  intro a518 hF519; clear hF517
                  by_cases hc520 : (((t251.getD ((xb : Int).toNat) []).getD ((xa : Int).toNat) 0) : Int) < (1152921504606846976 : Int)
                  · skip
                    refine any_pure (i := 15) (v := (.slice A248 m249 c250)) hF519 (by decide +kernel) (by decide +kernel) rfl rfl rfl rfl (fun _ _ _ _ h => h) (wanted_guard rfl rfl rfl hF519 rfl (decide_eq_true hc520) rfl) (fun W => (rn_move (hF519.get rfl))) ?_
                    intro a521 hF522; clear hF519
                    refine any_pure (i := 16) (v := (.pointer (some ⟨g10, 1, none⟩))) hF522 (by decide +kernel) (by decide +kernel) rfl rfl rfl rfl (fun _ _ _ _ h => h) (wanted_guard rfl rfl rfl hF522 rfl (decide_eq_true hc520) rfl) (fun W => (rn_field Try.underlying41 rfl (by kernel_rfl) (hF522.get rfl) rfl)) ?_
                    intro a523 hF524; clear hF522
                    refine any_val (i := 17) (v := (.int .i64 xb)) hF524 (by decide +kernel) (by decide +kernel) rfl rfl rfl rfl (fun _ _ _ _ h => h) (wanted_guard rfl rfl rfl hF524 rfl (decide_eq_true hc520) rfl) hS483 (fun W hW => (rn_load (isAgg_no Try.underlying3 rfl) (hF524.get rfl) (hW.2.rule.1 1))) ?_
                    intro a525 hF526; clear hF524
                    refine any_pure (i := 18) (v := (.pointer (some ⟨b487, o488 + (xb : Int).toNat, none⟩))) hF526 (by decide +kernel) (by decide +kernel) rfl rfl rfl rfl (fun _ _ _ _ h => h) (wanted_guard rfl rfl rfl hF526 rfl (decide_eq_true hc520) rfl) (fun W => (rn_index1 Try.underlying33 (by kernel_rfl : (Try.prog.info? 25).map (·.size) = some 1) ((hF526.get rfl).trans (by rw [hA491])) (hF526.get rfl) (by omega : (0 : Int) ≤ xb) (by omega : (xb : Int) < ((m249 : Nat) : Int)))) ?_
                    intro a527 hF528; clear hF526
                    refine any_val (i := 19) (v := (.slice A489 ((t251.getD ((xb : Int).toNat) []).length) c490)) hF528 (by decide +kernel) (by decide +kernel) rfl rfl rfl rfl (fun _ _ _ _ h => h) (wanted_guard rfl rfl rfl hF528 rfl (decide_eq_true hc520) rfl) hS483 (fun W hW => (rn_load (isAgg_no Try.underlying25 rfl) (hF528.get rfl) (Ext.keep ((Ext.refl w468).trans hW.1) hc493))) ?_
                    intro a529 hF530; clear hF528
                    refine any_pure (i := 20) (v := (.pointer (some ⟨g10, 0, none⟩))) hF530 (by decide +kernel) (by decide +kernel) rfl rfl rfl rfl (fun _ _ _ _ h => h) (wanted_guard rfl rfl rfl hF530 rfl (decide_eq_true hc520) rfl) (fun W => (rn_field Try.underlying41 rfl (by kernel_rfl) (hF530.get rfl) rfl)) ?_
                    intro a531 hF532; clear hF530
                    refine any_val (i := 21) (v := (.int .i64 xa)) hF532 (by decide +kernel) (by decide +kernel) rfl rfl rfl rfl (fun _ _ _ _ h => h) (wanted_guard rfl rfl rfl hF532 rfl (decide_eq_true hc520) rfl) hS483 (fun W hW => (rn_load (isAgg_no Try.underlying3 rfl) (hF532.get rfl) (hW.2.rule.1 0))) ?_
                    intro a533 hF534; clear hF532
                    refine any_pure (i := 22) (v := (.pointer (some ⟨b507, o508 + (xa : Int).toNat, none⟩))) hF534 (by decide +kernel) (by decide +kernel) rfl rfl rfl rfl (fun _ _ _ _ h => h) (wanted_guard rfl rfl rfl hF534 rfl (decide_eq_true hc520) rfl) (fun W => (rn_index1 Try.underlying25 (by kernel_rfl : (Try.prog.info? 3).map (·.size) = some 1) ((hF534.get rfl).trans (by rw [hA509])) (hF534.get rfl) (by omega : (0 : Int) ≤ xa) (by omega : (xa : Int) < (((t251.getD ((xb : Int).toNat) []).length : Nat) : Int)))) ?_
                    intro a535 hF536; clear hF534
                    refine any_val (i := 23) (v := (.int .i64 ((t251.getD ((xb : Int).toNat) []).getD ((xa : Int).toNat) 0))) hF536 (by decide +kernel) (by decide +kernel) rfl rfl rfl rfl (fun _ _ _ _ h => h) (wanted_guard rfl rfl rfl hF536 rfl (decide_eq_true hc520) rfl) hS483 (fun W hW => (rn_load (isAgg_no Try.underlying3 rfl) (hF536.get rfl) (Fl.cellAt (hr494.ext hW.1) hA509 (intVals_at (i := (xa : Int).toNat) (by omega))))) ?_
                    intro a537 hF538; clear hF536
                    refine any_pure (i := 24) (v := (.pointer (some ⟨g10, 2, none⟩))) hF538 (by decide +kernel) (by decide +kernel) rfl rfl rfl rfl (fun _ _ _ _ h => h) (wanted_guard rfl rfl rfl hF538 rfl (decide_eq_true hc520) rfl) (fun W => (rn_field Try.underlying41 rfl (by kernel_rfl) (hF538.get rfl) rfl)) ?_
                    intro a539 hF540; clear hF538
                    refine any_val (i := 25) (v := (.int .i64 xw)) hF540 (by decide +kernel) (by decide +kernel) rfl rfl rfl rfl (fun _ _ _ _ h => h) (wanted_guard rfl rfl rfl hF540 rfl (decide_eq_true hc520) rfl) hS483 (fun W hW => (rn_load (isAgg_no Try.underlying3 rfl) (hF540.get rfl) (hW.2.rule.1 2))) ?_
                    intro a541 hF542; clear hF540
                    refine any_pure (i := 26) (v := (.int .i64 (((t251.getD ((xb : Int).toNat) []).getD ((xa : Int).toNat) 0) + xw))) hF542 (by decide +kernel) (by decide +kernel) rfl rfl rfl rfl (fun _ _ _ _ h => h) (wanted_guard rfl rfl rfl hF542 rfl (decide_eq_true hc520) rfl) (fun W => (rn_add (hF542.get rfl) (hF542.get rfl) (by omega) (by omega))) ?_
                    intro a543 hF544; clear hF542
                    refine any_pure (i := 27) (v := (.bool (decide ((((t251.getD ((xb : Int).toNat) []).getD ((xa : Int).toNat) 0) + xw : Int) < (0 : Int))))) hF544 (by decide +kernel) (by decide +kernel) rfl rfl rfl rfl (fun _ _ _ _ h => h) (wanted_guard rfl rfl rfl hF544 rfl (decide_eq_true hc520) rfl) (fun W => (rn_lss (hF544.get rfl) rfl)) ?_
                    intro a545 hF546; clear hF544
                    refine any_pure (i := 28) (v := (.bool (decide ((((t251.getD ((xb : Int).toNat) []).getD ((xa : Int).toNat) 0) + xw : Int) < (0 : Int))))) hF546 (by decide +kernel) (by decide +kernel) rfl rfl rfl rfl (fun _ _ _ _ h => h) rfl (fun W => (rn_pickT (c_true hF546 rfl (decide_eq_true hc520)) (hF546.get rfl))) ?_
                    intro a547 hF548; clear hF546
                    refine any_pure (i := 29) (v := (.bool (decide ((((t251.getD ((xb : Int).toNat) []).getD ((xa : Int).toNat) 0) + xw : Int) < (0 : Int))))) hF548 (by decide +kernel) (by decide +kernel) rfl rfl rfl rfl (fun _ _ _ _ h => h) rfl (fun W => (rn_assign (hF548.get rfl))) ?_
                    intro a549 hF550; clear hF548
                    refine any_nil (by decide +kernel) ?_
                    refine hK466 _ _ ?_
                    clear hK466
                    have hF551 := (((((((((((((((((hF550.nil.cons (hF550.get (t := 82) (v := (.bool (decide ((er297 : Int) ≠ (0 : Int))))) rfl)).cons (hF550.get (t := 73) (v := (.bool (decide ((((t251.getD ((xa : Int).toNat) []).getD ((xb : Int).toNat) 0) : Int) ≤ (xw : Int))))) rfl)).cons (hF550.get (t := 61) (v := (.bool false)) rfl)).cons (hF550.get (t := 50) (v := (.bool (decide ((er256 : Int) ≠ (0 : Int))))) rfl)).cons (hF550.get (t := 11) (v := (.int .i64 er297)) rfl)).cons (hF550.get (t := 9) (v := (.slice A289 m290 c291)) rfl)).cons (hF550.get (t := 8) (v := (.int .i64 er256)) rfl)).cons (hF550.get (t := 6) (v := (.slice A248 m249 c250)) rfl)).cons (hF550.get (t := 36) (v := (.bool (decide (((chk n (l ++ ([(⟨xa, xb, xw⟩ : E3)]))) : Int) ≠ (0 : Int))))) rfl)).cons (hF550.get (t := 24) (v := (.bool (decide ((29 : Int) < ((l.length : Nat) : Int))))) rfl)).cons (hF550.get (t := 15) (v := (.bool false)) rfl)).cons (hF550.get (t := 5) (v := (.pointer (some ⟨g64, 0, none⟩))) rfl)).cons (hF550.get (t := 4) (v := (.bool (decide ((((t251.getD ((xb : Int).toNat) []).getD ((xa : Int).toNat) 0) + xw : Int) < (0 : Int))))) rfl)).cons (hF550.get (t := 3) (v := (.pointer (some ⟨g10, 0, none⟩))) rfl)).cons (hF550.get (t := 2) (v := (.pointer (some ⟨g2, 0, none⟩))) rfl)).cons (hF550.get (t := 1) (v := (.agg #[(.int .i64 xa), (.int .i64 xb), (.int .i64 xw)])) rfl)).cons (hF550.get (t := 0) (v := (.agg #[(.int .i64 n), (.slice A l.length c)])) rfl))
                    clear hF550
                    refine wp_ret ?_
                    refine ret_then ?_
                    refine ret1 hF551 rfl rfl ?_
                    exact ⟨by rw [show (decide ((((t251.getD ((xb : Int).toNat) []).getD ((xa : Int).toNat) 0) + xw : Int) < (0 : Int))) = true from decide_eq_true (by omega)], ((((((((ext_row (((((((((Ext.refl w).trans hx5).trans hx13).trans hx23).trans hx36).trans hx67).grownN hg74 (by omega)).trans hx78).trans hx190) hg202 hf206 (by omega)).grownN hg224 (by omega)).trans hx233).trans hx263).trans hx304).trans hx369).trans hx379).trans hx469)⟩
                  · skip
                    refine any_pass (i := 15) hF519 (by decide +kernel) (by decide +kernel) rfl rfl rfl rfl (fun _ _ _ _ h => h) (unwanted_guard rfl rfl rfl hF519 rfl (decide_eq_false hc520) rfl) ?_
                    intro a552 hF553; clear hF519
                    refine any_pass (i := 16) hF553 (by decide +kernel) (by decide +kernel) rfl rfl rfl rfl (fun _ _ _ _ h => h) (unwanted_guard rfl rfl rfl hF553 rfl (decide_eq_false hc520) rfl) ?_
                    intro a554 hF555; clear hF553
                    refine any_pass (i := 17) hF555 (by decide +kernel) (by decide +kernel) rfl rfl rfl rfl (fun _ _ _ _ h => h) (unwanted_guard rfl rfl rfl hF555 rfl (decide_eq_false hc520) rfl) ?_
                    intro a556 hF557; clear hF555
                    refine any_pass (i := 18) hF557 (by decide +kernel) (by decide +kernel) rfl rfl rfl rfl (fun _ _ _ _ h => h) (unwanted_guard rfl rfl rfl hF557 rfl (decide_eq_false hc520) rfl) ?_
                    intro a558 hF559; clear hF557
                    refine any_pass (i := 19) hF559 (by decide +kernel) (by decide +kernel) rfl rfl rfl rfl (fun _ _ _ _ h => h) (unwanted_guard rfl rfl rfl hF559 rfl (decide_eq_false hc520) rfl) ?_
                    intro a560 hF561; clear hF559
                    refine any_pass (i := 20) hF561 (by decide +kernel) (by decide +kernel) rfl rfl rfl rfl (fun _ _ _ _ h => h) (unwanted_guard rfl rfl rfl hF561 rfl (decide_eq_false hc520) rfl) ?_
                    intro a562 hF563; clear hF561
                    refine any_pass (i := 21) hF563 (by decide +kernel) (by decide +kernel) rfl rfl rfl rfl (fun _ _ _ _ h => h) (unwanted_guard rfl rfl rfl hF563 rfl (decide_eq_false hc520) rfl) ?_
                    intro a564 hF565; clear hF563
                    refine any_pass (i := 22) hF565 (by decide +kernel) (by decide +kernel) rfl rfl rfl rfl (fun _ _ _ _ h => h) (unwanted_guard rfl rfl rfl hF565 rfl (decide_eq_false hc520) rfl) ?_
                    intro a566 hF567; clear hF565
                    refine any_pass (i := 23) hF567 (by decide +kernel) (by decide +kernel) rfl rfl rfl rfl (fun _ _ _ _ h => h) (unwanted_guard rfl rfl rfl hF567 rfl (decide_eq_false hc520) rfl) ?_
                    intro a568 hF569; clear hF567
                    refine any_pass (i := 24) hF569 (by decide +kernel) (by decide +kernel) rfl rfl rfl rfl (fun _ _ _ _ h => h) (unwanted_guard rfl rfl rfl hF569 rfl (decide_eq_false hc520) rfl) ?_
                    intro a570 hF571; clear hF569
                    refine any_pass (i := 25) hF571 (by decide +kernel) (by decide +kernel) rfl rfl rfl rfl (fun _ _ _ _ h => h) (unwanted_guard rfl rfl rfl hF571 rfl (decide_eq_false hc520) rfl) ?_
                    intro a572 hF573; clear hF571
                    refine any_pass (i := 26) hF573 (by decide +kernel) (by decide +kernel) rfl rfl rfl rfl (fun _ _ _ _ h => h) (unwanted_guard rfl rfl rfl hF573 rfl (decide_eq_false hc520) rfl) ?_
                    intro a574 hF575; clear hF573
                    refine any_pass (i := 27) hF575 (by decide +kernel) (by decide +kernel) rfl rfl rfl rfl (fun _ _ _ _ h => h) (unwanted_guard rfl rfl rfl hF575 rfl (decide_eq_false hc520) rfl) ?_
                    intro a576 hF577; clear hF575
                    refine any_pure (i := 28) (v := (.bool false)) hF577 (by decide +kernel) (by decide +kernel) rfl rfl rfl rfl (fun _ _ _ _ h => h) rfl (fun W => (rn_pickF (c_false hF577 rfl (decide_eq_false hc520)) rfl)) ?_
                    intro a578 hF579; clear hF577
                    refine any_pure (i := 29) (v := (.bool false)) hF579 (by decide +kernel) (by decide +kernel) rfl rfl rfl rfl (fun _ _ _ _ h => h) rfl (fun W => (rn_assign (hF579.get rfl))) ?_
                    intro a580 hF581; clear hF579
                    refine any_nil (by decide +kernel) ?_
                    refine hK466 _ _ ?_
                    clear hK466
                    have hF582 := (((((((((((((((((hF581.nil.cons (hF581.get (t := 82) (v := (.bool (decide ((er297 : Int) ≠ (0 : Int))))) rfl)).cons (hF581.get (t := 73) (v := (.bool (decide ((((t251.getD ((xa : Int).toNat) []).getD ((xb : Int).toNat) 0) : Int) ≤ (xw : Int))))) rfl)).cons (hF581.get (t := 61) (v := (.bool false)) rfl)).cons (hF581.get (t := 50) (v := (.bool (decide ((er256 : Int) ≠ (0 : Int))))) rfl)).cons (hF581.get (t := 11) (v := (.int .i64 er297)) rfl)).cons (hF581.get (t := 9) (v := (.slice A289 m290 c291)) rfl)).cons (hF581.get (t := 8) (v := (.int .i64 er256)) rfl)).cons (hF581.get (t := 6) (v := (.slice A248 m249 c250)) rfl)).cons (hF581.get (t := 36) (v := (.bool (decide (((chk n (l ++ ([(⟨xa, xb, xw⟩ : E3)]))) : Int) ≠ (0 : Int))))) rfl)).cons (hF581.get (t := 24) (v := (.bool (decide ((29 : Int) < ((l.length : Nat) : Int))))) rfl)).cons (hF581.get (t := 15) (v := (.bool false)) rfl)).cons (hF581.get (t := 5) (v := (.pointer (some ⟨g64, 0, none⟩))) rfl)).cons (hF581.get (t := 4) (v := (.bool false)) rfl)).cons (hF581.get (t := 3) (v := (.pointer (some ⟨g10, 0, none⟩))) rfl)).cons (hF581.get (t := 2) (v := (.pointer (some ⟨g2, 0, none⟩))) rfl)).cons (hF581.get (t := 1) (v := (.agg #[(.int .i64 xa), (.int .i64 xb), (.int .i64 xw)])) rfl)).cons (hF581.get (t := 0) (v := (.agg #[(.int .i64 n), (.slice A l.length c)])) rfl))
                    clear hF581
                    refine wp_ret ?_
                    refine ret_then ?_
                    refine ret1 hF582 rfl rfl ?_
                    exfalso; omega
                · skip
                  refine any_pass (i := 3) hF477 (by decide +kernel) (by decide +kernel) rfl rfl rfl rfl (fun _ _ _ _ h => h) (unwanted_guard rfl rfl rfl hF477 rfl (decide_eq_false hc478) rfl) ?_
                  intro a583 hF584; clear hF477
                  refine any_pass (i := 4) hF584 (by decide +kernel) (by decide +kernel) rfl rfl rfl rfl (fun _ _ _ _ h => h) (unwanted_guard rfl rfl rfl hF584 rfl (decide_eq_false hc478) rfl) ?_
                  intro a585 hF586; clear hF584
                  refine any_pass (i := 5) hF586 (by decide +kernel) (by decide +kernel) rfl rfl rfl rfl (fun _ _ _ _ h => h) (unwanted_guard rfl rfl rfl hF586 rfl (decide_eq_false hc478) rfl) ?_
                  intro a587 hF588; clear hF586
                  refine any_pass (i := 6) hF588 (by decide +kernel) (by decide +kernel) rfl rfl rfl rfl (fun _ _ _ _ h => h) (unwanted_guard rfl rfl rfl hF588 rfl (decide_eq_false hc478) rfl) ?_
                  intro a589 hF590; clear hF588
                  refine any_pass (i := 7) hF590 (by decide +kernel) (by decide +kernel) rfl rfl rfl rfl (fun _ _ _ _ h => h) (unwanted_guard rfl rfl rfl hF590 rfl (decide_eq_false hc478) rfl) ?_
                  intro a591 hF592; clear hF590
                  refine any_pass (i := 8) hF592 (by decide +kernel) (by decide +kernel) rfl rfl rfl rfl (fun _ _ _ _ h => h) (unwanted_guard rfl rfl rfl hF592 rfl (decide_eq_false hc478) rfl) ?_
                  intro a593 hF594; clear hF592
                  refine any_pass (i := 9) hF594 (by decide +kernel) (by decide +kernel) rfl rfl rfl rfl (fun _ _ _ _ h => h) (unwanted_guard rfl rfl rfl hF594 rfl (decide_eq_false hc478) rfl) ?_
                  intro a595 hF596; clear hF594
                  refine any_pass (i := 10) hF596 (by decide +kernel) (by decide +kernel) rfl rfl rfl rfl (fun _ _ _ _ h => h) (unwanted_guard rfl rfl rfl hF596 rfl (decide_eq_false hc478) rfl) ?_
                  intro a597 hF598; clear hF596
                  refine any_pass (i := 11) hF598 (by decide +kernel) (by decide +kernel) rfl rfl rfl rfl (fun _ _ _ _ h => h) (unwanted_guard rfl rfl rfl hF598 rfl (decide_eq_false hc478) rfl) ?_
                  intro a599 hF600; clear hF598
                  refine any_pass (i := 12) hF600 (by decide +kernel) (by decide +kernel) rfl rfl rfl rfl (fun _ _ _ _ h => h) (unwanted_guard rfl rfl rfl hF600 rfl (decide_eq_false hc478) rfl) ?_
                  intro a601 hF602; clear hF600
                  refine any_pure (i := 13) (v := (.bool false)) hF602 (by decide +kernel) (by decide +kernel) rfl rfl rfl rfl (fun _ _ _ _ h => h) rfl (fun W => (rn_pickF (c_false hF602 rfl (decide_eq_false hc478)) rfl)) ?_
                  intro a603 hF604; clear hF602
                  refine any_pure (i := 14) (v := (.bool false)) hF604 (by decide +kernel) (by decide +kernel) rfl rfl rfl rfl (fun _ _ _ _ h => h) rfl (fun W => (rn_move (hF604.get rfl))) ?_
                  intro a605 hF606; clear hF604
                  refine any_pass (i := 15) hF606 (by decide +kernel) (by decide +kernel) rfl rfl rfl rfl (fun _ _ _ _ h => h) (unwanted_guard rfl rfl rfl hF606 rfl rfl rfl) ?_
                  intro a607 hF608; clear hF606
                  refine any_pass (i := 16) hF608 (by decide +kernel) (by decide +kernel) rfl rfl rfl rfl (fun _ _ _ _ h => h) (unwanted_guard rfl rfl rfl hF608 rfl rfl rfl) ?_
                  intro a609 hF610; clear hF608
                  refine any_pass (i := 17) hF610 (by decide +kernel) (by decide +kernel) rfl rfl rfl rfl (fun _ _ _ _ h => h) (unwanted_guard rfl rfl rfl hF610 rfl rfl rfl) ?_
                  intro a611 hF612; clear hF610
                  refine any_pass (i := 18) hF612 (by decide +kernel) (by decide +kernel) rfl rfl rfl rfl (fun _ _ _ _ h => h) (unwanted_guard rfl rfl rfl hF612 rfl rfl rfl) ?_
                  intro a613 hF614; clear hF612
                  refine any_pass (i := 19) hF614 (by decide +kernel) (by decide +kernel) rfl rfl rfl rfl (fun _ _ _ _ h => h) (unwanted_guard rfl rfl rfl hF614 rfl rfl rfl) ?_
                  intro a615 hF616; clear hF614
                  refine any_pass (i := 20) hF616 (by decide +kernel) (by decide +kernel) rfl rfl rfl rfl (fun _ _ _ _ h => h) (unwanted_guard rfl rfl rfl hF616 rfl rfl rfl) ?_
                  intro a617 hF618; clear hF616
                  refine any_pass (i := 21) hF618 (by decide +kernel) (by decide +kernel) rfl rfl rfl rfl (fun _ _ _ _ h => h) (unwanted_guard rfl rfl rfl hF618 rfl rfl rfl) ?_
                  intro a619 hF620; clear hF618
                  refine any_pass (i := 22) hF620 (by decide +kernel) (by decide +kernel) rfl rfl rfl rfl (fun _ _ _ _ h => h) (unwanted_guard rfl rfl rfl hF620 rfl rfl rfl) ?_
                  intro a621 hF622; clear hF620
                  refine any_pass (i := 23) hF622 (by decide +kernel) (by decide +kernel) rfl rfl rfl rfl (fun _ _ _ _ h => h) (unwanted_guard rfl rfl rfl hF622 rfl rfl rfl) ?_
                  intro a623 hF624; clear hF622
                  refine any_pass (i := 24) hF624 (by decide +kernel) (by decide +kernel) rfl rfl rfl rfl (fun _ _ _ _ h => h) (unwanted_guard rfl rfl rfl hF624 rfl rfl rfl) ?_
                  intro a625 hF626; clear hF624
                  refine any_pass (i := 25) hF626 (by decide +kernel) (by decide +kernel) rfl rfl rfl rfl (fun _ _ _ _ h => h) (unwanted_guard rfl rfl rfl hF626 rfl rfl rfl) ?_
                  intro a627 hF628; clear hF626
                  refine any_pass (i := 26) hF628 (by decide +kernel) (by decide +kernel) rfl rfl rfl rfl (fun _ _ _ _ h => h) (unwanted_guard rfl rfl rfl hF628 rfl rfl rfl) ?_
                  intro a629 hF630; clear hF628
                  refine any_pass (i := 27) hF630 (by decide +kernel) (by decide +kernel) rfl rfl rfl rfl (fun _ _ _ _ h => h) (unwanted_guard rfl rfl rfl hF630 rfl rfl rfl) ?_
                  intro a631 hF632; clear hF630
                  refine any_pure (i := 28) (v := (.bool false)) hF632 (by decide +kernel) (by decide +kernel) rfl rfl rfl rfl (fun _ _ _ _ h => h) rfl (fun W => (rn_pickF (c_false hF632 rfl rfl) rfl)) ?_
                  intro a633 hF634; clear hF632
                  refine any_pure (i := 29) (v := (.bool false)) hF634 (by decide +kernel) (by decide +kernel) rfl rfl rfl rfl (fun _ _ _ _ h => h) rfl (fun W => (rn_assign (hF634.get rfl))) ?_
                  intro a635 hF636; clear hF634
                  refine any_nil (by decide +kernel) ?_
                  refine hK466 _ _ ?_
                  clear hK466
                  have hF637 := (((((((((((((((((hF636.nil.cons (hF636.get (t := 82) (v := (.bool (decide ((er297 : Int) ≠ (0 : Int))))) rfl)).cons (hF636.get (t := 73) (v := (.bool (decide ((((t251.getD ((xa : Int).toNat) []).getD ((xb : Int).toNat) 0) : Int) ≤ (xw : Int))))) rfl)).cons (hF636.get (t := 61) (v := (.bool false)) rfl)).cons (hF636.get (t := 50) (v := (.bool (decide ((er256 : Int) ≠ (0 : Int))))) rfl)).cons (hF636.get (t := 11) (v := (.int .i64 er297)) rfl)).cons (hF636.get (t := 9) (v := (.slice A289 m290 c291)) rfl)).cons (hF636.get (t := 8) (v := (.int .i64 er256)) rfl)).cons (hF636.get (t := 6) (v := (.slice A248 m249 c250)) rfl)).cons (hF636.get (t := 36) (v := (.bool (decide (((chk n (l ++ ([(⟨xa, xb, xw⟩ : E3)]))) : Int) ≠ (0 : Int))))) rfl)).cons (hF636.get (t := 24) (v := (.bool (decide ((29 : Int) < ((l.length : Nat) : Int))))) rfl)).cons (hF636.get (t := 15) (v := (.bool false)) rfl)).cons (hF636.get (t := 5) (v := (.pointer (some ⟨g64, 0, none⟩))) rfl)).cons (hF636.get (t := 4) (v := (.bool false)) rfl)).cons (hF636.get (t := 3) (v := (.pointer (some ⟨g10, 0, none⟩))) rfl)).cons (hF636.get (t := 2) (v := (.pointer (some ⟨g2, 0, none⟩))) rfl)).cons (hF636.get (t := 1) (v := (.agg #[(.int .i64 xa), (.int .i64 xb), (.int .i64 xw)])) rfl)).cons (hF636.get (t := 0) (v := (.agg #[(.int .i64 n), (.slice A l.length c)])) rfl))
                  clear hF636
                  refine wp_ret ?_
                  refine ret_then ?_
                  refine ret1 hF637 rfl rfl ?_
                  exfalso; omega
              · skip
                refine wp_cond_false (c_false hF464 rfl (decide_eq_false hc465)) ?_
                refine wp_skip ?_
                refine hK459 _ _ ?_
                clear hK459
                refine wp_seq_k (fun K638 hK638 => ?_)
                refine wp_seq_k (fun K639 hK639 => ?_)
                have her2 : er297 = 0 := by omega
                obtain ⟨_, _, hdt2⟩ := hfar300.1.zero her2
                have htl2 := hdt2.len
                refine wp_region_lit ?_
                refine wpl_op (i := 0) rfl (o_val (v := (.slice A289 m290 c291)) hF464 rfl rfl rfl rfl (rn_move (hF464.get rfl)) ?_)
                intro a640 hF641; clear hF464
                refine wpl_op (i := 1) rfl (o_val (v := (.pointer (some ⟨g2, 0, none⟩))) hF641 rfl rfl rfl rfl (rn_field Try.underlying24 rfl (by kernel_rfl) (hF641.get rfl) rfl) ?_)
                intro a642 hF643; clear hF641
                have b644 : Blk w378 g2 24 [(.int .i64 n), (.slice A l.length c)] := ((b364.ext hx369).ext hx379)
                refine wpl_op (i := 2) rfl (o_val (v := (.int .i64 n)) hF643 rfl rfl rfl rfl (rn_load (isAgg_no Try.underlying3 rfl) (hF643.get rfl) (b644.rule.1 0)) ?_)
                intro a645 hF646; clear hF643
                have d647 := ((hf308.ext hx369).ext hx379)
                refine wpl_op (i := 3) rfl (o_call hF646 rfl rfl rfl rfl (rn_call (args2 (hF646.get rfl) (hF646.get rfl)) rfl (by kernel_rfl)) (table_at (u := (.slice A289 m290 c291)) n t292 _ d647 (by omega) hdt2.len hdt2.row) ?_)
                rintro _ w648 ⟨rfl, hx649⟩
                refine ⟨_, rfl, ?_⟩; intro a650 hF651; clear hF646; have z652 := hx649.size
                refine wpl_op (i := 4) rfl (o_val (v := (.bool false)) hF651 rfl rfl rfl rfl (rn_not' (hF651.get rfl) rfl) ?_)
                intro a653 hF654; clear hF651
                refine wpList_nil ?_
                refine hK639 _ _ ?_
                clear hK639
                have hF655 := ((((((((((((((((((hF654.nil.cons (hF654.get (t := 116) (v := (.bool false)) rfl)).cons (hF654.get (t := 82) (v := (.bool (decide ((er297 : Int) ≠ (0 : Int))))) rfl)).cons (hF654.get (t := 73) (v := (.bool (decide ((((t251.getD ((xa : Int).toNat) []).getD ((xb : Int).toNat) 0) : Int) ≤ (xw : Int))))) rfl)).cons (hF654.get (t := 61) (v := (.bool false)) rfl)).cons (hF654.get (t := 50) (v := (.bool (decide ((er256 : Int) ≠ (0 : Int))))) rfl)).cons (hF654.get (t := 11) (v := (.int .i64 er297)) rfl)).cons (hF654.get (t := 9) (v := (.slice A289 m290 c291)) rfl)).cons (hF654.get (t := 8) (v := (.int .i64 er256)) rfl)).cons (hF654.get (t := 6) (v := (.slice A248 m249 c250)) rfl)).cons (hF654.get (t := 36) (v := (.bool (decide (((chk n (l ++ ([(⟨xa, xb, xw⟩ : E3)]))) : Int) ≠ (0 : Int))))) rfl)).cons (hF654.get (t := 24) (v := (.bool (decide ((29 : Int) < ((l.length : Nat) : Int))))) rfl)).cons (hF654.get (t := 15) (v := (.bool false)) rfl)).cons (hF654.get (t := 5) (v := (.pointer (some ⟨g64, 0, none⟩))) rfl)).cons (hF654.get (t := 4) (v := (.bool false)) rfl)).cons (hF654.get (t := 3) (v := (.pointer (some ⟨g10, 0, none⟩))) rfl)).cons (hF654.get (t := 2) (v := (.pointer (some ⟨g2, 0, none⟩))) rfl)).cons (hF654.get (t := 1) (v := (.agg #[(.int .i64 xa), (.int .i64 xb), (.int .i64 xw)])) rfl)).cons (hF654.get (t := 0) (v := (.agg #[(.int .i64 n), (.slice A l.length c)])) rfl))
                clear hF654
                refine wp_cond_false (c_false hF655 rfl rfl) ?_
                refine wp_skip ?_
                refine hK638 _ _ ?_
                clear hK638
                refine wp_seq_k (fun K656 hK656 => ?_)
                refine wp_seq_k (fun K657 hK657 => ?_)
                refine wp_region_lit ?_
                refine wpl_op (i := 0) rfl (o_val (v := (.slice A248 m249 c250)) hF655 rfl rfl rfl rfl (rn_move (hF655.get rfl)) ?_)
                intro a658 hF659; clear hF655
                refine wpl_op (i := 1) rfl (o_val (v := (.int .i64 (m249 : Nat))) hF659 rfl rfl rfl rfl (rn_len_slice Try.underlying33 (hF659.get rfl)) ?_)
                intro a660 hF661; clear hF659
                refine wpl_op (i := 2) rfl (o_val (v := (.int .i64 0)) hF661 rfl rfl rfl rfl (rn_move rfl) ?_)
                intro a662 hF663; clear hF661
                refine wpList_nil ?_
                refine hK657 _ _ ?_
                clear hK657
                refine wp_block ?_
                have d664 := ((((hf267.ext hx304).ext hx369).ext hx379).ext hx649)
                have d665 := (((hf308.ext hx369).ext hx379).ext hx649)
                have b666 : Blk w648 g2 24 [(.int .i64 n), (.slice A l.length c)] := (b644.ext hx649)
                have b667 : Blk w648 g10 41 [(.int .i64 xa), (.int .i64 xb), (.int .i64 xw)] := (b387.ext hx649)
                have b668 : Blk w648 g64 24 [(.int .i64 n), (.slice A198 ((0 + l.length) + 1) c199)] := ((((b285.ext hx304).ext hx369).ext hx379).ext hx649)
                have b669 : Blk w648 g146 41 [(.int .i64 xa), (.int .i64 xb), (.int .i64 xw)] := ((((((((b191.grown hg202 nb210).grownN hg224 (by omega)).ext hx233).ext hx263).ext hx304).ext hx369).ext hx379).ext hx649)
                refine wp_loop (fun a' W => ∃ (i1 : Nat), Sl 144 [(0, (.agg #[(.int .i64 n), (.slice A l.length c)])), (1, (.agg #[(.int .i64 xa), (.int .i64 xb), (.int .i64 xw)])), (2, (.pointer (some ⟨g2, 0, none⟩))), (3, (.pointer (some ⟨g10, 0, none⟩))), (4, (.bool false)), (5, (.pointer (some ⟨g64, 0, none⟩))), (15, (.bool false)), (24, (.bool (decide ((29 : Int) < ((l.length : Nat) : Int))))), (36, (.bool (decide (((chk n (l ++ ([(⟨xa, xb, xw⟩ : E3)]))) : Int) ≠ (0 : Int))))), (6, (.slice A248 m249 c250)), (8, (.int .i64 er256)), (9, (.slice A289 m290 c291)), (11, (.int .i64 er297)), (50, (.bool (decide ((er256 : Int) ≠ (0 : Int))))), (61, (.bool false)), (73, (.bool (decide ((((t251.getD ((xa : Int).toNat) []).getD ((xb : Int).toNat) 0) : Int) ≤ (xw : Int))))), (82, (.bool (decide ((er297 : Int) ≠ (0 : Int))))), (116, (.bool false)), (118, (.int .i64 (m249 : Nat))), (119, (.int .i64 (i1 : Nat)))] a' ∧ i1 ≤ n.toNat ∧ Ext w W ∧ Blk W g2 24 [(.int .i64 n), (.slice A l.length c)] ∧ Blk W g10 41 [(.int .i64 xa), (.int .i64 xb), (.int .i64 xw)] ∧ Blk W g64 24 [(.int .i64 n), (.slice A198 ((0 + l.length) + 1) c199)] ∧ Blk W g146 41 [(.int .i64 xa), (.int .i64 xb), (.int .i64 xw)] ∧ RIss (Clip (fun b => w232.heap.size ≤ b) w262) W (.slice A248 m249 c250) t251 ∧ RIss (Clip (fun b => w262.heap.size ≤ b) w303) W (.slice A289 m290 c291) t292 ∧ w648.heap.size ≤ W.heap.size) (fun a' _ => n.toNat - (intOf (a'.eval (.tmp 119))).toNat) ⟨0, ((((((((((((((((((((hF663.nil.cons (q_get hF663 (t := 119) rfl (by first | rfl | (congr 1; omega) | (congr 1; done)))).cons (q_get hF663 (t := 118) rfl rfl)).cons (q_get hF663 (t := 116) rfl rfl)).cons (q_get hF663 (t := 82) rfl rfl)).cons (q_get hF663 (t := 73) rfl rfl)).cons (q_get hF663 (t := 61) rfl rfl)).cons (q_get hF663 (t := 50) rfl rfl)).cons (q_get hF663 (t := 11) rfl rfl)).cons (q_get hF663 (t := 9) rfl rfl)).cons (q_get hF663 (t := 8) rfl rfl)).cons (q_get hF663 (t := 6) rfl rfl)).cons (q_get hF663 (t := 36) rfl rfl)).cons (q_get hF663 (t := 24) rfl rfl)).cons (q_get hF663 (t := 15) rfl rfl)).cons (q_get hF663 (t := 5) rfl rfl)).cons (q_get hF663 (t := 4) rfl rfl)).cons (q_get hF663 (t := 3) rfl rfl)).cons (q_get hF663 (t := 2) rfl rfl)).cons (q_get hF663 (t := 1) rfl rfl)).cons (q_get hF663 (t := 0) rfl rfl)), (by omega), ((((((((ext_row (((((((((Ext.refl w).trans hx5).trans hx13).trans hx23).trans hx36).trans hx67).grownN hg74 (by omega)).trans hx78).trans hx190) hg202 hf206 (by omega)).grownN hg224 (by omega)).trans hx233).trans hx263).trans hx304).trans hx369).trans hx379).trans hx649), b666, b667, b668, b669, d664, d665, (Nat.le_refl _)⟩ ?_
                clear hF663
                rintro a670 w671 ⟨i1, hF672, hp674, hx673, b675, b676, b677, b678, hf679, hf680, hf681⟩
                have hL682 := hF672
                have z683 := hx673.size
                have z684 := b675.lt
                have z685 := b676.lt
                have z686 := b677.lt
                have z687 := b678.lt
                refine wp_seq_k (fun K688 hK688 => ?_)
                refine wp_region_lit ?_
                refine wpl_op (i := 0) rfl (o_val (v := (.bool (decide (((i1 : Nat) : Int) < ((m249 : Nat) : Int))))) hF672 rfl rfl rfl rfl (rn_lss (hF672.get rfl) (hF672.get rfl)) ?_)
                intro a689 hF690; clear hF672
                refine wpList_nil ?_
                refine hK688 _ _ ?_
                clear hK688
                refine wp_seq_k (fun K691 hK691 => ?_)
                by_cases hc692 : ((i1 : Nat) : Int) < ((m249 : Nat) : Int)
                · skip
                  refine wp_cond_true (c_true hF690 rfl (decide_eq_true hc692)) ?_
                  refine wp_skip ?_
                  refine hK691 _ _ ?_
                  clear hK691
                  refine wp_seq_k (fun K693 hK693 => ?_)
                  refine wp_block ?_
                  refine wp_seq_k (fun K694 hK694 => ?_)
                  refine wp_region_lit ?_
                  refine wpl_op (i := 0) rfl (o_val (v := (.int .i64 (i1 : Nat))) hF690 rfl rfl rfl rfl (rn_move (hF690.get rfl)) ?_)
                  intro a695 hF696; clear hF690
                  refine wpl_op (i := 1) rfl (o_val (v := (.int .i64 (i1 : Nat))) hF696 rfl rfl rfl rfl (rn_assign (hF696.get rfl)) ?_)
                  intro a697 hF698; clear hF696
                  refine wpList_nil ?_
                  refine hK694 _ _ ?_
                  clear hK694
                  refine wp_seq_k (fun K699 hK699 => ?_)
                  refine wp_region_lit ?_
                  refine wpl_op (i := 0) rfl (o_val (v := (.slice A248 m249 c250)) hF698 rfl rfl rfl rfl (rn_move (hF698.get rfl)) ?_)
                  intro a700 hF701; clear hF698
                  refine wpl_op (i := 1) rfl (o_val (v := (.int .i64 (m249 : Nat))) hF701 rfl rfl rfl rfl (rn_len_slice Try.underlying33 (hF701.get rfl)) ?_)
                  intro a702 hF703; clear hF701
                  refine wpl_op (i := 2) rfl (o_val (v := (.int .i64 0)) hF703 rfl rfl rfl rfl (rn_move rfl) ?_)
                  intro a704 hF705; clear hF703
                  refine wpList_nil ?_
                  refine hK699 _ _ ?_
                  clear hK699
                  refine wp_block ?_
                  refine wp_loop (fun a' W => ∃ (k1 : Nat), Sl 144 [(0, (.agg #[(.int .i64 n), (.slice A l.length c)])), (1, (.agg #[(.int .i64 xa), (.int .i64 xb), (.int .i64 xw)])), (2, (.pointer (some ⟨g2, 0, none⟩))), (3, (.pointer (some ⟨g10, 0, none⟩))), (4, (.bool false)), (5, (.pointer (some ⟨g64, 0, none⟩))), (15, (.bool false)), (24, (.bool (decide ((29 : Int) < ((l.length : Nat) : Int))))), (36, (.bool (decide (((chk n (l ++ ([(⟨xa, xb, xw⟩ : E3)]))) : Int) ≠ (0 : Int))))), (6, (.slice A248 m249 c250)), (8, (.int .i64 er256)), (9, (.slice A289 m290 c291)), (11, (.int .i64 er297)), (50, (.bool (decide ((er256 : Int) ≠ (0 : Int))))), (61, (.bool false)), (73, (.bool (decide ((((t251.getD ((xa : Int).toNat) []).getD ((xb : Int).toNat) 0) : Int) ≤ (xw : Int))))), (82, (.bool (decide ((er297 : Int) ≠ (0 : Int))))), (116, (.bool false)), (118, (.int .i64 (m249 : Nat))), (119, (.int .i64 (i1 : Nat))), (120, (.bool (decide (((i1 : Nat) : Int) < ((m249 : Nat) : Int))))), (12, (.int .i64 (i1 : Nat))), (123, (.int .i64 (m249 : Nat))), (124, (.int .i64 (k1 : Nat)))] a' ∧ k1 ≤ n.toNat ∧ Ext w W ∧ Blk W g2 24 [(.int .i64 n), (.slice A l.length c)] ∧ Blk W g10 41 [(.int .i64 xa), (.int .i64 xb), (.int .i64 xw)] ∧ Blk W g64 24 [(.int .i64 n), (.slice A198 ((0 + l.length) + 1) c199)] ∧ Blk W g146 41 [(.int .i64 xa), (.int .i64 xb), (.int .i64 xw)] ∧ RIss (Clip (fun b => w232.heap.size ≤ b) w262) W (.slice A248 m249 c250) t251 ∧ RIss (Clip (fun b => w262.heap.size ≤ b) w303) W (.slice A289 m290 c291) t292 ∧ w671.heap.size ≤ W.heap.size) (fun a' _ => n.toNat - (intOf (a'.eval (.tmp 124))).toNat) ⟨0, ((((((((((((((((((((((((hF705.nil.cons (q_get hF705 (t := 124) rfl (by first | rfl | (congr 1; omega) | (congr 1; done)))).cons (q_get hF705 (t := 123) rfl rfl)).cons (q_get hF705 (t := 12) rfl rfl)).cons (q_get hF705 (t := 120) rfl rfl)).cons (q_get hF705 (t := 119) rfl rfl)).cons (q_get hF705 (t := 118) rfl rfl)).cons (q_get hF705 (t := 116) rfl rfl)).cons (q_get hF705 (t := 82) rfl rfl)).cons (q_get hF705 (t := 73) rfl rfl)).cons (q_get hF705 (t := 61) rfl rfl)).cons (q_get hF705 (t := 50) rfl rfl)).cons (q_get hF705 (t := 11) rfl rfl)).cons (q_get hF705 (t := 9) rfl rfl)).cons (q_get hF705 (t := 8) rfl rfl)).cons (q_get hF705 (t := 6) rfl rfl)).cons (q_get hF705 (t := 36) rfl rfl)).cons (q_get hF705 (t := 24) rfl rfl)).cons (q_get hF705 (t := 15) rfl rfl)).cons (q_get hF705 (t := 5) rfl rfl)).cons (q_get hF705 (t := 4) rfl rfl)).cons (q_get hF705 (t := 3) rfl rfl)).cons (q_get hF705 (t := 2) rfl rfl)).cons (q_get hF705 (t := 1) rfl rfl)).cons (q_get hF705 (t := 0) rfl rfl)), (by omega), ((Ext.refl w).trans hx673), b675, b676, b677, b678, hf679, hf680, (Nat.le_refl _)⟩ ?_
                  clear hF705
                  rintro a706 w707 ⟨k1, hF708, hp710, hx709, b711, b712, b713, b714, hf715, hf716, hf717⟩
                  have hL718 := hF708
                  have z719 := hx709.size
                  have z720 := b711.lt
                  have z721 := b712.lt
                  have z722 := b713.lt
                  have z723 := b714.lt
                  refine wp_seq_k (fun K724 hK724 => ?_)
                  refine wp_region_lit ?_
                  refine wpl_op (i := 0) rfl (o_val (v := (.bool (decide (((k1 : Nat) : Int) < ((m249 : Nat) : Int))))) hF708 rfl rfl rfl rfl (rn_lss (hF708.get rfl) (hF708.get rfl)) ?_)
                  intro a725 hF726; clear hF708
                  refine wpList_nil ?_
                  refine hK724 _ _ ?_
                  clear hK724
                  refine wp_seq_k (fun K727 hK727 => ?_)
                  by_cases hc728 : ((k1 : Nat) : Int) < ((m249 : Nat) : Int)
                  · skip
                    refine wp_cond_true (c_true hF726 rfl (decide_eq_true hc728)) ?_
                    refine wp_skip ?_
                    refine hK727 _ _ ?_
                    clear hK727
                    refine wp_seq_k (fun K729 hK729 => ?_)
                    refine wp_block ?_
                    refine wp_seq_k (fun K730 hK730 => ?_)
                    refine wp_region_lit ?_
                    refine wpl_op (i := 0) rfl (o_val (v := (.int .i64 (k1 : Nat))) hF726 rfl rfl rfl rfl (rn_move (hF726.get rfl)) ?_)
                    intro a731 hF732; clear hF726
                    refine wpl_op (i := 1) rfl (o_val (v := (.int .i64 (k1 : Nat))) hF732 rfl rfl rfl rfl (rn_assign (hF732.get rfl)) ?_)
                    intro a733 hF734; clear hF732
                    refine wpList_nil ?_
                    refine hK730 _ _ ?_
                    clear hK730
                    refine wp_seq_k (fun K735 hK735 => ?_)
                    have hlt := more_less hfar259.1 hfar300.1 her1 her2 (show i1 < n.toNat by omega) (show k1 < n.toNat by omega)
                    have hx737 : ∃ W, w707.drew = W ∧ Ext w707 W := ⟨_, rfl, (Ext.refl _).drew⟩
                    obtain ⟨w736, e738, hx737⟩ := hx737
                    have z739 := hx737.size
                    refine any_start (fun W => Ext w736 W) (fun i => false) 15 #[false, false, false, false, false, false, false, false, false, false, false, false, false, false, false] rfl rfl rfl ?_
                    rw [e738]; clear e738
                    refine any_pure (i := 0) (v := (.slice A289 m290 c291)) hF734 (by decide +kernel) (by decide +kernel) rfl rfl rfl rfl (fun _ _ _ _ h => h) rfl (fun W => (rn_move (hF734.get rfl))) ?_
                    intro a740 hF741; clear hF734
                    refine any_pure (i := 1) (v := (.int .i64 (i1 : Nat))) hF741 (by decide +kernel) (by decide +kernel) rfl rfl rfl rfl (fun _ _ _ _ h => h) rfl (fun W => (rn_move (hF741.get rfl))) ?_
                    intro a742 hF743; clear hF741
                    have d754 := (hf716.ext hx737)
                    obtain ⟨b744, o745, A746, c747, hA748, hl749, hc750, hr751, z752, z753⟩ := RIss.get (i := i1) d754 (by omega)
                    have z755 := hdt2.row i1 (by omega)
                    refine any_pure (i := 2) (v := (.pointer (some ⟨b744, o745 + i1, none⟩))) hF743 (by decide +kernel) (by decide +kernel) rfl rfl rfl rfl (fun _ _ _ _ h => h) rfl (fun W => (rn_index1 Try.underlying33 (by kernel_rfl : (Try.prog.info? 25).map (·.size) = some 1) ((hF743.get rfl).trans (by rw [hA748])) (hF743.get rfl) (by omega : (0 : Int) ≤ (i1 : Nat)) (by omega : ((i1 : Nat) : Int) < ((m290 : Nat) : Int)))) ?_
                    intro a756 hF757; clear hF743
                    have hS758 : Ext w736 w736 := (Ext.refl w736)
                    refine any_val (i := 3) (v := (.slice A746 ((t292.getD i1 []).length) c747)) hF757 (by decide +kernel) (by decide +kernel) rfl rfl rfl rfl (fun _ _ _ _ h => h) rfl hS758 (fun W hW => (rn_load (isAgg_no Try.underlying25 rfl) (hF757.get rfl) (Ext.keep ((Ext.refl w736).trans hW) hc750))) ?_
                    intro a759 hF760; clear hF757
                    refine any_pure (i := 4) (v := (.int .i64 (k1 : Nat))) hF760 (by decide +kernel) (by decide +kernel) rfl rfl rfl rfl (fun _ _ _ _ h => h) rfl (fun W => (rn_move (hF760.get rfl))) ?_
                    intro a761 hF762; clear hF760
                    obtain ⟨b763, o764, hA765, -⟩ := Fl.at hr751 (by omega)
                    refine any_pure (i := 5) (v := (.pointer (some ⟨b763, o764 + k1, none⟩))) hF762 (by decide +kernel) (by decide +kernel) rfl rfl rfl rfl (fun _ _ _ _ h => h) rfl (fun W => (rn_index1 Try.underlying25 (by kernel_rfl : (Try.prog.info? 3).map (·.size) = some 1) ((hF762.get rfl).trans (by rw [hA765])) (hF762.get rfl) (by omega : (0 : Int) ≤ (k1 : Nat)) (by omega : ((k1 : Nat) : Int) < (((t292.getD i1 []).length : Nat) : Int)))) ?_
                    intro a766 hF767; clear hF762
                    refine any_val (i := 6) (v := (.int .i64 ((t292.getD i1 []).getD k1 0))) hF767 (by decide +kernel) (by decide +kernel) rfl rfl rfl rfl (fun _ _ _ _ h => h) rfl hS758 (fun W hW => (rn_load (isAgg_no Try.underlying3 rfl) (hF767.get rfl) (Fl.cellAt (hr751.ext hW) hA765 (intVals_at (i := k1) (by omega))))) ?_
                    intro a768 hF769; clear hF767
                    refine any_pure (i := 7) (v := (.slice A248 m249 c250)) hF769 (by decide +kernel) (by decide +kernel) rfl rfl rfl rfl (fun _ _ _ _ h => h) rfl (fun W => (rn_move (hF769.get rfl))) ?_
                    intro a770 hF771; clear hF769
                    refine any_pure (i := 8) (v := (.int .i64 (i1 : Nat))) hF771 (by decide +kernel) (by decide +kernel) rfl rfl rfl rfl (fun _ _ _ _ h => h) rfl (fun W => (rn_move (hF771.get rfl))) ?_
                    intro a772 hF773; clear hF771
                    have d784 := (hf715.ext hx737)
                    obtain ⟨b774, o775, A776, c777, hA778, hl779, hc780, hr781, z782, z783⟩ := RIss.get (i := i1) d784 (by omega)
                    have z785 := hdt.row i1 (by omega)
                    refine any_pure (i := 9) (v := (.pointer (some ⟨b774, o775 + i1, none⟩))) hF773 (by decide +kernel) (by decide +kernel) rfl rfl rfl rfl (fun _ _ _ _ h => h) rfl (fun W => (rn_index1 Try.underlying33 (by kernel_rfl : (Try.prog.info? 25).map (·.size) = some 1) ((hF773.get rfl).trans (by rw [hA778])) (hF773.get rfl) (by omega : (0 : Int) ≤ (i1 : Nat)) (by omega : ((i1 : Nat) : Int) < ((m249 : Nat) : Int)))) ?_
                    intro a786 hF787; clear hF773
                    refine any_val (i := 10) (v := (.slice A776 ((t251.getD i1 []).length) c777)) hF787 (by decide +kernel) (by decide +kernel) rfl rfl rfl rfl (fun _ _ _ _ h => h) rfl hS758 (fun W hW => (rn_load (isAgg_no Try.underlying25 rfl) (hF787.get rfl) (Ext.keep ((Ext.refl w736).trans hW) hc780))) ?_
                    intro a788 hF789; clear hF787
                    refine any_pure (i := 11) (v := (.int .i64 (k1 : Nat))) hF789 (by decide +kernel) (by decide +kernel) rfl rfl rfl rfl (fun _ _ _ _ h => h) rfl (fun W => (rn_move (hF789.get rfl))) ?_
                    intro a790 hF791; clear hF789
                    obtain ⟨b792, o793, hA794, -⟩ := Fl.at hr781 (by omega)
                    refine any_pure (i := 12) (v := (.pointer (some ⟨b792, o793 + k1, none⟩))) hF791 (by decide +kernel) (by decide +kernel) rfl rfl rfl rfl (fun _ _ _ _ h => h) rfl (fun W => (rn_index1 Try.underlying25 (by kernel_rfl : (Try.prog.info? 3).map (·.size) = some 1) ((hF791.get rfl).trans (by rw [hA794])) (hF791.get rfl) (by omega : (0 : Int) ≤ (k1 : Nat)) (by omega : ((k1 : Nat) : Int) < (((t251.getD i1 []).length : Nat) : Int)))) ?_
                    intro a795 hF796; clear hF791
                    refine any_val (i := 13) (v := (.int .i64 ((t251.getD i1 []).getD k1 0))) hF796 (by decide +kernel) (by decide +kernel) rfl rfl rfl rfl (fun _ _ _ _ h => h) rfl hS758 (fun W hW => (rn_load (isAgg_no Try.underlying3 rfl) (hF796.get rfl) (Fl.cellAt (hr781.ext hW) hA794 (intVals_at (i := k1) (by omega))))) ?_
                    intro a797 hF798; clear hF796
                    refine any_pure (i := 14) (v := (.bool (decide ((((t251.getD i1 []).getD k1 0) : Int) < (((t292.getD i1 []).getD k1 0) : Int))))) hF798 (by decide +kernel) (by decide +kernel) rfl rfl rfl rfl (fun _ _ _ _ h => h) rfl (fun W => (rn_gtr (hF798.get rfl) (hF798.get rfl))) ?_
                    intro a799 hF800; clear hF798
                    refine any_nil (by decide +kernel) ?_
                    refine hK735 _ _ ?_
                    clear hK735
                    have hF801 := (((((((((((((((((((((((((((hF800.nil.cons (hF800.get (t := 141) (v := (.bool (decide ((((t251.getD i1 []).getD k1 0) : Int) < (((t292.getD i1 []).getD k1 0) : Int))))) rfl)).cons (hF800.get (t := 13) (v := (.int .i64 (k1 : Nat))) rfl)).cons (hF800.get (t := 125) (v := (.bool (decide (((k1 : Nat) : Int) < ((m249 : Nat) : Int))))) rfl)).cons (hF800.get (t := 124) (v := (.int .i64 (k1 : Nat))) rfl)).cons (hF800.get (t := 123) (v := (.int .i64 (m249 : Nat))) rfl)).cons (hF800.get (t := 12) (v := (.int .i64 (i1 : Nat))) rfl)).cons (hF800.get (t := 120) (v := (.bool (decide (((i1 : Nat) : Int) < ((m249 : Nat) : Int))))) rfl)).cons (hF800.get (t := 119) (v := (.int .i64 (i1 : Nat))) rfl)).cons (hF800.get (t := 118) (v := (.int .i64 (m249 : Nat))) rfl)).cons (hF800.get (t := 116) (v := (.bool false)) rfl)).cons (hF800.get (t := 82) (v := (.bool (decide ((er297 : Int) ≠ (0 : Int))))) rfl)).cons (hF800.get (t := 73) (v := (.bool (decide ((((t251.getD ((xa : Int).toNat) []).getD ((xb : Int).toNat) 0) : Int) ≤ (xw : Int))))) rfl)).cons (hF800.get (t := 61) (v := (.bool false)) rfl)).cons (hF800.get (t := 50) (v := (.bool (decide ((er256 : Int) ≠ (0 : Int))))) rfl)).cons (hF800.get (t := 11) (v := (.int .i64 er297)) rfl)).cons (hF800.get (t := 9) (v := (.slice A289 m290 c291)) rfl)).cons (hF800.get (t := 8) (v := (.int .i64 er256)) rfl)).cons (hF800.get (t := 6) (v := (.slice A248 m249 c250)) rfl)).cons (hF800.get (t := 36) (v := (.bool (decide (((chk n (l ++ ([(⟨xa, xb, xw⟩ : E3)]))) : Int) ≠ (0 : Int))))) rfl)).cons (hF800.get (t := 24) (v := (.bool (decide ((29 : Int) < ((l.length : Nat) : Int))))) rfl)).cons (hF800.get (t := 15) (v := (.bool false)) rfl)).cons (hF800.get (t := 5) (v := (.pointer (some ⟨g64, 0, none⟩))) rfl)).cons (hF800.get (t := 4) (v := (.bool false)) rfl)).cons (hF800.get (t := 3) (v := (.pointer (some ⟨g10, 0, none⟩))) rfl)).cons (hF800.get (t := 2) (v := (.pointer (some ⟨g2, 0, none⟩))) rfl)).cons (hF800.get (t := 1) (v := (.agg #[(.int .i64 xa), (.int .i64 xb), (.int .i64 xw)])) rfl)).cons (hF800.get (t := 0) (v := (.agg #[(.int .i64 n), (.slice A l.length c)])) rfl))
                    clear hF800
                    by_cases hc802 : (((t251.getD i1 []).getD k1 0) : Int) < (((t292.getD i1 []).getD k1 0) : Int)
                    · skip
                      refine wp_cond_true (c_true hF801 rfl (decide_eq_true hc802)) ?_
                      refine wp_seq_k (fun K803 hK803 => ?_)
                      refine wp_region_lit ?_
                      refine wpl_op (i := 0) rfl (o_val (v := (.bool false)) hF801 rfl rfl rfl rfl (rn_assign rfl) ?_)
                      intro a804 hF805; clear hF801
                      refine wpList_nil ?_
                      refine hK803 _ _ ?_
                      clear hK803
                      refine wp_ret ?_
                      refine ret_block ?_
                      refine ret_then ?_
                      refine ret_then ?_
                      refine ret_block ?_
                      refine ret_block ?_
                      refine ret_then ?_
                      refine ret_then ?_
                      refine ret_block ?_
                      refine ret_then ?_
                      refine ret1 hF805 rfl rfl ?_
                      exfalso; omega
                    · skip
                      refine wp_cond_false (c_false hF801 rfl (decide_eq_false hc802)) ?_
                      refine wp_skip ?_
                      refine hK729 _ _ ?_
                      clear hK729
                      refine wp_region_lit ?_
                      refine wpl_op (i := 0) rfl (o_val (v := (.int .i64 (k1 + 1 : Nat))) hF801 rfl rfl rfl rfl (rn_addN (a := k1) (b := 1) (hF801.get rfl) rfl (by omega)) ?_)
                      intro a806 hF807; clear hF801
                      refine wpl_op (i := 1) rfl (o_val (v := (.int .i64 (k1 + 1 : Nat))) hF807 rfl rfl rfl rfl (rn_move (hF807.get rfl)) ?_)
                      intro a808 hF809; clear hF807
                      refine wpList_nil ?_
                      have b810 : Blk w736 g2 24 [(.int .i64 n), (.slice A l.length c)] := (b711.ext hx737)
                      have b811 : Blk w736 g10 41 [(.int .i64 xa), (.int .i64 xb), (.int .i64 xw)] := (b712.ext hx737)
                      have b812 : Blk w736 g64 24 [(.int .i64 n), (.slice A198 ((0 + l.length) + 1) c199)] := (b713.ext hx737)
                      have b813 : Blk w736 g146 41 [(.int .i64 xa), (.int .i64 xb), (.int .i64 xw)] := (b714.ext hx737)
                      refine ⟨⟨(k1 + 1), ((((((((((((((((((((((((hF809.nil.cons (q_get hF809 (t := 124) rfl (by first | rfl | (congr 1; omega) | (congr 1; done)))).cons (q_get hF809 (t := 123) rfl rfl)).cons (q_get hF809 (t := 12) rfl rfl)).cons (q_get hF809 (t := 120) rfl rfl)).cons (q_get hF809 (t := 119) rfl rfl)).cons (q_get hF809 (t := 118) rfl rfl)).cons (q_get hF809 (t := 116) rfl rfl)).cons (q_get hF809 (t := 82) rfl rfl)).cons (q_get hF809 (t := 73) rfl rfl)).cons (q_get hF809 (t := 61) rfl rfl)).cons (q_get hF809 (t := 50) rfl rfl)).cons (q_get hF809 (t := 11) rfl rfl)).cons (q_get hF809 (t := 9) rfl rfl)).cons (q_get hF809 (t := 8) rfl rfl)).cons (q_get hF809 (t := 6) rfl rfl)).cons (q_get hF809 (t := 36) rfl rfl)).cons (q_get hF809 (t := 24) rfl rfl)).cons (q_get hF809 (t := 15) rfl rfl)).cons (q_get hF809 (t := 5) rfl rfl)).cons (q_get hF809 (t := 4) rfl rfl)).cons (q_get hF809 (t := 3) rfl rfl)).cons (q_get hF809 (t := 2) rfl rfl)).cons (q_get hF809 (t := 1) rfl rfl)).cons (q_get hF809 (t := 0) rfl rfl)), (by omega), (((Ext.refl w).trans hx709).trans hx737), b810, b811, b812, b813, d784, d754, (by omega)⟩, ?_⟩
                      rw [hF809.get (t := 124) rfl, hL718.get (t := 124) rfl]; simp [intOf] <;> omega
                  · skip
                    refine wp_cond_false (c_false hF726 rfl (decide_eq_false hc728)) ?_
                    refine wp_exit ?_
                    refine exit_then ?_
                    refine exit_then ?_
                    refine exit_here ?_
                    refine hK693 _ _ ?_
                    clear hK693
                    refine wp_region_lit ?_
                    refine wpl_op (i := 0) rfl (o_val (v := (.int .i64 (i1 + 1 : Nat))) hF726 rfl rfl rfl rfl (rn_addN (a := i1) (b := 1) (hF726.get rfl) rfl (by omega)) ?_)
                    intro a814 hF815; clear hF726
                    refine wpl_op (i := 1) rfl (o_val (v := (.int .i64 (i1 + 1 : Nat))) hF815 rfl rfl rfl rfl (rn_move (hF815.get rfl)) ?_)
                    intro a816 hF817; clear hF815
                    refine wpList_nil ?_
                    refine ⟨⟨(i1 + 1), ((((((((((((((((((((hF817.nil.cons (q_get hF817 (t := 119) rfl (by first | rfl | (congr 1; omega) | (congr 1; done)))).cons (q_get hF817 (t := 118) rfl rfl)).cons (q_get hF817 (t := 116) rfl rfl)).cons (q_get hF817 (t := 82) rfl rfl)).cons (q_get hF817 (t := 73) rfl rfl)).cons (q_get hF817 (t := 61) rfl rfl)).cons (q_get hF817 (t := 50) rfl rfl)).cons (q_get hF817 (t := 11) rfl rfl)).cons (q_get hF817 (t := 9) rfl rfl)).cons (q_get hF817 (t := 8) rfl rfl)).cons (q_get hF817 (t := 6) rfl rfl)).cons (q_get hF817 (t := 36) rfl rfl)).cons (q_get hF817 (t := 24) rfl rfl)).cons (q_get hF817 (t := 15) rfl rfl)).cons (q_get hF817 (t := 5) rfl rfl)).cons (q_get hF817 (t := 4) rfl rfl)).cons (q_get hF817 (t := 3) rfl rfl)).cons (q_get hF817 (t := 2) rfl rfl)).cons (q_get hF817 (t := 1) rfl rfl)).cons (q_get hF817 (t := 0) rfl rfl)), (by omega), ((Ext.refl w).trans hx709), b711, b712, b713, b714, hf715, hf716, (by omega)⟩, ?_⟩
                    rw [hF817.get (t := 119) rfl, hL682.get (t := 119) rfl]; simp [intOf] <;> omega
                · skip
                  refine wp_cond_false (c_false hF690 rfl (decide_eq_false hc692)) ?_
                  refine wp_exit ?_
                  refine exit_then ?_
                  refine exit_then ?_
                  refine exit_here ?_
                  refine hK656 _ _ ?_
                  clear hK656
                  refine wp_seq_k (fun K818 hK818 => ?_)
                  refine wp_region_lit ?_
                  refine wpl_op (i := 0) rfl (o_val (v := (.bool true)) hF690 rfl rfl rfl rfl (rn_assign rfl) ?_)
                  intro a819 hF820; clear hF690
                  refine wpList_nil ?_
                  refine hK818 _ _ ?_
                  clear hK818
                  refine wp_ret ?_
                  refine ret1 hF820 rfl rfl ?_
                  exact ⟨rfl, ((Ext.refl w).trans hx673)⟩
      refine any_have (n1 := 4) (L1 := #[true, true, true, false, true, true, false, false, false]) (fun a' W => ∃ (g91 : Nat) (g134 : Nat), Sl 144 [(0, (.agg #[(.int .i64 n), (.slice A l.length c)])), (1, (.agg #[(.int .i64 xa), (.int .i64 xb), (.int .i64 xw)])), (2, (.pointer (some ⟨g2, 0, none⟩))), (3, (.pointer (some ⟨g10, 0, none⟩))), (4, (.bool false)), (5, (.pointer (some ⟨g64, 0, none⟩))), (15, (.bool false)), (24, (.bool (decide ((29 : Int) < ((l.length : Nat) : Int))))), (26, (.slice (some ⟨g91, 0, none⟩) 0 0)), (28, (.slice A l.length c)), (31, (.slice (some ⟨g134, 0, none⟩) 1 1))] a' ∧ Ext w77 W ∧ Blk W g91 41 [] ∧ w77.heap.size ≤ g91 ∧ Blk W g134 41 [(.int .i64 xa), (.int .i64 xb), (.int .i64 xw)] ∧ w77.heap.size ≤ g134 ∧ g91 ≠ g134) ?_ (fun st821 => ?_)
      · skip
        rintro a822 w823 ⟨g91, g134, hF824, hx825, b826, z827, b828, z829, z830⟩
        clear hF71
        have z831 := hx825.size
        have z832 := b826.lt
        have z833 := b828.lt
        refine any_one (i := 3) (by decide +kernel) rfl ?_
        have d835 := (hc.pres (((((((((Pres.refl w).ext hx5).ext hx13).ext hx23).ext hx36).ext hx67).grownN hg74 (fun h => by simp only [Clip] at h; omega)).ext hx78).ext hx825))
        have hf844 := (own_blk0 (k := 3) b826)
        have b845 : Blk w823 g10 41 [(.int .i64 xa), (.int .i64 xb), (.int .i64 xw)] := ((((((b12.ext hx23).ext hx36).ext hx67).grownN hg74 (by omega)).ext hx78).ext hx825)
        have nb846 : some g10 ≠ (Value.slice (some ⟨g91, 0, none⟩) 0 0).ownBlock := (ne_slice (n := 0) (c := 0) (by omega : g10 ≠ g91))
        have z847 := b845.lt
        have nb848 : some g134 ≠ (Value.slice (some ⟨g91, 0, none⟩) 0 0).ownBlock := (ne_slice (n := 0) (c := 0) (by omega : g134 ≠ g91))
        have z849 := b828.lt
        refine o_appB (zs := edVals l) El22 hF824 rfl rfl rfl rfl rfl (hF824.get rfl) (hF824.get rfl) hf844 (Fl.cel d835).2.2 (by omega) (by omega) (by omega) (List.nil_append _) ?_
        intro A836 c837 w838 a850 hF851 r839 hg840 z841 z842 hnb843; clear hF824; have z852 := hg840.size
        have nb853 := hnb843 g10 (by omega) nb846
        have nb854 := hnb843 g134 (by omega) nb848
        have hg855 : w823.grownBy w838 (some g91) := hg840
        have b856 : Blk w838 g2 24 [(.int .i64 n), (.slice A l.length c)] := (((((b47.ext hx67).grownN hg74 (by omega)).ext hx78).ext hx825).grownN hg855 (by omega))
        have b857 : Blk w838 g10 41 [(.int .i64 xa), (.int .i64 xb), (.int .i64 xw)] := (b845.grownN hg855 (by omega))
        have b858 : Blk w838 g64 24 [(.int .i64 n), (.slice A l.length c)] := (((b73.ext hx78).ext hx825).grownN hg855 (by omega))
        refine ⟨fun _ _ => ⟨(((Ext.refl w77).trans hx825).grownN hg855 (by omega)), b856, b857, b858⟩, ?_⟩
        have b859 : Blk w838 g134 41 [(.int .i64 xa), (.int .i64 xb), (.int .i64 xw)] := (b828.grownN hg855 (by omega))
        exact st186 _ _ ⟨A836, c837, g134, ((((((((((hF851.nil.cons (hF851.get (t := 31) (v := (.slice (some ⟨g134, 0, none⟩) 1 1)) rfl)).cons (hF851.get (t := 29) (v := (.slice A836 (0 + l.length) c837)) rfl)).cons (hF851.get (t := 24) (v := (.bool (decide ((29 : Int) < ((l.length : Nat) : Int))))) rfl)).cons (hF851.get (t := 15) (v := (.bool false)) rfl)).cons (hF851.get (t := 5) (v := (.pointer (some ⟨g64, 0, none⟩))) rfl)).cons (hF851.get (t := 4) (v := (.bool false)) rfl)).cons (hF851.get (t := 3) (v := (.pointer (some ⟨g10, 0, none⟩))) rfl)).cons (hF851.get (t := 2) (v := (.pointer (some ⟨g2, 0, none⟩))) rfl)).cons (hF851.get (t := 1) (v := (.agg #[(.int .i64 xa), (.int .i64 xb), (.int .i64 xw)])) rfl)).cons (hF851.get (t := 0) (v := (.agg #[(.int .i64 n), (.slice A l.length c)])) rfl)), (((Ext.refl w77).trans hx825).grownN hg855 (by omega)), b859, (by omega), (own_base r839 (by omega)), nb854⟩
      refine any_pure (i := 1) (v := (.pointer (some ⟨g2, 1, none⟩))) hF71 (by decide +kernel) (by decide +kernel) rfl rfl rfl rfl (fun _ _ _ _ h => h) rfl (fun W => (rn_field Try.underlying24 rfl (by kernel_rfl) (hF71.get rfl) rfl)) ?_
      intro a860 hF861; clear hF71
      have b863 : Blk w77 g2 24 [(.int .i64 n), (.slice A l.length c)] := (((b47.ext hx67).grownN hg74 (by omega)).ext hx78)
      have b864 : Blk w77 g10 41 [(.int .i64 xa), (.int .i64 xb), (.int .i64 xw)] := (((((b12.ext hx23).ext hx36).ext hx67).grownN hg74 (by omega)).ext hx78)
      have b865 : Blk w77 g64 24 [(.int .i64 n), (.slice A l.length c)] := (b73.ext hx78)
      have hS862 : Ext w77 w77 ∧ Blk w77 g2 24 [(.int .i64 n), (.slice A l.length c)] ∧ Blk w77 g10 41 [(.int .i64 xa), (.int .i64 xb), (.int .i64 xw)] ∧ Blk w77 g64 24 [(.int .i64 n), (.slice A l.length c)] := ⟨(Ext.refl w77), b863, b864, b865⟩
      refine any_val (i := 2) (v := (.slice A l.length c)) hF861 (by decide +kernel) (by decide +kernel) rfl rfl rfl rfl (fun _ _ _ _ h => h) rfl hS862 (fun W hW => (rn_load (isAgg_no Try.underlying22 rfl) (hF861.get rfl) (hW.2.1.rule.1 1))) ?_
      intro a866 hF867; clear hF861
      refine any_val (i := 4) (v := (.agg #[(.int .i64 xa), (.int .i64 xb), (.int .i64 xw)])) hF867 (by decide +kernel) (by decide +kernel) rfl rfl rfl rfl (fun _ _ _ _ h => h) rfl hS862 (fun W hW => (rn_loadBlk (hF867.get rfl) hW.2.2.1 Try.underlying41 rfl (by kernel_rfl : (Try.prog.info? 41).map (·.size) = some 3))) ?_
      intro a868 hF869; clear hF867
      refine any_two (i := 0) (k := 5) (by decide +kernel) rfl rfl ?_ ?_
      · skip
        refine o_new (fun g => (.slice (some ⟨g, 0, none⟩) 0 0)) [] 41 hF869 rfl rfl rfl rfl (rn_buildSlice (parts0 ) (by kernel_rfl)) ?_
        intro g870 w871 a876 hF877 z874 z875 b872 hx873; clear hF869
        have b878 : Blk w871 g2 24 [(.int .i64 n), (.slice A l.length c)] := (b863.ext hx873)
        have b879 : Blk w871 g10 41 [(.int .i64 xa), (.int .i64 xb), (.int .i64 xw)] := (b864.ext hx873)
        have b880 : Blk w871 g64 24 [(.int .i64 n), (.slice A l.length c)] := (b865.ext hx873)
        refine ⟨fun _ _ => ⟨((Ext.refl w77).trans hx873), b878, b879, b880⟩, ?_⟩
        refine any_two (i := 3) (k := 5) (by decide +kernel) rfl rfl ?_ ?_
        · skip
          have d882 := (hc.pres (((((((((Pres.refl w).ext hx5).ext hx13).ext hx23).ext hx36).ext hx67).grownN hg74 (fun h => by simp only [Clip] at h; omega)).ext hx78).ext hx873))
          have hf891 := (own_blk0 (k := 3) b872)
          have nb892 : some g10 ≠ (Value.slice (some ⟨g870, 0, none⟩) 0 0).ownBlock := (ne_slice (n := 0) (c := 0) (by omega : g10 ≠ g870))
          have z893 := b879.lt
          refine o_appB (zs := edVals l) El22 hF877 rfl rfl rfl rfl rfl (hF877.get rfl) (hF877.get rfl) hf891 (Fl.cel d882).2.2 (by omega) (by omega) (by omega) (List.nil_append _) ?_
          intro A883 c884 w885 a894 hF895 r886 hg887 z888 z889 hnb890; clear hF877; have z896 := hg887.size
          have nb897 := hnb890 g10 (by omega) nb892
          have hg898 : w871.grownBy w885 (some g870) := hg887
          have b899 : Blk w885 g2 24 [(.int .i64 n), (.slice A l.length c)] := (b878.grownN hg898 (by omega))
          have b900 : Blk w885 g10 41 [(.int .i64 xa), (.int .i64 xb), (.int .i64 xw)] := (b879.grownN hg898 (by omega))
          have b901 : Blk w885 g64 24 [(.int .i64 n), (.slice A l.length c)] := (b880.grownN hg898 (by omega))
          refine ⟨fun _ _ => ⟨(((Ext.refl w77).trans hx873).grownN hg898 (by omega)), b899, b900, b901⟩, ?_⟩
          refine any_one (i := 5) (by decide +kernel) rfl ?_
          have hf902 := r886
          refine o_new (fun g => (.slice (some ⟨g, 0, none⟩) 1 1)) [(.int .i64 xa), (.int .i64 xb), (.int .i64 xw)] 41 hF895 rfl rfl rfl rfl (rn_buildSlice (parts1 (hF895.get rfl)) (by kernel_rfl)) ?_
          intro g903 w904 a909 hF910 z907 z908 b905 hx906; clear hF895
          have nb911 := own_new (g := g903) hf902 (by omega)
          have b912 : Blk w904 g2 24 [(.int .i64 n), (.slice A l.length c)] := (b899.ext hx906)
          have b913 : Blk w904 g10 41 [(.int .i64 xa), (.int .i64 xb), (.int .i64 xw)] := (b900.ext hx906)
          have b914 : Blk w904 g64 24 [(.int .i64 n), (.slice A l.length c)] := (b901.ext hx906)
          refine ⟨fun _ _ => ⟨((((Ext.refl w77).trans hx873).grownN hg898 (by omega)).trans hx906), b912, b913, b914⟩, ?_⟩
          have r915 := (own_ext r886 hx906)
          exact st186 _ _ ⟨A883, c884, g903, ((((((((((hF910.nil.cons (hF910.get (t := 31) (v := (.slice (some ⟨g903, 0, none⟩) 1 1)) rfl)).cons (hF910.get (t := 29) (v := (.slice A883 (0 + l.length) c884)) rfl)).cons (hF910.get (t := 24) (v := (.bool (decide ((29 : Int) < ((l.length : Nat) : Int))))) rfl)).cons (hF910.get (t := 15) (v := (.bool false)) rfl)).cons (hF910.get (t := 5) (v := (.pointer (some ⟨g64, 0, none⟩))) rfl)).cons (hF910.get (t := 4) (v := (.bool false)) rfl)).cons (hF910.get (t := 3) (v := (.pointer (some ⟨g10, 0, none⟩))) rfl)).cons (hF910.get (t := 2) (v := (.pointer (some ⟨g2, 0, none⟩))) rfl)).cons (hF910.get (t := 1) (v := (.agg #[(.int .i64 xa), (.int .i64 xb), (.int .i64 xw)])) rfl)).cons (hF910.get (t := 0) (v := (.agg #[(.int .i64 n), (.slice A l.length c)])) rfl)), ((((Ext.refl w77).trans hx873).grownN hg898 (by omega)).trans hx906), b905, (by omega), (own_base r915 (by omega)), nb911⟩
        · skip
          refine o_new (fun g => (.slice (some ⟨g, 0, none⟩) 1 1)) [(.int .i64 xa), (.int .i64 xb), (.int .i64 xw)] 41 hF877 rfl rfl rfl rfl (rn_buildSlice (parts1 (hF877.get rfl)) (by kernel_rfl)) ?_
          intro g916 w917 a922 hF923 z920 z921 b918 hx919; clear hF877
          have b924 : Blk w917 g2 24 [(.int .i64 n), (.slice A l.length c)] := (b878.ext hx919)
          have b925 : Blk w917 g10 41 [(.int .i64 xa), (.int .i64 xb), (.int .i64 xw)] := (b879.ext hx919)
          have b926 : Blk w917 g64 24 [(.int .i64 n), (.slice A l.length c)] := (b880.ext hx919)
          refine ⟨fun _ _ => ⟨(((Ext.refl w77).trans hx873).trans hx919), b924, b925, b926⟩, ?_⟩
          have b927 : Blk w917 g870 41 [] := (b872.ext hx919)
          exact st821 _ _ ⟨g870, g916, (((((((((((hF923.nil.cons (hF923.get (t := 31) (v := (.slice (some ⟨g916, 0, none⟩) 1 1)) rfl)).cons (hF923.get (t := 28) (v := (.slice A l.length c)) rfl)).cons (hF923.get (t := 26) (v := (.slice (some ⟨g870, 0, none⟩) 0 0)) rfl)).cons (hF923.get (t := 24) (v := (.bool (decide ((29 : Int) < ((l.length : Nat) : Int))))) rfl)).cons (hF923.get (t := 15) (v := (.bool false)) rfl)).cons (hF923.get (t := 5) (v := (.pointer (some ⟨g64, 0, none⟩))) rfl)).cons (hF923.get (t := 4) (v := (.bool false)) rfl)).cons (hF923.get (t := 3) (v := (.pointer (some ⟨g10, 0, none⟩))) rfl)).cons (hF923.get (t := 2) (v := (.pointer (some ⟨g2, 0, none⟩))) rfl)).cons (hF923.get (t := 1) (v := (.agg #[(.int .i64 xa), (.int .i64 xb), (.int .i64 xw)])) rfl)).cons (hF923.get (t := 0) (v := (.agg #[(.int .i64 n), (.slice A l.length c)])) rfl)), (((Ext.refl w77).trans hx873).trans hx919), b927, (by omega), b918, (by omega), (by omega)⟩
      · skip
        refine o_new (fun g => (.slice (some ⟨g, 0, none⟩) 1 1)) [(.int .i64 xa), (.int .i64 xb), (.int .i64 xw)] 41 hF869 rfl rfl rfl rfl (rn_buildSlice (parts1 (hF869.get rfl)) (by kernel_rfl)) ?_
        intro g928 w929 a934 hF935 z932 z933 b930 hx931; clear hF869
        have b936 : Blk w929 g2 24 [(.int .i64 n), (.slice A l.length c)] := (b863.ext hx931)
        have b937 : Blk w929 g10 41 [(.int .i64 xa), (.int .i64 xb), (.int .i64 xw)] := (b864.ext hx931)
        have b938 : Blk w929 g64 24 [(.int .i64 n), (.slice A l.length c)] := (b865.ext hx931)
        refine ⟨fun _ _ => ⟨((Ext.refl w77).trans hx931), b936, b937, b938⟩, ?_⟩
        refine any_one (i := 0) (by decide +kernel) rfl ?_
        refine o_new (fun g => (.slice (some ⟨g, 0, none⟩) 0 0)) [] 41 hF935 rfl rfl rfl rfl (rn_buildSlice (parts0 ) (by kernel_rfl)) ?_
        intro g939 w940 a945 hF946 z943 z944 b941 hx942; clear hF935
        have b947 : Blk w940 g2 24 [(.int .i64 n), (.slice A l.length c)] := (b936.ext hx942)
        have b948 : Blk w940 g10 41 [(.int .i64 xa), (.int .i64 xb), (.int .i64 xw)] := (b937.ext hx942)
        have b949 : Blk w940 g64 24 [(.int .i64 n), (.slice A l.length c)] := (b938.ext hx942)
        refine ⟨fun _ _ => ⟨(((Ext.refl w77).trans hx931).trans hx942), b947, b948, b949⟩, ?_⟩
        have b950 : Blk w940 g928 41 [(.int .i64 xa), (.int .i64 xb), (.int .i64 xw)] := (b930.ext hx942)
        exact st821 _ _ ⟨g939, g928, (((((((((((hF946.nil.cons (hF946.get (t := 31) (v := (.slice (some ⟨g928, 0, none⟩) 1 1)) rfl)).cons (hF946.get (t := 28) (v := (.slice A l.length c)) rfl)).cons (hF946.get (t := 26) (v := (.slice (some ⟨g939, 0, none⟩) 0 0)) rfl)).cons (hF946.get (t := 24) (v := (.bool (decide ((29 : Int) < ((l.length : Nat) : Int))))) rfl)).cons (hF946.get (t := 15) (v := (.bool false)) rfl)).cons (hF946.get (t := 5) (v := (.pointer (some ⟨g64, 0, none⟩))) rfl)).cons (hF946.get (t := 4) (v := (.bool false)) rfl)).cons (hF946.get (t := 3) (v := (.pointer (some ⟨g10, 0, none⟩))) rfl)).cons (hF946.get (t := 2) (v := (.pointer (some ⟨g2, 0, none⟩))) rfl)).cons (hF946.get (t := 1) (v := (.agg #[(.int .i64 xa), (.int .i64 xb), (.int .i64 xw)])) rfl)).cons (hF946.get (t := 0) (v := (.agg #[(.int .i64 n), (.slice A l.length c)])) rfl)), (((Ext.refl w77).trans hx931).trans hx942), b941, (by omega), b950, (by omega), (by omega)⟩
  · skip
    refine wpl_op (i := 4) rfl (o_skip hF43 rfl (unwanted_guard rfl rfl rfl hF43 rfl (not_f hc44) rfl) rfl rfl ?_)
    intro a951 hF952; clear hF43
    refine wpl_op (i := 5) rfl (o_skip hF952 rfl (unwanted_guard rfl rfl rfl hF952 rfl (not_f hc44) rfl) rfl rfl ?_)
    intro a953 hF954; clear hF952
    refine wpl_op (i := 6) rfl (o_skip hF954 rfl (unwanted_guard rfl rfl rfl hF954 rfl (not_f hc44) rfl) rfl rfl ?_)
    intro a955 hF956; clear hF954
    refine wpl_op (i := 7) rfl (o_skip hF956 rfl (unwanted_guard rfl rfl rfl hF956 rfl (not_f hc44) rfl) rfl rfl ?_)
    intro a957 hF958; clear hF956
    refine wpl_op (i := 8) rfl (o_val (v := (.bool true)) hF958 rfl rfl rfl rfl (rn_pickT (c_true hF958 rfl (not_f hc44)) rfl) ?_)
    intro a959 hF960; clear hF958
    refine wpList_nil ?_
    refine hK30 _ _ ?_
    clear hK30
    have hF961 := (((((((hF960.nil.cons (hF960.get (t := 24) (v := (.bool true)) rfl)).cons (hF960.get (t := 15) (v := (.bool false)) rfl)).cons (hF960.get (t := 4) (v := (.bool false)) rfl)).cons (hF960.get (t := 3) (v := (.pointer (some ⟨g10, 0, none⟩))) rfl)).cons (hF960.get (t := 2) (v := (.pointer (some ⟨g2, 0, none⟩))) rfl)).cons (hF960.get (t := 1) (v := (.agg #[(.int .i64 xa), (.int .i64 xb), (.int .i64 xw)])) rfl)).cons (hF960.get (t := 0) (v := (.agg #[(.int .i64 n), (.slice A l.length c)])) rfl))
    clear hF960
    refine wp_cond_true (c_true hF961 rfl rfl) ?_
    refine wp_seq_k (fun K962 hK962 => ?_)
    refine wp_region_lit ?_
    refine wpl_op (i := 0) rfl (o_val (v := (.bool true)) hF961 rfl rfl rfl rfl (rn_assign rfl) ?_)
    intro a963 hF964; clear hF961
    refine wpList_nil ?_
    refine hK962 _ _ ?_
    clear hK962
    refine wp_ret ?_
    refine ret_then ?_
    refine ret1 hF964 rfl rfl ?_
    exact ⟨rfl, (((((Ext.refl w).trans hx5).trans hx13).trans hx23).trans hx36)⟩

end Go.Proofs.Ytjmdodgmoehfkaa
