/- The law DigestTags walked. -/
import Derived.Test.YtgodliookpgliaaDoorProg
import Derived.Test.YtgodliookpgliaaDoorLawA3
import Derived.Test.YtgodliookpgliaaDoorSeq3
import Derived.KernelRfl
namespace Go.Proofs.YtgodliookpgliaaDoor
open Go.RowKit

variable {S S' : Nat → Prop}

theorem pathF_32 (l : List (List UInt8)) (a : Int) : All32 (pathF l a).1 := by
  unfold pathF
  split
  · exact All32.nil
  · exact pathD_32 _ _ _ (Nat.le_refl _)
theorem pathF_len (l : List (List UInt8)) (a : Int) : (pathF l a).1.length ≤ l.length := by
  unfold pathF
  split
  · exact Nat.zero_le _
  · exact pathD_len _ _

set_option maxRecDepth 100000 in
set_option maxHeartbeats 1000000 in
theorem tags_any (tag : List UInt8) (A : Option Addr) (c : Nat) (b : List UInt8) (w : World) (hf : Fl S w 1 (.slice A b.length c) b.length (byteVals b)) (hG : Glob w) (htl : tag.length ≤ 9223372036854775807) :
    Calls Tryd.prog 5 #[strOf tag, .slice A b.length c] w (fun e w' => e = .returned (.bool true) ∧ Ext w w') := by
  have hc : Fl (Clip S w) w 1 (.slice A b.length c) b.length (byteVals b) := hf.clip
  have hcc := (Fl.cel hc).2.1
  refine calls_enter (l := [(strOf tag), (.slice A b.length c)]) Tryd.func5 rfl rfl rfl (fun aA hF => ?_)
  refine wp_seq_k (fun K1 hK1 => ?_)
  refine wp_region_lit ?_
  refine wpl_op (i := 0) rfl (o_val (v := (.bool false)) hF rfl rfl rfl rfl (rn_assign rfl) ?_)
  intro a2 hF3; clear hF
  refine wpList_nil ?_
  refine hK1 _ _ ?_
  clear hK1
  refine wp_seq_k (fun K4 hK4 => ?_)
  refine wp_seq_k (fun K5 hK5 => ?_)
  refine wp_region_lit ?_
  refine wpl_op (i := 0) rfl (o_call hF3 rfl rfl rfl rfl (rn_call (args0 ) rfl (by kernel_rfl)) (sane_any _ (hG.ext (Ext.refl w))) ?_)
  rintro _ w6 ⟨rfl, hx7⟩
  refine ⟨_, rfl, ?_⟩; intro a8 hF9; clear hF3; have z10 := hx7.size
  refine wpl_op (i := 1) rfl (o_val (v := (.bool false)) hF9 rfl rfl rfl rfl (rn_not' (hF9.get rfl) rfl) ?_)
  intro a11 hF12; clear hF9
  refine wpList_nil ?_
  refine hK5 _ _ ?_
  clear hK5
  refine wp_cond_false (c_false hF12 rfl rfl) ?_
  refine wp_skip ?_
  refine hK4 _ _ ?_
  clear hK4
  refine wp_seq_k (fun K13 hK13 => ?_)
  refine wp_seq_k (fun K14 hK14 => ?_)
  refine wp_region_lit ?_
  refine wpl_op (i := 0) rfl (o_val (v := (strOf tag)) hF12 rfl rfl rfl rfl (rn_move (hF12.get rfl)) ?_)
  intro a15 hF16; clear hF12
  refine wpl_op (i := 1) rfl (o_val (v := (.int .i64 (tag.length : Nat))) hF16 rfl rfl rfl rfl (rn_lenS Tryd.underlying9 (hF16.get rfl)) ?_)
  intro a17 hF18; clear hF16
  refine wpl_op (i := 2) rfl (o_val (v := (.bool (decide ((600 : Int) < ((tag.length : Nat) : Int))))) hF18 rfl rfl rfl rfl (rn_gtr (hF18.get rfl) rfl) ?_)
  intro a19 hF20; clear hF18
  refine wpl_op (i := 3) rfl (o_val (v := (.bool (decide ((600 : Int) < ((tag.length : Nat) : Int))))) hF20 rfl rfl rfl rfl (rn_move (hF20.get rfl)) ?_)
  intro a21 hF22; clear hF20
  by_cases hc23 : (600 : Int) < ((tag.length : Nat) : Int)
  · skip
    refine wpl_op (i := 4) rfl (o_skip hF22 rfl (unwanted_guard rfl rfl rfl hF22 rfl (decide_eq_true hc23) rfl) rfl rfl ?_)
    intro a24 hF25; clear hF22
    refine wpl_op (i := 5) rfl (o_skip hF25 rfl (unwanted_guard rfl rfl rfl hF25 rfl (decide_eq_true hc23) rfl) rfl rfl ?_)
    intro a26 hF27; clear hF25
    refine wpl_op (i := 6) rfl (o_skip hF27 rfl (unwanted_guard rfl rfl rfl hF27 rfl (decide_eq_true hc23) rfl) rfl rfl ?_)
    intro a28 hF29; clear hF27
    refine wpl_op (i := 7) rfl (o_val (v := (.bool true)) hF29 rfl rfl rfl rfl (rn_pickT (c_true hF29 rfl (decide_eq_true hc23)) rfl) ?_)
    intro a30 hF31; clear hF29
    refine wpList_nil ?_
    refine hK14 _ _ ?_
    clear hK14
    have hF32 := (((((hF31.nil.cons (hF31.get (t := 15) (v := (.bool true)) rfl)).cons (hF31.get (t := 7) (v := (.bool false)) rfl)).cons (hF31.get (t := 4) (v := (.bool false)) rfl)).cons (hF31.get (t := 1) (v := (.slice A b.length c)) rfl)).cons (hF31.get (t := 0) (v := (strOf tag)) rfl))
    clear hF31
    refine wp_cond_true (c_true hF32 rfl rfl) ?_
    refine wp_seq_k (fun K33 hK33 => ?_)
    refine wp_region_lit ?_
    refine wpl_op (i := 0) rfl (o_val (v := (.bool true)) hF32 rfl rfl rfl rfl (rn_assign rfl) ?_)
    intro a34 hF35; clear hF32
    refine wpList_nil ?_
    refine hK33 _ _ ?_
    clear hK33
    refine wp_ret ?_
    refine ret_then ?_
    refine ret1 hF35 rfl rfl ?_
    exact ⟨congrArg (fun b => Ending.returned (.bool b)) (rfl : true = true), ((Ext.refl w).trans hx7)⟩
  · skip
    refine wpl_op (i := 4) rfl (o_val (v := (.slice A b.length c)) hF22 rfl (wanted_guard rfl rfl rfl hF22 rfl (decide_eq_false hc23) rfl) rfl rfl (rn_move (hF22.get rfl)) ?_)
    intro a36 hF37; clear hF22
    refine wpl_op (i := 5) rfl (o_val (v := (.int .i64 (b.length : Nat))) hF37 rfl (wanted_guard rfl rfl rfl hF37 rfl (decide_eq_false hc23) rfl) rfl rfl (rn_len_slice Tryd.underlying22 (hF37.get rfl)) ?_)
    intro a38 hF39; clear hF37
    refine wpl_op (i := 6) rfl (o_val (v := (.bool (decide ((600 : Int) < ((b.length : Nat) : Int))))) hF39 rfl (wanted_guard rfl rfl rfl hF39 rfl (decide_eq_false hc23) rfl) rfl rfl (rn_gtr (hF39.get rfl) rfl) ?_)
    intro a40 hF41; clear hF39
    refine wpl_op (i := 7) rfl (o_val (v := (.bool (decide ((600 : Int) < ((b.length : Nat) : Int))))) hF41 rfl rfl rfl rfl (rn_pickF (c_false hF41 rfl (decide_eq_false hc23)) (hF41.get rfl)) ?_)
    intro a42 hF43; clear hF41
    refine wpList_nil ?_
    refine hK14 _ _ ?_
    clear hK14
    have hF44 := (((((hF43.nil.cons (hF43.get (t := 15) (v := (.bool (decide ((600 : Int) < ((b.length : Nat) : Int))))) rfl)).cons (hF43.get (t := 7) (v := (.bool false)) rfl)).cons (hF43.get (t := 4) (v := (.bool false)) rfl)).cons (hF43.get (t := 1) (v := (.slice A b.length c)) rfl)).cons (hF43.get (t := 0) (v := (strOf tag)) rfl))
    clear hF43
    by_cases hc45 : (600 : Int) < ((b.length : Nat) : Int)
    · skip
      refine wp_cond_true (c_true hF44 rfl (decide_eq_true hc45)) ?_
      refine wp_seq_k (fun K46 hK46 => ?_)
      refine wp_region_lit ?_
      refine wpl_op (i := 0) rfl (o_val (v := (.bool true)) hF44 rfl rfl rfl rfl (rn_assign rfl) ?_)
      intro a47 hF48; clear hF44
      refine wpList_nil ?_
      refine hK46 _ _ ?_
      clear hK46
      refine wp_ret ?_
      refine ret_then ?_
      refine ret1 hF48 rfl rfl ?_
      exact ⟨congrArg (fun b => Ending.returned (.bool b)) (rfl : true = true), ((Ext.refl w).trans hx7)⟩
    · skip
      refine wp_cond_false (c_false hF44 rfl (decide_eq_false hc45)) ?_
      refine wp_skip ?_
      refine hK13 _ _ ?_
      clear hK13
      refine wp_seq_k (fun K49 hK49 => ?_)
      refine wp_region_lit ?_
      refine wpl_op (i := 0) rfl (o_val (v := (strOf tag)) hF44 rfl rfl rfl rfl (rn_move (hF44.get rfl)) ?_)
      intro a50 hF51; clear hF44
      refine wpl_op (i := 1) rfl (o_strB (l := tag) hF51 rfl rfl rfl rfl rfl (hF51.get rfl) Tryd.underlying9 Tryd.underlying22 Tryd.underlying5 (by omega) ?_)
      intro g52 c53 w54 a60 hF61 z57 z58 z59 hf55 hx56; clear hF51
      refine wpl_op (i := 2) rfl (o_call hF61 rfl rfl rfl rfl (rn_call (args1 (hF61.get rfl)) rfl (by kernel_rfl)) (sum_at (v := (.slice (some ⟨g52, 0, none⟩) tag.length c53)) (n := tag.length) tag _ hf55 (hG.ext (((Ext.refl w).trans hx7).trans hx56))) ?_)
      rintro _ w62 ⟨rfl, hx63⟩
      refine ⟨_, rfl, ?_⟩; intro a64 hF65; clear hF61; have z66 := hx63.size
      refine wpl_op (i := 3) rfl (o_new (fun g => (.pointer (some ⟨g, 0, none⟩))) (byteVals (List.replicate 32 0)) 26 hF65 rfl rfl rfl rfl (by kernel_rfl) ?_)
      intro g67 w68 a73 hF74 z71 z72 b69 hx70; clear hF65
      refine wpl_op (i := 4) rfl (o_store (cells := (byteVals (bsum tag))) hF74 rfl rfl rfl rfl (hF74.get rfl) (hF74.get rfl) b69 ((by kernel_rfl : (Tryd.prog.info? 26).map (·.size) = some 32).trans (congrArg some (byteVals_len (bsum_len _)).symm)) ((byteVals_len (show List.length (List.replicate 32 0) = _ from List.length_replicate)).trans (byteVals_len (bsum_len _)).symm) (byteVals_one _) ?_)
      intro w75 b76 hg77; have z78 := hg77.size
      refine wpList_nil ?_
      refine hK49 _ _ ?_
      clear hK49
      refine wp_seq_k (fun K79 hK79 => ?_)
      have hx81 : ∃ W, w75.drew = W ∧ Ext w75 W := ⟨_, rfl, (Ext.refl _).drew⟩
      obtain ⟨w80, e82, hx81⟩ := hx81
      have z83 := hx81.size
      refine any_start (fun W => Ext w80 W ∧ Blk W g67 26 (byteVals (bsum tag))) (fun i => false) 11 #[false, false, false, false, false, false, false, false, false, false, false] rfl rfl rfl ?_
      rw [e82]; clear e82
      refine any_have (n1 := 5) (L1 := #[true, true, true, true, true, false, true, false, false, false, false]) (fun a' W => ∃ (g108 : Nat), Sl 29 [(0, (strOf tag)), (1, (.slice A b.length c)), (4, (.bool false)), (5, (.pointer (some ⟨g67, 0, none⟩))), (7, (.bool false)), (15, (.bool (decide ((600 : Int) < ((b.length : Nat) : Int))))), (21, (.agg (byteVals (tagged tag b)).toArray)), (22, (.slice (some ⟨g108, 0, none⟩) 0 0)), (23, (.slice (some ⟨g67, 0, none⟩) 32 32)), (25, (.slice A b.length c))] a' ∧ Ext w80 W ∧ Blk W g108 5 [] ∧ w80.heap.size ≤ g108) ?_ (fun st155 => ?_)
      · skip
        rintro a156 w157 ⟨g108, hF158, hx159, b160, z161⟩
        clear hF74
        have z162 := hx159.size
        have z163 := b160.lt
        refine any_one (i := 5) (by decide +kernel) rfl ?_
        have b165 : Blk w157 g67 26 (byteVals (bsum tag)) := ((b76.ext hx81).ext hx159)
        have hf174 := (own_blk0 (k := 1) b160)
        refine o_appB (zs := byteVals (bsum tag)) El22 hF158 rfl rfl rfl rfl rfl (hF158.get rfl) (hF158.get rfl) hf174 (Fl.cel (Fl.blk (S := fun b => b = g67) (k := 1) (n := 32) (c := 32) b165 (by rw [byteVals_len (bsum_len _), Nat.mul_one]) (byteVals_one _) (by omega) rfl)).2.2 (by omega) (by omega) (by omega) (List.nil_append _) ?_
        intro A166 c167 w168 a175 hF176 r169 hg170 z171 z172 hnb173; clear hF158; have z177 := hg170.size
        have b178 : Blk w168 g67 26 (byteVals (bsum tag)) := (grown_blk hf174 hg170 b165 (by decide))
        refine ⟨fun _ _ => ⟨(ext_row ((Ext.refl w80).trans hx159) hg170 hf174 (by omega)), b178⟩, ?_⟩
        refine any_one (i := 7) (by decide +kernel) rfl ?_
        have d179 := (hc.pres (Pres.row ((((((((Pres.refl w).ext hx7).ext hx56).ext hx63).ext hx70).grownN hg77 (fun h => by simp only [Clip] at h; omega)).ext hx81).ext hx159) hg170 hf174 (fun b hb h => by simp only [Clip] at h; omega)))
        have hf188 := r169
        refine o_appB (zs := byteVals ((bsum tag) ++ b)) El22 hF176 rfl rfl rfl rfl rfl (hF176.get rfl) (hF176.get rfl) hf188 (Fl.cel d179).2.2 (by omega) (by omega) (by omega) (byteVals_app _ _) ?_
        intro A180 c181 w182 a189 hF190 r183 hg184 z185 z186 hnb187; clear hF176; have z191 := hg184.size
        have b192 : Blk w182 g67 26 (byteVals (bsum tag)) := (grown_blk hf188 hg184 b178 (by decide))
        refine ⟨fun _ _ => ⟨(ext_row (ext_row ((Ext.refl w80).trans hx159) hg170 hf174 (by omega)) hg184 hf188 (by omega)), b192⟩, ?_⟩
        refine any_one (i := 8) (by decide +kernel) rfl ?_
        refine o_call hF190 rfl rfl rfl rfl (rn_call (args1 (hF190.get rfl)) rfl (by kernel_rfl)) (sum_at (v := (.slice A180 ((0 + 32) + b.length) c181)) (n := (0 + 32) + b.length) ((bsum tag) ++ b) _ (Fl.own (S := fun b => g108 ≤ b) r183 (fun b hb => hb) (byteVals_one _)) (hG.ext (ext_row (ext_row ((((((((Ext.refl w).trans hx7).trans hx56).trans hx63).trans hx70).grownN hg77 (by omega)).trans hx81).trans hx159) hg170 hf174 (by omega)) hg184 hf188 (by omega)))) ?_
        rintro _ w193 ⟨rfl, hx194⟩
        refine ⟨_, rfl, ?_⟩; intro a195 hF196; clear hF190; have z197 := hx194.size
        have b198 : Blk w193 g67 26 (byteVals (bsum tag)) := (b192.ext hx194)
        refine ⟨fun _ _ => ⟨((ext_row (ext_row ((Ext.refl w80).trans hx159) hg170 hf174 (by omega)) hg184 hf188 (by omega)).trans hx194), b198⟩, ?_⟩
        refine any_pure (i := 9) (v := (.bool (decide (tagged tag b = bsum ((bsum tag) ++ b))))) hF196 (by decide +kernel) (by decide +kernel) rfl rfl rfl rfl (fun _ _ _ _ h => h) rfl (fun W => (rn_eqA Tryd.underlying26 Tryd.underlying5 (by kernel_rfl : (Tryd.prog.info? 5).map (·.size) = some 1) (by kernel_rfl) (hF196.get rfl) (hF196.get rfl) (tagged_len _ _) (bsum_len _))) ?_
        intro a199 hF200; clear hF196
        refine any_pure (i := 10) (v := (.bool (decide (tagged tag b = bsum ((bsum tag) ++ b))))) hF200 (by decide +kernel) (by decide +kernel) rfl rfl rfl rfl (fun _ _ _ _ h => h) rfl (fun W => (rn_assign (hF200.get rfl))) ?_
        intro a201 hF202; clear hF200
        refine any_nil (by decide +kernel) ?_
        refine hK79 _ _ ?_
        clear hK79
        have hF203 := ((((((hF202.nil.cons (hF202.get (t := 15) (v := (.bool (decide ((600 : Int) < ((b.length : Nat) : Int))))) rfl)).cons (hF202.get (t := 7) (v := (.bool false)) rfl)).cons (hF202.get (t := 5) (v := (.pointer (some ⟨g67, 0, none⟩))) rfl)).cons (hF202.get (t := 4) (v := (.bool (decide (tagged tag b = bsum ((bsum tag) ++ b))))) rfl)).cons (hF202.get (t := 1) (v := (.slice A b.length c)) rfl)).cons (hF202.get (t := 0) (v := (strOf tag)) rfl))
        clear hF202
        refine wp_ret ?_
        refine ret1 hF203 rfl rfl ?_
        exact ⟨congrArg (fun b => Ending.returned (.bool b)) ((decide_eq_true rfl) : decide (tagged tag b = bsum ((bsum tag) ++ b)) = true), ((ext_row (ext_row ((((((((Ext.refl w).trans hx7).trans hx56).trans hx63).trans hx70).grownN hg77 (by omega)).trans hx81).trans hx159) hg170 hf174 (by omega)) hg184 hf188 (by omega)).trans hx194)⟩
      refine any_pure (i := 0) (v := (strOf tag)) hF74 (by decide +kernel) (by decide +kernel) rfl rfl rfl rfl (fun _ _ _ _ h => h) rfl (fun W => (rn_move (hF74.get rfl))) ?_
      intro a204 hF205; clear hF74
      refine any_pure (i := 1) (v := (.slice A b.length c)) hF205 (by decide +kernel) (by decide +kernel) rfl rfl rfl rfl (fun _ _ _ _ h => h) rfl (fun W => (rn_move (hF205.get rfl))) ?_
      intro a206 hF207; clear hF205
      refine any_pure (i := 4) (v := (.slice (some ⟨g67, 0, none⟩) 32 32)) hF207 (by decide +kernel) (by decide +kernel) rfl rfl rfl rfl (fun _ _ _ _ h => h) rfl (fun W => (rn_arrAll Tryd.underlying26 (by kernel_rfl : (Tryd.prog.info? 5).map (·.size) = some 1) (hF207.get rfl))) ?_
      intro a208 hF209; clear hF207
      refine any_pure (i := 6) (v := (.slice A b.length c)) hF209 (by decide +kernel) (by decide +kernel) rfl rfl rfl rfl (fun _ _ _ _ h => h) rfl (fun W => (rn_move (hF209.get rfl))) ?_
      intro a210 hF211; clear hF209
      refine any_two (i := 2) (k := 3) (by decide +kernel) rfl rfl ?_ ?_
      · skip
        have d212 := (hc.pres (((((((Pres.refl w).ext hx7).ext hx56).ext hx63).ext hx70).grownN hg77 (fun h => by simp only [Clip] at h; omega)).ext hx81))
        refine o_call hF211 rfl rfl rfl rfl (rn_call (args2 (hF211.get rfl) (hF211.get rfl)) rfl (by kernel_rfl)) (tagged_at tag (v := (.slice A b.length c)) (n := b.length) b _ d212 (hG.ext (((((((Ext.refl w).trans hx7).trans hx56).trans hx63).trans hx70).grownN hg77 (by omega)).trans hx81)) (by omega) (by omega)) ?_
        rintro _ w213 ⟨rfl, hx214⟩
        refine ⟨_, rfl, ?_⟩; intro a215 hF216; clear hF211; have z217 := hx214.size
        have b218 : Blk w213 g67 26 (byteVals (bsum tag)) := ((b76.ext hx81).ext hx214)
        refine ⟨fun _ _ => ⟨((Ext.refl w80).trans hx214), b218⟩, ?_⟩
        refine any_one (i := 3) (by decide +kernel) rfl ?_
        refine o_new (fun g => (.slice (some ⟨g, 0, none⟩) 0 0)) [] 5 hF216 rfl rfl rfl rfl (rn_buildSlice (parts0 ) (by kernel_rfl)) ?_
        intro g219 w220 a225 hF226 z223 z224 b221 hx222; clear hF216
        have b227 : Blk w220 g67 26 (byteVals (bsum tag)) := (b218.ext hx222)
        refine ⟨fun _ _ => ⟨(((Ext.refl w80).trans hx214).trans hx222), b227⟩, ?_⟩
        exact st155 _ _ ⟨g219, ((((((((((hF226.nil.cons (hF226.get (t := 25) (v := (.slice A b.length c)) rfl)).cons (hF226.get (t := 23) (v := (.slice (some ⟨g67, 0, none⟩) 32 32)) rfl)).cons (hF226.get (t := 22) (v := (.slice (some ⟨g219, 0, none⟩) 0 0)) rfl)).cons (hF226.get (t := 21) (v := (.agg (byteVals (tagged tag b)).toArray)) rfl)).cons (hF226.get (t := 15) (v := (.bool (decide ((600 : Int) < ((b.length : Nat) : Int))))) rfl)).cons (hF226.get (t := 7) (v := (.bool false)) rfl)).cons (hF226.get (t := 5) (v := (.pointer (some ⟨g67, 0, none⟩))) rfl)).cons (hF226.get (t := 4) (v := (.bool false)) rfl)).cons (hF226.get (t := 1) (v := (.slice A b.length c)) rfl)).cons (hF226.get (t := 0) (v := (strOf tag)) rfl)), (((Ext.refl w80).trans hx214).trans hx222), b221, (by omega)⟩
      · skip
        refine o_new (fun g => (.slice (some ⟨g, 0, none⟩) 0 0)) [] 5 hF211 rfl rfl rfl rfl (rn_buildSlice (parts0 ) (by kernel_rfl)) ?_
        intro g228 w229 a234 hF235 z232 z233 b230 hx231; clear hF211
        have b236 : Blk w229 g67 26 (byteVals (bsum tag)) := ((b76.ext hx81).ext hx231)
        refine ⟨fun _ _ => ⟨((Ext.refl w80).trans hx231), b236⟩, ?_⟩
        refine any_one (i := 2) (by decide +kernel) rfl ?_
        have d237 := (hc.pres ((((((((Pres.refl w).ext hx7).ext hx56).ext hx63).ext hx70).grownN hg77 (fun h => by simp only [Clip] at h; omega)).ext hx81).ext hx231))
        refine o_call hF235 rfl rfl rfl rfl (rn_call (args2 (hF235.get rfl) (hF235.get rfl)) rfl (by kernel_rfl)) (tagged_at tag (v := (.slice A b.length c)) (n := b.length) b _ d237 (hG.ext ((((((((Ext.refl w).trans hx7).trans hx56).trans hx63).trans hx70).grownN hg77 (by omega)).trans hx81).trans hx231)) (by omega) (by omega)) ?_
        rintro _ w238 ⟨rfl, hx239⟩
        refine ⟨_, rfl, ?_⟩; intro a240 hF241; clear hF235; have z242 := hx239.size
        have b243 : Blk w238 g67 26 (byteVals (bsum tag)) := (b236.ext hx239)
        refine ⟨fun _ _ => ⟨(((Ext.refl w80).trans hx231).trans hx239), b243⟩, ?_⟩
        have b244 : Blk w238 g228 5 [] := (b230.ext hx239)
        exact st155 _ _ ⟨g228, ((((((((((hF241.nil.cons (hF241.get (t := 25) (v := (.slice A b.length c)) rfl)).cons (hF241.get (t := 23) (v := (.slice (some ⟨g67, 0, none⟩) 32 32)) rfl)).cons (hF241.get (t := 22) (v := (.slice (some ⟨g228, 0, none⟩) 0 0)) rfl)).cons (hF241.get (t := 21) (v := (.agg (byteVals (tagged tag b)).toArray)) rfl)).cons (hF241.get (t := 15) (v := (.bool (decide ((600 : Int) < ((b.length : Nat) : Int))))) rfl)).cons (hF241.get (t := 7) (v := (.bool false)) rfl)).cons (hF241.get (t := 5) (v := (.pointer (some ⟨g67, 0, none⟩))) rfl)).cons (hF241.get (t := 4) (v := (.bool false)) rfl)).cons (hF241.get (t := 1) (v := (.slice A b.length c)) rfl)).cons (hF241.get (t := 0) (v := (strOf tag)) rfl)), (((Ext.refl w80).trans hx231).trans hx239), b244, (by omega)⟩

end Go.Proofs.YtgodliookpgliaaDoor
