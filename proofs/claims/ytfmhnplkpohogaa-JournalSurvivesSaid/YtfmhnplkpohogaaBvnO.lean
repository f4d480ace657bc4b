/- The law JournalSurvives, walked. -/
import Derived.Test.YtfmhnplkpohogaaProg
import Derived.Test.YtfmhnplkpohogaaBvnH
import Derived.Test.YtfmhnplkpohogaaBvnN
import Derived.KernelRfl
import Derived.Test.YtfmhnplkpohogaaBvnA
set_option linter.unusedVariables false
set_option linter.unusedSimpArgs false
namespace Go.Proofs.Ytfmhnplkpohogaa
open Go.RowKit

variable {S S' : Nat → Prop}

set_option maxRecDepth 100000 in
set_option maxHeartbeats 4000000 in
theorem jsurvives_any (x0 : UInt8) (A : Option Addr) (c : Nat) (l : List Cr) (w : World) (hn : RCrs S w (.slice A l.length c) l) (hS : ∀ b, S b → b < w.heap.size) (hbs : ∀ x ∈ l, ∀ b ∈ x.recs, b.length ≤ 140737488355328) :
  Calls Try.prog 9 #[.int .u8 (x0.toNat : Nat), .slice A l.length c] w (RB w true) := by
 obtain ⟨-, hcl1, hcl2⟩ := RSl.elem hn
 have hnc := RCrs.clip hn hS
 refine calls_enter (l := [(.int .u8 (x0.toNat : Nat)), (.slice A l.length c)]) Try.func9 rfl rfl rfl (fun aA hF => ?_)
 refine wp_seq_k (fun K1 hK1 => ?_)
 refine wp_region_lit ?_
 refine qv 0 (.bool false) hF rfl (rn_assign rfl) fun _ F3 => ?_; clear hF
 refine wpList_nil ?_
 refine hK1 _ _ ?_
 clear hK1
 refine wp_seq_k (fun K4 hK4 => ?_)
 refine wp_seq_k (fun K5 hK5 => ?_)
 refine wp_region_lit ?_
 refine wpl_op (i := 0) rfl (o_call F3 rfl rfl rfl rfl (rn_call (args0 ) rfl (by kernel_rfl)) (sane9_any _) ?_)
 rintro _ w6 ⟨rfl, hx7⟩
 refine ⟨_, rfl, ?_⟩; intro a8 F9; clear F3; have z10 := hx7.size
 refine qv 1 (.bool false) F9 rfl (rn_not' (F9.get rfl) rfl) fun _ F12 => ?_; clear F9
 refine wpList_nil ?_
 refine hK5 _ _ ?_
 clear hK5
 refine wp_cond_false (c_false F12 rfl rfl) ?_
 refine wp_skip ?_
 refine hK4 _ _ ?_
 clear hK4
 refine wp_seq_k (fun K13 hK13 => ?_)
 refine wp_seq_k (fun K14 hK14 => ?_)
 refine wp_region_lit ?_
 refine qv 0 (.slice A l.length c) F12 rfl (rn_move (F12.get rfl)) fun _ F16 => ?_; clear F12
 refine qv 1 (.int .i64 (l.length : Nat)) F16 rfl (rn_len_slice Try.underlying53 (F16.get rfl)) fun _ F18 => ?_; clear F16
 refine qv 2 (.bool (decide ((8 : Int) < ((l.length : Nat) : Int)))) F18 rfl (rn_gtr (F18.get rfl) rfl) fun _ F20 => ?_; clear F18
 refine wpList_nil ?_
 refine hK14 _ _ ?_
 clear hK14
 by_cases hc21 : (8 : Int) < ((l.length : Nat) : Int)
 ·skip
  refine wp_cond_true (c_true F20 rfl (decide_eq_true hc21)) ?_
  refine wp_seq_k (fun K22 hK22 => ?_)
  refine wp_region_lit ?_
  refine qv 0 (.bool true) F20 rfl (rn_assign rfl) fun _ F24 => ?_; clear F20
  refine wpList_nil ?_
  refine hK22 _ _ ?_
  clear hK22
  refine wp_ret ?_
  refine ret_then ?_
  refine ret1 F24 rfl rfl ?_
  exact ⟨congrArg (fun b => Ending.returned (.bool b)) (rfl : true = true), ((Ext.refl w).trans hx7)⟩
 ·skip
  refine wp_cond_false (c_false F20 rfl (decide_eq_false hc21)) ?_
  refine wp_skip ?_
  refine hK13 _ _ ?_
  clear hK13
  refine wp_seq_k (fun K25 hK25 => ?_)
  refine wp_region_lit ?_
  refine qv 0 (.int .u8 (x0.toNat : Nat)) F20 rfl (rn_move (F20.get rfl)) fun _ F27 => ?_; clear F20
  refine qv 1 (.int .u8 ((x0 % (30 : UInt8)).toNat : Nat)) F27 rfl (rn_rem8 (a := x0) (b := (30 : UInt8)) (F27.get rfl) rfl (by decide)) fun _ F29 => ?_; clear F27
  have z30 := UInt8.toNat_lt (x0 % (30 : UInt8))
  refine qv 2 (.int .i64 ((x0 % (30 : UInt8)).toNat : Nat)) F29 rfl (rn_convW Try.underlying5 Try.underlying3 (F29.get rfl) (cv8_64 (x0 % (30 : UInt8)))) fun _ F32 => ?_; clear F29
  refine qv 3 (.int .i64 (((x0 % (30 : UInt8)).toNat) + 1 : Nat)) F32 rfl (rn_addN (a := (x0 % (30 : UInt8)).toNat) (b := 1) (F32.get rfl) rfl (by omega)) fun _ F34 => ?_; clear F32
  obtain ⟨n, hn0⟩ : ∃ n, (x0 % 30).toNat + 1 = n := ⟨_, rfl⟩
  have hn30 := mod30 x0; rw [hn0] at hn30; rw [hn0] at F34
  refine wpl_op (i := 4) rfl (o_call F34 rfl rfl rfl rfl (rn_call (args1 (F34.get rfl)) rfl (by kernel_rfl)) (calls_conv (new_any (S := fun _ => False) ((n : Nat) : Int) _) (congrArg Prod.fst (new_n hn30.1 (by omega))) (congrArg Prod.snd (new_n hn30.1 (by omega)))) ?_)
  rintro _ w41 ⟨v40, rfl, hd39, hx42⟩
  obtain ⟨A35, c36, B37, e38, rfl, -, -⟩ := hd39.form
  have hd39 := hd39.clip
  refine ⟨_, rfl, ?_⟩; intro a43 F44; clear F34; have z45 := hx42.size
  refine qv 5 (.tuple #[(.agg #[(.slice A35 ((newD n).sectors.length) c36), (.slice B37 ((newD n).pending.length) e38), (.int .i64 ((newD n).left)), (.bool ((newD n).stopped))]), (.int .i64 0)]) F44 rfl (rn_move (F44.get rfl)) fun _ F47 => ?_; clear F44
  refine qv 6 (.agg #[(.slice A35 ((newD n).sectors.length) c36), (.slice B37 ((newD n).pending.length) e38), (.int .i64 ((newD n).left)), (.bool ((newD n).stopped))]) F47 rfl (rn_extract (F47.get rfl) rfl) fun _ F49 => ?_; clear F47
  refine qv 7 (.int .i64 0) F49 rfl (rn_extract (F49.get rfl) rfl) fun _ F51 => ?_; clear F49
  refine wpl_op (i := 8) rfl (o_new (fun g => (.pointer (some ⟨g, 0, none⟩))) [(.slice none 0 0), (.slice none 0 0), (.int .i64 0), (.bool false)] 25 F51 rfl rfl rfl rfl (by kernel_rfl) ?_)
  intro g52 w53 a58 F59 z56 z57 b54 hx55; clear F51
  refine wpl_op (i := 9) rfl (o_store (cells := [(.slice A35 ((newD n).sectors.length) c36), (.slice B37 ((newD n).pending.length) e38), (.int .i64 ((newD n).left)), (.bool ((newD n).stopped))]) F59 rfl rfl rfl rfl (F59.get rfl) (F59.get rfl) b54 inf25 rfl (by simp [Value.oneCell']) ?_)
  intro w60 b61 hg62; have z63 := hg62.size
  refine qv 10 (.int .i64 0) F59 rfl (rn_assign (F59.get rfl)) fun _ F65 => ?_; clear F59
  refine wpList_nil ?_
  refine hK25 _ _ ?_
  clear hK25
  have F66 := (((((((F65.nil.c F65 6 rfl).c F65 5 rfl).c F65 27 rfl).c F65 24 rfl).c F65 4 rfl).c F65 1 rfl).c F65 0 rfl)
  clear F65
  refine wp_seq_k (fun K67 hK67 => ?_)
  refine wp_seq_k (fun K68 hK68 => ?_)
  refine wp_region_lit ?_
  refine qv 0 (.int .i64 0) F66 rfl (rn_move (F66.get rfl)) fun _ F70 => ?_; clear F66
  refine qv 1 (.bool false) F70 rfl (rn_neq' (F70.get rfl) rfl (by decide)) fun _ F72 => ?_; clear F70
  refine wpList_nil ?_
  refine hK68 _ _ ?_
  clear hK68
  refine wp_cond_false (c_false F72 rfl rfl) ?_
  refine wp_skip ?_
  refine hK67 _ _ ?_
  clear hK67
  refine wp_seq_k (fun K73 hK73 => ?_)
  refine wp_region_lit ?_
  refine qv 0 (.slice none 0 0) F72 rfl (rn_assign rfl) fun _ F75 => ?_; clear F72
  refine wpList_nil ?_
  refine hK73 _ _ ?_
  clear hK73
  refine wp_seq_k (fun K76 hK76 => ?_)
  refine wp_seq_k (fun K77 hK77 => ?_)
  refine wp_region_lit ?_
  refine qv 0 (.slice A l.length c) F75 rfl (rn_move (F75.get rfl)) fun _ F79 => ?_; clear F75
  refine qv 1 (.int .i64 (l.length : Nat)) F79 rfl (rn_len_slice Try.underlying53 (F79.get rfl)) fun _ F81 => ?_; clear F79
  refine qv 2 (.int .i64 0) F81 rfl (rn_move rfl) fun _ F83 => ?_; clear F81
  refine wpList_nil ?_
  refine hK77 _ _ ?_
  clear hK77
  refine wp_block ?_
  have d84 := (hd39.pres (((Pres.refl w41).ext hx55).grownN hg62 (fun h => by first | (simp only [Clip, ne_eq, not_true_eq_false, and_false, false_and] at h; done) | (have h2 := h.2; omega) | (rcases h.1 with (h | h) | h <;> first | (simp only [Clip, ne_eq, not_true_eq_false, and_false, false_and] at h; done) | omega | (simp only [Clip] at h; omega)) | (rcases h.1 with h | h <;> first | (simp only [Clip, ne_eq, not_true_eq_false, and_false, false_and] at h; done) | omega | (simp only [Clip] at h; omega)))))
  refine wp_loop (fun a' W => ∃ (k : Nat) (d : Dk) (dA : Option Addr) (dc : Nat) (dB : Option Addr) (de : Nat) (R : List (List UInt8)) (Ak : Option Addr) (ck : Nat), Sl 195 [(0, (.int .u8 (x0.toNat : Nat))), (1, (.slice A l.length c)), (4, (.bool false)), (24, (.bool false)), (27, (.bool (decide ((8 : Int) < ((l.length : Nat) : Int))))), (5, (.pointer (some ⟨g52, 0, none⟩))), (6, (.int .i64 0)), (37, (.bool false)), (7, (.slice Ak R.length ck)), (38, (.slice A l.length c)), (39, (.int .i64 (l.length : Nat))), (40, (.int .i64 (k : Nat)))] a' ∧ k ≤ l.length ∧ St n d R k ∧ d.left < 0 ∧ Ext w W ∧ Blk W g52 25 [(.slice dA d.sectors.length dc), (.slice dB d.pending.length de), (.int .i64 d.left), (.bool d.stopped)] ∧ RDk (Clip (fun b => Fr S w b ∧ b ≠ g52) W) W (.agg #[(.slice dA d.sectors.length dc), (.slice dB d.pending.length de), (.int .i64 d.left), (.bool d.stopped)]) d ∧ RBss (Clip (fun b => Fr S w b ∧ b ≠ g52) W) W (.slice Ak R.length ck) R ∧ w60.heap.size ≤ W.heap.size) (fun a' _ => l.length - (intOf (a'.eval (.tmp 40))).toNat) ⟨0, (newD n), A35, c36, B37, e38, [], none, 0, ((((((((((((F83.nil.cons (q_get F83 (t := 40) rfl (by first | rfl | (congr 1; omega) | (congr 1; done)))).cons (q_get F83 (t := 39) rfl rfl)).cons (q_get F83 (t := 38) rfl rfl)).cons (q_get F83 (t := 7) rfl (by first | rfl | (congr 1; omega) | (congr 1; done)))).cons (q_get F83 (t := 37) rfl rfl)).cons (q_get F83 (t := 6) rfl (by first | rfl | (congr 1; omega) | (congr 1; done)))).cons (q_get F83 (t := 5) rfl rfl)).cons (q_get F83 (t := 27) rfl rfl)).cons (q_get F83 (t := 24) rfl rfl)).cons (q_get F83 (t := 4) rfl rfl)).cons (q_get F83 (t := 1) rfl rfl)).cons (q_get F83 (t := 0) rfl rfl)), (by omega), (st_new hn30.1 (by omega)), (by show (-1 : Int) < 0; decide), (((((Ext.refl w).trans hx7).trans hx42).trans hx55).grownN hg62 (by omega)), b61, (RDk.sub (S := (Clip (Fr (fun _ => False) w6) w41)) d84 fun b h => by obtain ⟨h, hlt⟩ := h; (rcases h with h | h; (focus (exact h.elim)); (exact ⟨⟨.inr (by omega), by omega⟩, by omega⟩))), (RSl.nil _), (Nat.le_refl _)⟩ ?_
  clear F83
  rintro a85 w86 ⟨k, d, dA, dc, dB, de, R, Ak, ck, F87, hp89, hp90, hp91, hx88, b92, hf93, hf94, hf95⟩
  have hL96 := F87
  have z97 := hx88.size
  have z98 := b92.lt
  obtain ⟨-, z99, z100⟩ := RBss.at hf94
  have hnb := St.nb hp90; have hru := St.used hp90; have hrb := used_bnd hru hnb.2
  refine wp_seq_k (fun K101 hK101 => ?_)
  refine wp_region_lit ?_
  refine qv 0 (.bool (decide (((k : Nat) : Int) < ((l.length : Nat) : Int)))) F87 rfl (rn_lss (F87.get rfl) (F87.get rfl)) fun _ F103 => ?_; clear F87
  refine wpList_nil ?_
  refine hK101 _ _ ?_
  clear hK101
  refine wp_seq_k (fun K104 hK104 => ?_)
  by_cases hc105 : ((k : Nat) : Int) < ((l.length : Nat) : Int)
  ·skip
   refine wp_cond_true (c_true F103 rfl (decide_eq_true hc105)) ?_
   refine wp_skip ?_
   refine hK104 _ _ ?_
   clear hK104
   refine wp_seq_k (fun K106 hK106 => ?_)
   refine wp_block ?_
   refine wp_seq_k (fun K107 hK107 => ?_)
   refine wp_region_lit ?_
   have d121 := (hnc.ext hx88)
   obtain ⟨x108, hi109, hm110⟩ := get_of_lt l k (by omega)
   obtain ⟨b111, o112, A113, c114, hA115, hl116, hc117, hc118, hc119, hr120⟩ := RCrs.get d121 hi109
   obtain ⟨-, z122, z123⟩ := RBss.at hr120; have z124 := mod40 x108.left
   refine qv 0 (.pointer (some ⟨b111, o112 + k * 3, none⟩)) F103 rfl (rn_indexE Try.underlying53 inf55 ((F103.get rfl).trans (by rw [hA115])) (F103.get rfl) (by omega : (0 : Int) ≤ (k : Nat)) (by omega : ((k : Nat) : Int) < ((l.length : Nat) : Int)) (by omega)) fun _ F126 => ?_; clear F103
   refine qv 1 (.agg #[(.slice A113 x108.recs.length c114), (.bool x108.stop), (.int .u8 (x108.left.toNat : Nat))]) F126 rfl (rn_load3 (F126.get rfl) Try.underlying55 rfl inf55 (Ext.keep (Ext.refl w86) hc117) (Ext.keep (Ext.refl w86) hc118) (Ext.keep (Ext.refl w86) hc119)) fun _ F128 => ?_; clear F126
   refine wpl_op (i := 2) rfl (o_new (fun g => (.pointer (some ⟨g, 0, none⟩))) [(.slice none 0 0), (.bool false), (.int .u8 0)] 55 F128 rfl rfl rfl rfl (by kernel_rfl) ?_)
   intro g129 w130 a135 F136 z133 z134 b131 hx132; clear F128
   refine wpl_op (i := 3) rfl (o_store (cells := [(.slice A113 x108.recs.length c114), (.bool x108.stop), (.int .u8 (x108.left.toNat : Nat))]) F136 rfl rfl rfl rfl (F136.get rfl) (F136.get rfl) b131 inf55 rfl (by simp [Value.oneCell']) ?_)
   intro w137 b138 hg139; have z140 := hg139.size
   refine wpList_nil ?_
   refine hK107 _ _ ?_
   clear hK107
   refine wp_seq_k (fun K141 hK141 => ?_)
   refine wp_seq_k (fun K142 hK142 => ?_)
   refine wp_region_lit ?_
   have b143 := ((b92.ext hx132).grownN hg139 (by omega))
   refine qv 0 (.agg #[(.slice dA d.sectors.length dc), (.slice dB d.pending.length de), (.int .i64 d.left), (.bool d.stopped)]) F136 rfl (rn_loadBlk (F136.get rfl) b143 Try.underlying25 rfl inf25) fun _ F145 => ?_; clear F136
   refine qv 1 (.pointer (some ⟨g129, 0, none⟩)) F145 rfl (rn_field Try.underlying55 rfl (by kernel_rfl) (F145.get rfl) rfl) fun _ F147 => ?_; clear F145
   refine qv 2 (.slice A113 x108.recs.length c114) F147 rfl (rn_load (isAgg_no Try.underlying22 rfl) (F147.get rfl) (b138.rule.1 0)) fun _ F149 => ?_; clear F147
   have d150 := (hr120.pres (((Pres.refl w86).ext hx132).grownN hg139 (fun h => by simp only [Clip] at h; omega)))
   refine wpl_op (i := 3) rfl (o_call F149 rfl rfl rfl rfl (rn_call (args2 (F149.get rfl) (F149.get rfl)) rfl (by kernel_rfl)) (few9_at (v := (.slice A113 x108.recs.length c114)) dA d.sectors.length dc dB d.pending.length de d.left d.stopped x108.recs _ d150 (hbs x108 (List.mem_of_getElem? hi109))) ?_)
   rintro _ w153 ⟨bq151, rfl, hfew152, hx154⟩
   refine ⟨_, rfl, ?_⟩; intro a155 F156; clear F149; have z157 := hx154.size
   refine qv 4 (.bool (!bq151)) F156 rfl (rn_not' (F156.get rfl) rfl) fun _ F159 => ?_; clear F156
   refine wpList_nil ?_
   refine hK142 _ _ ?_
   clear hK142
   have F160 := (((((((((((((((F159.nil.c F159 48 rfl).c F159 9 rfl).c F159 41 rfl).c F159 40 rfl).c F159 39 rfl).c F159 38 rfl).c F159 7 rfl).c F159 37 rfl).c F159 6 rfl).c F159 5 rfl).c F159 27 rfl).c F159 24 rfl).c F159 4 rfl).c F159 1 rfl).c F159 0 rfl)
   clear F159
   rcases Bool.eq_false_or_eq_true bq151 with hc161 | hc161
   ·skip
    refine wp_cond_false (c_false F160 rfl (not_t hc161)) ?_
    refine wp_skip ?_
    refine hK141 _ _ ?_
    clear hK141
    refine wp_seq_k (fun K162 hK162 => ?_)
    refine wp_region_lit ?_
    have b163 := (b143.ext hx154)
    refine qv 0 (.agg #[(.slice dA d.sectors.length dc), (.slice dB d.pending.length de), (.int .i64 d.left), (.bool d.stopped)]) F160 rfl (rn_loadBlk (F160.get rfl) b163 Try.underlying25 rfl inf25) fun _ F165 => ?_; clear F160
    have d166 := (hf93.pres ((((Pres.refl w86).ext hx132).grownN hg139 (fun h => by first | (simp only [Clip, ne_eq, not_true_eq_false, and_false, false_and] at h; done) | (have h2 := h.2; omega) | (rcases h.1 with (h | h) | h <;> first | (simp only [Clip, ne_eq, not_true_eq_false, and_false, false_and] at h; done) | omega | (simp only [Clip] at h; omega)) | (rcases h.1 with h | h <;> first | (simp only [Clip, ne_eq, not_true_eq_false, and_false, false_and] at h; done) | omega | (simp only [Clip] at h; omega)))).ext hx154))
    refine wpl_op (i := 1) rfl (o_call F165 rfl rfl rfl rfl (rn_call (args1 (F165.get rfl)) rfl (by kernel_rfl)) (open_conv (open_at (v := (.agg #[(.slice dA d.sectors.length dc), (.slice dB d.pending.length de), (.int .i64 d.left), (.bool d.stopped)])) d _ d166) (St.open3 hp90)) ?_)
    rintro _ w170 ⟨A167, c168, rfl, hb169, hx171⟩
    refine ⟨_, rfl, ?_⟩; intro a172 F173; clear F165; have z174 := hx171.size
    obtain ⟨-, z176, z177⟩ := RBss.at hb169
    have hf175 : RBss (Clip (fun b => Fr S w b ∧ b ≠ g52 ∧ b ≠ g129) w170) w170 (.slice A167 R.length c168) R := (RBss.clip hb169).sub fun b h => by obtain ⟨h, hlt⟩ := h; have h : w153.heap.size ≤ b := h; exact ⟨⟨.inr (by omega), by omega, by omega⟩, by omega⟩
    refine qv 2 (.tuple #[(.agg #[(.int .i64 (n : Nat)), (.slice A167 R.length c168), (.int .i64 (R.length : Nat))]), (.int .i64 0)]) F173 rfl (rn_move (F173.get rfl)) fun _ F179 => ?_; clear F173
    refine qv 3 (.agg #[(.int .i64 (n : Nat)), (.slice A167 R.length c168), (.int .i64 (R.length : Nat))]) F179 rfl (rn_extract (F179.get rfl) rfl) fun _ F181 => ?_; clear F179
    refine qv 4 (.int .i64 0) F181 rfl (rn_extract (F181.get rfl) rfl) fun _ F183 => ?_; clear F181
    refine wpl_op (i := 5) rfl (o_new (fun g => (.pointer (some ⟨g, 0, none⟩))) [(.int .i64 0), (.slice none 0 0), (.int .i64 0)] 29 F183 rfl rfl rfl rfl (by kernel_rfl) ?_)
    intro g184 w185 a190 F191 z188 z189 b186 hx187; clear F183
    refine wpl_op (i := 6) rfl (o_store (cells := [(.int .i64 (n : Nat)), (.slice A167 R.length c168), (.int .i64 (R.length : Nat))]) F191 rfl rfl rfl rfl (F191.get rfl) (F191.get rfl) b186 inf29 rfl (by simp [Value.oneCell']) ?_)
    intro w192 b193 hg194; have z195 := hg194.size
    refine qv 7 (.int .i64 0) F191 rfl (rn_assign (F191.get rfl)) fun _ F197 => ?_; clear F191
    refine wpList_nil ?_
    refine hK162 _ _ ?_
    clear hK162
    have F198 := (((((((((((((((((F197.nil.c F197 11 rfl).c F197 10 rfl).c F197 48 rfl).c F197 9 rfl).c F197 41 rfl).c F197 40 rfl).c F197 39 rfl).c F197 38 rfl).c F197 7 rfl).c F197 37 rfl).c F197 6 rfl).c F197 5 rfl).c F197 27 rfl).c F197 24 rfl).c F197 4 rfl).c F197 1 rfl).c F197 0 rfl)
    clear F197
    refine wp_seq_k (fun K199 hK199 => ?_)
    refine wp_seq_k (fun K200 hK200 => ?_)
    refine wp_region_lit ?_
    refine qv 0 (.int .i64 0) F198 rfl (rn_move (F198.get rfl)) fun _ F202 => ?_; clear F198
    refine qv 1 (.bool false) F202 rfl (rn_neq' (F202.get rfl) rfl (by decide)) fun _ F204 => ?_; clear F202
    refine qv 2 (.bool false) F204 rfl (rn_move (F204.get rfl)) fun _ F206 => ?_; clear F204
    refine qg 3 (.pointer (some ⟨g184, 2, none⟩)) F206 rfl (rn_field Try.underlying29 rfl (by kernel_rfl) (F206.get rfl) rfl) fun _ F208 => ?_; clear F206
    refine qg 4 (.int .i64 (R.length : Nat)) F208 rfl (rn_load (isAgg_no Try.underlying3 rfl) (F208.get rfl) (b193.rule.1 2)) fun _ F210 => ?_; clear F208
    refine qg 5 (.pointer (some ⟨g184, 1, none⟩)) F210 rfl (rn_field Try.underlying29 rfl (by kernel_rfl) (F210.get rfl) rfl) fun _ F212 => ?_; clear F210
    refine qg 6 (.slice A167 R.length c168) F212 rfl (rn_load (isAgg_no Try.underlying22 rfl) (F212.get rfl) (b193.rule.1 1)) fun _ F214 => ?_; clear F212
    refine qg 7 (.int .i64 (R.length : Nat)) F214 rfl (rn_len_slice Try.underlying22 (F214.get rfl)) fun _ F216 => ?_; clear F214
    refine qg 8 (.bool (decide (((R.length : Nat) : Int) ≠ ((R.length : Nat) : Int)))) F216 rfl (rn_neq (F216.get rfl) (F216.get rfl)) fun _ F218 => ?_; clear F216
    refine qv 9 (.bool (decide (((R.length : Nat) : Int) ≠ ((R.length : Nat) : Int)))) F218 rfl (rn_pickF (c_false F218 rfl rfl) (F218.get rfl)) fun _ F220 => ?_; clear F218
    refine qv 10 (.bool (decide (((R.length : Nat) : Int) ≠ ((R.length : Nat) : Int)))) F220 rfl (rn_move (F220.get rfl)) fun _ F222 => ?_; clear F220
    refine qg 11 (.pointer (some ⟨g184, 1, none⟩)) F222 ((decide_eq_false (by simp)) : decide (((R.length : Nat) : Int) ≠ ((R.length : Nat) : Int)) = false) (rn_field Try.underlying29 rfl (by kernel_rfl) (F222.get rfl) rfl) fun _ F225 => ?_; clear F222
    refine qg 12 (.slice A167 R.length c168) F225 ((decide_eq_false (by simp)) : decide (((R.length : Nat) : Int) ≠ ((R.length : Nat) : Int)) = false) (rn_load (isAgg_no Try.underlying22 rfl) (F225.get rfl) (b193.rule.1 1)) fun _ F227 => ?_; clear F225
    refine qg 13 (.slice Ak R.length ck) F227 ((decide_eq_false (by simp)) : decide (((R.length : Nat) : Int) ≠ ((R.length : Nat) : Int)) = false) (rn_move (F227.get rfl)) fun _ F229 => ?_; clear F227
    have d230 := (hf175.pres (((Pres.refl w170).ext hx187).grownN hg194 (fun h => by first | (simp only [Clip, ne_eq, not_true_eq_false, and_false, false_and] at h; done) | (have h2 := h.2; omega) | (rcases h.1 with (h | h) | h <;> first | (simp only [Clip, ne_eq, not_true_eq_false, and_false, false_and] at h; done) | omega | (simp only [Clip] at h; omega)) | (rcases h.1 with h | h <;> first | (simp only [Clip, ne_eq, not_true_eq_false, and_false, false_and] at h; done) | omega | (simp only [Clip] at h; omega)))))
    have d231 := (hf94.pres (((((((Pres.refl w86).ext hx132).grownN hg139 (fun h => by first | (simp only [Clip, ne_eq, not_true_eq_false, and_false, false_and] at h; done) | (have h2 := h.2; omega) | (rcases h.1 with (h | h) | h <;> first | (simp only [Clip, ne_eq, not_true_eq_false, and_false, false_and] at h; done) | omega | (simp only [Clip] at h; omega)) | (rcases h.1 with h | h <;> first | (simp only [Clip, ne_eq, not_true_eq_false, and_false, false_and] at h; done) | omega | (simp only [Clip] at h; omega)))).ext hx154).ext hx171).ext hx187).grownN hg194 (fun h => by first | (simp only [Clip, ne_eq, not_true_eq_false, and_false, false_and] at h; done) | (have h2 := h.2; omega) | (rcases h.1 with (h | h) | h <;> first | (simp only [Clip, ne_eq, not_true_eq_false, and_false, false_and] at h; done) | omega | (simp only [Clip] at h; omega)) | (rcases h.1 with h | h <;> first | (simp only [Clip, ne_eq, not_true_eq_false, and_false, false_and] at h; done) | omega | (simp only [Clip] at h; omega)))))
    refine wpl_op (i := 14) rfl (o_call F229 rfl (wanted_guard rfl rfl rfl F229 rfl ((decide_eq_false (by simp)) : decide (((R.length : Nat) : Int) ≠ ((R.length : Nat) : Int)) = false) rfl) rfl rfl (rn_call (args2 (F229.get rfl) (F229.get rfl)) rfl (by kernel_rfl)) (samer_at (v := (.slice A167 R.length c168)) (u := (.slice Ak R.length ck)) R R _ d230 d231) ?_)
    rintro _ w232 ⟨rfl, hx233⟩
    refine ⟨_, rfl, ?_⟩; intro a234 F235; clear F229; have z236 := hx233.size
    refine qg 15 (.bool (!(decide (R = R)))) F235 ((decide_eq_false (by simp)) : decide (((R.length : Nat) : Int) ≠ ((R.length : Nat) : Int)) = false) (rn_not' (F235.get rfl) rfl) fun _ F238 => ?_; clear F235
    refine qv 16 (.bool (!(decide (R = R)))) F238 rfl (rn_pickF (c_false F238 rfl ((decide_eq_false (by simp)) : decide (((R.length : Nat) : Int) ≠ ((R.length : Nat) : Int)) = false)) (F238.get rfl)) fun _ F240 => ?_; clear F238
    refine wpList_nil ?_
    refine hK200 _ _ ?_
    clear hK200
    have F241 := ((((((((((((((((((F240.nil.c F240 70 rfl).c F240 11 rfl).c F240 10 rfl).c F240 48 rfl).c F240 9 rfl).c F240 41 rfl).c F240 40 rfl).c F240 39 rfl).c F240 38 rfl).c F240 7 rfl).c F240 37 rfl).c F240 6 rfl).c F240 5 rfl).c F240 27 rfl).c F240 24 rfl).c F240 4 rfl).c F240 1 rfl).c F240 0 rfl)
    clear F240
    refine wp_cond_false (c_false F241 rfl (not_t ((decide_eq_true rfl) : decide (R = R) = true))) ?_
    refine wp_skip ?_
    refine hK199 _ _ ?_
    clear hK199
    refine wp_seq_k (fun K243 hK243 => ?_)
    refine wp_seq_k (fun K244 hK244 => ?_)
    refine wp_region_lit ?_
    refine qv 0 (.pointer (some ⟨g129, 0, none⟩)) F241 rfl (rn_field Try.underlying55 rfl (by kernel_rfl) (F241.get rfl) rfl) fun _ F246 => ?_; clear F241
    have b247 := (((((b138.ext hx154).ext hx171).ext hx187).grownN hg194 (by omega)).ext hx233)
    refine qv 1 (.slice A113 x108.recs.length c114) F246 rfl (rn_load (isAgg_no Try.underlying22 rfl) (F246.get rfl) (b247.rule.1 0)) fun _ F249 => ?_; clear F246
    refine qv 2 (.int .i64 (x108.recs.length : Nat)) F249 rfl (rn_len_slice Try.underlying22 (F249.get rfl)) fun _ F251 => ?_; clear F249
    refine qv 3 (.int .i64 0) F251 rfl (rn_move rfl) fun _ F253 => ?_; clear F251
    refine wpList_nil ?_
    refine hK244 _ _ ?_
    clear hK244
    refine wp_block ?_
    have d254 := (hf93.pres ((((((((Pres.refl w86).ext hx132).grownN hg139 (fun h => by first | (simp only [Clip, ne_eq, not_true_eq_false, and_false, false_and] at h; done) | (have h2 := h.2; omega) | (rcases h.1 with (h | h) | h <;> first | (simp only [Clip, ne_eq, not_true_eq_false, and_false, false_and] at h; done) | omega | (simp only [Clip] at h; omega)) | (rcases h.1 with h | h <;> first | (simp only [Clip, ne_eq, not_true_eq_false, and_false, false_and] at h; done) | omega | (simp only [Clip] at h; omega)))).ext hx154).ext hx171).ext hx187).grownN hg194 (fun h => by first | (simp only [Clip, ne_eq, not_true_eq_false, and_false, false_and] at h; done) | (have h2 := h.2; omega) | (rcases h.1 with (h | h) | h <;> first | (simp only [Clip, ne_eq, not_true_eq_false, and_false, false_and] at h; done) | omega | (simp only [Clip] at h; omega)) | (rcases h.1 with h | h <;> first | (simp only [Clip, ne_eq, not_true_eq_false, and_false, false_and] at h; done) | omega | (simp only [Clip] at h; omega)))).ext hx233))
    have d255 := (hf94.pres ((((((((Pres.refl w86).ext hx132).grownN hg139 (fun h => by first | (simp only [Clip, ne_eq, not_true_eq_false, and_false, false_and] at h; done) | (have h2 := h.2; omega) | (rcases h.1 with (h | h) | h <;> first | (simp only [Clip, ne_eq, not_true_eq_false, and_false, false_and] at h; done) | omega | (simp only [Clip] at h; omega)) | (rcases h.1 with h | h <;> first | (simp only [Clip, ne_eq, not_true_eq_false, and_false, false_and] at h; done) | omega | (simp only [Clip] at h; omega)))).ext hx154).ext hx171).ext hx187).grownN hg194 (fun h => by first | (simp only [Clip, ne_eq, not_true_eq_false, and_false, false_and] at h; done) | (have h2 := h.2; omega) | (rcases h.1 with (h | h) | h <;> first | (simp only [Clip, ne_eq, not_true_eq_false, and_false, false_and] at h; done) | omega | (simp only [Clip] at h; omega)) | (rcases h.1 with h | h <;> first | (simp only [Clip, ne_eq, not_true_eq_false, and_false, false_and] at h; done) | omega | (simp only [Clip] at h; omega)))).ext hx233))
    have d256 := (hr120.pres ((((((((Pres.refl w86).ext hx132).grownN hg139 (fun h => by simp only [Clip] at h; omega)).ext hx154).ext hx171).ext hx187).grownN hg194 (fun h => by simp only [Clip] at h; omega)).ext hx233))
    have d257 := (hf175.pres ((((Pres.refl w170).ext hx187).grownN hg194 (fun h => by first | (simp only [Clip, ne_eq, not_true_eq_false, and_false, false_and] at h; done) | (have h2 := h.2; omega) | (rcases h.1 with (h | h) | h <;> first | (simp only [Clip, ne_eq, not_true_eq_false, and_false, false_and] at h; done) | omega | (simp only [Clip] at h; omega)) | (rcases h.1 with h | h <;> first | (simp only [Clip, ne_eq, not_true_eq_false, and_false, false_and] at h; done) | omega | (simp only [Clip] at h; omega)))).ext hx233))
    have b258 := ((((b163.ext hx171).ext hx187).grownN hg194 (by omega)).ext hx233)
    have b259 := (b193.ext hx233)
    refine wp_loop (fun a' W => ∃ (j : Nat) (Q : List (List UInt8)) (Aq : Option Addr) (cq : Nat), Sl 195 [(0, (.int .u8 (x0.toNat : Nat))), (1, (.slice A l.length c)), (4, (.bool false)), (24, (.bool false)), (27, (.bool (decide ((8 : Int) < ((l.length : Nat) : Int))))), (5, (.pointer (some ⟨g52, 0, none⟩))), (6, (.int .i64 0)), (37, (.bool false)), (7, (.slice Ak R.length ck)), (38, (.slice A l.length c)), (39, (.int .i64 (l.length : Nat))), (40, (.int .i64 (k : Nat))), (41, (.bool (decide (((k : Nat) : Int) < ((l.length : Nat) : Int))))), (9, (.pointer (some ⟨g129, 0, none⟩))), (48, (.bool (!bq151))), (10, (.pointer (some ⟨g184, 0, none⟩))), (11, (.int .i64 0)), (70, (.bool (!(decide (R = R))))), (72, (.slice A113 x108.recs.length c114)), (73, (.int .i64 (x108.recs.length : Nat))), (74, (.int .i64 (j : Nat)))] a' ∧ j ≤ x108.recs.length ∧ Q = addAll n R (x108.recs.take j) ∧ Ext w W ∧ Blk W g52 25 [(.slice dA d.sectors.length dc), (.slice dB d.pending.length de), (.int .i64 d.left), (.bool d.stopped)] ∧ Blk W g129 55 [(.slice A113 x108.recs.length c114), (.bool x108.stop), (.int .u8 (x108.left.toNat : Nat))] ∧ Blk W g184 29 [(.int .i64 (n : Nat)), (.slice Aq Q.length cq), (.int .i64 (R.length : Nat))] ∧ RDk (Clip (fun b => Fr S w b ∧ b ≠ g52) w86) W (.agg #[(.slice dA d.sectors.length dc), (.slice dB d.pending.length de), (.int .i64 d.left), (.bool d.stopped)]) d ∧ RBss (Clip (fun b => Fr S w b ∧ b ≠ g52) w86) W (.slice Ak R.length ck) R ∧ RBss (Clip S w) W (.slice A113 x108.recs.length c114) x108.recs ∧ RBss (Clip (fun b => Fr S w b ∧ b ≠ g52 ∧ b ≠ g129) w170) W (.slice A167 R.length c168) R ∧ RBss (Clip (fun b => Fr S w b ∧ b ≠ g52 ∧ b ≠ g129 ∧ b ≠ g184) W) W (.slice Aq Q.length cq) Q ∧ w232.heap.size ≤ W.heap.size) (fun a' _ => x108.recs.length - (intOf (a'.eval (.tmp 74))).toNat) ⟨0, R, A167, c168, (((((((((((((((((((((F253.nil.cons (q_get F253 (t := 74) rfl (by first | rfl | (congr 1; omega) | (congr 1; done)))).cons (q_get F253 (t := 73) rfl rfl)).cons (q_get F253 (t := 72) rfl rfl)).cons (q_get F253 (t := 70) rfl rfl)).cons (q_get F253 (t := 11) rfl rfl)).cons (q_get F253 (t := 10) rfl rfl)).cons (q_get F253 (t := 48) rfl rfl)).cons (q_get F253 (t := 9) rfl rfl)).cons (q_get F253 (t := 41) rfl rfl)).cons (q_get F253 (t := 40) rfl rfl)).cons (q_get F253 (t := 39) rfl rfl)).cons (q_get F253 (t := 38) rfl rfl)).cons (q_get F253 (t := 7) rfl rfl)).cons (q_get F253 (t := 37) rfl rfl)).cons (q_get F253 (t := 6) rfl rfl)).cons (q_get F253 (t := 5) rfl rfl)).cons (q_get F253 (t := 27) rfl rfl)).cons (q_get F253 (t := 24) rfl rfl)).cons (q_get F253 (t := 4) rfl rfl)).cons (q_get F253 (t := 1) rfl rfl)).cons (q_get F253 (t := 0) rfl rfl)), (by omega), rfl, (((((((((Ext.refl w).trans hx88).trans hx132).grownN hg139 (by omega)).trans hx154).trans hx171).trans hx187).grownN hg194 (by omega)).trans hx233), b258, b247, b259, d254, d255, d256, d257, (RBss.sub (S := (Clip (fun b => Fr S w b ∧ b ≠ g52 ∧ b ≠ g129) w170)) d257 fun b h => by obtain ⟨h, hlt⟩ := h; exact ⟨⟨h.1, h.2.1, h.2.2, by clear h; omega⟩, by clear h; omega⟩), (Nat.le_refl _)⟩ ?_
    clear F253
    rintro a260 w261 ⟨j, Q, Aq, cq, F262, hp264, hp265, hx263, b266, b267, b268, hf269, hf270, hf271, hf272, hf273, hf274⟩
    have hL275 := F262
    have z276 := hx263.size
    have z277 := b266.lt
    have z278 := b267.lt
    have z279 := b268.lt
    obtain ⟨-, z280, z281⟩ := RBss.at hf273
    have hQf := addAll_facts n R hru (x108.recs.take j); rw [← hp265] at hQf
    have hQl := addAll_len n R (x108.recs.take j); rw [← hp265] at hQl
    have hQb := used_bnd hQf.1 hnb.2
    have hlc : (Lg.mk (n : Nat) Q (R.length : Nat)).check = 0 := check_eq (by omega) (by omega) (by omega) (by omega) (by omega)
    refine wp_seq_k (fun K282 hK282 => ?_)
    refine wp_region_lit ?_
    refine qv 0 (.bool (decide (((j : Nat) : Int) < ((x108.recs.length : Nat) : Int)))) F262 rfl (rn_lss (F262.get rfl) (F262.get rfl)) fun _ F284 => ?_; clear F262
    refine wpList_nil ?_
    refine hK282 _ _ ?_
    clear hK282
    refine wp_seq_k (fun K285 hK285 => ?_)
    by_cases hc286 : ((j : Nat) : Int) < ((x108.recs.length : Nat) : Int)
    ·skip
     refine wp_cond_true (c_true F284 rfl (decide_eq_true hc286)) ?_
     refine wp_skip ?_
     refine hK285 _ _ ?_
     clear hK285
     refine wp_seq_k (fun K287 hK287 => ?_)
     refine wp_block ?_
     refine wp_seq_k (fun K288 hK288 => ?_)
     refine wp_region_lit ?_
     obtain ⟨x289, hi290, hm291⟩ := nth_of_lt x108.recs j (by omega)
     obtain ⟨b292, o293, A294, c295, hA296, hl297, hc298, hr299, le300, le301⟩ := RBss.get hf271 hi290
     have z302 := (hbs x108 (List.mem_of_getElem? hi109)) x289 (List.mem_of_getElem? hi290)
     refine qv 0 (.pointer (some ⟨b292, o293 + j, none⟩)) F284 rfl (rn_index1 Try.underlying22 inf35 ((F284.get rfl).trans (by rw [hA296])) (F284.get rfl) (by omega : (0 : Int) ≤ (j : Nat)) (by omega : ((j : Nat) : Int) < ((x108.recs.length : Nat) : Int))) fun _ F304 => ?_; clear F284
     refine qv 1 (.slice A294 x289.length c295) F304 rfl (rn_load (isAgg_no Try.underlying35 rfl) (F304.get rfl) (Ext.keep (Ext.refl w261) hc298)) fun _ F306 => ?_; clear F304
     refine qv 2 (.slice A294 x289.length c295) F306 rfl (rn_assign (F306.get rfl)) fun _ F308 => ?_; clear F306
     refine wpList_nil ?_
     refine hK288 _ _ ?_
     clear hK288
     refine wp_seq_k (fun K309 hK309 => ?_)
     by_cases hc310 : usedL Q + secs x289.length ≤ n
     ·skip
      have hfit := hc310
      refine wp_region_lit ?_
      refine qv 0 (.agg #[(.int .i64 (n : Nat)), (.slice Aq Q.length cq), (.int .i64 (R.length : Nat))]) F308 rfl (rn_loadBlk (F308.get rfl) b268 Try.underlying29 rfl inf29) fun _ F312 => ?_; clear F308
      refine qv 1 (.slice A294 x289.length c295) F312 rfl (rn_move (F312.get rfl)) fun _ F314 => ?_; clear F312
      refine wpl_op (i := 2) rfl (o_call F314 rfl rfl rfl rfl (rn_call (args2 (F314.get rfl) (F314.get rfl)) rfl (by kernel_rfl)) (app_conv (app_at (S := (fun b => (Clip (fun b => Fr S w b ∧ b ≠ g52 ∧ b ≠ g129 ∧ b ≠ g184) w261) b ∨ (Clip S w) b)) (v := (.slice Aq Q.length cq)) (u := (.slice A294 x289.length c295)) (n := x289.length) (n : Nat) Q (R.length : Nat) x289 _ (RBss.sub hf273 fun b hb => .inl hb) hQb.1 (by omega) (Fl.sub (RBs.fl hr299) fun b hb => .inr hb) (by omega)) (app_fit hlc (by omega) (by omega))) ?_)
      rintro _ w318 ⟨A315, c316, rfl, hb317, hx319⟩
      refine ⟨_, rfl, ?_⟩; intro a320 F321; clear F314; have z322 := hx319.size
      obtain ⟨-, z324, z325⟩ := RBss.at hb317
      have hf323 : RBss (Clip (fun b => Fr S w b ∧ b ≠ g52 ∧ b ≠ g129 ∧ b ≠ g184) w318) w318 (.slice A315 ((Q ++ [x289]).length) c316) (Q ++ [x289]) := (RBss.clip hb317).sub fun b h => by obtain ⟨h, hlt⟩ := h; (rcases h with h | h; (focus ((rcases h with h | h; (focus (obtain ⟨h, hlt⟩ := h; exact ⟨⟨h.1, h.2.1, h.2.2.1, h.2.2.2⟩, by clear h; omega⟩)); (obtain ⟨h, hlt⟩ := h; have hS := h; clear h; exact ⟨⟨.inl hS, by omega, by omega, by omega⟩, by omega⟩)))); (exact ⟨⟨.inr (by omega), by omega, by omega, by omega⟩, by omega⟩))
      refine qv 3 (.tuple #[(.agg #[(.int .i64 (n : Nat)), (.slice A315 ((Q ++ [x289]).length) c316), (.int .i64 (R.length : Nat))]), (.int .i64 0)]) F321 rfl (rn_move (F321.get rfl)) fun _ F327 => ?_; clear F321
      refine qv 4 (.agg #[(.int .i64 (n : Nat)), (.slice A315 ((Q ++ [x289]).length) c316), (.int .i64 (R.length : Nat))]) F327 rfl (rn_extract (F327.get rfl) rfl) fun _ F329 => ?_; clear F327
      refine qv 5 (.int .i64 0) F329 rfl (rn_extract (F329.get rfl) rfl) fun _ F331 => ?_; clear F329
      refine wpl_op (i := 6) rfl (o_new (fun g => (.pointer (some ⟨g, 0, none⟩))) [(.int .i64 0), (.slice none 0 0), (.int .i64 0)] 29 F331 rfl rfl rfl rfl (by kernel_rfl) ?_)
      intro g332 w333 a338 F339 z336 z337 b334 hx335; clear F331
      refine wpl_op (i := 7) rfl (o_store (cells := [(.int .i64 (n : Nat)), (.slice A315 ((Q ++ [x289]).length) c316), (.int .i64 (R.length : Nat))]) F339 rfl rfl rfl rfl (F339.get rfl) (F339.get rfl) b334 inf29 rfl (by simp [Value.oneCell']) ?_)
      intro w340 b341 hg342; have z343 := hg342.size
      refine qv 8 (.int .i64 0) F339 rfl (rn_assign (F339.get rfl)) fun _ F345 => ?_; clear F339
      refine wpList_nil ?_
      refine hK309 _ _ ?_
      clear hK309
      have F346 := (((((((((((((((((((((((((F345.nil.c F345 15 rfl).c F345 14 rfl).c F345 13 rfl).c F345 75 rfl).c F345 74 rfl).c F345 73 rfl).c F345 72 rfl).c F345 70 rfl).c F345 11 rfl).c F345 10 rfl).c F345 48 rfl).c F345 9 rfl).c F345 41 rfl).c F345 40 rfl).c F345 39 rfl).c F345 38 rfl).c F345 7 rfl).c F345 37 rfl).c F345 6 rfl).c F345 5 rfl).c F345 27 rfl).c F345 24 rfl).c F345 4 rfl).c F345 1 rfl).c F345 0 rfl)
      clear F345
      refine wp_seq_k (fun K347 hK347 => ?_)
      refine wp_region_lit ?_
      refine qv 0 (.int .i64 0) F346 rfl (rn_move (F346.get rfl)) fun _ F349 => ?_; clear F346
      refine qv 1 (.bool true) F349 rfl (rn_eql' (F349.get rfl) rfl (by decide)) fun _ F351 => ?_; clear F349
      refine wpList_nil ?_
      refine hK347 _ _ ?_
      clear hK347
      refine wp_cond_true (c_true F351 rfl rfl) ?_
      refine wp_region_lit ?_
      refine qv 0 (.agg #[(.int .i64 (n : Nat)), (.slice A315 ((Q ++ [x289]).length) c316), (.int .i64 (R.length : Nat))]) F351 rfl (rn_loadBlk (F351.get rfl) b341 Try.underlying29 rfl inf29) fun _ F353 => ?_; clear F351
      have b357 := (((b268.ext hx319).ext hx335).grownN hg342 (by omega))
      refine wpl_op (i := 1) rfl (o_store (cells := [(.int .i64 (n : Nat)), (.slice A315 ((Q ++ [x289]).length) c316), (.int .i64 (R.length : Nat))]) F353 rfl rfl rfl rfl (F353.get rfl) (F353.get rfl) b357 inf29 rfl (by simp [Value.oneCell']) ?_)
      intro w354 b355 hg356; have z358 := hg356.size
      refine wpList_nil ?_
      refine hK287 _ _ ?_
      clear hK287
      refine wp_region_lit ?_
      refine qv 0 (.int .i64 (j + 1 : Nat)) F353 rfl (rn_addN (a := j) (b := 1) (F353.get rfl) rfl (by omega)) fun _ F360 => ?_; clear F353
      refine qv 1 (.int .i64 (j + 1 : Nat)) F360 rfl (rn_move (F360.get rfl)) fun _ F362 => ?_; clear F360
      refine wpList_nil ?_
      have d363 := (hf269.pres (((((Pres.refl w261).ext hx319).ext hx335).grownN hg342 (fun h => by first | (simp only [Clip, ne_eq, not_true_eq_false, and_false, false_and] at h; done) | (have h2 := h.2; omega) | (rcases h.1 with (h | h) | h <;> first | (simp only [Clip, ne_eq, not_true_eq_false, and_false, false_and] at h; done) | omega | (simp only [Clip] at h; omega)) | (rcases h.1 with h | h <;> first | (simp only [Clip, ne_eq, not_true_eq_false, and_false, false_and] at h; done) | omega | (simp only [Clip] at h; omega)))).grownN hg356 (fun h => by first | (simp only [Clip, ne_eq, not_true_eq_false, and_false, false_and] at h; done) | (have h2 := h.2; omega) | (rcases h.1 with (h | h) | h <;> first | (simp only [Clip, ne_eq, not_true_eq_false, and_false, false_and] at h; done) | omega | (simp only [Clip] at h; omega)) | (rcases h.1 with h | h <;> first | (simp only [Clip, ne_eq, not_true_eq_false, and_false, false_and] at h; done) | omega | (simp only [Clip] at h; omega)))))
      have d364 := (hf270.pres (((((Pres.refl w261).ext hx319).ext hx335).grownN hg342 (fun h => by first | (simp only [Clip, ne_eq, not_true_eq_false, and_false, false_and] at h; done) | (have h2 := h.2; omega) | (rcases h.1 with (h | h) | h <;> first | (simp only [Clip, ne_eq, not_true_eq_false, and_false, false_and] at h; done) | omega | (simp only [Clip] at h; omega)) | (rcases h.1 with h | h <;> first | (simp only [Clip, ne_eq, not_true_eq_false, and_false, false_and] at h; done) | omega | (simp only [Clip] at h; omega)))).grownN hg356 (fun h => by first | (simp only [Clip, ne_eq, not_true_eq_false, and_false, false_and] at h; done) | (have h2 := h.2; omega) | (rcases h.1 with (h | h) | h <;> first | (simp only [Clip, ne_eq, not_true_eq_false, and_false, false_and] at h; done) | omega | (simp only [Clip] at h; omega)) | (rcases h.1 with h | h <;> first | (simp only [Clip, ne_eq, not_true_eq_false, and_false, false_and] at h; done) | omega | (simp only [Clip] at h; omega)))))
      have d365 := (hf271.pres (((((Pres.refl w261).ext hx319).ext hx335).grownN hg342 (fun h => by simp only [Clip] at h; omega)).grownN hg356 (fun h => by simp only [Clip] at h; omega)))
      have d366 := (hf272.pres (((((Pres.refl w261).ext hx319).ext hx335).grownN hg342 (fun h => by first | (simp only [Clip, ne_eq, not_true_eq_false, and_false, false_and] at h; done) | (have h2 := h.2; omega) | (rcases h.1 with (h | h) | h <;> first | (simp only [Clip, ne_eq, not_true_eq_false, and_false, false_and] at h; done) | omega | (simp only [Clip] at h; omega)) | (rcases h.1 with h | h <;> first | (simp only [Clip, ne_eq, not_true_eq_false, and_false, false_and] at h; done) | omega | (simp only [Clip] at h; omega)))).grownN hg356 (fun h => by first | (simp only [Clip, ne_eq, not_true_eq_false, and_false, false_and] at h; done) | (have h2 := h.2; omega) | (rcases h.1 with (h | h) | h <;> first | (simp only [Clip, ne_eq, not_true_eq_false, and_false, false_and] at h; done) | omega | (simp only [Clip] at h; omega)) | (rcases h.1 with h | h <;> first | (simp only [Clip, ne_eq, not_true_eq_false, and_false, false_and] at h; done) | omega | (simp only [Clip] at h; omega)))))
      have d367 := (hf323.pres ((((Pres.refl w318).ext hx335).grownN hg342 (fun h => by first | (simp only [Clip, ne_eq, not_true_eq_false, and_false, false_and] at h; done) | (have h2 := h.2; omega) | (rcases h.1 with (h | h) | h <;> first | (simp only [Clip, ne_eq, not_true_eq_false, and_false, false_and] at h; done) | omega | (simp only [Clip] at h; omega)) | (rcases h.1 with h | h <;> first | (simp only [Clip, ne_eq, not_true_eq_false, and_false, false_and] at h; done) | omega | (simp only [Clip] at h; omega)))).grownN hg356 (fun h => by first | (simp only [Clip, ne_eq, not_true_eq_false, and_false, false_and] at h; done) | (have h2 := h.2; omega) | (rcases h.1 with (h | h) | h <;> first | (simp only [Clip, ne_eq, not_true_eq_false, and_false, false_and] at h; done) | omega | (simp only [Clip] at h; omega)) | (rcases h.1 with h | h <;> first | (simp only [Clip, ne_eq, not_true_eq_false, and_false, false_and] at h; done) | omega | (simp only [Clip] at h; omega)))))
      have b368 := ((((b266.ext hx319).ext hx335).grownN hg342 (by omega)).grownN hg356 (by omega))
      have b369 := ((((b267.ext hx319).ext hx335).grownN hg342 (by omega)).grownN hg356 (by omega))
      refine ⟨⟨(j + 1), (Q ++ [x289]), A315, c316, (((((((((((((((((((((F362.nil.cons (q_get F362 (t := 74) rfl (by first | rfl | (congr 1; omega) | (congr 1; done)))).cons (q_get F362 (t := 73) rfl rfl)).cons (q_get F362 (t := 72) rfl rfl)).cons (q_get F362 (t := 70) rfl rfl)).cons (q_get F362 (t := 11) rfl rfl)).cons (q_get F362 (t := 10) rfl rfl)).cons (q_get F362 (t := 48) rfl rfl)).cons (q_get F362 (t := 9) rfl rfl)).cons (q_get F362 (t := 41) rfl rfl)).cons (q_get F362 (t := 40) rfl rfl)).cons (q_get F362 (t := 39) rfl rfl)).cons (q_get F362 (t := 38) rfl rfl)).cons (q_get F362 (t := 7) rfl rfl)).cons (q_get F362 (t := 37) rfl rfl)).cons (q_get F362 (t := 6) rfl rfl)).cons (q_get F362 (t := 5) rfl rfl)).cons (q_get F362 (t := 27) rfl rfl)).cons (q_get F362 (t := 24) rfl rfl)).cons (q_get F362 (t := 4) rfl rfl)).cons (q_get F362 (t := 1) rfl rfl)).cons (q_get F362 (t := 0) rfl rfl)), (by omega), (by rw [addAll_take n R hi290, ← hp265, if_pos (by omega)]), ((((((Ext.refl w).trans hx263).trans hx319).trans hx335).grownN hg342 (by omega)).grownN hg356 (by omega)), b368, b369, b355, d363, d364, d365, d366, (RBss.sub (S := (Clip (fun b => Fr S w b ∧ b ≠ g52 ∧ b ≠ g129 ∧ b ≠ g184) w318)) d367 fun b h => by obtain ⟨h, hlt⟩ := h; exact ⟨⟨h.1, h.2.1, h.2.2.1, h.2.2.2⟩, by clear h; omega⟩), (by omega)⟩, ?_⟩
      rw [F362.get (t := 74) rfl, hL275.get (t := 74) rfl]; simp [intOf] <;> omega
     ·skip
      have hfit := hc310
      refine wp_region_lit ?_
      refine qv 0 (.agg #[(.int .i64 (n : Nat)), (.slice Aq Q.length cq), (.int .i64 (R.length : Nat))]) F308 rfl (rn_loadBlk (F308.get rfl) b268 Try.underlying29 rfl inf29) fun _ F371 => ?_; clear F308
      refine qv 1 (.slice A294 x289.length c295) F371 rfl (rn_move (F371.get rfl)) fun _ F373 => ?_; clear F371
      refine wpl_op (i := 2) rfl (o_call F373 rfl rfl rfl rfl (rn_call (args2 (F373.get rfl) (F373.get rfl)) rfl (by kernel_rfl)) (app_conv (app_at (S := (fun b => (Clip (fun b => Fr S w b ∧ b ≠ g52 ∧ b ≠ g129 ∧ b ≠ g184) w261) b ∨ (Clip S w) b)) (v := (.slice Aq Q.length cq)) (u := (.slice A294 x289.length c295)) (n := x289.length) (n : Nat) Q (R.length : Nat) x289 _ (RBss.sub hf273 fun b hb => .inl hb) hQb.1 (by omega) (Fl.sub (RBs.fl hr299) fun b hb => .inr hb) (by omega)) (app_full hlc (by omega) (by omega))) ?_)
      rintro _ w377 ⟨A374, c375, rfl, hb376, hx378⟩
      refine ⟨_, rfl, ?_⟩; intro a379 F380; clear F373; have z381 := hx378.size
      obtain ⟨-, z383, z384⟩ := RBss.at hb376
      have hf382 : RBss (Clip (fun b => Fr S w b ∧ b ≠ g52 ∧ b ≠ g129 ∧ b ≠ g184) w377) w377 (.slice A374 ((@List.nil (List UInt8)).length) c375) (@List.nil (List UInt8)) := (RBss.clip hb376).sub fun b h => by obtain ⟨h, hlt⟩ := h; (rcases h with h | h; (focus ((rcases h with h | h; (focus (obtain ⟨h, hlt⟩ := h; exact ⟨⟨h.1, h.2.1, h.2.2.1, h.2.2.2⟩, by clear h; omega⟩)); (obtain ⟨h, hlt⟩ := h; have hS := h; clear h; exact ⟨⟨.inl hS, by omega, by omega, by omega⟩, by omega⟩)))); (exact ⟨⟨.inr (by omega), by omega, by omega, by omega⟩, by omega⟩))
      refine qv 3 (.tuple #[(.agg #[(.int .i64 0), (.slice A374 ((@List.nil (List UInt8)).length) c375), (.int .i64 0)]), (.int .i64 2)]) F380 rfl (rn_move (F380.get rfl)) fun _ F386 => ?_; clear F380
      refine qv 4 (.agg #[(.int .i64 0), (.slice A374 ((@List.nil (List UInt8)).length) c375), (.int .i64 0)]) F386 rfl (rn_extract (F386.get rfl) rfl) fun _ F388 => ?_; clear F386
      refine qv 5 (.int .i64 2) F388 rfl (rn_extract (F388.get rfl) rfl) fun _ F390 => ?_; clear F388
      refine wpl_op (i := 6) rfl (o_new (fun g => (.pointer (some ⟨g, 0, none⟩))) [(.int .i64 0), (.slice none 0 0), (.int .i64 0)] 29 F390 rfl rfl rfl rfl (by kernel_rfl) ?_)
      intro g391 w392 a397 F398 z395 z396 b393 hx394; clear F390
      refine wpl_op (i := 7) rfl (o_store (cells := [(.int .i64 0), (.slice A374 ((@List.nil (List UInt8)).length) c375), (.int .i64 0)]) F398 rfl rfl rfl rfl (F398.get rfl) (F398.get rfl) b393 inf29 rfl (by simp [Value.oneCell']) ?_)
      intro w399 b400 hg401; have z402 := hg401.size
      refine qv 8 (.int .i64 2) F398 rfl (rn_assign (F398.get rfl)) fun _ F404 => ?_; clear F398
      refine wpList_nil ?_
      refine hK309 _ _ ?_
      clear hK309
      have F405 := (((((((((((((((((((((((((F404.nil.c F404 15 rfl).c F404 14 rfl).c F404 13 rfl).c F404 75 rfl).c F404 74 rfl).c F404 73 rfl).c F404 72 rfl).c F404 70 rfl).c F404 11 rfl).c F404 10 rfl).c F404 48 rfl).c F404 9 rfl).c F404 41 rfl).c F404 40 rfl).c F404 39 rfl).c F404 38 rfl).c F404 7 rfl).c F404 37 rfl).c F404 6 rfl).c F404 5 rfl).c F404 27 rfl).c F404 24 rfl).c F404 4 rfl).c F404 1 rfl).c F404 0 rfl)
      clear F404
      refine wp_seq_k (fun K406 hK406 => ?_)
      refine wp_region_lit ?_
      refine qv 0 (.int .i64 2) F405 rfl (rn_move (F405.get rfl)) fun _ F408 => ?_; clear F405
      refine qv 1 (.bool false) F408 rfl (rn_eql' (F408.get rfl) rfl (by decide)) fun _ F410 => ?_; clear F408
      refine wpList_nil ?_
      refine hK406 _ _ ?_
      clear hK406
      refine wp_cond_false (c_false F410 rfl rfl) ?_
      refine wp_skip ?_
      refine hK287 _ _ ?_
      clear hK287
      refine wp_region_lit ?_
      refine qv 0 (.int .i64 (j + 1 : Nat)) F410 rfl (rn_addN (a := j) (b := 1) (F410.get rfl) rfl (by omega)) fun _ F412 => ?_; clear F410
      refine qv 1 (.int .i64 (j + 1 : Nat)) F412 rfl (rn_move (F412.get rfl)) fun _ F414 => ?_; clear F412
      refine wpList_nil ?_
      have d415 := (hf269.pres ((((Pres.refl w261).ext hx378).ext hx394).grownN hg401 (fun h => by first | (simp only [Clip, ne_eq, not_true_eq_false, and_false, false_and] at h; done) | (have h2 := h.2; omega) | (rcases h.1 with (h | h) | h <;> first | (simp only [Clip, ne_eq, not_true_eq_false, and_false, false_and] at h; done) | omega | (simp only [Clip] at h; omega)) | (rcases h.1 with h | h <;> first | (simp only [Clip, ne_eq, not_true_eq_false, and_false, false_and] at h; done) | omega | (simp only [Clip] at h; omega)))))
      have d416 := (hf270.pres ((((Pres.refl w261).ext hx378).ext hx394).grownN hg401 (fun h => by first | (simp only [Clip, ne_eq, not_true_eq_false, and_false, false_and] at h; done) | (have h2 := h.2; omega) | (rcases h.1 with (h | h) | h <;> first | (simp only [Clip, ne_eq, not_true_eq_false, and_false, false_and] at h; done) | omega | (simp only [Clip] at h; omega)) | (rcases h.1 with h | h <;> first | (simp only [Clip, ne_eq, not_true_eq_false, and_false, false_and] at h; done) | omega | (simp only [Clip] at h; omega)))))
      have d417 := (hf271.pres ((((Pres.refl w261).ext hx378).ext hx394).grownN hg401 (fun h => by simp only [Clip] at h; omega)))
      have d418 := (hf272.pres ((((Pres.refl w261).ext hx378).ext hx394).grownN hg401 (fun h => by first | (simp only [Clip, ne_eq, not_true_eq_false, and_false, false_and] at h; done) | (have h2 := h.2; omega) | (rcases h.1 with (h | h) | h <;> first | (simp only [Clip, ne_eq, not_true_eq_false, and_false, false_and] at h; done) | omega | (simp only [Clip] at h; omega)) | (rcases h.1 with h | h <;> first | (simp only [Clip, ne_eq, not_true_eq_false, and_false, false_and] at h; done) | omega | (simp only [Clip] at h; omega)))))
      have d419 := (hf273.pres ((((Pres.refl w261).ext hx378).ext hx394).grownN hg401 (fun h => by first | (simp only [Clip, ne_eq, not_true_eq_false, and_false, false_and] at h; done) | (have h2 := h.2; omega) | (rcases h.1 with (h | h) | h <;> first | (simp only [Clip, ne_eq, not_true_eq_false, and_false, false_and] at h; done) | omega | (simp only [Clip] at h; omega)) | (rcases h.1 with h | h <;> first | (simp only [Clip, ne_eq, not_true_eq_false, and_false, false_and] at h; done) | omega | (simp only [Clip] at h; omega)))))
      have b420 := (((b266.ext hx378).ext hx394).grownN hg401 (by omega))
      have b421 := (((b267.ext hx378).ext hx394).grownN hg401 (by omega))
      have b422 := (((b268.ext hx378).ext hx394).grownN hg401 (by omega))
      refine ⟨⟨(j + 1), Q, Aq, cq, (((((((((((((((((((((F414.nil.cons (q_get F414 (t := 74) rfl (by first | rfl | (congr 1; omega) | (congr 1; done)))).cons (q_get F414 (t := 73) rfl rfl)).cons (q_get F414 (t := 72) rfl rfl)).cons (q_get F414 (t := 70) rfl rfl)).cons (q_get F414 (t := 11) rfl rfl)).cons (q_get F414 (t := 10) rfl rfl)).cons (q_get F414 (t := 48) rfl rfl)).cons (q_get F414 (t := 9) rfl rfl)).cons (q_get F414 (t := 41) rfl rfl)).cons (q_get F414 (t := 40) rfl rfl)).cons (q_get F414 (t := 39) rfl rfl)).cons (q_get F414 (t := 38) rfl rfl)).cons (q_get F414 (t := 7) rfl rfl)).cons (q_get F414 (t := 37) rfl rfl)).cons (q_get F414 (t := 6) rfl rfl)).cons (q_get F414 (t := 5) rfl rfl)).cons (q_get F414 (t := 27) rfl rfl)).cons (q_get F414 (t := 24) rfl rfl)).cons (q_get F414 (t := 4) rfl rfl)).cons (q_get F414 (t := 1) rfl rfl)).cons (q_get F414 (t := 0) rfl rfl)), (by omega), (by rw [addAll_take n R hi290, ← hp265, if_neg (by omega)]), (((((Ext.refl w).trans hx263).trans hx378).trans hx394).grownN hg401 (by omega)), b420, b421, b422, d415, d416, d417, d418, (RBss.sub (S := (Clip (fun b => Fr S w b ∧ b ≠ g52 ∧ b ≠ g129 ∧ b ≠ g184) w261)) d419 fun b h => by obtain ⟨h, hlt⟩ := h; exact ⟨⟨h.1, h.2.1, h.2.2.1, h.2.2.2⟩, by clear h; omega⟩), (by omega)⟩, ?_⟩
      rw [F414.get (t := 74) rfl, hL275.get (t := 74) rfl]; simp [intOf] <;> omega
    ·skip
     refine wp_cond_false (c_false F284 rfl (decide_eq_false hc286)) ?_
     refine wp_exit ?_
     refine exit_then ?_
     refine exit_then ?_
     refine exit_here ?_
     refine hK243 _ _ ?_
     clear hK243
     refine wp_seq_k (fun K423 hK423 => ?_)
     refine wp_seq_k (fun K424 hK424 => ?_)
     refine wp_region_lit ?_
     refine qv 0 (.pointer (some ⟨g184, 1, none⟩)) F284 rfl (rn_field Try.underlying29 rfl (by kernel_rfl) (F284.get rfl) rfl) fun _ F426 => ?_; clear F284
     refine qv 1 (.slice Aq Q.length cq) F426 rfl (rn_load (isAgg_no Try.underlying22 rfl) (F426.get rfl) (b268.rule.1 1)) fun _ F428 => ?_; clear F426
     refine qv 2 (.int .i64 (Q.length : Nat)) F428 rfl (rn_len_slice Try.underlying22 (F428.get rfl)) fun _ F430 => ?_; clear F428
     refine qv 3 (.slice Ak R.length ck) F430 rfl (rn_move (F430.get rfl)) fun _ F432 => ?_; clear F430
     refine qv 4 (.int .i64 (R.length : Nat)) F432 rfl (rn_len_slice Try.underlying22 (F432.get rfl)) fun _ F434 => ?_; clear F432
     refine qv 5 (.bool (decide (((Q.length : Nat) : Int) < ((R.length : Nat) : Int)))) F434 rfl (rn_lss (F434.get rfl) (F434.get rfl)) fun _ F436 => ?_; clear F434
     refine wpList_nil ?_
     refine hK424 _ _ ?_
     clear hK424
     have F437 := (((((((((((((((((((((((F436.nil.c F436 93 rfl).c F436 75 rfl).c F436 74 rfl).c F436 73 rfl).c F436 72 rfl).c F436 70 rfl).c F436 11 rfl).c F436 10 rfl).c F436 48 rfl).c F436 9 rfl).c F436 41 rfl).c F436 40 rfl).c F436 39 rfl).c F436 38 rfl).c F436 7 rfl).c F436 37 rfl).c F436 6 rfl).c F436 5 rfl).c F436 27 rfl).c F436 24 rfl).c F436 4 rfl).c F436 1 rfl).c F436 0 rfl)
     clear F436
     refine wp_cond_false (c_false F437 rfl ((decide_eq_false (by omega)) : decide (((Q.length : Nat) : Int) < ((R.length : Nat) : Int)) = false)) ?_
     refine wp_skip ?_
     refine hK423 _ _ ?_
     clear hK423
     refine wp_seq_k (fun K439 hK439 => ?_)
     refine wp_seq_k (fun K440 hK440 => ?_)
     refine wp_region_lit ?_
     refine qv 0 (.pointer (some ⟨g129, 1, none⟩)) F437 rfl (rn_field Try.underlying55 rfl (by kernel_rfl) (F437.get rfl) rfl) fun _ F442 => ?_; clear F437
     refine qv 1 (.bool x108.stop) F442 rfl (rn_load (isAgg_no Try.underlying4 rfl) (F442.get rfl) (b267.rule.1 1)) fun _ F444 => ?_; clear F442
     refine wpList_nil ?_
     refine hK440 _ _ ?_
     clear hK440
     rcases Bool.eq_false_or_eq_true x108.stop with hc445 | hc445
     ·skip
      refine wp_cond_true (c_true F444 rfl hc445) ?_
      refine wp_seq_k (fun K446 hK446 => ?_)
      refine wp_region_lit ?_
      refine qv 0 (.agg #[(.slice dA d.sectors.length dc), (.slice dB d.pending.length de), (.int .i64 d.left), (.bool d.stopped)]) F444 rfl (rn_loadBlk (F444.get rfl) b266 Try.underlying25 rfl inf25) fun _ F448 => ?_; clear F444
      refine qv 1 (.pointer (some ⟨g129, 2, none⟩)) F448 rfl (rn_field Try.underlying55 rfl (by kernel_rfl) (F448.get rfl) rfl) fun _ F450 => ?_; clear F448
      refine qv 2 (.int .u8 (x108.left.toNat : Nat)) F450 rfl (rn_load (isAgg_no Try.underlying5 rfl) (F450.get rfl) (b267.rule.1 2)) fun _ F452 => ?_; clear F450
      refine qv 3 (.int .u8 ((x108.left % (40 : UInt8)).toNat : Nat)) F452 rfl (rn_rem8 (a := x108.left) (b := (40 : UInt8)) (F452.get rfl) rfl (by decide)) fun _ F454 => ?_; clear F452
      have z455 := UInt8.toNat_lt (x108.left % (40 : UInt8))
      refine qv 4 (.int .i64 ((x108.left % (40 : UInt8)).toNat : Nat)) F454 rfl (rn_convW Try.underlying5 Try.underlying3 (F454.get rfl) (cv8_64 (x108.left % (40 : UInt8)))) fun _ F457 => ?_; clear F454
      obtain ⟨dS, hdS⟩ : ∃ z, z = Dk.mk d.sectors d.pending (((x108.left % (40 : UInt8)).toNat : Nat) : Int) d.stopped := ⟨_, rfl⟩
      have hsp := St.stop hp90 (l := (((x108.left % (40 : UInt8)).toNat : Nat) : Int)) (by omega) (by omega); rw [← hdS] at hsp; have hdl : dS.left = (((x108.left % (40 : UInt8)).toNat : Nat) : Int) := by rw [hdS]
      refine wpl_op (i := 5) rfl (o_call F457 rfl rfl rfl rfl (rn_call (args2 (F457.get rfl) (F457.get rfl)) rfl (by kernel_rfl)) (calls_conv (stop_any (S := (Clip (fun b => Fr S w b ∧ b ≠ g52) w86)) _ d _ _ hf269) (congrArg Prod.fst hsp.1) (congrArg Prod.snd hsp.1)) ?_)
      rintro _ w464 ⟨v463, rfl, hd462, hx465⟩
      obtain ⟨A458, c459, B460, e461, rfl, -, -⟩ := hd462.form
      have hd462 := hd462.clip
      refine ⟨_, rfl, ?_⟩; intro a466 F467; clear F457; have z468 := hx465.size
      refine qv 6 (.tuple #[(.agg #[(.slice A458 dS.sectors.length c459), (.slice B460 dS.pending.length e461), (.int .i64 dS.left), (.bool dS.stopped)]), (.int .i64 0)]) F467 rfl (rn_move (F467.get rfl)) fun _ F470 => ?_; clear F467
      refine qv 7 (.agg #[(.slice A458 dS.sectors.length c459), (.slice B460 dS.pending.length e461), (.int .i64 dS.left), (.bool dS.stopped)]) F470 rfl (rn_extract (F470.get rfl) rfl) fun _ F472 => ?_; clear F470
      refine qv 8 (.int .i64 0) F472 rfl (rn_extract (F472.get rfl) rfl) fun _ F474 => ?_; clear F472
      have b478 := (b266.ext hx465)
      refine wpl_op (i := 9) rfl (o_store (cells := [(.slice A458 dS.sectors.length c459), (.slice B460 dS.pending.length e461), (.int .i64 dS.left), (.bool dS.stopped)]) F474 rfl rfl rfl rfl (F474.get rfl) (F474.get rfl) b478 inf25 rfl (by simp [Value.oneCell']) ?_)
      intro w475 b476 hg477; have z479 := hg477.size
      refine qv 10 (.int .i64 0) F474 rfl (rn_assign (F474.get rfl)) fun _ F481 => ?_; clear F474
      refine wpList_nil ?_
      refine hK446 _ _ ?_
      clear hK446
      have F482 := ((((((((((((((((((((((((F481.nil.c F481 95 rfl).c F481 93 rfl).c F481 75 rfl).c F481 74 rfl).c F481 73 rfl).c F481 72 rfl).c F481 70 rfl).c F481 11 rfl).c F481 10 rfl).c F481 48 rfl).c F481 9 rfl).c F481 41 rfl).c F481 40 rfl).c F481 39 rfl).c F481 38 rfl).c F481 7 rfl).c F481 37 rfl).c F481 6 rfl).c F481 5 rfl).c F481 27 rfl).c F481 24 rfl).c F481 4 rfl).c F481 1 rfl).c F481 0 rfl)
      clear F481
      refine wp_seq_k (fun K483 hK483 => ?_)
      refine wp_region_lit ?_
      refine qv 0 (.int .i64 0) F482 rfl (rn_move (F482.get rfl)) fun _ F485 => ?_; clear F482
      refine qv 1 (.bool false) F485 rfl (rn_neq' (F485.get rfl) rfl (by decide)) fun _ F487 => ?_; clear F485
      refine wpList_nil ?_
      refine hK483 _ _ ?_
      clear hK483
      refine wp_cond_false (c_false F487 rfl rfl) ?_
      refine wp_skip ?_
      refine hK439 _ _ ?_
      clear hK439
      refine wp_seq_k (fun K488 hK488 => ?_)
      by_cases hc489 : usedL (Q.drop R.length) ≤ (x108.left % 40).toNat
      ·skip
       have hroom := hc489
       refine wp_region_lit ?_
       have b490 := ((b268.ext hx465).grownN hg477 (by omega))
       refine qv 0 (.agg #[(.int .i64 (n : Nat)), (.slice Aq Q.length cq), (.int .i64 (R.length : Nat))]) F487 rfl (rn_loadBlk (F487.get rfl) b490 Try.underlying29 rfl inf29) fun _ F492 => ?_; clear F487
       refine qv 1 (.agg #[(.slice A458 dS.sectors.length c459), (.slice B460 dS.pending.length e461), (.int .i64 dS.left), (.bool dS.stopped)]) F492 rfl (rn_loadBlk (F492.get rfl) b476 Try.underlying25 rfl inf25) fun _ F494 => ?_; clear F492
       have d495 := (hf273.pres (((Pres.refl w261).ext hx465).grownN hg477 (fun h => by first | (simp only [Clip, ne_eq, not_true_eq_false, and_false, false_and] at h; done) | (have h2 := h.2; omega) | (rcases h.1 with (h | h) | h <;> first | (simp only [Clip, ne_eq, not_true_eq_false, and_false, false_and] at h; done) | omega | (simp only [Clip] at h; omega)) | (rcases h.1 with h | h <;> first | (simp only [Clip, ne_eq, not_true_eq_false, and_false, false_and] at h; done) | omega | (simp only [Clip] at h; omega)))))
       have d496 := (hd462.pres ((Pres.refl w464).grownN hg477 (fun h => by first | (simp only [Clip, ne_eq, not_true_eq_false, and_false, false_and] at h; done) | (have h2 := h.2; omega) | (rcases h.1 with (h | h) | h <;> first | (simp only [Clip, ne_eq, not_true_eq_false, and_false, false_and] at h; done) | omega | (simp only [Clip] at h; omega)) | (rcases h.1 with h | h <;> first | (simp only [Clip, ne_eq, not_true_eq_false, and_false, false_and] at h; done) | omega | (simp only [Clip] at h; omega)))))
       obtain ⟨dz, hsz, hstz, -⟩ := St.sync (s := (R.length : Nat)) hsp.2 (by omega) rfl hQf.2 hQf.1 (.inr (by rw [hdl]; omega))
       refine wpl_op (i := 2) rfl (o_call F494 rfl rfl rfl rfl (rn_call (args2 (F494.get rfl) (F494.get rfl)) rfl (by kernel_rfl)) (sync_conv (sync9_at (S := (fun b => (Clip (fun b => Fr S w b ∧ b ≠ g52 ∧ b ≠ g129 ∧ b ≠ g184) w261) b ∨ (Clip (Fr (Clip (fun b => Fr S w b ∧ b ≠ g52) w86) w261) w464) b)) (v := (.slice Aq Q.length cq)) (u := (.agg #[(.slice A458 dS.sectors.length c459), (.slice B460 dS.pending.length e461), (.int .i64 dS.left), (.bool dS.stopped)])) (n : Nat) Q (R.length : Nat) dS _ (RBss.sub d495 fun b hb => .inl hb) hQb.1 (by omega) (RDk.sub d496 fun b hb => .inr hb)) hsz) ?_)
       rintro _ w506 ⟨A497, c498, v499, rfl, hb500, hd501, hx507⟩
       obtain ⟨A502, c503, B504, e505, rfl, -, -⟩ := hd501.form
       have hd501 := hd501.clip
       refine ⟨_, rfl, ?_⟩; intro a508 F509; clear F494; have z510 := hx507.size
       obtain ⟨-, z512, z513⟩ := RBss.at hb500
       have hf511 : RBss (Clip (fun b => Fr S w b ∧ b ≠ g52 ∧ b ≠ g129 ∧ b ≠ g184) w506) w506 (.slice A497 Q.length c498) Q := (RBss.clip hb500).sub fun b h => by obtain ⟨h, hlt⟩ := h; (rcases h with h | h; (focus ((rcases h with h | h; (focus (obtain ⟨h, hlt⟩ := h; exact ⟨⟨h.1, h.2.1, h.2.2.1, h.2.2.2⟩, by clear h; omega⟩)); (obtain ⟨h, hlt⟩ := h; (rcases h with h | h; (focus (obtain ⟨h, hlt⟩ := h; exact ⟨⟨h.1, h.2, by clear h; omega, by clear h; omega⟩, by clear h; omega⟩)); (exact ⟨⟨.inr (by omega), by omega, by omega, by omega⟩, by omega⟩)))))); (exact ⟨⟨.inr (by omega), by omega, by omega, by omega⟩, by omega⟩))
       have hd514 : RDk (Clip (fun b => Fr S w b ∧ b ≠ g52 ∧ b ≠ g129 ∧ b ≠ g184) w506) w506 (.agg #[(.slice A502 dz.sectors.length c503), (.slice B504 dz.pending.length e505), (.int .i64 dz.left), (.bool dz.stopped)]) dz := RDk.sub hd501 fun b h => by obtain ⟨h, hlt⟩ := h; (rcases h with h | h; (focus ((rcases h with h | h; (focus (obtain ⟨h, hlt⟩ := h; exact ⟨⟨h.1, h.2.1, h.2.2.1, h.2.2.2⟩, by clear h; omega⟩)); (obtain ⟨h, hlt⟩ := h; (rcases h with h | h; (focus (obtain ⟨h, hlt⟩ := h; exact ⟨⟨h.1, h.2, by clear h; omega, by clear h; omega⟩, by clear h; omega⟩)); (exact ⟨⟨.inr (by omega), by omega, by omega, by omega⟩, by omega⟩)))))); (exact ⟨⟨.inr (by omega), by omega, by omega, by omega⟩, by omega⟩))
       refine qv 3 (.tuple #[(.agg #[(.int .i64 (n : Nat)), (.slice A497 Q.length c498), (.int .i64 (Q.length : Nat))]), (.agg #[(.slice A502 dz.sectors.length c503), (.slice B504 dz.pending.length e505), (.int .i64 dz.left), (.bool dz.stopped)]), (.int .i64 0)]) F509 rfl (rn_move (F509.get rfl)) fun _ F516 => ?_; clear F509
       refine qv 4 (.agg #[(.int .i64 (n : Nat)), (.slice A497 Q.length c498), (.int .i64 (Q.length : Nat))]) F516 rfl (rn_extract (F516.get rfl) rfl) fun _ F518 => ?_; clear F516
       refine qv 5 (.agg #[(.slice A502 dz.sectors.length c503), (.slice B504 dz.pending.length e505), (.int .i64 dz.left), (.bool dz.stopped)]) F518 rfl (rn_extract (F518.get rfl) rfl) fun _ F520 => ?_; clear F518
       refine qv 6 (.int .i64 0) F520 rfl (rn_extract (F520.get rfl) rfl) fun _ F522 => ?_; clear F520
       refine wpl_op (i := 7) rfl (o_new (fun g => (.pointer (some ⟨g, 0, none⟩))) [(.int .i64 0), (.slice none 0 0), (.int .i64 0)] 29 F522 rfl rfl rfl rfl (by kernel_rfl) ?_)
       intro g523 w524 a529 F530 z527 z528 b525 hx526; clear F522
       refine wpl_op (i := 8) rfl (o_new (fun g => (.pointer (some ⟨g, 0, none⟩))) [(.slice none 0 0), (.slice none 0 0), (.int .i64 0), (.bool false)] 25 F530 rfl rfl rfl rfl (by kernel_rfl) ?_)
       intro g531 w532 a537 F538 z535 z536 b533 hx534; clear F530
       have b542 := (b525.ext hx534)
       refine wpl_op (i := 9) rfl (o_store (cells := [(.int .i64 (n : Nat)), (.slice A497 Q.length c498), (.int .i64 (Q.length : Nat))]) F538 rfl rfl rfl rfl (F538.get rfl) (F538.get rfl) b542 inf29 rfl (by simp [Value.oneCell']) ?_)
       intro w539 b540 hg541; have z543 := hg541.size
       have b547 := (b533.grownN hg541 (by omega))
       refine wpl_op (i := 10) rfl (o_store (cells := [(.slice A502 dz.sectors.length c503), (.slice B504 dz.pending.length e505), (.int .i64 dz.left), (.bool dz.stopped)]) F538 rfl rfl rfl rfl (F538.get rfl) (F538.get rfl) b547 inf25 rfl (by simp [Value.oneCell']) ?_)
       intro w544 b545 hg546; have z548 := hg546.size
       refine qv 11 (.int .i64 0) F538 rfl (rn_assign (F538.get rfl)) fun _ F550 => ?_; clear F538
       refine wpList_nil ?_
       refine hK488 _ _ ?_
       clear hK488
       have F551 := ((((((((((((((((((((((((((((F550.nil.c F550 18 rfl).c F550 17 rfl).c F550 16 rfl).c F550 106 rfl).c F550 95 rfl).c F550 93 rfl).c F550 75 rfl).c F550 74 rfl).c F550 73 rfl).c F550 72 rfl).c F550 70 rfl).c F550 11 rfl).c F550 10 rfl).c F550 48 rfl).c F550 9 rfl).c F550 41 rfl).c F550 40 rfl).c F550 39 rfl).c F550 38 rfl).c F550 7 rfl).c F550 37 rfl).c F550 6 rfl).c F550 5 rfl).c F550 27 rfl).c F550 24 rfl).c F550 4 rfl).c F550 1 rfl).c F550 0 rfl)
       clear F550
       refine wp_seq_k (fun K552 hK552 => ?_)
       refine wp_seq_k (fun K553 hK553 => ?_)
       refine wp_region_lit ?_
       refine qv 0 (.int .i64 0) F551 rfl (rn_move (F551.get rfl)) fun _ F555 => ?_; clear F551
       refine wpList_nil ?_
       refine hK553 _ _ ?_
       clear hK553
       refine wp_block ?_
       refine wp_seq_k (fun K556 hK556 => ?_)
       refine wp_region_lit ?_
       refine qv 0 (.bool true) F555 rfl (rn_eql' (F555.get rfl) rfl (by decide)) fun _ F558 => ?_; clear F555
       refine qv 1 (.bool true) F558 rfl (rn_assign (F558.get rfl)) fun _ F560 => ?_; clear F558
       refine wpList_nil ?_
       refine hK556 _ _ ?_
       clear hK556
       refine wp_cond_true (c_true F560 rfl rfl) ?_
       refine wp_seq_k (fun K561 hK561 => ?_)
       refine wp_seq_k (fun K562 hK562 => ?_)
       refine wp_region_lit ?_
       refine qv 0 (.pointer (some ⟨g523, 2, none⟩)) F560 rfl (rn_field Try.underlying29 rfl (by kernel_rfl) (F560.get rfl) rfl) fun _ F564 => ?_; clear F560
       have b565 := (b540.grownN hg546 (by omega))
       refine qv 1 (.int .i64 (Q.length : Nat)) F564 rfl (rn_load (isAgg_no Try.underlying3 rfl) (F564.get rfl) (b565.rule.1 2)) fun _ F567 => ?_; clear F564
       refine qv 2 (.pointer (some ⟨g184, 1, none⟩)) F567 rfl (rn_field Try.underlying29 rfl (by kernel_rfl) (F567.get rfl) rfl) fun _ F569 => ?_; clear F567
       have b570 := (((((b490.ext hx507).ext hx526).ext hx534).grownN hg541 (by omega)).grownN hg546 (by omega))
       refine qv 3 (.slice Aq Q.length cq) F569 rfl (rn_load (isAgg_no Try.underlying22 rfl) (F569.get rfl) (b570.rule.1 1)) fun _ F572 => ?_; clear F569
       refine qv 4 (.int .i64 (Q.length : Nat)) F572 rfl (rn_len_slice Try.underlying22 (F572.get rfl)) fun _ F574 => ?_; clear F572
       refine qv 5 (.bool (decide (((Q.length : Nat) : Int) ≠ ((Q.length : Nat) : Int)))) F574 rfl (rn_neq (F574.get rfl) (F574.get rfl)) fun _ F576 => ?_; clear F574
       refine qv 6 (.bool (decide (((Q.length : Nat) : Int) ≠ ((Q.length : Nat) : Int)))) F576 rfl (rn_move (F576.get rfl)) fun _ F578 => ?_; clear F576
       refine qg 7 (.pointer (some ⟨g523, 1, none⟩)) F578 ((decide_eq_false (by simp)) : decide (((Q.length : Nat) : Int) ≠ ((Q.length : Nat) : Int)) = false) (rn_field Try.underlying29 rfl (by kernel_rfl) (F578.get rfl) rfl) fun _ F581 => ?_; clear F578
       refine qg 8 (.slice A497 Q.length c498) F581 ((decide_eq_false (by simp)) : decide (((Q.length : Nat) : Int) ≠ ((Q.length : Nat) : Int)) = false) (rn_load (isAgg_no Try.underlying22 rfl) (F581.get rfl) (b565.rule.1 1)) fun _ F583 => ?_; clear F581
       refine qg 9 (.pointer (some ⟨g184, 1, none⟩)) F583 ((decide_eq_false (by simp)) : decide (((Q.length : Nat) : Int) ≠ ((Q.length : Nat) : Int)) = false) (rn_field Try.underlying29 rfl (by kernel_rfl) (F583.get rfl) rfl) fun _ F585 => ?_; clear F583
       refine qg 10 (.slice Aq Q.length cq) F585 ((decide_eq_false (by simp)) : decide (((Q.length : Nat) : Int) ≠ ((Q.length : Nat) : Int)) = false) (rn_load (isAgg_no Try.underlying22 rfl) (F585.get rfl) (b570.rule.1 1)) fun _ F587 => ?_; clear F585
       have d588 := (hf511.pres (((((Pres.refl w506).ext hx526).ext hx534).grownN hg541 (fun h => by first | (simp only [Clip, ne_eq, not_true_eq_false, and_false, false_and] at h; done) | (have h2 := h.2; omega) | (rcases h.1 with (h | h) | h <;> first | (simp only [Clip, ne_eq, not_true_eq_false, and_false, false_and] at h; done) | omega | (simp only [Clip] at h; omega)) | (rcases h.1 with h | h <;> first | (simp only [Clip, ne_eq, not_true_eq_false, and_false, false_and] at h; done) | omega | (simp only [Clip] at h; omega)))).grownN hg546 (fun h => by first | (simp only [Clip, ne_eq, not_true_eq_false, and_false, false_and] at h; done) | (have h2 := h.2; omega) | (rcases h.1 with (h | h) | h <;> first | (simp only [Clip, ne_eq, not_true_eq_false, and_false, false_and] at h; done) | omega | (simp only [Clip] at h; omega)) | (rcases h.1 with h | h <;> first | (simp only [Clip, ne_eq, not_true_eq_false, and_false, false_and] at h; done) | omega | (simp only [Clip] at h; omega)))))
       have d589 := (hf273.pres ((((((((Pres.refl w261).ext hx465).grownN hg477 (fun h => by first | (simp only [Clip, ne_eq, not_true_eq_false, and_false, false_and] at h; done) | (have h2 := h.2; omega) | (rcases h.1 with (h | h) | h <;> first | (simp only [Clip, ne_eq, not_true_eq_false, and_false, false_and] at h; done) | omega | (simp only [Clip] at h; omega)) | (rcases h.1 with h | h <;> first | (simp only [Clip, ne_eq, not_true_eq_false, and_false, false_and] at h; done) | omega | (simp only [Clip] at h; omega)))).ext hx507).ext hx526).ext hx534).grownN hg541 (fun h => by first | (simp only [Clip, ne_eq, not_true_eq_false, and_false, false_and] at h; done) | (have h2 := h.2; omega) | (rcases h.1 with (h | h) | h <;> first | (simp only [Clip, ne_eq, not_true_eq_false, and_false, false_and] at h; done) | omega | (simp only [Clip] at h; omega)) | (rcases h.1 with h | h <;> first | (simp only [Clip, ne_eq, not_true_eq_false, and_false, false_and] at h; done) | omega | (simp only [Clip] at h; omega)))).grownN hg546 (fun h => by first | (simp only [Clip, ne_eq, not_true_eq_false, and_false, false_and] at h; done) | (have h2 := h.2; omega) | (rcases h.1 with (h | h) | h <;> first | (simp only [Clip, ne_eq, not_true_eq_false, and_false, false_and] at h; done) | omega | (simp only [Clip] at h; omega)) | (rcases h.1 with h | h <;> first | (simp only [Clip, ne_eq, not_true_eq_false, and_false, false_and] at h; done) | omega | (simp only [Clip] at h; omega)))))
       refine wpl_op (i := 11) rfl (o_call F587 rfl (wanted_guard rfl rfl rfl F587 rfl ((decide_eq_false (by simp)) : decide (((Q.length : Nat) : Int) ≠ ((Q.length : Nat) : Int)) = false) rfl) rfl rfl (rn_call (args2 (F587.get rfl) (F587.get rfl)) rfl (by kernel_rfl)) (samer_at (v := (.slice A497 Q.length c498)) (u := (.slice Aq Q.length cq)) Q Q _ d588 d589) ?_)
       rintro _ w590 ⟨rfl, hx591⟩
       refine ⟨_, rfl, ?_⟩; intro a592 F593; clear F587; have z594 := hx591.size
       refine qg 12 (.bool (!(decide (Q = Q)))) F593 ((decide_eq_false (by simp)) : decide (((Q.length : Nat) : Int) ≠ ((Q.length : Nat) : Int)) = false) (rn_not' (F593.get rfl) rfl) fun _ F596 => ?_; clear F593
       refine qv 13 (.bool (!(decide (Q = Q)))) F596 rfl (rn_pickF (c_false F596 rfl ((decide_eq_false (by simp)) : decide (((Q.length : Nat) : Int) ≠ ((Q.length : Nat) : Int)) = false)) (F596.get rfl)) fun _ F598 => ?_; clear F596
       refine wpList_nil ?_
       refine hK562 _ _ ?_
       clear hK562
       have F599 := (((((((((((((((((((((((((((((((F598.nil.c F598 130 rfl).c F598 115 rfl).c F598 114 rfl).c F598 18 rfl).c F598 17 rfl).c F598 16 rfl).c F598 106 rfl).c F598 95 rfl).c F598 93 rfl).c F598 75 rfl).c F598 74 rfl).c F598 73 rfl).c F598 72 rfl).c F598 70 rfl).c F598 11 rfl).c F598 10 rfl).c F598 48 rfl).c F598 9 rfl).c F598 41 rfl).c F598 40 rfl).c F598 39 rfl).c F598 38 rfl).c F598 7 rfl).c F598 37 rfl).c F598 6 rfl).c F598 5 rfl).c F598 27 rfl).c F598 24 rfl).c F598 4 rfl).c F598 1 rfl).c F598 0 rfl)
       clear F598
       refine wp_cond_false (c_false F599 rfl (not_t ((decide_eq_true rfl) : decide (Q = Q) = true))) ?_
       refine wp_skip ?_
       refine hK561 _ _ ?_
       clear hK561
       refine wp_region_lit ?_
       refine qv 0 (.pointer (some ⟨g184, 1, none⟩)) F599 rfl (rn_field Try.underlying29 rfl (by kernel_rfl) (F599.get rfl) rfl) fun _ F602 => ?_; clear F599
       have b603 := (b570.ext hx591)
       refine qv 1 (.slice Aq Q.length cq) F602 rfl (rn_load (isAgg_no Try.underlying22 rfl) (F602.get rfl) (b603.rule.1 1)) fun _ F605 => ?_; clear F602
       refine qv 2 (.slice Aq Q.length cq) F605 rfl (rn_assign (F605.get rfl)) fun _ F607 => ?_; clear F605
       refine wpList_nil ?_
       refine hK552 _ _ ?_
       clear hK552
       refine wp_region_lit ?_
       have b608 := (b545.ext hx591)
       refine qv 0 (.agg #[(.slice A502 dz.sectors.length c503), (.slice B504 dz.pending.length e505), (.int .i64 dz.left), (.bool dz.stopped)]) F607 rfl (rn_loadBlk (F607.get rfl) b608 Try.underlying25 rfl inf25) fun _ F610 => ?_; clear F607
       have d611 := (hd514.pres ((((((Pres.refl w506).ext hx526).ext hx534).grownN hg541 (fun h => by first | (simp only [Clip, ne_eq, not_true_eq_false, and_false, false_and] at h; done) | (have h2 := h.2; omega) | (rcases h.1 with (h | h) | h <;> first | (simp only [Clip, ne_eq, not_true_eq_false, and_false, false_and] at h; done) | omega | (simp only [Clip] at h; omega)) | (rcases h.1 with h | h <;> first | (simp only [Clip, ne_eq, not_true_eq_false, and_false, false_and] at h; done) | omega | (simp only [Clip] at h; omega)))).grownN hg546 (fun h => by first | (simp only [Clip, ne_eq, not_true_eq_false, and_false, false_and] at h; done) | (have h2 := h.2; omega) | (rcases h.1 with (h | h) | h <;> first | (simp only [Clip, ne_eq, not_true_eq_false, and_false, false_and] at h; done) | omega | (simp only [Clip] at h; omega)) | (rcases h.1 with h | h <;> first | (simp only [Clip, ne_eq, not_true_eq_false, and_false, false_and] at h; done) | omega | (simp only [Clip] at h; omega)))).ext hx591))
       refine wpl_op (i := 1) rfl (o_call F610 rfl rfl rfl rfl (rn_call (args1 (F610.get rfl)) rfl (by kernel_rfl)) (restart_any (S := (Clip (fun b => Fr S w b ∧ b ≠ g52 ∧ b ≠ g129 ∧ b ≠ g184) w506)) _ dz _ d611) ?_)
       rintro _ w618 ⟨v617, rfl, hd616, hx619⟩
       obtain ⟨A612, c613, B614, e615, rfl, -, -⟩ := hd616.form
       have hd616 := hd616.clip
       refine ⟨_, rfl, ?_⟩; intro a620 F621; clear F610; have z622 := hx619.size
       have b626 := (((((((b476.ext hx507).ext hx526).ext hx534).grownN hg541 (by omega)).grownN hg546 (by omega)).ext hx591).ext hx619)
       refine wpl_op (i := 2) rfl (o_store (cells := [(.slice A612 dz.restart.sectors.length c613), (.slice B614 dz.restart.pending.length e615), (.int .i64 dz.restart.left), (.bool dz.restart.stopped)]) F621 rfl rfl rfl rfl (F621.get rfl) (F621.get rfl) b626 inf25 rfl (by simp [Value.oneCell']) ?_)
       intro w623 b624 hg625; have z627 := hg625.size
       refine wpList_nil ?_
       refine hK106 _ _ ?_
       clear hK106
       have F628 := (((((((((((((((((((((((((((((((F621.nil.c F621 130 rfl).c F621 115 rfl).c F621 114 rfl).c F621 18 rfl).c F621 17 rfl).c F621 16 rfl).c F621 106 rfl).c F621 95 rfl).c F621 93 rfl).c F621 75 rfl).c F621 74 rfl).c F621 73 rfl).c F621 72 rfl).c F621 70 rfl).c F621 11 rfl).c F621 10 rfl).c F621 48 rfl).c F621 9 rfl).c F621 41 rfl).c F621 40 rfl).c F621 39 rfl).c F621 38 rfl).c F621 7 rfl).c F621 37 rfl).c F621 6 rfl).c F621 5 rfl).c F621 27 rfl).c F621 24 rfl).c F621 4 rfl).c F621 1 rfl).c F621 0 rfl)
       clear F621
       refine wp_region_lit ?_
       refine qv 0 (.int .i64 (k + 1 : Nat)) F628 rfl (rn_addN (a := k) (b := 1) (F628.get rfl) rfl (by omega)) fun _ F630 => ?_; clear F628
       refine qv 1 (.int .i64 (k + 1 : Nat)) F630 rfl (rn_move (F630.get rfl)) fun _ F632 => ?_; clear F630
       refine wpList_nil ?_
       have d633 := (hd616.pres ((Pres.refl w618).grownN hg625 (fun h => by first | (simp only [Clip, ne_eq, not_true_eq_false, and_false, false_and] at h; done) | (have h2 := h.2; omega) | (rcases h.1 with (h | h) | h <;> first | (simp only [Clip, ne_eq, not_true_eq_false, and_false, false_and] at h; done) | omega | (simp only [Clip] at h; omega)) | (rcases h.1 with h | h <;> first | (simp only [Clip, ne_eq, not_true_eq_false, and_false, false_and] at h; done) | omega | (simp only [Clip] at h; omega)))))
       have d634 := (hf273.pres (((((((((((Pres.refl w261).ext hx465).grownN hg477 (fun h => by first | (simp only [Clip, ne_eq, not_true_eq_false, and_false, false_and] at h; done) | (have h2 := h.2; omega) | (rcases h.1 with (h | h) | h <;> first | (simp only [Clip, ne_eq, not_true_eq_false, and_false, false_and] at h; done) | omega | (simp only [Clip] at h; omega)) | (rcases h.1 with h | h <;> first | (simp only [Clip, ne_eq, not_true_eq_false, and_false, false_and] at h; done) | omega | (simp only [Clip] at h; omega)))).ext hx507).ext hx526).ext hx534).grownN hg541 (fun h => by first | (simp only [Clip, ne_eq, not_true_eq_false, and_false, false_and] at h; done) | (have h2 := h.2; omega) | (rcases h.1 with (h | h) | h <;> first | (simp only [Clip, ne_eq, not_true_eq_false, and_false, false_and] at h; done) | omega | (simp only [Clip] at h; omega)) | (rcases h.1 with h | h <;> first | (simp only [Clip, ne_eq, not_true_eq_false, and_false, false_and] at h; done) | omega | (simp only [Clip] at h; omega)))).grownN hg546 (fun h => by first | (simp only [Clip, ne_eq, not_true_eq_false, and_false, false_and] at h; done) | (have h2 := h.2; omega) | (rcases h.1 with (h | h) | h <;> first | (simp only [Clip, ne_eq, not_true_eq_false, and_false, false_and] at h; done) | omega | (simp only [Clip] at h; omega)) | (rcases h.1 with h | h <;> first | (simp only [Clip, ne_eq, not_true_eq_false, and_false, false_and] at h; done) | omega | (simp only [Clip] at h; omega)))).ext hx591).ext hx619).grownN hg625 (fun h => by first | (simp only [Clip, ne_eq, not_true_eq_false, and_false, false_and] at h; done) | (have h2 := h.2; omega) | (rcases h.1 with (h | h) | h <;> first | (simp only [Clip, ne_eq, not_true_eq_false, and_false, false_and] at h; done) | omega | (simp only [Clip] at h; omega)) | (rcases h.1 with h | h <;> first | (simp only [Clip, ne_eq, not_true_eq_false, and_false, false_and] at h; done) | omega | (simp only [Clip] at h; omega)))))
       refine ⟨⟨(k + 1), dz.restart, A612, c613, B614, e615, Q, Aq, cq, ((((((((((((F632.nil.cons (q_get F632 (t := 40) rfl (by first | rfl | (congr 1; omega) | (congr 1; done)))).cons (q_get F632 (t := 39) rfl rfl)).cons (q_get F632 (t := 38) rfl rfl)).cons (q_get F632 (t := 7) rfl (by first | rfl | (congr 1; omega) | (congr 1; done)))).cons (q_get F632 (t := 37) rfl rfl)).cons (q_get F632 (t := 6) rfl (by first | rfl | (congr 1; omega) | (congr 1; done)))).cons (q_get F632 (t := 5) rfl rfl)).cons (q_get F632 (t := 27) rfl rfl)).cons (q_get F632 (t := 24) rfl rfl)).cons (q_get F632 (t := 4) rfl rfl)).cons (q_get F632 (t := 1) rfl rfl)).cons (q_get F632 (t := 0) rfl rfl)), (by omega), (St.restart hstz), (by show (-1 : Int) < 0; decide), ((((((((((((Ext.refl w).trans hx263).trans hx465).grownN hg477 (by omega)).trans hx507).trans hx526).trans hx534).grownN hg541 (by omega)).grownN hg546 (by omega)).trans hx591).trans hx619).grownN hg625 (by omega)), b624, (RDk.sub (S := (Clip (Fr (Clip (fun b => Fr S w b ∧ b ≠ g52 ∧ b ≠ g129 ∧ b ≠ g184) w506) w590) w618)) d633 fun b h => by obtain ⟨h, hlt⟩ := h; (rcases h with h | h; (focus (obtain ⟨h, hlt⟩ := h; exact ⟨⟨h.1, h.2.1⟩, by clear h; omega⟩)); (exact ⟨⟨.inr (by omega), by omega⟩, by omega⟩))), (RBss.sub (S := (Clip (fun b => Fr S w b ∧ b ≠ g52 ∧ b ≠ g129 ∧ b ≠ g184) w261)) d634 fun b h => by obtain ⟨h, hlt⟩ := h; exact ⟨⟨h.1, h.2.1⟩, by clear h; omega⟩), (by omega)⟩, ?_⟩
       rw [F632.get (t := 40) rfl, hL96.get (t := 40) rfl]; simp [intOf] <;> omega
      ·skip
       have hroom := hc489
       refine wp_region_lit ?_
       have b635 := ((b268.ext hx465).grownN hg477 (by omega))
       refine qv 0 (.agg #[(.int .i64 (n : Nat)), (.slice Aq Q.length cq), (.int .i64 (R.length : Nat))]) F487 rfl (rn_loadBlk (F487.get rfl) b635 Try.underlying29 rfl inf29) fun _ F637 => ?_; clear F487
       refine qv 1 (.agg #[(.slice A458 dS.sectors.length c459), (.slice B460 dS.pending.length e461), (.int .i64 dS.left), (.bool dS.stopped)]) F637 rfl (rn_loadBlk (F637.get rfl) b476 Try.underlying25 rfl inf25) fun _ F639 => ?_; clear F637
       have d640 := (hf273.pres (((Pres.refl w261).ext hx465).grownN hg477 (fun h => by first | (simp only [Clip, ne_eq, not_true_eq_false, and_false, false_and] at h; done) | (have h2 := h.2; omega) | (rcases h.1 with (h | h) | h <;> first | (simp only [Clip, ne_eq, not_true_eq_false, and_false, false_and] at h; done) | omega | (simp only [Clip] at h; omega)) | (rcases h.1 with h | h <;> first | (simp only [Clip, ne_eq, not_true_eq_false, and_false, false_and] at h; done) | omega | (simp only [Clip] at h; omega)))))
       have d641 := (hd462.pres ((Pres.refl w464).grownN hg477 (fun h => by first | (simp only [Clip, ne_eq, not_true_eq_false, and_false, false_and] at h; done) | (have h2 := h.2; omega) | (rcases h.1 with (h | h) | h <;> first | (simp only [Clip, ne_eq, not_true_eq_false, and_false, false_and] at h; done) | omega | (simp only [Clip] at h; omega)) | (rcases h.1 with h | h <;> first | (simp only [Clip, ne_eq, not_true_eq_false, and_false, false_and] at h; done) | omega | (simp only [Clip] at h; omega)))))
       obtain ⟨dz, R3, hsz, hst3, hR3, hR3a, hR3b⟩ := St.breaks (s := (R.length : Nat)) hsp.2 (by omega) rfl hQf.2 hQf.1 (by rw [hdl]; omega) (by rw [hdl]; omega)
       have hr3 := used_bnd hst3.used hnb.2
       refine wpl_op (i := 2) rfl (o_call F639 rfl rfl rfl rfl (rn_call (args2 (F639.get rfl) (F639.get rfl)) rfl (by kernel_rfl)) (sync_conv (sync9_at (S := (fun b => (Clip (fun b => Fr S w b ∧ b ≠ g52 ∧ b ≠ g129 ∧ b ≠ g184) w261) b ∨ (Clip (Fr (Clip (fun b => Fr S w b ∧ b ≠ g52) w86) w261) w464) b)) (v := (.slice Aq Q.length cq)) (u := (.agg #[(.slice A458 dS.sectors.length c459), (.slice B460 dS.pending.length e461), (.int .i64 dS.left), (.bool dS.stopped)])) (n : Nat) Q (R.length : Nat) dS _ (RBss.sub d640 fun b hb => .inl hb) hQb.1 (by omega) (RDk.sub d641 fun b hb => .inr hb)) hsz) ?_)
       rintro _ w651 ⟨A642, c643, v644, rfl, hb645, hd646, hx652⟩
       obtain ⟨A647, c648, B649, e650, rfl, -, -⟩ := hd646.form
       have hd646 := hd646.clip
       refine ⟨_, rfl, ?_⟩; intro a653 F654; clear F639; have z655 := hx652.size
       obtain ⟨-, z657, z658⟩ := RBss.at hb645
       have hf656 : RBss (Clip (fun b => Fr S w b ∧ b ≠ g52 ∧ b ≠ g129 ∧ b ≠ g184) w651) w651 (.slice A642 ((@List.nil (List UInt8)).length) c643) (@List.nil (List UInt8)) := (RBss.clip hb645).sub fun b h => by obtain ⟨h, hlt⟩ := h; (rcases h with h | h; (focus ((rcases h with h | h; (focus (obtain ⟨h, hlt⟩ := h; exact ⟨⟨h.1, h.2.1, h.2.2.1, h.2.2.2⟩, by clear h; omega⟩)); (obtain ⟨h, hlt⟩ := h; (rcases h with h | h; (focus (obtain ⟨h, hlt⟩ := h; exact ⟨⟨h.1, h.2, by clear h; omega, by clear h; omega⟩, by clear h; omega⟩)); (exact ⟨⟨.inr (by omega), by omega, by omega, by omega⟩, by omega⟩)))))); (exact ⟨⟨.inr (by omega), by omega, by omega, by omega⟩, by omega⟩))
       have hd659 : RDk (Clip (fun b => Fr S w b ∧ b ≠ g52 ∧ b ≠ g129 ∧ b ≠ g184) w651) w651 (.agg #[(.slice A647 dz.sectors.length c648), (.slice B649 dz.pending.length e650), (.int .i64 dz.left), (.bool dz.stopped)]) dz := RDk.sub hd646 fun b h => by obtain ⟨h, hlt⟩ := h; (rcases h with h | h; (focus ((rcases h with h | h; (focus (obtain ⟨h, hlt⟩ := h; exact ⟨⟨h.1, h.2.1, h.2.2.1, h.2.2.2⟩, by clear h; omega⟩)); (obtain ⟨h, hlt⟩ := h; (rcases h with h | h; (focus (obtain ⟨h, hlt⟩ := h; exact ⟨⟨h.1, h.2, by clear h; omega, by clear h; omega⟩, by clear h; omega⟩)); (exact ⟨⟨.inr (by omega), by omega, by omega, by omega⟩, by omega⟩)))))); (exact ⟨⟨.inr (by omega), by omega, by omega, by omega⟩, by omega⟩))
       refine qv 3 (.tuple #[(.agg #[(.int .i64 0), (.slice A642 ((@List.nil (List UInt8)).length) c643), (.int .i64 0)]), (.agg #[(.slice A647 dz.sectors.length c648), (.slice B649 dz.pending.length e650), (.int .i64 dz.left), (.bool dz.stopped)]), (.int .i64 380)]) F654 rfl (rn_move (F654.get rfl)) fun _ F661 => ?_; clear F654
       refine qv 4 (.agg #[(.int .i64 0), (.slice A642 ((@List.nil (List UInt8)).length) c643), (.int .i64 0)]) F661 rfl (rn_extract (F661.get rfl) rfl) fun _ F663 => ?_; clear F661
       refine qv 5 (.agg #[(.slice A647 dz.sectors.length c648), (.slice B649 dz.pending.length e650), (.int .i64 dz.left), (.bool dz.stopped)]) F663 rfl (rn_extract (F663.get rfl) rfl) fun _ F665 => ?_; clear F663
       refine qv 6 (.int .i64 380) F665 rfl (rn_extract (F665.get rfl) rfl) fun _ F667 => ?_; clear F665
       refine wpl_op (i := 7) rfl (o_new (fun g => (.pointer (some ⟨g, 0, none⟩))) [(.int .i64 0), (.slice none 0 0), (.int .i64 0)] 29 F667 rfl rfl rfl rfl (by kernel_rfl) ?_)
       intro g668 w669 a674 F675 z672 z673 b670 hx671; clear F667
       refine wpl_op (i := 8) rfl (o_new (fun g => (.pointer (some ⟨g, 0, none⟩))) [(.slice none 0 0), (.slice none 0 0), (.int .i64 0), (.bool false)] 25 F675 rfl rfl rfl rfl (by kernel_rfl) ?_)
       intro g676 w677 a682 F683 z680 z681 b678 hx679; clear F675
       have b687 := (b670.ext hx679)
       refine wpl_op (i := 9) rfl (o_store (cells := [(.int .i64 0), (.slice A642 ((@List.nil (List UInt8)).length) c643), (.int .i64 0)]) F683 rfl rfl rfl rfl (F683.get rfl) (F683.get rfl) b687 inf29 rfl (by simp [Value.oneCell']) ?_)
       intro w684 b685 hg686; have z688 := hg686.size
       have b692 := (b678.grownN hg686 (by omega))
       refine wpl_op (i := 10) rfl (o_store (cells := [(.slice A647 dz.sectors.length c648), (.slice B649 dz.pending.length e650), (.int .i64 dz.left), (.bool dz.stopped)]) F683 rfl rfl rfl rfl (F683.get rfl) (F683.get rfl) b692 inf25 rfl (by simp [Value.oneCell']) ?_)
       intro w689 b690 hg691; have z693 := hg691.size
       refine qv 11 (.int .i64 380) F683 rfl (rn_assign (F683.get rfl)) fun _ F695 => ?_; clear F683
       refine wpList_nil ?_
       refine hK488 _ _ ?_
       clear hK488
       have F696 := ((((((((((((((((((((((((((((F695.nil.c F695 18 rfl).c F695 17 rfl).c F695 16 rfl).c F695 106 rfl).c F695 95 rfl).c F695 93 rfl).c F695 75 rfl).c F695 74 rfl).c F695 73 rfl).c F695 72 rfl).c F695 70 rfl).c F695 11 rfl).c F695 10 rfl).c F695 48 rfl).c F695 9 rfl).c F695 41 rfl).c F695 40 rfl).c F695 39 rfl).c F695 38 rfl).c F695 7 rfl).c F695 37 rfl).c F695 6 rfl).c F695 5 rfl).c F695 27 rfl).c F695 24 rfl).c F695 4 rfl).c F695 1 rfl).c F695 0 rfl)
       clear F695
       refine wp_seq_k (fun K697 hK697 => ?_)
       refine wp_seq_k (fun K698 hK698 => ?_)
       refine wp_region_lit ?_
       refine qv 0 (.int .i64 380) F696 rfl (rn_move (F696.get rfl)) fun _ F700 => ?_; clear F696
       refine wpList_nil ?_
       refine hK698 _ _ ?_
       clear hK698
       refine wp_block ?_
       refine wp_seq_k (fun K701 hK701 => ?_)
       refine wp_region_lit ?_
       refine qv 0 (.bool false) F700 rfl (rn_eql' (F700.get rfl) rfl (by decide)) fun _ F703 => ?_; clear F700
       refine qv 1 (.bool false) F703 rfl (rn_assign (F703.get rfl)) fun _ F705 => ?_; clear F703
       refine wpList_nil ?_
       refine hK701 _ _ ?_
       clear hK701
       refine wp_cond_false (c_false F705 rfl rfl) ?_
       refine wp_seq_k (fun K706 hK706 => ?_)
       refine wp_region_lit ?_
       refine qv 0 (.bool true) F705 rfl (rn_eql' (F705.get rfl) rfl (by decide)) fun _ F708 => ?_; clear F705
       refine qv 1 (.bool true) F708 rfl (rn_assign (F708.get rfl)) fun _ F710 => ?_; clear F708
       refine wpList_nil ?_
       refine hK706 _ _ ?_
       clear hK706
       refine wp_cond_true (c_true F710 rfl rfl) ?_
       refine wp_seq_k (fun K711 hK711 => ?_)
       refine wp_region_lit ?_
       refine qv 0 (.agg #[(.slice A647 dz.sectors.length c648), (.slice B649 dz.pending.length e650), (.int .i64 dz.left), (.bool dz.stopped)]) F710 rfl (rn_loadBlk (F710.get rfl) b690 Try.underlying25 rfl inf25) fun _ F713 => ?_; clear F710
       have d714 := (hd659.pres (((((Pres.refl w651).ext hx671).ext hx679).grownN hg686 (fun h => by first | (simp only [Clip, ne_eq, not_true_eq_false, and_false, false_and] at h; done) | (have h2 := h.2; omega) | (rcases h.1 with (h | h) | h <;> first | (simp only [Clip, ne_eq, not_true_eq_false, and_false, false_and] at h; done) | omega | (simp only [Clip] at h; omega)) | (rcases h.1 with h | h <;> first | (simp only [Clip, ne_eq, not_true_eq_false, and_false, false_and] at h; done) | omega | (simp only [Clip] at h; omega)))).grownN hg691 (fun h => by first | (simp only [Clip, ne_eq, not_true_eq_false, and_false, false_and] at h; done) | (have h2 := h.2; omega) | (rcases h.1 with (h | h) | h <;> first | (simp only [Clip, ne_eq, not_true_eq_false, and_false, false_and] at h; done) | omega | (simp only [Clip] at h; omega)) | (rcases h.1 with h | h <;> first | (simp only [Clip, ne_eq, not_true_eq_false, and_false, false_and] at h; done) | omega | (simp only [Clip] at h; omega)))))
       refine wpl_op (i := 1) rfl (o_call F713 rfl rfl rfl rfl (rn_call (args1 (F713.get rfl)) rfl (by kernel_rfl)) (restart_any (S := (Clip (fun b => Fr S w b ∧ b ≠ g52 ∧ b ≠ g129 ∧ b ≠ g184) w651)) _ dz _ d714) ?_)
       rintro _ w721 ⟨v720, rfl, hd719, hx722⟩
       obtain ⟨A715, c716, B717, e718, rfl, -, -⟩ := hd719.form
       have hd719 := hd719.clip
       refine ⟨_, rfl, ?_⟩; intro a723 F724; clear F713; have z725 := hx722.size
       refine wpl_op (i := 2) rfl (o_call F724 rfl rfl rfl rfl (rn_call (args1 (F724.get rfl)) rfl (by kernel_rfl)) (open_conv (open_at (v := (.agg #[(.slice A715 dz.restart.sectors.length c716), (.slice B717 dz.restart.pending.length e718), (.int .i64 dz.restart.left), (.bool dz.restart.stopped)])) dz.restart _ hd719) (St.open3 hst3)) ?_)
       rintro _ w729 ⟨A726, c727, rfl, hb728, hx730⟩
       refine ⟨_, rfl, ?_⟩; intro a731 F732; clear F724; have z733 := hx730.size
       obtain ⟨-, z735, z736⟩ := RBss.at hb728
       have hf734 : RBss (Clip (fun b => Fr S w b ∧ b ≠ g52 ∧ b ≠ g129 ∧ b ≠ g184 ∧ b ≠ g668 ∧ b ≠ g676) w729) w729 (.slice A726 R3.length c727) R3 := (RBss.clip hb728).sub fun b h => by obtain ⟨h, hlt⟩ := h; have h : w721.heap.size ≤ b := h; exact ⟨⟨.inr (by omega), by omega, by omega, by omega, by omega, by omega⟩, by omega⟩
       refine qv 3 (.tuple #[(.agg #[(.int .i64 (n : Nat)), (.slice A726 R3.length c727), (.int .i64 (R3.length : Nat))]), (.int .i64 0)]) F732 rfl (rn_move (F732.get rfl)) fun _ F738 => ?_; clear F732
       refine qv 4 (.agg #[(.int .i64 (n : Nat)), (.slice A726 R3.length c727), (.int .i64 (R3.length : Nat))]) F738 rfl (rn_extract (F738.get rfl) rfl) fun _ F740 => ?_; clear F738
       refine qv 5 (.int .i64 0) F740 rfl (rn_extract (F740.get rfl) rfl) fun _ F742 => ?_; clear F740
       refine wpl_op (i := 6) rfl (o_new (fun g => (.pointer (some ⟨g, 0, none⟩))) [(.int .i64 0), (.slice none 0 0), (.int .i64 0)] 29 F742 rfl rfl rfl rfl (by kernel_rfl) ?_)
       intro g743 w744 a749 F750 z747 z748 b745 hx746; clear F742
       refine wpl_op (i := 7) rfl (o_store (cells := [(.int .i64 (n : Nat)), (.slice A726 R3.length c727), (.int .i64 (R3.length : Nat))]) F750 rfl rfl rfl rfl (F750.get rfl) (F750.get rfl) b745 inf29 rfl (by simp [Value.oneCell']) ?_)
       intro w751 b752 hg753; have z754 := hg753.size
       refine qv 8 (.int .i64 0) F750 rfl (rn_assign (F750.get rfl)) fun _ F756 => ?_; clear F750
       refine wpList_nil ?_
       refine hK711 _ _ ?_
       clear hK711
       have F757 := (((((((((((((((((((((((((((((((((F756.nil.c F756 20 rfl).c F756 19 rfl).c F756 133 rfl).c F756 115 rfl).c F756 114 rfl).c F756 18 rfl).c F756 17 rfl).c F756 16 rfl).c F756 106 rfl).c F756 95 rfl).c F756 93 rfl).c F756 75 rfl).c F756 74 rfl).c F756 73 rfl).c F756 72 rfl).c F756 70 rfl).c F756 11 rfl).c F756 10 rfl).c F756 48 rfl).c F756 9 rfl).c F756 41 rfl).c F756 40 rfl).c F756 39 rfl).c F756 38 rfl).c F756 7 rfl).c F756 37 rfl).c F756 6 rfl).c F756 5 rfl).c F756 27 rfl).c F756 24 rfl).c F756 4 rfl).c F756 1 rfl).c F756 0 rfl)
       clear F756
       refine wp_seq_k (fun K758 hK758 => ?_)
       refine wp_seq_k (fun K759 hK759 => ?_)
       have hx761 : ∃ W, w751.drew = W ∧ Ext w751 W := ⟨_, rfl, (Ext.refl _).drew⟩
       obtain ⟨w760, e762, hx761⟩ := hx761
       have z763 := hx761.size
       refine any_start (fun W => Ext w760 W ∧ Blk W g129 55 [(.slice A113 x108.recs.length c114), (.bool x108.stop), (.int .u8 (x108.left.toNat : Nat))] ∧ Blk W g743 29 [(.int .i64 (n : Nat)), (.slice A726 R3.length c727), (.int .i64 (R3.length : Nat))] ∧ Blk W g184 29 [(.int .i64 (n : Nat)), (.slice Aq Q.length cq), (.int .i64 (R.length : Nat))]) (fun i => false) 36 #[false, false, false, false, false, false, false, false, false, false, false, false, false, false, false, false, false, false, false, false, false, false, false, false, false, false, false, false, false, false, false, false, false, false, false, false] rfl rfl rfl ?_
       rw [e762]; clear e762
       refine qp 0 (.pointer (some ⟨g129, 1, none⟩)) F757 rfl rfl (fun W => (rn_field Try.underlying55 rfl (by kernel_rfl) (F757.get rfl) rfl)) fun _ F765 => ?_; clear F757
       have b767 := ((((((((((((b267.ext hx465).grownN hg477 (by omega)).ext hx652).ext hx671).ext hx679).grownN hg686 (by omega)).grownN hg691 (by omega)).ext hx722).ext hx730).ext hx746).grownN hg753 (by omega)).ext hx761)
       have b768 := (b752.ext hx761)
       have b769 := ((((((((((b635.ext hx652).ext hx671).ext hx679).grownN hg686 (by omega)).grownN hg691 (by omega)).ext hx722).ext hx730).ext hx746).grownN hg753 (by omega)).ext hx761)
       have hS766 : Ext w760 w760 ∧ Blk w760 g129 55 [(.slice A113 x108.recs.length c114), (.bool x108.stop), (.int .u8 (x108.left.toNat : Nat))] ∧ Blk w760 g743 29 [(.int .i64 (n : Nat)), (.slice A726 R3.length c727), (.int .i64 (R3.length : Nat))] ∧ Blk w760 g184 29 [(.int .i64 (n : Nat)), (.slice Aq Q.length cq), (.int .i64 (R.length : Nat))] := ⟨(Ext.refl w760), b767, b768, b769⟩
       refine qs 1 (.bool x108.stop) F765 rfl rfl hS766 (fun W hW => (rn_load (isAgg_no Try.underlying4 rfl) (F765.get rfl) (hW.2.1.rule.1 1))) fun _ F771 => ?_; clear F765
       refine qp 2 (.bool (!x108.stop)) F771 rfl rfl (fun W => (rn_not' (F771.get rfl) rfl)) fun _ F773 => ?_; clear F771
       refine qp 3 (.bool (!x108.stop)) F773 rfl rfl (fun W => (rn_move (F773.get rfl))) fun _ F775 => ?_; clear F773
       refine qp 4 (.int .i64 0) F775 rfl (wanted_guard rfl rfl rfl F775 rfl (not_t hc445) rfl) (fun W => (rn_move (F775.get rfl))) fun _ F777 => ?_; clear F775
       refine qp 5 (.bool false) F777 rfl (wanted_guard rfl rfl rfl F777 rfl (not_t hc445) rfl) (fun W => (rn_neq' (F777.get rfl) rfl (by decide))) fun _ F779 => ?_; clear F777
       refine qp 6 (.bool false) F779 rfl rfl (fun W => (rn_pickF (c_false F779 rfl (not_t hc445)) (F779.get rfl))) fun _ F781 => ?_; clear F779
       refine qp 7 (.bool false) F781 rfl rfl (fun W => (rn_move (F781.get rfl))) fun _ F783 => ?_; clear F781
       refine qp 8 (.pointer (some ⟨g743, 1, none⟩)) F783 rfl (wanted_guard rfl rfl rfl F783 rfl rfl rfl) (fun W => (rn_field Try.underlying29 rfl (by kernel_rfl) (F783.get rfl) rfl)) fun _ F785 => ?_; clear F783
       refine qs 9 (.slice A726 R3.length c727) F785 rfl (wanted_guard rfl rfl rfl F785 rfl rfl rfl) hS766 (fun W hW => (rn_load (isAgg_no Try.underlying22 rfl) (F785.get rfl) (hW.2.2.1.rule.1 1))) fun _ F787 => ?_; clear F785
       refine qp 10 (.int .i64 (R3.length : Nat)) F787 rfl (wanted_guard rfl rfl rfl F787 rfl rfl rfl) (fun W => (rn_len_slice Try.underlying22 (F787.get rfl))) fun _ F789 => ?_; clear F787
       refine qp 11 (.slice Ak R.length ck) F789 rfl (wanted_guard rfl rfl rfl F789 rfl rfl rfl) (fun W => (rn_move (F789.get rfl))) fun _ F791 => ?_; clear F789
       refine qp 12 (.int .i64 (R.length : Nat)) F791 rfl (wanted_guard rfl rfl rfl F791 rfl rfl rfl) (fun W => (rn_len_slice Try.underlying22 (F791.get rfl))) fun _ F793 => ?_; clear F791
       refine qp 13 (.bool (decide (((R3.length : Nat) : Int) < ((R.length : Nat) : Int)))) F793 rfl (wanted_guard rfl rfl rfl F793 rfl rfl rfl) (fun W => (rn_lss (F793.get rfl) (F793.get rfl))) fun _ F795 => ?_; clear F793
       refine qp 14 (.bool (decide (((R3.length : Nat) : Int) < ((R.length : Nat) : Int)))) F795 rfl rfl (fun W => (rn_pickF (c_false F795 rfl rfl) (F795.get rfl))) fun _ F797 => ?_; clear F795
       refine qp 15 (.bool (decide (((R3.length : Nat) : Int) < ((R.length : Nat) : Int)))) F797 rfl rfl (fun W => (rn_move (F797.get rfl))) fun _ F799 => ?_; clear F797
       refine qp 16 (.pointer (some ⟨g743, 1, none⟩)) F799 rfl (wanted_guard rfl rfl rfl F799 rfl ((decide_eq_false (by omega)) : decide (((R3.length : Nat) : Int) < ((R.length : Nat) : Int)) = false) rfl) (fun W => (rn_field Try.underlying29 rfl (by kernel_rfl) (F799.get rfl) rfl)) fun _ F802 => ?_; clear F799
       refine qs 17 (.slice A726 R3.length c727) F802 rfl (wanted_guard rfl rfl rfl F802 rfl ((decide_eq_false (by omega)) : decide (((R3.length : Nat) : Int) < ((R.length : Nat) : Int)) = false) rfl) hS766 (fun W hW => (rn_load (isAgg_no Try.underlying22 rfl) (F802.get rfl) (hW.2.2.1.rule.1 1))) fun _ F804 => ?_; clear F802
       refine qp 18 (.int .i64 (R3.length : Nat)) F804 rfl (wanted_guard rfl rfl rfl F804 rfl ((decide_eq_false (by omega)) : decide (((R3.length : Nat) : Int) < ((R.length : Nat) : Int)) = false) rfl) (fun W => (rn_len_slice Try.underlying22 (F804.get rfl))) fun _ F806 => ?_; clear F804
       refine qp 19 (.pointer (some ⟨g184, 1, none⟩)) F806 rfl (wanted_guard rfl rfl rfl F806 rfl ((decide_eq_false (by omega)) : decide (((R3.length : Nat) : Int) < ((R.length : Nat) : Int)) = false) rfl) (fun W => (rn_field Try.underlying29 rfl (by kernel_rfl) (F806.get rfl) rfl)) fun _ F808 => ?_; clear F806
       refine qs 20 (.slice Aq Q.length cq) F808 rfl (wanted_guard rfl rfl rfl F808 rfl ((decide_eq_false (by omega)) : decide (((R3.length : Nat) : Int) < ((R.length : Nat) : Int)) = false) rfl) hS766 (fun W hW => (rn_load (isAgg_no Try.underlying22 rfl) (F808.get rfl) (hW.2.2.2.rule.1 1))) fun _ F810 => ?_; clear F808
       refine qp 21 (.int .i64 (Q.length : Nat)) F810 rfl (wanted_guard rfl rfl rfl F810 rfl ((decide_eq_false (by omega)) : decide (((R3.length : Nat) : Int) < ((R.length : Nat) : Int)) = false) rfl) (fun W => (rn_len_slice Try.underlying22 (F810.get rfl))) fun _ F812 => ?_; clear F810
       refine qp 22 (.bool (decide (((Q.length : Nat) : Int) < ((R3.length : Nat) : Int)))) F812 rfl (wanted_guard rfl rfl rfl F812 rfl ((decide_eq_false (by omega)) : decide (((R3.length : Nat) : Int) < ((R.length : Nat) : Int)) = false) rfl) (fun W => (rn_gtr (F812.get rfl) (F812.get rfl))) fun _ F814 => ?_; clear F812
       refine qp 23 (.bool (decide (((Q.length : Nat) : Int) < ((R3.length : Nat) : Int)))) F814 rfl rfl (fun W => (rn_pickF (c_false F814 rfl ((decide_eq_false (by omega)) : decide (((R3.length : Nat) : Int) < ((R.length : Nat) : Int)) = false)) (F814.get rfl))) fun _ F816 => ?_; clear F814
       refine qp 24 (.bool (decide (((Q.length : Nat) : Int) < ((R3.length : Nat) : Int)))) F816 rfl rfl (fun W => (rn_move (F816.get rfl))) fun _ F818 => ?_; clear F816
       refine qp 25 (.pointer (some ⟨g743, 1, none⟩)) F818 rfl (wanted_guard rfl rfl rfl F818 rfl ((decide_eq_false (by omega)) : decide (((Q.length : Nat) : Int) < ((R3.length : Nat) : Int)) = false) rfl) (fun W => (rn_field Try.underlying29 rfl (by kernel_rfl) (F818.get rfl) rfl)) fun _ F821 => ?_; clear F818
       refine qs 26 (.slice A726 R3.length c727) F821 rfl (wanted_guard rfl rfl rfl F821 rfl ((decide_eq_false (by omega)) : decide (((Q.length : Nat) : Int) < ((R3.length : Nat) : Int)) = false) rfl) hS766 (fun W hW => (rn_load (isAgg_no Try.underlying22 rfl) (F821.get rfl) (hW.2.2.1.rule.1 1))) fun _ F823 => ?_; clear F821
       refine qp 27 (.pointer (some ⟨g184, 1, none⟩)) F823 rfl (wanted_guard rfl rfl rfl F823 rfl ((decide_eq_false (by omega)) : decide (((Q.length : Nat) : Int) < ((R3.length : Nat) : Int)) = false) rfl) (fun W => (rn_field Try.underlying29 rfl (by kernel_rfl) (F823.get rfl) rfl)) fun _ F825 => ?_; clear F823
       refine qs 28 (.slice Aq Q.length cq) F825 rfl (wanted_guard rfl rfl rfl F825 rfl ((decide_eq_false (by omega)) : decide (((Q.length : Nat) : Int) < ((R3.length : Nat) : Int)) = false) rfl) hS766 (fun W hW => (rn_load (isAgg_no Try.underlying22 rfl) (F825.get rfl) (hW.2.2.2.rule.1 1))) fun _ F827 => ?_; clear F825
       refine qp 29 (.pointer (some ⟨g743, 1, none⟩)) F827 rfl (wanted_guard rfl rfl rfl F827 rfl ((decide_eq_false (by omega)) : decide (((Q.length : Nat) : Int) < ((R3.length : Nat) : Int)) = false) rfl) (fun W => (rn_field Try.underlying29 rfl (by kernel_rfl) (F827.get rfl) rfl)) fun _ F829 => ?_; clear F827
       refine qs 30 (.slice A726 R3.length c727) F829 rfl (wanted_guard rfl rfl rfl F829 rfl ((decide_eq_false (by omega)) : decide (((Q.length : Nat) : Int) < ((R3.length : Nat) : Int)) = false) rfl) hS766 (fun W hW => (rn_load (isAgg_no Try.underlying22 rfl) (F829.get rfl) (hW.2.2.1.rule.1 1))) fun _ F831 => ?_; clear F829
       refine qp 31 (.int .i64 (R3.length : Nat)) F831 rfl (wanted_guard rfl rfl rfl F831 rfl ((decide_eq_false (by omega)) : decide (((Q.length : Nat) : Int) < ((R3.length : Nat) : Int)) = false) rfl) (fun W => (rn_len_slice Try.underlying22 (F831.get rfl))) fun _ F833 => ?_; clear F831
       refine qp 32 (.slice Aq R3.length cq) F833 rfl (wanted_guard rfl rfl rfl F833 rfl ((decide_eq_false (by omega)) : decide (((Q.length : Nat) : Int) < ((R3.length : Nat) : Int)) = false) rfl) (fun W => (rn_sliceHi Try.underlying22 inf35 (F833.get rfl) (F833.get rfl) (by omega : (0 : Int) ≤ (R3.length : Nat)) (by omega : ((R3.length : Nat) : Int) ≤ ((cq : Nat) : Int)))) fun _ F835 => ?_; clear F833
       refine any_one (i := 33) (by decide +kernel) rfl ?_
       have d836 := (hf734.pres ((((Pres.refl w729).ext hx746).grownN hg753 (fun h => by first | (simp only [Clip, ne_eq, not_true_eq_false, and_false, false_and] at h; done) | (have h2 := h.2; omega) | (rcases h.1 with (h | h) | h <;> first | (simp only [Clip, ne_eq, not_true_eq_false, and_false, false_and] at h; done) | omega | (simp only [Clip] at h; omega)) | (rcases h.1 with h | h <;> first | (simp only [Clip, ne_eq, not_true_eq_false, and_false, false_and] at h; done) | omega | (simp only [Clip] at h; omega)))).ext hx761))
       have d837 := (hf273.pres (((((((((((((Pres.refl w261).ext hx465).grownN hg477 (fun h => by first | (simp only [Clip, ne_eq, not_true_eq_false, and_false, false_and] at h; done) | (have h2 := h.2; omega) | (rcases h.1 with (h | h) | h <;> first | (simp only [Clip, ne_eq, not_true_eq_false, and_false, false_and] at h; done) | omega | (simp only [Clip] at h; omega)) | (rcases h.1 with h | h <;> first | (simp only [Clip, ne_eq, not_true_eq_false, and_false, false_and] at h; done) | omega | (simp only [Clip] at h; omega)))).ext hx652).ext hx671).ext hx679).grownN hg686 (fun h => by first | (simp only [Clip, ne_eq, not_true_eq_false, and_false, false_and] at h; done) | (have h2 := h.2; omega) | (rcases h.1 with (h | h) | h <;> first | (simp only [Clip, ne_eq, not_true_eq_false, and_false, false_and] at h; done) | omega | (simp only [Clip] at h; omega)) | (rcases h.1 with h | h <;> first | (simp only [Clip, ne_eq, not_true_eq_false, and_false, false_and] at h; done) | omega | (simp only [Clip] at h; omega)))).grownN hg691 (fun h => by first | (simp only [Clip, ne_eq, not_true_eq_false, and_false, false_and] at h; done) | (have h2 := h.2; omega) | (rcases h.1 with (h | h) | h <;> first | (simp only [Clip, ne_eq, not_true_eq_false, and_false, false_and] at h; done) | omega | (simp only [Clip] at h; omega)) | (rcases h.1 with h | h <;> first | (simp only [Clip, ne_eq, not_true_eq_false, and_false, false_and] at h; done) | omega | (simp only [Clip] at h; omega)))).ext hx722).ext hx730).ext hx746).grownN hg753 (fun h => by first | (simp only [Clip, ne_eq, not_true_eq_false, and_false, false_and] at h; done) | (have h2 := h.2; omega) | (rcases h.1 with (h | h) | h <;> first | (simp only [Clip, ne_eq, not_true_eq_false, and_false, false_and] at h; done) | omega | (simp only [Clip] at h; omega)) | (rcases h.1 with h | h <;> first | (simp only [Clip, ne_eq, not_true_eq_false, and_false, false_and] at h; done) | omega | (simp only [Clip] at h; omega)))).ext hx761))
       refine o_call F835 rfl (wanted_guard rfl rfl rfl F835 rfl ((decide_eq_false (by omega)) : decide (((Q.length : Nat) : Int) < ((R3.length : Nat) : Int)) = false) rfl) rfl rfl (rn_call (args2 (F835.get rfl) (F835.get rfl)) rfl (by kernel_rfl)) (samer_at (v := (.slice A726 R3.length c727)) (u := (.slice Aq R3.length cq)) R3 (Q.take R3.length) _ d836 (RSl.take d837 (by omega : R3.length ≤ Q.length) (by omega : R3.length ≤ cq) (by omega))) ?_
       rintro _ w838 ⟨rfl, hx839⟩
       refine ⟨_, rfl, ?_⟩; intro a840 F841; clear F835; have z842 := hx839.size
       have b843 := (b767.ext hx839)
       have b844 := (b768.ext hx839)
       have b845 := (b769.ext hx839)
       refine ⟨fun _ _ => ⟨((Ext.refl w760).trans hx839), b843, b844, b845⟩, ?_⟩
       refine qp 34 (.bool (!(decide (R3 = (Q.take R3.length))))) F841 rfl (wanted_guard rfl rfl rfl F841 rfl ((decide_eq_false (by omega)) : decide (((Q.length : Nat) : Int) < ((R3.length : Nat) : Int)) = false) rfl) (fun W => (rn_not' (F841.get rfl) rfl)) fun _ F847 => ?_; clear F841
       refine qp 35 (.bool (!(decide (R3 = (Q.take R3.length))))) F847 rfl rfl (fun W => (rn_pickF (c_false F847 rfl ((decide_eq_false (by omega)) : decide (((Q.length : Nat) : Int) < ((R3.length : Nat) : Int)) = false)) (F847.get rfl))) fun _ F849 => ?_; clear F847
       refine any_nil (by decide +kernel) ?_
       refine hK759 _ _ ?_
       clear hK759
       have F850 := ((((((((((((((((((((((((((((((((((F849.nil.c F849 176 rfl).c F849 20 rfl).c F849 19 rfl).c F849 133 rfl).c F849 115 rfl).c F849 114 rfl).c F849 18 rfl).c F849 17 rfl).c F849 16 rfl).c F849 106 rfl).c F849 95 rfl).c F849 93 rfl).c F849 75 rfl).c F849 74 rfl).c F849 73 rfl).c F849 72 rfl).c F849 70 rfl).c F849 11 rfl).c F849 10 rfl).c F849 48 rfl).c F849 9 rfl).c F849 41 rfl).c F849 40 rfl).c F849 39 rfl).c F849 38 rfl).c F849 7 rfl).c F849 37 rfl).c F849 6 rfl).c F849 5 rfl).c F849 27 rfl).c F849 24 rfl).c F849 4 rfl).c F849 1 rfl).c F849 0 rfl)
       clear F849
       refine wp_cond_false (c_false F850 rfl (not_t ((decide_eq_true hR3) : decide (R3 = (Q.take R3.length)) = true))) ?_
       refine wp_skip ?_
       refine hK758 _ _ ?_
       clear hK758
       refine wp_region_lit ?_
       refine qv 0 (.pointer (some ⟨g743, 1, none⟩)) F850 rfl (rn_field Try.underlying29 rfl (by kernel_rfl) (F850.get rfl) rfl) fun _ F853 => ?_; clear F850
       refine qv 1 (.slice A726 R3.length c727) F853 rfl (rn_load (isAgg_no Try.underlying22 rfl) (F853.get rfl) (b844.rule.1 1)) fun _ F855 => ?_; clear F853
       refine qv 2 (.slice A726 R3.length c727) F855 rfl (rn_assign (F855.get rfl)) fun _ F857 => ?_; clear F855
       refine wpList_nil ?_
       refine hK697 _ _ ?_
       clear hK697
       refine wp_region_lit ?_
       have b858 := ((((((b690.ext hx722).ext hx730).ext hx746).grownN hg753 (by omega)).ext hx761).ext hx839)
       refine qv 0 (.agg #[(.slice A647 dz.sectors.length c648), (.slice B649 dz.pending.length e650), (.int .i64 dz.left), (.bool dz.stopped)]) F857 rfl (rn_loadBlk (F857.get rfl) b858 Try.underlying25 rfl inf25) fun _ F860 => ?_; clear F857
       have d861 := (hd659.pres (((((((((((Pres.refl w651).ext hx671).ext hx679).grownN hg686 (fun h => by first | (simp only [Clip, ne_eq, not_true_eq_false, and_false, false_and] at h; done) | (have h2 := h.2; omega) | (rcases h.1 with (h | h) | h <;> first | (simp only [Clip, ne_eq, not_true_eq_false, and_false, false_and] at h; done) | omega | (simp only [Clip] at h; omega)) | (rcases h.1 with h | h <;> first | (simp only [Clip, ne_eq, not_true_eq_false, and_false, false_and] at h; done) | omega | (simp only [Clip] at h; omega)))).grownN hg691 (fun h => by first | (simp only [Clip, ne_eq, not_true_eq_false, and_false, false_and] at h; done) | (have h2 := h.2; omega) | (rcases h.1 with (h | h) | h <;> first | (simp only [Clip, ne_eq, not_true_eq_false, and_false, false_and] at h; done) | omega | (simp only [Clip] at h; omega)) | (rcases h.1 with h | h <;> first | (simp only [Clip, ne_eq, not_true_eq_false, and_false, false_and] at h; done) | omega | (simp only [Clip] at h; omega)))).ext hx722).ext hx730).ext hx746).grownN hg753 (fun h => by first | (simp only [Clip, ne_eq, not_true_eq_false, and_false, false_and] at h; done) | (have h2 := h.2; omega) | (rcases h.1 with (h | h) | h <;> first | (simp only [Clip, ne_eq, not_true_eq_false, and_false, false_and] at h; done) | omega | (simp only [Clip] at h; omega)) | (rcases h.1 with h | h <;> first | (simp only [Clip, ne_eq, not_true_eq_false, and_false, false_and] at h; done) | omega | (simp only [Clip] at h; omega)))).ext hx761).ext hx839))
       refine wpl_op (i := 1) rfl (o_call F860 rfl rfl rfl rfl (rn_call (args1 (F860.get rfl)) rfl (by kernel_rfl)) (restart_any (S := (Clip (fun b => Fr S w b ∧ b ≠ g52 ∧ b ≠ g129 ∧ b ≠ g184) w651)) _ dz _ d861) ?_)
       rintro _ w868 ⟨v867, rfl, hd866, hx869⟩
       obtain ⟨A862, c863, B864, e865, rfl, -, -⟩ := hd866.form
       have hd866 := hd866.clip
       refine ⟨_, rfl, ?_⟩; intro a870 F871; clear F860; have z872 := hx869.size
       have b876 := ((((((((((((b476.ext hx652).ext hx671).ext hx679).grownN hg686 (by omega)).grownN hg691 (by omega)).ext hx722).ext hx730).ext hx746).grownN hg753 (by omega)).ext hx761).ext hx839).ext hx869)
       refine wpl_op (i := 2) rfl (o_store (cells := [(.slice A862 dz.restart.sectors.length c863), (.slice B864 dz.restart.pending.length e865), (.int .i64 dz.restart.left), (.bool dz.restart.stopped)]) F871 rfl rfl rfl rfl (F871.get rfl) (F871.get rfl) b876 inf25 rfl (by simp [Value.oneCell']) ?_)
       intro w873 b874 hg875; have z877 := hg875.size
       refine wpList_nil ?_
       refine hK106 _ _ ?_
       clear hK106
       have F878 := ((((((((((((((((((((((((((((((((((F871.nil.c F871 176 rfl).c F871 20 rfl).c F871 19 rfl).c F871 133 rfl).c F871 115 rfl).c F871 114 rfl).c F871 18 rfl).c F871 17 rfl).c F871 16 rfl).c F871 106 rfl).c F871 95 rfl).c F871 93 rfl).c F871 75 rfl).c F871 74 rfl).c F871 73 rfl).c F871 72 rfl).c F871 70 rfl).c F871 11 rfl).c F871 10 rfl).c F871 48 rfl).c F871 9 rfl).c F871 41 rfl).c F871 40 rfl).c F871 39 rfl).c F871 38 rfl).c F871 7 rfl).c F871 37 rfl).c F871 6 rfl).c F871 5 rfl).c F871 27 rfl).c F871 24 rfl).c F871 4 rfl).c F871 1 rfl).c F871 0 rfl)
       clear F871
       refine wp_region_lit ?_
       refine qv 0 (.int .i64 (k + 1 : Nat)) F878 rfl (rn_addN (a := k) (b := 1) (F878.get rfl) rfl (by omega)) fun _ F880 => ?_; clear F878
       refine qv 1 (.int .i64 (k + 1 : Nat)) F880 rfl (rn_move (F880.get rfl)) fun _ F882 => ?_; clear F880
       refine wpList_nil ?_
       have d883 := (hd866.pres ((Pres.refl w868).grownN hg875 (fun h => by first | (simp only [Clip, ne_eq, not_true_eq_false, and_false, false_and] at h; done) | (have h2 := h.2; omega) | (rcases h.1 with (h | h) | h <;> first | (simp only [Clip, ne_eq, not_true_eq_false, and_false, false_and] at h; done) | omega | (simp only [Clip] at h; omega)) | (rcases h.1 with h | h <;> first | (simp only [Clip, ne_eq, not_true_eq_false, and_false, false_and] at h; done) | omega | (simp only [Clip] at h; omega)))))
       have d884 := (hf734.pres (((((((Pres.refl w729).ext hx746).grownN hg753 (fun h => by first | (simp only [Clip, ne_eq, not_true_eq_false, and_false, false_and] at h; done) | (have h2 := h.2; omega) | (rcases h.1 with (h | h) | h <;> first | (simp only [Clip, ne_eq, not_true_eq_false, and_false, false_and] at h; done) | omega | (simp only [Clip] at h; omega)) | (rcases h.1 with h | h <;> first | (simp only [Clip, ne_eq, not_true_eq_false, and_false, false_and] at h; done) | omega | (simp only [Clip] at h; omega)))).ext hx761).ext hx839).ext hx869).grownN hg875 (fun h => by first | (simp only [Clip, ne_eq, not_true_eq_false, and_false, false_and] at h; done) | (have h2 := h.2; omega) | (rcases h.1 with (h | h) | h <;> first | (simp only [Clip, ne_eq, not_true_eq_false, and_false, false_and] at h; done) | omega | (simp only [Clip] at h; omega)) | (rcases h.1 with h | h <;> first | (simp only [Clip, ne_eq, not_true_eq_false, and_false, false_and] at h; done) | omega | (simp only [Clip] at h; omega)))))
       refine ⟨⟨(k + 1), dz.restart, A862, c863, B864, e865, R3, A726, c727, ((((((((((((F882.nil.cons (q_get F882 (t := 40) rfl (by first | rfl | (congr 1; omega) | (congr 1; done)))).cons (q_get F882 (t := 39) rfl rfl)).cons (q_get F882 (t := 38) rfl rfl)).cons (q_get F882 (t := 7) rfl (by first | rfl | (congr 1; omega) | (congr 1; done)))).cons (q_get F882 (t := 37) rfl rfl)).cons (q_get F882 (t := 6) rfl (by first | rfl | (congr 1; omega) | (congr 1; done)))).cons (q_get F882 (t := 5) rfl rfl)).cons (q_get F882 (t := 27) rfl rfl)).cons (q_get F882 (t := 24) rfl rfl)).cons (q_get F882 (t := 4) rfl rfl)).cons (q_get F882 (t := 1) rfl rfl)).cons (q_get F882 (t := 0) rfl rfl)), (by omega), hst3, (by show (-1 : Int) < 0; decide), (((((((((((((((((Ext.refl w).trans hx263).trans hx465).grownN hg477 (by omega)).trans hx652).trans hx671).trans hx679).grownN hg686 (by omega)).grownN hg691 (by omega)).trans hx722).trans hx730).trans hx746).grownN hg753 (by omega)).trans hx761).trans hx839).trans hx869).grownN hg875 (by omega)), b874, (RDk.sub (S := (Clip (Fr (Clip (fun b => Fr S w b ∧ b ≠ g52 ∧ b ≠ g129 ∧ b ≠ g184) w651) w838) w868)) d883 fun b h => by obtain ⟨h, hlt⟩ := h; (rcases h with h | h; (focus (obtain ⟨h, hlt⟩ := h; exact ⟨⟨h.1, h.2.1⟩, by clear h; omega⟩)); (exact ⟨⟨.inr (by omega), by omega⟩, by omega⟩))), (RBss.sub (S := (Clip (fun b => Fr S w b ∧ b ≠ g52 ∧ b ≠ g129 ∧ b ≠ g184 ∧ b ≠ g668 ∧ b ≠ g676) w729)) d884 fun b h => by obtain ⟨h, hlt⟩ := h; exact ⟨⟨h.1, h.2.1⟩, by clear h; omega⟩), (by omega)⟩, ?_⟩
       rw [F882.get (t := 40) rfl, hL96.get (t := 40) rfl]; simp [intOf] <;> omega
     ·skip
      refine wp_cond_false (c_false F444 rfl hc445) ?_
      refine wp_skip ?_
      refine hK439 _ _ ?_
      clear hK439
      refine wp_seq_k (fun K885 hK885 => ?_)
      refine wp_region_lit ?_
      refine qv 0 (.agg #[(.int .i64 (n : Nat)), (.slice Aq Q.length cq), (.int .i64 (R.length : Nat))]) F444 rfl (rn_loadBlk (F444.get rfl) b268 Try.underlying29 rfl inf29) fun _ F887 => ?_; clear F444
      refine qv 1 (.agg #[(.slice dA d.sectors.length dc), (.slice dB d.pending.length de), (.int .i64 d.left), (.bool d.stopped)]) F887 rfl (rn_loadBlk (F887.get rfl) b266 Try.underlying25 rfl inf25) fun _ F889 => ?_; clear F887
      obtain ⟨dz, hsz, hstz, -⟩ := St.sync (s := (R.length : Nat)) hp90 (by omega) rfl hQf.2 hQf.1 (.inl (by omega))
      refine wpl_op (i := 2) rfl (o_call F889 rfl rfl rfl rfl (rn_call (args2 (F889.get rfl) (F889.get rfl)) rfl (by kernel_rfl)) (sync_conv (sync9_at (S := (fun b => (Clip (fun b => Fr S w b ∧ b ≠ g52 ∧ b ≠ g129 ∧ b ≠ g184) w261) b ∨ (Clip (fun b => Fr S w b ∧ b ≠ g52) w86) b)) (v := (.slice Aq Q.length cq)) (u := (.agg #[(.slice dA d.sectors.length dc), (.slice dB d.pending.length de), (.int .i64 d.left), (.bool d.stopped)])) (n : Nat) Q (R.length : Nat) d _ (RBss.sub hf273 fun b hb => .inl hb) hQb.1 (by omega) (RDk.sub hf269 fun b hb => .inr hb)) hsz) ?_)
      rintro _ w899 ⟨A890, c891, v892, rfl, hb893, hd894, hx900⟩
      obtain ⟨A895, c896, B897, e898, rfl, -, -⟩ := hd894.form
      have hd894 := hd894.clip
      refine ⟨_, rfl, ?_⟩; intro a901 F902; clear F889; have z903 := hx900.size
      obtain ⟨-, z905, z906⟩ := RBss.at hb893
      have hf904 : RBss (Clip (fun b => Fr S w b ∧ b ≠ g52 ∧ b ≠ g129 ∧ b ≠ g184) w899) w899 (.slice A890 Q.length c891) Q := (RBss.clip hb893).sub fun b h => by obtain ⟨h, hlt⟩ := h; (rcases h with h | h; (focus ((rcases h with h | h; (focus (obtain ⟨h, hlt⟩ := h; exact ⟨⟨h.1, h.2.1, h.2.2.1, h.2.2.2⟩, by clear h; omega⟩)); (obtain ⟨h, hlt⟩ := h; exact ⟨⟨h.1, h.2, by clear h; omega, by clear h; omega⟩, by clear h; omega⟩)))); (exact ⟨⟨.inr (by omega), by omega, by omega, by omega⟩, by omega⟩))
      have hd907 : RDk (Clip (fun b => Fr S w b ∧ b ≠ g52 ∧ b ≠ g129 ∧ b ≠ g184) w899) w899 (.agg #[(.slice A895 dz.sectors.length c896), (.slice B897 dz.pending.length e898), (.int .i64 dz.left), (.bool dz.stopped)]) dz := RDk.sub hd894 fun b h => by obtain ⟨h, hlt⟩ := h; (rcases h with h | h; (focus ((rcases h with h | h; (focus (obtain ⟨h, hlt⟩ := h; exact ⟨⟨h.1, h.2.1, h.2.2.1, h.2.2.2⟩, by clear h; omega⟩)); (obtain ⟨h, hlt⟩ := h; exact ⟨⟨h.1, h.2, by clear h; omega, by clear h; omega⟩, by clear h; omega⟩)))); (exact ⟨⟨.inr (by omega), by omega, by omega, by omega⟩, by omega⟩))
      refine qv 3 (.tuple #[(.agg #[(.int .i64 (n : Nat)), (.slice A890 Q.length c891), (.int .i64 (Q.length : Nat))]), (.agg #[(.slice A895 dz.sectors.length c896), (.slice B897 dz.pending.length e898), (.int .i64 dz.left), (.bool dz.stopped)]), (.int .i64 0)]) F902 rfl (rn_move (F902.get rfl)) fun _ F909 => ?_; clear F902
      refine qv 4 (.agg #[(.int .i64 (n : Nat)), (.slice A890 Q.length c891), (.int .i64 (Q.length : Nat))]) F909 rfl (rn_extract (F909.get rfl) rfl) fun _ F911 => ?_; clear F909
      refine qv 5 (.agg #[(.slice A895 dz.sectors.length c896), (.slice B897 dz.pending.length e898), (.int .i64 dz.left), (.bool dz.stopped)]) F911 rfl (rn_extract (F911.get rfl) rfl) fun _ F913 => ?_; clear F911
      refine qv 6 (.int .i64 0) F913 rfl (rn_extract (F913.get rfl) rfl) fun _ F915 => ?_; clear F913
      refine wpl_op (i := 7) rfl (o_new (fun g => (.pointer (some ⟨g, 0, none⟩))) [(.int .i64 0), (.slice none 0 0), (.int .i64 0)] 29 F915 rfl rfl rfl rfl (by kernel_rfl) ?_)
      intro g916 w917 a922 F923 z920 z921 b918 hx919; clear F915
      refine wpl_op (i := 8) rfl (o_new (fun g => (.pointer (some ⟨g, 0, none⟩))) [(.slice none 0 0), (.slice none 0 0), (.int .i64 0), (.bool false)] 25 F923 rfl rfl rfl rfl (by kernel_rfl) ?_)
      intro g924 w925 a930 F931 z928 z929 b926 hx927; clear F923
      have b935 := (b918.ext hx927)
      refine wpl_op (i := 9) rfl (o_store (cells := [(.int .i64 (n : Nat)), (.slice A890 Q.length c891), (.int .i64 (Q.length : Nat))]) F931 rfl rfl rfl rfl (F931.get rfl) (F931.get rfl) b935 inf29 rfl (by simp [Value.oneCell']) ?_)
      intro w932 b933 hg934; have z936 := hg934.size
      have b940 := (b926.grownN hg934 (by omega))
      refine wpl_op (i := 10) rfl (o_store (cells := [(.slice A895 dz.sectors.length c896), (.slice B897 dz.pending.length e898), (.int .i64 dz.left), (.bool dz.stopped)]) F931 rfl rfl rfl rfl (F931.get rfl) (F931.get rfl) b940 inf25 rfl (by simp [Value.oneCell']) ?_)
      intro w937 b938 hg939; have z941 := hg939.size
      refine qv 11 (.int .i64 0) F931 rfl (rn_assign (F931.get rfl)) fun _ F943 => ?_; clear F931
      refine wpList_nil ?_
      refine hK885 _ _ ?_
      clear hK885
      have F944 := (((((((((((((((((((((((((((F943.nil.c F943 18 rfl).c F943 17 rfl).c F943 16 rfl).c F943 95 rfl).c F943 93 rfl).c F943 75 rfl).c F943 74 rfl).c F943 73 rfl).c F943 72 rfl).c F943 70 rfl).c F943 11 rfl).c F943 10 rfl).c F943 48 rfl).c F943 9 rfl).c F943 41 rfl).c F943 40 rfl).c F943 39 rfl).c F943 38 rfl).c F943 7 rfl).c F943 37 rfl).c F943 6 rfl).c F943 5 rfl).c F943 27 rfl).c F943 24 rfl).c F943 4 rfl).c F943 1 rfl).c F943 0 rfl)
      clear F943
      refine wp_seq_k (fun K945 hK945 => ?_)
      refine wp_seq_k (fun K946 hK946 => ?_)
      refine wp_region_lit ?_
      refine qv 0 (.int .i64 0) F944 rfl (rn_move (F944.get rfl)) fun _ F948 => ?_; clear F944
      refine wpList_nil ?_
      refine hK946 _ _ ?_
      clear hK946
      refine wp_block ?_
      refine wp_seq_k (fun K949 hK949 => ?_)
      refine wp_region_lit ?_
      refine qv 0 (.bool true) F948 rfl (rn_eql' (F948.get rfl) rfl (by decide)) fun _ F951 => ?_; clear F948
      refine qv 1 (.bool true) F951 rfl (rn_assign (F951.get rfl)) fun _ F953 => ?_; clear F951
      refine wpList_nil ?_
      refine hK949 _ _ ?_
      clear hK949
      refine wp_cond_true (c_true F953 rfl rfl) ?_
      refine wp_seq_k (fun K954 hK954 => ?_)
      refine wp_seq_k (fun K955 hK955 => ?_)
      refine wp_region_lit ?_
      refine qv 0 (.pointer (some ⟨g916, 2, none⟩)) F953 rfl (rn_field Try.underlying29 rfl (by kernel_rfl) (F953.get rfl) rfl) fun _ F957 => ?_; clear F953
      have b958 := (b933.grownN hg939 (by omega))
      refine qv 1 (.int .i64 (Q.length : Nat)) F957 rfl (rn_load (isAgg_no Try.underlying3 rfl) (F957.get rfl) (b958.rule.1 2)) fun _ F960 => ?_; clear F957
      refine qv 2 (.pointer (some ⟨g184, 1, none⟩)) F960 rfl (rn_field Try.underlying29 rfl (by kernel_rfl) (F960.get rfl) rfl) fun _ F962 => ?_; clear F960
      have b963 := (((((b268.ext hx900).ext hx919).ext hx927).grownN hg934 (by omega)).grownN hg939 (by omega))
      refine qv 3 (.slice Aq Q.length cq) F962 rfl (rn_load (isAgg_no Try.underlying22 rfl) (F962.get rfl) (b963.rule.1 1)) fun _ F965 => ?_; clear F962
      refine qv 4 (.int .i64 (Q.length : Nat)) F965 rfl (rn_len_slice Try.underlying22 (F965.get rfl)) fun _ F967 => ?_; clear F965
      refine qv 5 (.bool (decide (((Q.length : Nat) : Int) ≠ ((Q.length : Nat) : Int)))) F967 rfl (rn_neq (F967.get rfl) (F967.get rfl)) fun _ F969 => ?_; clear F967
      refine qv 6 (.bool (decide (((Q.length : Nat) : Int) ≠ ((Q.length : Nat) : Int)))) F969 rfl (rn_move (F969.get rfl)) fun _ F971 => ?_; clear F969
      refine qg 7 (.pointer (some ⟨g916, 1, none⟩)) F971 ((decide_eq_false (by simp)) : decide (((Q.length : Nat) : Int) ≠ ((Q.length : Nat) : Int)) = false) (rn_field Try.underlying29 rfl (by kernel_rfl) (F971.get rfl) rfl) fun _ F974 => ?_; clear F971
      refine qg 8 (.slice A890 Q.length c891) F974 ((decide_eq_false (by simp)) : decide (((Q.length : Nat) : Int) ≠ ((Q.length : Nat) : Int)) = false) (rn_load (isAgg_no Try.underlying22 rfl) (F974.get rfl) (b958.rule.1 1)) fun _ F976 => ?_; clear F974
      refine qg 9 (.pointer (some ⟨g184, 1, none⟩)) F976 ((decide_eq_false (by simp)) : decide (((Q.length : Nat) : Int) ≠ ((Q.length : Nat) : Int)) = false) (rn_field Try.underlying29 rfl (by kernel_rfl) (F976.get rfl) rfl) fun _ F978 => ?_; clear F976
      refine qg 10 (.slice Aq Q.length cq) F978 ((decide_eq_false (by simp)) : decide (((Q.length : Nat) : Int) ≠ ((Q.length : Nat) : Int)) = false) (rn_load (isAgg_no Try.underlying22 rfl) (F978.get rfl) (b963.rule.1 1)) fun _ F980 => ?_; clear F978
      have d981 := (hf904.pres (((((Pres.refl w899).ext hx919).ext hx927).grownN hg934 (fun h => by first | (simp only [Clip, ne_eq, not_true_eq_false, and_false, false_and] at h; done) | (have h2 := h.2; omega) | (rcases h.1 with (h | h) | h <;> first | (simp only [Clip, ne_eq, not_true_eq_false, and_false, false_and] at h; done) | omega | (simp only [Clip] at h; omega)) | (rcases h.1 with h | h <;> first | (simp only [Clip, ne_eq, not_true_eq_false, and_false, false_and] at h; done) | omega | (simp only [Clip] at h; omega)))).grownN hg939 (fun h => by first | (simp only [Clip, ne_eq, not_true_eq_false, and_false, false_and] at h; done) | (have h2 := h.2; omega) | (rcases h.1 with (h | h) | h <;> first | (simp only [Clip, ne_eq, not_true_eq_false, and_false, false_and] at h; done) | omega | (simp only [Clip] at h; omega)) | (rcases h.1 with h | h <;> first | (simp only [Clip, ne_eq, not_true_eq_false, and_false, false_and] at h; done) | omega | (simp only [Clip] at h; omega)))))
      have d982 := (hf273.pres ((((((Pres.refl w261).ext hx900).ext hx919).ext hx927).grownN hg934 (fun h => by first | (simp only [Clip, ne_eq, not_true_eq_false, and_false, false_and] at h; done) | (have h2 := h.2; omega) | (rcases h.1 with (h | h) | h <;> first | (simp only [Clip, ne_eq, not_true_eq_false, and_false, false_and] at h; done) | omega | (simp only [Clip] at h; omega)) | (rcases h.1 with h | h <;> first | (simp only [Clip, ne_eq, not_true_eq_false, and_false, false_and] at h; done) | omega | (simp only [Clip] at h; omega)))).grownN hg939 (fun h => by first | (simp only [Clip, ne_eq, not_true_eq_false, and_false, false_and] at h; done) | (have h2 := h.2; omega) | (rcases h.1 with (h | h) | h <;> first | (simp only [Clip, ne_eq, not_true_eq_false, and_false, false_and] at h; done) | omega | (simp only [Clip] at h; omega)) | (rcases h.1 with h | h <;> first | (simp only [Clip, ne_eq, not_true_eq_false, and_false, false_and] at h; done) | omega | (simp only [Clip] at h; omega)))))
      refine wpl_op (i := 11) rfl (o_call F980 rfl (wanted_guard rfl rfl rfl F980 rfl ((decide_eq_false (by simp)) : decide (((Q.length : Nat) : Int) ≠ ((Q.length : Nat) : Int)) = false) rfl) rfl rfl (rn_call (args2 (F980.get rfl) (F980.get rfl)) rfl (by kernel_rfl)) (samer_at (v := (.slice A890 Q.length c891)) (u := (.slice Aq Q.length cq)) Q Q _ d981 d982) ?_)
      rintro _ w983 ⟨rfl, hx984⟩
      refine ⟨_, rfl, ?_⟩; intro a985 F986; clear F980; have z987 := hx984.size
      refine qg 12 (.bool (!(decide (Q = Q)))) F986 ((decide_eq_false (by simp)) : decide (((Q.length : Nat) : Int) ≠ ((Q.length : Nat) : Int)) = false) (rn_not' (F986.get rfl) rfl) fun _ F989 => ?_; clear F986
      refine qv 13 (.bool (!(decide (Q = Q)))) F989 rfl (rn_pickF (c_false F989 rfl ((decide_eq_false (by simp)) : decide (((Q.length : Nat) : Int) ≠ ((Q.length : Nat) : Int)) = false)) (F989.get rfl)) fun _ F991 => ?_; clear F989
      refine wpList_nil ?_
      refine hK955 _ _ ?_
      clear hK955
      have F992 := ((((((((((((((((((((((((((((((F991.nil.c F991 130 rfl).c F991 115 rfl).c F991 114 rfl).c F991 18 rfl).c F991 17 rfl).c F991 16 rfl).c F991 95 rfl).c F991 93 rfl).c F991 75 rfl).c F991 74 rfl).c F991 73 rfl).c F991 72 rfl).c F991 70 rfl).c F991 11 rfl).c F991 10 rfl).c F991 48 rfl).c F991 9 rfl).c F991 41 rfl).c F991 40 rfl).c F991 39 rfl).c F991 38 rfl).c F991 7 rfl).c F991 37 rfl).c F991 6 rfl).c F991 5 rfl).c F991 27 rfl).c F991 24 rfl).c F991 4 rfl).c F991 1 rfl).c F991 0 rfl)
      clear F991
      refine wp_cond_false (c_false F992 rfl (not_t ((decide_eq_true rfl) : decide (Q = Q) = true))) ?_
      refine wp_skip ?_
      refine hK954 _ _ ?_
      clear hK954
      refine wp_region_lit ?_
      refine qv 0 (.pointer (some ⟨g184, 1, none⟩)) F992 rfl (rn_field Try.underlying29 rfl (by kernel_rfl) (F992.get rfl) rfl) fun _ F995 => ?_; clear F992
      have b996 := (b963.ext hx984)
      refine qv 1 (.slice Aq Q.length cq) F995 rfl (rn_load (isAgg_no Try.underlying22 rfl) (F995.get rfl) (b996.rule.1 1)) fun _ F998 => ?_; clear F995
      refine qv 2 (.slice Aq Q.length cq) F998 rfl (rn_assign (F998.get rfl)) fun _ F1000 => ?_; clear F998
      refine wpList_nil ?_
      refine hK945 _ _ ?_
      clear hK945
      refine wp_region_lit ?_
      have b1001 := (b938.ext hx984)
      refine qv 0 (.agg #[(.slice A895 dz.sectors.length c896), (.slice B897 dz.pending.length e898), (.int .i64 dz.left), (.bool dz.stopped)]) F1000 rfl (rn_loadBlk (F1000.get rfl) b1001 Try.underlying25 rfl inf25) fun _ F1003 => ?_; clear F1000
      have d1004 := (hd907.pres ((((((Pres.refl w899).ext hx919).ext hx927).grownN hg934 (fun h => by first | (simp only [Clip, ne_eq, not_true_eq_false, and_false, false_and] at h; done) | (have h2 := h.2; omega) | (rcases h.1 with (h | h) | h <;> first | (simp only [Clip, ne_eq, not_true_eq_false, and_false, false_and] at h; done) | omega | (simp only [Clip] at h; omega)) | (rcases h.1 with h | h <;> first | (simp only [Clip, ne_eq, not_true_eq_false, and_false, false_and] at h; done) | omega | (simp only [Clip] at h; omega)))).grownN hg939 (fun h => by first | (simp only [Clip, ne_eq, not_true_eq_false, and_false, false_and] at h; done) | (have h2 := h.2; omega) | (rcases h.1 with (h | h) | h <;> first | (simp only [Clip, ne_eq, not_true_eq_false, and_false, false_and] at h; done) | omega | (simp only [Clip] at h; omega)) | (rcases h.1 with h | h <;> first | (simp only [Clip, ne_eq, not_true_eq_false, and_false, false_and] at h; done) | omega | (simp only [Clip] at h; omega)))).ext hx984))
      refine wpl_op (i := 1) rfl (o_call F1003 rfl rfl rfl rfl (rn_call (args1 (F1003.get rfl)) rfl (by kernel_rfl)) (restart_any (S := (Clip (fun b => Fr S w b ∧ b ≠ g52 ∧ b ≠ g129 ∧ b ≠ g184) w899)) _ dz _ d1004) ?_)
      rintro _ w1011 ⟨v1010, rfl, hd1009, hx1012⟩
      obtain ⟨A1005, c1006, B1007, e1008, rfl, -, -⟩ := hd1009.form
      have hd1009 := hd1009.clip
      refine ⟨_, rfl, ?_⟩; intro a1013 F1014; clear F1003; have z1015 := hx1012.size
      have b1019 := (((((((b266.ext hx900).ext hx919).ext hx927).grownN hg934 (by omega)).grownN hg939 (by omega)).ext hx984).ext hx1012)
      refine wpl_op (i := 2) rfl (o_store (cells := [(.slice A1005 dz.restart.sectors.length c1006), (.slice B1007 dz.restart.pending.length e1008), (.int .i64 dz.restart.left), (.bool dz.restart.stopped)]) F1014 rfl rfl rfl rfl (F1014.get rfl) (F1014.get rfl) b1019 inf25 rfl (by simp [Value.oneCell']) ?_)
      intro w1016 b1017 hg1018; have z1020 := hg1018.size
      refine wpList_nil ?_
      refine hK106 _ _ ?_
      clear hK106
      have F1021 := ((((((((((((((((((((((((((((((F1014.nil.c F1014 130 rfl).c F1014 115 rfl).c F1014 114 rfl).c F1014 18 rfl).c F1014 17 rfl).c F1014 16 rfl).c F1014 95 rfl).c F1014 93 rfl).c F1014 75 rfl).c F1014 74 rfl).c F1014 73 rfl).c F1014 72 rfl).c F1014 70 rfl).c F1014 11 rfl).c F1014 10 rfl).c F1014 48 rfl).c F1014 9 rfl).c F1014 41 rfl).c F1014 40 rfl).c F1014 39 rfl).c F1014 38 rfl).c F1014 7 rfl).c F1014 37 rfl).c F1014 6 rfl).c F1014 5 rfl).c F1014 27 rfl).c F1014 24 rfl).c F1014 4 rfl).c F1014 1 rfl).c F1014 0 rfl)
      clear F1014
      refine wp_region_lit ?_
      refine qv 0 (.int .i64 (k + 1 : Nat)) F1021 rfl (rn_addN (a := k) (b := 1) (F1021.get rfl) rfl (by omega)) fun _ F1023 => ?_; clear F1021
      refine qv 1 (.int .i64 (k + 1 : Nat)) F1023 rfl (rn_move (F1023.get rfl)) fun _ F1025 => ?_; clear F1023
      refine wpList_nil ?_
      have d1026 := (hd1009.pres ((Pres.refl w1011).grownN hg1018 (fun h => by first | (simp only [Clip, ne_eq, not_true_eq_false, and_false, false_and] at h; done) | (have h2 := h.2; omega) | (rcases h.1 with (h | h) | h <;> first | (simp only [Clip, ne_eq, not_true_eq_false, and_false, false_and] at h; done) | omega | (simp only [Clip] at h; omega)) | (rcases h.1 with h | h <;> first | (simp only [Clip, ne_eq, not_true_eq_false, and_false, false_and] at h; done) | omega | (simp only [Clip] at h; omega)))))
      have d1027 := (hf273.pres (((((((((Pres.refl w261).ext hx900).ext hx919).ext hx927).grownN hg934 (fun h => by first | (simp only [Clip, ne_eq, not_true_eq_false, and_false, false_and] at h; done) | (have h2 := h.2; omega) | (rcases h.1 with (h | h) | h <;> first | (simp only [Clip, ne_eq, not_true_eq_false, and_false, false_and] at h; done) | omega | (simp only [Clip] at h; omega)) | (rcases h.1 with h | h <;> first | (simp only [Clip, ne_eq, not_true_eq_false, and_false, false_and] at h; done) | omega | (simp only [Clip] at h; omega)))).grownN hg939 (fun h => by first | (simp only [Clip, ne_eq, not_true_eq_false, and_false, false_and] at h; done) | (have h2 := h.2; omega) | (rcases h.1 with (h | h) | h <;> first | (simp only [Clip, ne_eq, not_true_eq_false, and_false, false_and] at h; done) | omega | (simp only [Clip] at h; omega)) | (rcases h.1 with h | h <;> first | (simp only [Clip, ne_eq, not_true_eq_false, and_false, false_and] at h; done) | omega | (simp only [Clip] at h; omega)))).ext hx984).ext hx1012).grownN hg1018 (fun h => by first | (simp only [Clip, ne_eq, not_true_eq_false, and_false, false_and] at h; done) | (have h2 := h.2; omega) | (rcases h.1 with (h | h) | h <;> first | (simp only [Clip, ne_eq, not_true_eq_false, and_false, false_and] at h; done) | omega | (simp only [Clip] at h; omega)) | (rcases h.1 with h | h <;> first | (simp only [Clip, ne_eq, not_true_eq_false, and_false, false_and] at h; done) | omega | (simp only [Clip] at h; omega)))))
      refine ⟨⟨(k + 1), dz.restart, A1005, c1006, B1007, e1008, Q, Aq, cq, ((((((((((((F1025.nil.cons (q_get F1025 (t := 40) rfl (by first | rfl | (congr 1; omega) | (congr 1; done)))).cons (q_get F1025 (t := 39) rfl rfl)).cons (q_get F1025 (t := 38) rfl rfl)).cons (q_get F1025 (t := 7) rfl (by first | rfl | (congr 1; omega) | (congr 1; done)))).cons (q_get F1025 (t := 37) rfl rfl)).cons (q_get F1025 (t := 6) rfl (by first | rfl | (congr 1; omega) | (congr 1; done)))).cons (q_get F1025 (t := 5) rfl rfl)).cons (q_get F1025 (t := 27) rfl rfl)).cons (q_get F1025 (t := 24) rfl rfl)).cons (q_get F1025 (t := 4) rfl rfl)).cons (q_get F1025 (t := 1) rfl rfl)).cons (q_get F1025 (t := 0) rfl rfl)), (by omega), (St.restart hstz), (by show (-1 : Int) < 0; decide), ((((((((((Ext.refl w).trans hx263).trans hx900).trans hx919).trans hx927).grownN hg934 (by omega)).grownN hg939 (by omega)).trans hx984).trans hx1012).grownN hg1018 (by omega)), b1017, (RDk.sub (S := (Clip (Fr (Clip (fun b => Fr S w b ∧ b ≠ g52 ∧ b ≠ g129 ∧ b ≠ g184) w899) w983) w1011)) d1026 fun b h => by obtain ⟨h, hlt⟩ := h; (rcases h with h | h; (focus (obtain ⟨h, hlt⟩ := h; exact ⟨⟨h.1, h.2.1⟩, by clear h; omega⟩)); (exact ⟨⟨.inr (by omega), by omega⟩, by omega⟩))), (RBss.sub (S := (Clip (fun b => Fr S w b ∧ b ≠ g52 ∧ b ≠ g129 ∧ b ≠ g184) w261)) d1027 fun b h => by obtain ⟨h, hlt⟩ := h; exact ⟨⟨h.1, h.2.1⟩, by clear h; omega⟩), (by omega)⟩, ?_⟩
      rw [F1025.get (t := 40) rfl, hL96.get (t := 40) rfl]; simp [intOf] <;> omega
   ·skip
    refine wp_cond_true (c_true F160 rfl (not_f hc161)) ?_
    refine wp_seq_k (fun K1028 hK1028 => ?_)
    refine wp_region_lit ?_
    refine qv 0 (.bool true) F160 rfl (rn_assign rfl) fun _ F1030 => ?_; clear F160
    refine wpList_nil ?_
    refine hK1028 _ _ ?_
    clear hK1028
    refine wp_ret ?_
    refine ret_then ?_
    refine ret_block ?_
    refine ret_then ?_
    refine ret_then ?_
    refine ret_block ?_
    refine ret_then ?_
    refine ret1 F1030 rfl rfl ?_
    exact ⟨congrArg (fun b => Ending.returned (.bool b)) (rfl : true = true), (((((Ext.refl w).trans hx88).trans hx132).grownN hg139 (by omega)).trans hx154)⟩
  ·skip
   refine wp_cond_false (c_false F103 rfl (decide_eq_false hc105)) ?_
   refine wp_exit ?_
   refine exit_then ?_
   refine exit_then ?_
   refine exit_here ?_
   refine hK76 _ _ ?_
   clear hK76
   refine wp_seq_k (fun K1031 hK1031 => ?_)
   refine wp_region_lit ?_
   refine qv 0 (.agg #[(.slice dA d.sectors.length dc), (.slice dB d.pending.length de), (.int .i64 d.left), (.bool d.stopped)]) F103 rfl (rn_loadBlk (F103.get rfl) b92 Try.underlying25 rfl inf25) fun _ F1033 => ?_; clear F103
   refine wpl_op (i := 1) rfl (o_call F1033 rfl rfl rfl rfl (rn_call (args1 (F1033.get rfl)) rfl (by kernel_rfl)) (open_conv (open_at (v := (.agg #[(.slice dA d.sectors.length dc), (.slice dB d.pending.length de), (.int .i64 d.left), (.bool d.stopped)])) d _ hf93) (St.open3 hp90)) ?_)
   rintro _ w1037 ⟨A1034, c1035, rfl, hb1036, hx1038⟩
   refine ⟨_, rfl, ?_⟩; intro a1039 F1040; clear F1033; have z1041 := hx1038.size
   obtain ⟨-, z1043, z1044⟩ := RBss.at hb1036
   have hf1042 : RBss (Clip (fun b => Fr S w b ∧ b ≠ g52) w1037) w1037 (.slice A1034 R.length c1035) R := (RBss.clip hb1036).sub fun b h => by obtain ⟨h, hlt⟩ := h; have h : w86.heap.size ≤ b := h; exact ⟨⟨.inr (by omega), by omega⟩, by omega⟩
   refine qv 2 (.tuple #[(.agg #[(.int .i64 (n : Nat)), (.slice A1034 R.length c1035), (.int .i64 (R.length : Nat))]), (.int .i64 0)]) F1040 rfl (rn_move (F1040.get rfl)) fun _ F1046 => ?_; clear F1040
   refine qv 3 (.agg #[(.int .i64 (n : Nat)), (.slice A1034 R.length c1035), (.int .i64 (R.length : Nat))]) F1046 rfl (rn_extract (F1046.get rfl) rfl) fun _ F1048 => ?_; clear F1046
   refine qv 4 (.int .i64 0) F1048 rfl (rn_extract (F1048.get rfl) rfl) fun _ F1050 => ?_; clear F1048
   refine wpl_op (i := 5) rfl (o_new (fun g => (.pointer (some ⟨g, 0, none⟩))) [(.int .i64 0), (.slice none 0 0), (.int .i64 0)] 29 F1050 rfl rfl rfl rfl (by kernel_rfl) ?_)
   intro g1051 w1052 a1057 F1058 z1055 z1056 b1053 hx1054; clear F1050
   refine wpl_op (i := 6) rfl (o_store (cells := [(.int .i64 (n : Nat)), (.slice A1034 R.length c1035), (.int .i64 (R.length : Nat))]) F1058 rfl rfl rfl rfl (F1058.get rfl) (F1058.get rfl) b1053 inf29 rfl (by simp [Value.oneCell']) ?_)
   intro w1059 b1060 hg1061; have z1062 := hg1061.size
   refine qv 7 (.int .i64 0) F1058 rfl (rn_assign (F1058.get rfl)) fun _ F1064 => ?_; clear F1058
   refine wpList_nil ?_
   refine hK1031 _ _ ?_
   clear hK1031
   have F1065 := (((((((((((((((F1064.nil.c F1064 22 rfl).c F1064 21 rfl).c F1064 41 rfl).c F1064 40 rfl).c F1064 39 rfl).c F1064 38 rfl).c F1064 7 rfl).c F1064 37 rfl).c F1064 6 rfl).c F1064 5 rfl).c F1064 27 rfl).c F1064 24 rfl).c F1064 4 rfl).c F1064 1 rfl).c F1064 0 rfl)
   clear F1064
   refine wp_seq_k (fun K1066 hK1066 => ?_)
   refine wp_region_lit ?_
   refine qv 0 (.int .i64 0) F1065 rfl (rn_move (F1065.get rfl)) fun _ F1068 => ?_; clear F1065
   refine qv 1 (.bool true) F1068 rfl (rn_eql' (F1068.get rfl) rfl (by decide)) fun _ F1070 => ?_; clear F1068
   refine qv 2 (.bool true) F1070 rfl (rn_move (F1070.get rfl)) fun _ F1072 => ?_; clear F1070
   refine qg 3 (.pointer (some ⟨g1051, 1, none⟩)) F1072 rfl (rn_field Try.underlying29 rfl (by kernel_rfl) (F1072.get rfl) rfl) fun _ F1074 => ?_; clear F1072
   refine qg 4 (.slice A1034 R.length c1035) F1074 rfl (rn_load (isAgg_no Try.underlying22 rfl) (F1074.get rfl) (b1060.rule.1 1)) fun _ F1076 => ?_; clear F1074
   refine qg 5 (.slice Ak R.length ck) F1076 rfl (rn_move (F1076.get rfl)) fun _ F1078 => ?_; clear F1076
   have d1079 := (hf1042.pres (((Pres.refl w1037).ext hx1054).grownN hg1061 (fun h => by first | (simp only [Clip, ne_eq, not_true_eq_false, and_false, false_and] at h; done) | (have h2 := h.2; omega) | (rcases h.1 with (h | h) | h <;> first | (simp only [Clip, ne_eq, not_true_eq_false, and_false, false_and] at h; done) | omega | (simp only [Clip] at h; omega)) | (rcases h.1 with h | h <;> first | (simp only [Clip, ne_eq, not_true_eq_false, and_false, false_and] at h; done) | omega | (simp only [Clip] at h; omega)))))
   have d1080 := (hf94.pres ((((Pres.refl w86).ext hx1038).ext hx1054).grownN hg1061 (fun h => by first | (simp only [Clip, ne_eq, not_true_eq_false, and_false, false_and] at h; done) | (have h2 := h.2; omega) | (rcases h.1 with (h | h) | h <;> first | (simp only [Clip, ne_eq, not_true_eq_false, and_false, false_and] at h; done) | omega | (simp only [Clip] at h; omega)) | (rcases h.1 with h | h <;> first | (simp only [Clip, ne_eq, not_true_eq_false, and_false, false_and] at h; done) | omega | (simp only [Clip] at h; omega)))))
   refine wpl_op (i := 6) rfl (o_call F1078 rfl (wanted_guard rfl rfl rfl F1078 rfl rfl rfl) rfl rfl (rn_call (args2 (F1078.get rfl) (F1078.get rfl)) rfl (by kernel_rfl)) (samer_at (v := (.slice A1034 R.length c1035)) (u := (.slice Ak R.length ck)) R R _ d1079 d1080) ?_)
   rintro _ w1081 ⟨rfl, hx1082⟩
   refine ⟨_, rfl, ?_⟩; intro a1083 F1084; clear F1078; have z1085 := hx1082.size
   refine qv 7 (.bool (decide (R = R))) F1084 rfl (rn_pickT (c_true F1084 rfl rfl) (F1084.get rfl)) fun _ F1087 => ?_; clear F1084
   refine qv 8 (.bool (decide (R = R))) F1087 rfl (rn_assign (F1087.get rfl)) fun _ F1089 => ?_; clear F1087
   refine wpList_nil ?_
   refine hK1066 _ _ ?_
   clear hK1066
   have F1090 := (((((((((((((((F1089.nil.c F1089 22 rfl).c F1089 21 rfl).c F1089 41 rfl).c F1089 40 rfl).c F1089 39 rfl).c F1089 38 rfl).c F1089 7 rfl).c F1089 37 rfl).c F1089 6 rfl).c F1089 5 rfl).c F1089 27 rfl).c F1089 24 rfl).c F1089 4 rfl).c F1089 1 rfl).c F1089 0 rfl)
   clear F1089
   refine wp_ret ?_
   refine ret1 F1090 rfl rfl ?_
   exact ⟨congrArg (fun b => Ending.returned (.bool b)) (((decide_eq_true rfl) : decide (R = R) = true) : decide (R = R) = true), ((((((Ext.refl w).trans hx88).trans hx1038).trans hx1054).grownN hg1061 (by omega)).trans hx1082)⟩

end Go.Proofs.Ytfmhnplkpohogaa
