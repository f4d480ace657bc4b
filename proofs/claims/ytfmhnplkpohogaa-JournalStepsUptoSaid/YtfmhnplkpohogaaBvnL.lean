/- Several texts in one: JrZ, JrLe0. -/
import Derived.Test.YtfmhnplkpohogaaBvnD
import Derived.Test.YtfmhnplkpohogaaProg
import Derived.Test.YtfmhnplkpohogaaBvnH
import Derived.KernelRfl
import Derived.Test.YtfmhnplkpohogaaBvnA
set_option linter.unusedVariables false
set_option linter.unusedSimpArgs false
namespace Go.Proofs.Ytfmhnplkpohogaa
open Go.RowKit

/-- a disk of n sectors on which the records R lie, with generations up to G -/
structure St (n : Nat) (d : Dk) (R : List (List UInt8)) (G : Nat) : Prop where
  run : d.runs = true
  pend : d.pending = []
  sect : d.sectors.length = n
  rcs : recsOf d.sectors = R
  gn : maxG d.sectors ≤ G
section
variable {n G : Nat} {d : Dk} {R R' : List (List UInt8)} {s : Int}
theorem St.op (h : St n d R G) : openE d = 0 := by
  have hc := runs_check h.run
  have hs : d.stopped = false := (runs_facts h.run).2.2.2.2.2.1
  exact openE_0 hc hs (by rw [h.pend]; simp)
theorem St.opR (h : St n d R G) : openR d = R ∧ openM d = (n : Nat) := by
  obtain ⟨h1, h2⟩ := open_good h.op
  rw [h1, h2, h.rcs, h.sect]; exact ⟨rfl, rfl⟩
theorem St.open3 (h : St n d R G) : openE d = 0 ∧ openR d = R ∧ openM d = (n : Nat) := ⟨h.op, h.opR.1, h.opR.2⟩
theorem St.used (h : St n d R G) : usedL R ≤ n := by
  have := used_first h.rcs
  rw [h.sect] at this; exact this
theorem St.nb (h : St n d R G) : 1 ≤ n ∧ n ≤ 4096 := by
  have := runs_facts h.run
  have := h.sect
  omega
theorem St.goes (h : St n d R G) (hG : G + 1 < 4294967296) (hs : s = (R.length : Nat)) (hR : R'.take R.length = R) (hf : usedL R' ≤ n) : Goes ⟨(n : Nat), R', s⟩ d := by
  have hn := h.nb
  have hl := congrArg List.length hR
  rw [List.length_take] at hl
  exact ⟨check_eq (by omega) (by omega) (by omega) (by omega) (by omega), by show ((n : Nat) : Int) = _; rw [h.sect], h.op, by show _ = R'.take s.toNat; rw [hs, Int.toNat_natCast, hR, h.rcs], by have := h.gn; omega⟩
theorem maxG_parts {a b c : List (List UInt8)} {G : Nat} (h1 : ∀ x ∈ a, gen x ≤ G ∧ gen2 x ≤ G) (h2 : ∀ x ∈ b, gen x ≤ G ∧ gen2 x ≤ G) (h3 : ∀ x ∈ c, gen x ≤ G ∧ gen2 x ≤ G) : maxG (a ++ b ++ c) ≤ G := maxG_le fun x hx => by
  rcases List.mem_append.1 hx with hx | hx
  · rcases List.mem_append.1 hx with hx | hx
    · exact h1 x hx
    · exact h2 x hx
  · exact h3 x hx
/-- the next sync -/
theorem St.sync (h : St n d R G) (hG : G + 1 < 4294967296) (hs : s = (R.length : Nat)) (hR : R'.take R.length = R) (hf : usedL R' ≤ n) (hl : d.left < 0 ∨ ((usedL (R'.drop R.length) : Nat) : Int) ≤ d.left) :
    ∃ d', (Lg.mk (n : Nat) R' s).sync d = (⟨(n : Nat), R', (R'.length : Nat)⟩, d', 0) ∧ St n d' R' (G + 1) ∧ (d.left < 0 → d'.left = d.left) := by
  have hg := h.goes hG hs hR hf
  have hn := h.nb
  have hst : s.toNat = R.length := by omega
  by_cases h6 : s = (R'.length : Nat)
  · have e : R' = R := by rw [← hR, List.take_of_length_le (by omega)]
    subst e
    refine ⟨d, ?_, ⟨h.run, h.pend, h.sect, h.rcs, by have := h.gn; omega⟩, fun _ => rfl⟩
    rw [sync_6 hg h6, h6]
  · have hu : usedL (Lg.mk (n : Nat) R' s).recs < 9223372036854775808 := by show usedL R' < _; omega
    have hat : (Lg.mk (n : Nat) R' s).at = usedL R := by show usedL (R'.take s.toNat) = _; rw [hst, hR]
    have hdl : (Lg.mk (n : Nat) R' s).recs.drop (Lg.mk (n : Nat) R' s).synced.toNat = R'.drop R.length := by show R'.drop s.toNat = _; rw [hst]
    have hgd := sync_good hg hu (by rw [hdl]; exact hl)
    refine ⟨_, sync_8 hg h6 (by rw [hgd]), ?_, ?_⟩
    · have hfit := wr_fit hg hu
      have h8 := (runs_facts h.run).2.2.2.2.2.2.2
      obtain ⟨-, -, -, hle4, hle5, -⟩ := runs_facts h.run
      rw [hgd]
      have h128 : ∀ x ∈ d.sectors.take (Lg.mk (n : Nat) R' s).at ++ (Lg.mk (n : Nat) R' s).secs d ++ d.sectors.drop ((Lg.mk (n : Nat) R' s).at + ((Lg.mk (n : Nat) R' s).secs d).length), x.length = 128 := fun x hx => by
        rcases List.mem_append.1 hx with hx | hx
        · rcases List.mem_append.1 hx with hx | hx
          · exact h8 x (List.mem_of_mem_take hx)
          · exact secs_128 x hx
        · exact h8 x (List.mem_of_mem_drop hx)
      have hlen : (d.sectors.take (Lg.mk (n : Nat) R' s).at ++ (Lg.mk (n : Nat) R' s).secs d ++ d.sectors.drop ((Lg.mk (n : Nat) R' s).at + ((Lg.mk (n : Nat) R' s).secs d).length)).length = n := by
        have := h.sect
        rw [List.length_append, List.length_append, List.length_take, List.length_drop]; omega
      refine ⟨runs_of (Nat.le_trans hn.1 (Nat.le_of_eq hlen.symm)) (Nat.le_trans (Nat.le_of_eq hlen) hn.2) (by show (0 : Nat) ≤ _; omega) ?_ ?_ rfl (fun x hx => by cases hx) h128, rfl, hlen, recs_good hg h6 _, ?_⟩
      · show -1 ≤ (if 0 ≤ d.left then _ else _)
        rw [hdl]
        split <;> omega
      · show (if 0 ≤ d.left then _ else _) ≤ (65536 : Int)
        rw [hdl]
        split <;> omega
      · have hgn := h.gn
        have hle2 := fun x (hx : x ∈ d.sectors) => le_maxG x hx
        refine maxG_parts (fun x hx => ?_) (fun x hx => ?_) (fun x hx => ?_)
        · have := hle2 x (List.mem_of_mem_take hx); omega
        · have := secs_gens hg x hx; omega
        · have := hle2 x (List.mem_of_mem_drop hx); omega
    · intro hlt
      rw [hgd]
      show (if 0 ≤ d.left then _ else _) = d.left
      rw [if_neg (by omega)]
/-- records are added, as_ far as_ there is room -/
def addAll (n : Nat) (R : List (List UInt8)) (rs : List (List UInt8)) : List (List UInt8) := rs.foldl (fun R b => if usedL R + secs b.length ≤ n then R ++ [b] else R) R
theorem addAll_take (n : Nat) (R : List (List UInt8)) {rs : List (List UInt8)} {k : Nat} {b : List UInt8} (h : rs[k]? = some b) : addAll n R (rs.take (k + 1)) = if usedL (addAll n R (rs.take k)) + secs b.length ≤ n then addAll n R (rs.take k) ++ [b] else addAll n R (rs.take k) := by
  unfold addAll
  rw [List.take_add_one, h, List.foldl_append]
  rfl
theorem addAll_facts (n : Nat) (R : List (List UInt8)) (hR : usedL R ≤ n) : ∀ rs : List (List UInt8), usedL (addAll n R rs) ≤ n ∧ (addAll n R rs).take R.length = R := fun rs => snoc_ind (P := fun rs => usedL (addAll n R rs) ≤ n ∧ (addAll n R rs).take R.length = R) ⟨hR, by show R.take R.length = R; exact List.take_length⟩ (fun a c ih => by
  have e : addAll n R (a ++ [c]) = if usedL (addAll n R a) + secs c.length ≤ n then addAll n R a ++ [c] else addAll n R a := by unfold addAll; rw [List.foldl_append]; rfl
  rw [e]
  split
  · refine ⟨by rw [usedL_app, usedL_cons, usedL_nil]; omega, ?_⟩
    have hl := congrArg List.length ih.2
    rw [List.length_take] at hl
    rw [List.take_append_of_le_length (by omega), ih.2]
  · exact ih) rs
theorem addAll_len (n : Nat) (R rs : List (List UInt8)) : R.length ≤ (addAll n R rs).length := by
  refine snoc_ind (P := fun rs => R.length ≤ (addAll n R rs).length) (Nat.le_refl _) (fun a c ih => ?_) rs
  have e : addAll n R (a ++ [c]) = if usedL (addAll n R a) + secs c.length ≤ n then addAll n R a ++ [c] else addAll n R a := by unfold addAll; rw [List.foldl_append]; rfl
  rw [e]
  split
  · rw [List.length_append]; omega
  · exact ih
end
/-- bounds of what holds little -/
theorem used_bnd {R : List (List UInt8)} {n : Nat} (h : usedL R ≤ n) (hn : n ≤ 4096) : (∀ x ∈ R, x.length ≤ 140737488355328) ∧ R.length ≤ 4096 := by
  refine ⟨fun x hx => ?_, by have := usedL_len R; omega⟩
  have := secs_bnd (Nat.le_trans (mem_used hx) h)
  omega
def n40 : Dk := ⟨List.replicate 40 (List.replicate 128 0), [], -1, false⟩
theorem new_40 : Dk.new 40 = (n40, 0) := by kernel_rfl
theorem st_40 : St 40 n40 [] 0 := ⟨by kernel_rfl, rfl, by kernel_rfl, by kernel_rfl, by decide +kernel⟩

theorem RVS.app {S : Nat → Prop} {w : World} {vs us : List Value} {l m : List (List UInt8)} (h : RVS S w vs l) (k : RVS S w us m) : RVS S w (vs ++ us) (l ++ m) := by
  refine ⟨by simp [h.1, k.1], fun i h1 h2 => ?_⟩
  by_cases hi : i < l.length
  · rw [List.getElem_append_left hi, List.getElem_append_left (by rw [h.1]; exact hi)]
    exact h.2 i hi _
  · rw [List.length_append] at h1 h2
    rw [List.getElem_append_right (by rw [h.1]; omega), List.getElem_append_right (by omega)]
    simp only [h.1]
    exact k.2 _ _ _
section
variable {S : Nat → Prop} {N : Nat} {m : List (Nat × Value)} {a : Act} {P : Program} {ops : Array Oper} {Q : Exit → Act → World → Prop} {i : Nat} {w : World} {o : Oper} {K : Act → World → Prop} {d : Nat}
/-- a list behind a list in a row -/
theorem o_appM {t e : TypeId} {z : Value} {bytes : Nat} (E : El P t e z 1 bytes) (hF : Sl N m a) (ho : ops[i]? = some o) (hw : Region.wanted o (yielded ops a.tmps) = true) (hd : o.dst = some d) (hN : Nat.blt d N = true) {s x : Operand}
    (hop : o.op = .call { callee := .builtin .append, args := #[s, x], argTypes := #[t, t] }) {A : Option Addr} {n c : Nat} (hs : a.eval s = .slice A n c) {A2 : Option Addr} {n2 c2 : Nat} (hx : a.eval x = .slice A2 n2 c2)
    {l l2 : List (List UInt8)} {base : Nat} {vs : List Value} (hr : w.ownsRow base e 1 (.slice A n c) n vs) (hv : RVS S w vs l) (hl : RBss S w (.slice A2 n2 c2) l2)
    (hS : ∀ k, S k → some k ≠ (Value.slice A n c).ownBlock) (hbase : base ≤ w.heap.size) (h63 : n + n2 ≤ 9223372036854775807) (hbytes : (n + n2) * bytes ≤ 140737488355328)
    (h : ∀ A' c' w' a', Sl N ((d, .slice A' (n + n2) c') :: m) a' → RBss (fun k => S k ∨ base ≤ k) w' (.slice A' (n + n2) c') (l ++ l2) → w.grownBy w' (Value.slice A n c).ownBlock → K a' w') : wpOp P ops Q i K a w := by
  obtain ⟨hn, us, hc, hu⟩ := RVS.of hl
  refine o_appB E hF ho hw hd hN hop hs hx hr hc hbase h63 hbytes rfl fun A' c' w' a' hF' h1 h2 h3 h4 h5 => ?_
  exact h A' c' w' a' hF' (RVS.bss ((hv.app hu).keep h2.size fun k hk hlt => h2.block k hlt (hS k hk)) h1) h2
end

end Go.Proofs.Ytfmhnplkpohogaa

namespace Go.Proofs.Ytfmhnplkpohogaa
open Go.RowKit

variable {S S' : Nat → Prop}

def AddRet (S : Nat → Prop) (w : World) (n : Nat) (Q : List (List UInt8)) (s : Int) (e : Ending) (w' : World) : Prop := ∃ A c, e = .returned (.agg #[.int .i64 (n : Nat), .slice A Q.length c, .int .i64 s]) ∧ RBss (Fr S w) w' (.slice A Q.length c) Q ∧ Ext w w'
theorem add_fin {w w' : World} {n : Nat} {Q Qa : List (List UInt8)} {s : Int} {A : Option Addr} {c : Nat} (he : Q = Qa) (h : RBss S' w' (.slice A Q.length c) Q) (hS : ∀ b, S' b → Fr S w b) (hx : Ext w w') : AddRet S w n Qa s (.returned (.agg #[.int .i64 (n : Nat), .slice A Q.length c, .int .i64 s])) w' := by
 subst he
 exact ⟨A, c, rfl, h.sub hS, hx⟩
set_option maxRecDepth 100000 in
set_option maxHeartbeats 1000000 in
theorem add_any (n : Nat) (A : Option Addr) (c : Nat) (R : List (List UInt8)) (s : Int) (B : Option Addr) (e : Nat) (T : List (List UInt8)) (w : World) (hb : ∀ x ∈ R, x.length ≤ 140737488355328) (hn : RBss S w (.slice A R.length c) R) (huR : usedL R ≤ n) (hn1 : 1 ≤ n) (hnn : n ≤ 4096) (hs1 : 0 ≤ s) (hs2 : s ≤ (R.length : Nat)) (hm : RBss S w (.slice B T.length e) T) (hb2 : ∀ x ∈ T, x.length ≤ 140737488355328) {Qa : List (List UInt8)} (hQa : addAll n R T = Qa) :
  Calls Try.prog 28 #[.agg #[.int .i64 (n : Nat), .slice A R.length c, .int .i64 s], .slice B T.length e] w (AddRet S w n Qa s) := by
 have hnc := RBss.clip hn
 obtain ⟨-, hcR1, hcR2⟩ := RBss.at hn
 have hmc := RBss.clip hm
 obtain ⟨-, hmc1, hmc2⟩ := RBss.at hm
 have hbR := (used_bnd huR hnn).1
 refine calls_enter (l := [(.agg #[(.int .i64 (n : Nat)), (.slice A R.length c), (.int .i64 s)]), (.slice B T.length e)]) Try.func28 rfl rfl rfl (fun aA hF => ?_)
 refine wp_seq_k (fun K1 hK1 => ?_)
 refine wp_region_lit ?_
 refine wpl_op (i := 0) rfl (o_new (fun g => (.pointer (some ⟨g, 0, none⟩))) [(.int .i64 (n : Nat)), (.slice A R.length c), (.int .i64 s)] 29 hF rfl rfl rfl rfl (rn_box (hF.get rfl) (by kernel_rfl)) ?_)
 intro g2 w3 a8 F9 z6 z7 b4 hx5; clear hF
 refine wpl_op (i := 1) rfl (o_new (fun g => (.pointer (some ⟨g, 0, none⟩))) [(.int .i64 0), (.slice none 0 0), (.int .i64 0)] 29 F9 rfl rfl rfl rfl (by kernel_rfl) ?_)
 intro g10 w11 a16 F17 z14 z15 b12 hx13; clear F9
 refine wpList_nil ?_
 refine hK1 _ _ ?_
 clear hK1
 refine wp_seq_k (fun K18 hK18 => ?_)
 refine wp_seq_k (fun K19 hK19 => ?_)
 refine wp_region_lit ?_
 refine qv 0 (.slice B T.length e) F17 rfl (rn_move (F17.get rfl)) fun _ F21 => ?_; clear F17
 refine qv 1 (.int .i64 (T.length : Nat)) F21 rfl (rn_len_slice Try.underlying22 (F21.get rfl)) fun _ F23 => ?_; clear F21
 refine qv 2 (.int .i64 0) F23 rfl (rn_move rfl) fun _ F25 => ?_; clear F23
 refine wpList_nil ?_
 refine hK19 _ _ ?_
 clear hK19
 refine wp_block ?_
 have d26 := ((hnc.ext hx5).ext hx13)
 have b27 := (b4.ext hx13)
 refine wp_loop (fun a' W => ∃ (k : Nat) (Q : List (List UInt8)) (Aq : Option Addr) (cq : Nat), Sl 26 [(0, (.agg #[(.int .i64 (n : Nat)), (.slice A R.length c), (.int .i64 s)])), (1, (.slice B T.length e)), (2, (.pointer (some ⟨g2, 0, none⟩))), (4, (.pointer (some ⟨g10, 0, none⟩))), (9, (.slice B T.length e)), (10, (.int .i64 (T.length : Nat))), (11, (.int .i64 (k : Nat)))] a' ∧ k ≤ T.length ∧ Q = addAll n R (T.take k) ∧ Ext w W ∧ Blk W g2 29 [(.int .i64 (n : Nat)), (.slice Aq Q.length cq), (.int .i64 s)] ∧ Blk W g10 29 [(.int .i64 0), (.slice none 0 0), (.int .i64 0)] ∧ RBss (Clip (fun b => Fr S w b ∧ b ≠ g2 ∧ b ≠ g10) W) W (.slice Aq Q.length cq) Q ∧ w11.heap.size ≤ W.heap.size) (fun a' _ => T.length - (intOf (a'.eval (.tmp 11))).toNat) ⟨0, R, A, c, (((((((F25.nil.cons (q_get F25 (t := 11) rfl (by first | rfl | (congr 1; omega) | (congr 1; done)))).cons (q_get F25 (t := 10) rfl rfl)).cons (q_get F25 (t := 9) rfl rfl)).cons (q_get F25 (t := 4) rfl rfl)).cons (q_get F25 (t := 2) rfl rfl)).cons (q_get F25 (t := 1) rfl rfl)).cons (q_get F25 (t := 0) rfl rfl)), (by omega), rfl, (((Ext.refl w).trans hx5).trans hx13), b27, b12, (RBss.sub (S := (Clip S w)) d26 (fun b hb => by have h2 := hb.2; exact ⟨⟨.inl hb.1, by first | omega | (have := hb.2; omega), by first | omega | (have := hb.2; omega)⟩, by omega⟩)), (Nat.le_refl _)⟩ ?_
 clear F25
 rintro a28 w29 ⟨k, Q, Aq, cq, F30, hp32, hp33, hx31, b34, b35, hf36, hf37⟩
 have hL38 := F30
 have z39 := hx31.size
 have z40 := b34.lt
 have z41 := b35.lt
 obtain ⟨-, z42, z43⟩ := RBss.at hf36
 have hQf := addAll_facts n R huR (T.take k); rw [← hp33] at hQf
 have hQl := addAll_len n R (T.take k); rw [← hp33] at hQl
 have hQb := used_bnd hQf.1 hnn
 have hlc : (Lg.mk (n : Nat) Q s).check = 0 := check_eq (by omega) (by omega) hs1 (by omega) (by omega)
 refine wp_seq_k (fun K44 hK44 => ?_)
 refine wp_region_lit ?_
 refine qv 0 (.bool (decide (((k : Nat) : Int) < ((T.length : Nat) : Int)))) F30 rfl (rn_lss (F30.get rfl) (F30.get rfl)) fun _ F46 => ?_; clear F30
 refine wpList_nil ?_
 refine hK44 _ _ ?_
 clear hK44
 refine wp_seq_k (fun K47 hK47 => ?_)
 by_cases hc48 : ((k : Nat) : Int) < ((T.length : Nat) : Int)
 ·skip
  refine wp_cond_true (c_true F46 rfl (decide_eq_true hc48)) ?_
  refine wp_skip ?_
  refine hK47 _ _ ?_
  clear hK47
  refine wp_seq_k (fun K49 hK49 => ?_)
  refine wp_block ?_
  refine wp_seq_k (fun K50 hK50 => ?_)
  refine wp_region_lit ?_
  have d64 := (hmc.ext hx31)
  obtain ⟨x51, hi52, hm53⟩ := nth_of_lt T k (by omega)
  obtain ⟨b54, o55, A56, c57, hA58, hl59, hc60, hr61, le62, le63⟩ := RBss.get d64 hi52
  have z65 := hb2 x51 (List.mem_of_getElem? hi52)
  refine qv 0 (.pointer (some ⟨b54, o55 + k, none⟩)) F46 rfl (rn_index1 Try.underlying22 inf35 ((F46.get rfl).trans (by rw [hA58])) (F46.get rfl) (by omega : (0 : Int) ≤ (k : Nat)) (by omega : ((k : Nat) : Int) < ((T.length : Nat) : Int))) fun _ F67 => ?_; clear F46
  refine qv 1 (.slice A56 x51.length c57) F67 rfl (rn_load (isAgg_no Try.underlying35 rfl) (F67.get rfl) (Ext.keep (Ext.refl w29) hc60)) fun _ F69 => ?_; clear F67
  refine qv 2 (.slice A56 x51.length c57) F69 rfl (rn_assign (F69.get rfl)) fun _ F71 => ?_; clear F69
  refine wpList_nil ?_
  refine hK50 _ _ ?_
  clear hK50
  refine wp_seq_k (fun K72 hK72 => ?_)
  by_cases hc73 : usedL Q + secs x51.length ≤ n
  ·skip
   have hfit := hc73
   refine wp_region_lit ?_
   refine qv 0 (.agg #[(.int .i64 (n : Nat)), (.slice Aq Q.length cq), (.int .i64 s)]) F71 rfl (rn_loadBlk (F71.get rfl) b34 Try.underlying29 rfl inf29) fun _ F75 => ?_; clear F71
   refine qv 1 (.slice A56 x51.length c57) F75 rfl (rn_move (F75.get rfl)) fun _ F77 => ?_; clear F75
   refine wpl_op (i := 2) rfl (o_call F77 rfl rfl rfl rfl (rn_call (args2 (F77.get rfl) (F77.get rfl)) rfl (by kernel_rfl)) (app_conv (app_at (S := (fun b => (Clip (fun b => Fr S w b ∧ b ≠ g2 ∧ b ≠ g10) w29) b ∨ (Clip S w) b)) (v := (.slice Aq Q.length cq)) (u := (.slice A56 x51.length c57)) (n := x51.length) (n : Nat) Q s x51 _ (RBss.sub hf36 fun b hb => .inl hb) hQb.1 (by omega) (Fl.sub (RBs.fl hr61) fun b hb => .inr hb) (by omega)) (app_fit hlc (by omega) (by omega))) ?_)
   rintro _ w81 ⟨A78, c79, rfl, hb80, hx82⟩
   refine ⟨_, rfl, ?_⟩; intro a83 F84; clear F77; have z85 := hx82.size
   have hf86 := RBss.clip hb80
   obtain ⟨-, z87, z88⟩ := RBss.at hb80
   refine qv 3 (.tuple #[(.agg #[(.int .i64 (n : Nat)), (.slice A78 ((Q ++ [x51]).length) c79), (.int .i64 s)]), (.int .i64 0)]) F84 rfl (rn_move (F84.get rfl)) fun _ F90 => ?_; clear F84
   refine qv 4 (.agg #[(.int .i64 (n : Nat)), (.slice A78 ((Q ++ [x51]).length) c79), (.int .i64 s)]) F90 rfl (rn_extract (F90.get rfl) rfl) fun _ F92 => ?_; clear F90
   refine qv 5 (.int .i64 0) F92 rfl (rn_extract (F92.get rfl) rfl) fun _ F94 => ?_; clear F92
   refine wpl_op (i := 6) rfl (o_new (fun g => (.pointer (some ⟨g, 0, none⟩))) [(.int .i64 0), (.slice none 0 0), (.int .i64 0)] 29 F94 rfl rfl rfl rfl (by kernel_rfl) ?_)
   intro g95 w96 a101 F102 z99 z100 b97 hx98; clear F94
   refine wpl_op (i := 7) rfl (o_store (cells := [(.int .i64 (n : Nat)), (.slice A78 ((Q ++ [x51]).length) c79), (.int .i64 s)]) F102 rfl rfl rfl rfl (F102.get rfl) (F102.get rfl) b97 inf29 rfl (by simp [Value.oneCell']) ?_)
   intro w103 b104 hg105; have z106 := hg105.size
   refine qv 8 (.int .i64 0) F102 rfl (rn_assign (F102.get rfl)) fun _ F108 => ?_; clear F102
   refine wpList_nil ?_
   refine hK72 _ _ ?_
   clear hK72
   have F109 := (((((((((((F108.nil.c F108 8 rfl).c F108 7 rfl).c F108 6 rfl).c F108 12 rfl).c F108 11 rfl).c F108 10 rfl).c F108 9 rfl).c F108 4 rfl).c F108 2 rfl).c F108 1 rfl).c F108 0 rfl)
   clear F108
   refine wp_seq_k (fun K110 hK110 => ?_)
   refine wp_region_lit ?_
   refine qv 0 (.int .i64 0) F109 rfl (rn_move (F109.get rfl)) fun _ F112 => ?_; clear F109
   refine qv 1 (.bool true) F112 rfl (rn_eql' (F112.get rfl) rfl (by decide)) fun _ F114 => ?_; clear F112
   refine wpList_nil ?_
   refine hK110 _ _ ?_
   clear hK110
   refine wp_cond_true (c_true F114 rfl rfl) ?_
   refine wp_region_lit ?_
   refine qv 0 (.agg #[(.int .i64 (n : Nat)), (.slice A78 ((Q ++ [x51]).length) c79), (.int .i64 s)]) F114 rfl (rn_loadBlk (F114.get rfl) b104 Try.underlying29 rfl inf29) fun _ F116 => ?_; clear F114
   have b120 := (((b34.ext hx82).ext hx98).grownN hg105 (by omega))
   refine wpl_op (i := 1) rfl (o_store (cells := [(.int .i64 (n : Nat)), (.slice A78 ((Q ++ [x51]).length) c79), (.int .i64 s)]) F116 rfl rfl rfl rfl (F116.get rfl) (F116.get rfl) b120 inf29 rfl (by simp [Value.oneCell']) ?_)
   intro w117 b118 hg119; have z121 := hg119.size
   refine wpList_nil ?_
   refine hK49 _ _ ?_
   clear hK49
   refine wp_region_lit ?_
   refine qv 0 (.int .i64 (k + 1 : Nat)) F116 rfl (rn_addN (a := k) (b := 1) (F116.get rfl) rfl (by omega)) fun _ F123 => ?_; clear F116
   refine qv 1 (.int .i64 (k + 1 : Nat)) F123 rfl (rn_move (F123.get rfl)) fun _ F125 => ?_; clear F123
   refine wpList_nil ?_
   have d126 := (hf86.pres ((((Pres.refl w81).ext hx98).grownN hg105 (fun h => by first | (simp only [Clip, ne_eq, not_true_eq_false, and_false, false_and] at h; done) | (have h2 := h.2; omega) | (rcases h.1 with h | h; (focus (first | (simp only [Clip, ne_eq, not_true_eq_false, and_false, false_and] at h; done) | (rcases h with h | h; (focus (simp only [Clip, ne_eq, not_true_eq_false, and_false, false_and] at h)); ((try simp only [Clip] at h); omega)))); omega))).grownN hg119 (fun h => by first | (simp only [Clip, ne_eq, not_true_eq_false, and_false, false_and] at h; done) | (have h2 := h.2; omega) | (rcases h.1 with h | h; (focus (first | (simp only [Clip, ne_eq, not_true_eq_false, and_false, false_and] at h; done) | (rcases h with h | h; (focus (simp only [Clip, ne_eq, not_true_eq_false, and_false, false_and] at h)); ((try simp only [Clip] at h); omega)))); omega))))
   have b127 := ((((b35.ext hx82).ext hx98).grownN hg105 (by omega)).grownN hg119 (by omega))
   refine ⟨⟨(k + 1), (Q ++ [x51]), A78, c79, (((((((F125.nil.cons (q_get F125 (t := 11) rfl (by first | rfl | (congr 1; omega) | (congr 1; done)))).cons (q_get F125 (t := 10) rfl rfl)).cons (q_get F125 (t := 9) rfl rfl)).cons (q_get F125 (t := 4) rfl rfl)).cons (q_get F125 (t := 2) rfl rfl)).cons (q_get F125 (t := 1) rfl rfl)).cons (q_get F125 (t := 0) rfl rfl)), (by omega), (by rw [addAll_take n R hi52, ← hp33, if_pos (by omega)]), ((((((Ext.refl w).trans hx31).trans hx82).trans hx98).grownN hg105 (by omega)).grownN hg119 (by omega)), b118, b127, (RBss.sub (S := (Clip (Fr (fun b => (Clip (fun b => Fr S w b ∧ b ≠ g2 ∧ b ≠ g10) w29) b ∨ (Clip S w) b) w29) w81)) d126 (fun b hb => by obtain ⟨hb, hlt⟩ := hb; rcases hb with (hb | hb) | hb; exact ⟨hb.1, by omega⟩; exact ⟨⟨.inl hb.1, by first | omega | (have := hb.2; omega), by first | omega | (have := hb.2; omega)⟩, (by first | omega | (have := hb.2; omega))⟩; exact ⟨⟨.inr (by omega), by first | omega | (have := hb.2; omega), by first | omega | (have := hb.2; omega)⟩, by omega⟩)), (by omega)⟩, ?_⟩
   rw [F125.get (t := 11) rfl, hL38.get (t := 11) rfl]; simp [intOf] <;> omega
  ·skip
   have hfit := hc73
   refine wp_region_lit ?_
   refine qv 0 (.agg #[(.int .i64 (n : Nat)), (.slice Aq Q.length cq), (.int .i64 s)]) F71 rfl (rn_loadBlk (F71.get rfl) b34 Try.underlying29 rfl inf29) fun _ F129 => ?_; clear F71
   refine qv 1 (.slice A56 x51.length c57) F129 rfl (rn_move (F129.get rfl)) fun _ F131 => ?_; clear F129
   refine wpl_op (i := 2) rfl (o_call F131 rfl rfl rfl rfl (rn_call (args2 (F131.get rfl) (F131.get rfl)) rfl (by kernel_rfl)) (app_conv (app_at (S := (fun b => (Clip (fun b => Fr S w b ∧ b ≠ g2 ∧ b ≠ g10) w29) b ∨ (Clip S w) b)) (v := (.slice Aq Q.length cq)) (u := (.slice A56 x51.length c57)) (n := x51.length) (n : Nat) Q s x51 _ (RBss.sub hf36 fun b hb => .inl hb) hQb.1 (by omega) (Fl.sub (RBs.fl hr61) fun b hb => .inr hb) (by omega)) (app_full hlc (by omega) (by omega))) ?_)
   rintro _ w135 ⟨A132, c133, rfl, hb134, hx136⟩
   refine ⟨_, rfl, ?_⟩; intro a137 F138; clear F131; have z139 := hx136.size
   have hf140 := RBss.clip hb134
   obtain ⟨-, z141, z142⟩ := RBss.at hb134
   refine qv 3 (.tuple #[(.agg #[(.int .i64 0), (.slice A132 ((@List.nil (List UInt8)).length) c133), (.int .i64 0)]), (.int .i64 2)]) F138 rfl (rn_move (F138.get rfl)) fun _ F144 => ?_; clear F138
   refine qv 4 (.agg #[(.int .i64 0), (.slice A132 ((@List.nil (List UInt8)).length) c133), (.int .i64 0)]) F144 rfl (rn_extract (F144.get rfl) rfl) fun _ F146 => ?_; clear F144
   refine qv 5 (.int .i64 2) F146 rfl (rn_extract (F146.get rfl) rfl) fun _ F148 => ?_; clear F146
   refine wpl_op (i := 6) rfl (o_new (fun g => (.pointer (some ⟨g, 0, none⟩))) [(.int .i64 0), (.slice none 0 0), (.int .i64 0)] 29 F148 rfl rfl rfl rfl (by kernel_rfl) ?_)
   intro g149 w150 a155 F156 z153 z154 b151 hx152; clear F148
   refine wpl_op (i := 7) rfl (o_store (cells := [(.int .i64 0), (.slice A132 ((@List.nil (List UInt8)).length) c133), (.int .i64 0)]) F156 rfl rfl rfl rfl (F156.get rfl) (F156.get rfl) b151 inf29 rfl (by simp [Value.oneCell']) ?_)
   intro w157 b158 hg159; have z160 := hg159.size
   refine qv 8 (.int .i64 2) F156 rfl (rn_assign (F156.get rfl)) fun _ F162 => ?_; clear F156
   refine wpList_nil ?_
   refine hK72 _ _ ?_
   clear hK72
   have F163 := (((((((((((F162.nil.c F162 8 rfl).c F162 7 rfl).c F162 6 rfl).c F162 12 rfl).c F162 11 rfl).c F162 10 rfl).c F162 9 rfl).c F162 4 rfl).c F162 2 rfl).c F162 1 rfl).c F162 0 rfl)
   clear F162
   refine wp_seq_k (fun K164 hK164 => ?_)
   refine wp_region_lit ?_
   refine qv 0 (.int .i64 2) F163 rfl (rn_move (F163.get rfl)) fun _ F166 => ?_; clear F163
   refine qv 1 (.bool false) F166 rfl (rn_eql' (F166.get rfl) rfl (by decide)) fun _ F168 => ?_; clear F166
   refine wpList_nil ?_
   refine hK164 _ _ ?_
   clear hK164
   refine wp_cond_false (c_false F168 rfl rfl) ?_
   refine wp_skip ?_
   refine hK49 _ _ ?_
   clear hK49
   refine wp_region_lit ?_
   refine qv 0 (.int .i64 (k + 1 : Nat)) F168 rfl (rn_addN (a := k) (b := 1) (F168.get rfl) rfl (by omega)) fun _ F170 => ?_; clear F168
   refine qv 1 (.int .i64 (k + 1 : Nat)) F170 rfl (rn_move (F170.get rfl)) fun _ F172 => ?_; clear F170
   refine wpList_nil ?_
   have d173 := (hf36.pres ((((Pres.refl w29).ext hx136).ext hx152).grownN hg159 (fun h => by first | (simp only [Clip, ne_eq, not_true_eq_false, and_false, false_and] at h; done) | (have h2 := h.2; omega) | (rcases h.1 with h | h; (focus (first | (simp only [Clip, ne_eq, not_true_eq_false, and_false, false_and] at h; done) | (rcases h with h | h; (focus (simp only [Clip, ne_eq, not_true_eq_false, and_false, false_and] at h)); ((try simp only [Clip] at h); omega)))); omega))))
   have b174 := (((b34.ext hx136).ext hx152).grownN hg159 (by omega))
   have b175 := (((b35.ext hx136).ext hx152).grownN hg159 (by omega))
   refine ⟨⟨(k + 1), Q, Aq, cq, (((((((F172.nil.cons (q_get F172 (t := 11) rfl (by first | rfl | (congr 1; omega) | (congr 1; done)))).cons (q_get F172 (t := 10) rfl rfl)).cons (q_get F172 (t := 9) rfl rfl)).cons (q_get F172 (t := 4) rfl rfl)).cons (q_get F172 (t := 2) rfl rfl)).cons (q_get F172 (t := 1) rfl rfl)).cons (q_get F172 (t := 0) rfl rfl)), (by omega), (by rw [addAll_take n R hi52, ← hp33, if_neg (by omega)]), (((((Ext.refl w).trans hx31).trans hx136).trans hx152).grownN hg159 (by omega)), b174, b175, (RBss.sub (S := (Clip (fun b => Fr S w b ∧ b ≠ g2 ∧ b ≠ g10) w29)) d173 (fun b hb => ⟨hb.1, by have := hb.2; omega⟩)), (by omega)⟩, ?_⟩
   rw [F172.get (t := 11) rfl, hL38.get (t := 11) rfl]; simp [intOf] <;> omega
 ·skip
  refine wp_cond_false (c_false F46 rfl (decide_eq_false hc48)) ?_
  refine wp_exit ?_
  refine exit_then ?_
  refine exit_then ?_
  refine exit_here ?_
  refine hK18 _ _ ?_
  clear hK18
  refine wp_seq_k (fun K176 hK176 => ?_)
  refine wp_region_lit ?_
  refine qv 0 (.agg #[(.int .i64 (n : Nat)), (.slice Aq Q.length cq), (.int .i64 s)]) F46 rfl (rn_loadBlk (F46.get rfl) b34 Try.underlying29 rfl inf29) fun _ F178 => ?_; clear F46
  refine wpl_op (i := 1) rfl (o_store (cells := [(.int .i64 (n : Nat)), (.slice Aq Q.length cq), (.int .i64 s)]) F178 rfl rfl rfl rfl (F178.get rfl) (F178.get rfl) b35 inf29 rfl (by simp [Value.oneCell']) ?_)
  intro w179 b180 hg181; have z182 := hg181.size
  refine wpList_nil ?_
  refine hK176 _ _ ?_
  clear hK176
  refine wp_ret ?_
  refine retC F178 rfl rfl b180 Try.underlying29 rfl inf29 ?_
  have hk : k = T.length := by omega
  have hQe := hp33; rw [hk, List.take_length, hQa] at hQe
  have d183 := (hf36.pres ((Pres.refl w29).grownN hg181 (fun h => by first | (simp only [Clip, ne_eq, not_true_eq_false, and_false, false_and] at h; done) | (have h2 := h.2; omega) | (rcases h.1 with h | h; (focus (first | (simp only [Clip, ne_eq, not_true_eq_false, and_false, false_and] at h; done) | (rcases h with h | h; (focus (simp only [Clip, ne_eq, not_true_eq_false, and_false, false_and] at h)); ((try simp only [Clip] at h); omega)))); omega))))
  exact add_fin hQe d183 (fun b hb => hb.1.1) (((Ext.refl w).trans hx31).grownN hg181 (by omega))

theorem add_at {v u : Value} (n : Nat) (R : List (List UInt8)) (s : Int) (T : List (List UInt8)) (w : World) (hn : RBss S w v R) (huR : usedL R ≤ n) (hn1 : 1 ≤ n) (hnn : n ≤ 4096) (hs1 : 0 ≤ s) (hs2 : s ≤ (R.length : Nat)) (hm : RBss S w u T) (hb2 : ∀ x ∈ T, x.length ≤ 140737488355328) {Qa : List (List UInt8)} (hQa : addAll n R T = Qa) :
  Calls Try.prog 28 #[.agg #[.int .i64 (n : Nat), v, .int .i64 s], u] w (AddRet S w n Qa s) := by
 obtain ⟨A, c, rfl, _⟩ := hn.form
 obtain ⟨B, e, rfl, _⟩ := hm.form
 exact add_any n A c R s B e T w (used_bnd huR hnn).1 hn huR hn1 hnn hs1 hs2 hm hb2 hQa

end Go.Proofs.Ytfmhnplkpohogaa
