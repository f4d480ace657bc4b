/- Contracts of the reference's Stop and Read. -/
import Derived.Test.YtklhgghlkidfjaaDiskL
namespace Go.Proofs.Ytklhgghlkidfjaa
open Go.RowKit

variable {S S' : Nat → Prop}

theorem runs_cases (d : Dk) : (d.check = 380 ∧ d.runs = false) ∨ (d.check = 0 ∧ d.stopped = true ∧ d.runs = false) ∨ (d.check = 0 ∧ d.stopped = false ∧ d.runs = true) := by
  unfold Dk.runs
  rcases check_01 d with h | h <;> rw [h] <;> cases d.stopped <;> simp

set_option maxHeartbeats 2000000 in
theorem rstop_any (v : Value) (d : Dk) (left : Int) (w : World) (hd : RDk S w v d) :
    Calls Try.prog 26 #[v, .int .i64 left] w (RDE S w (d.stop left).1 (d.stop left).2) := by
  obtain ⟨A, c, B, e, rfl, q1, q2⟩ := hd.form
  have HD := Lib.hid hd
  have HC := Lib.hid (runs_cases d)
  have r0 : w.heap.size ≤ w.heap.size := Nat.le_refl _
  have r1 : w.heap.size ≤ w.heap.size + 1 := Nat.le_succ _
  clear hd q1 q2
  go_enter Try.func26, Try.ntmps26
  go_wp2_with fail
  (with_reducible refine (rcheck_any _ d _ (HD.out.ext (((Ext.refl _).alloc _).alloc _))).mono ?_)
  rintro e1 w1 ⟨rfl, hx1⟩
  have B0 := Lib.hid (((Blk.new w w.heap.size _ _ rfl).alloc _).ext hx1)
  have B1 := Lib.hid ((Blk.new _ (w.heap.size + 1) _ _ (by simp)).ext hx1)
  have HX1 := Lib.hid ((((Ext.refl w).alloc _).alloc _).trans hx1)
  clear hx1
  obtain ⟨k0, z0⟩ := B0.out.rule
  obtain ⟨k1, z1⟩ := B1.out.rule
  rcases HC.out with ⟨hc, hr⟩ | ⟨hc, hs, hr⟩ | ⟨hc, hs, hr⟩
  · rw [hc]
    have HR := Lib.hid hr
    clear hc hr HC
    go_wp2
    obtain ⟨w2, e2, C1, hg2⟩ := set4 B1.out (.slice none 0 0) (.slice none 0 0) (.int .i64 0) (.bool false)
    rw [e2]
    obtain ⟨k2, z2⟩ := C1.rule
    refine bodyPost_ret (v := .tuple #[.agg #[.slice none 0 0, .slice none 0 0, .int .i64 0, .bool false], .int .i64 380]) (by simp [results, Try.f26, go_sem, k2, z2]) rfl ?_
    exact RDE.mk (by unfold Dk.stop; rw [if_pos HR.out]) (RDk.zero _) (HX1.out.grownN hg2 r1)
  · rw [hc]
    rw [hs] at k0
    have HR := Lib.hid hr
    clear hc hr HC hs
    go_wp2
    obtain ⟨w2, e2, C1, hg2⟩ := set4 B1.out (.slice none 0 0) (.slice none 0 0) (.int .i64 0) (.bool false)
    rw [e2]
    obtain ⟨k2, z2⟩ := C1.rule
    refine bodyPost_ret (v := .tuple #[.agg #[.slice none 0 0, .slice none 0 0, .int .i64 0, .bool false], .int .i64 380]) (by simp [results, Try.f26, go_sem, k2, z2]) rfl ?_
    exact RDE.mk (by unfold Dk.stop; rw [if_pos HR.out]) (RDk.zero _) (HX1.out.grownN hg2 r1)
  · rw [hc]
    rw [hs] at k0
    have HR := Lib.hid hr
    have HS := Lib.hid hs
    clear hc hr HC hs
    rcases (by omega : left < 0 ∨ 65536 < left ∨ (0 ≤ left ∧ left ≤ 65536)) with hl | hl | ⟨hl, hl'⟩
    · go_wp2
      obtain ⟨w2, e2, C1, hg2⟩ := set4 B1.out (.slice none 0 0) (.slice none 0 0) (.int .i64 0) (.bool false)
      rw [e2]
      obtain ⟨k2, z2⟩ := C1.rule
      refine bodyPost_ret (v := .tuple #[.agg #[.slice none 0 0, .slice none 0 0, .int .i64 0, .bool false], .int .i64 1]) (by simp [results, Try.f26, go_sem, k2, z2]) rfl ?_
      exact RDE.mk (by unfold Dk.stop; rw [if_neg (by rw [HR.out]; simp), if_pos (by omega)]) (RDk.zero _) (HX1.out.grownN hg2 r1)
    · go_wp2
      obtain ⟨w2, e2, C1, hg2⟩ := set4 B1.out (.slice none 0 0) (.slice none 0 0) (.int .i64 0) (.bool false)
      rw [e2]
      obtain ⟨k2, z2⟩ := C1.rule
      refine bodyPost_ret (v := .tuple #[.agg #[.slice none 0 0, .slice none 0 0, .int .i64 0, .bool false], .int .i64 1]) (by simp [results, Try.f26, go_sem, k2, z2]) rfl ?_
      exact RDE.mk (by unfold Dk.stop; rw [if_neg (by rw [HR.out]; simp), if_pos (by omega)]) (RDk.zero _) (HX1.out.grownN hg2 r1)
    · have D0 := B0.out.set 2 (.int .i64 left)
      have D1 := B1.out.farC (m := w.heap.size) (i := 2) (u := .int .i64 left) (by omega)
      have hgA := grown_setC (i := 2) (u := .int .i64 left) (grown_rfl w1 (some w.heap.size))
      go_upto_region 6 with (fail)
      obtain ⟨w2, e2⟩ : ∃ w2, w1.setCell ⟨w.heap.size, 2, none⟩ (.int .i64 left) = w2 := ⟨_, rfl⟩
      rw [e2] at D0 D1 hgA
      rw [e2]
      have HX2 := Lib.hid (HX1.out.grownN hgA r0)
      have HD1 := Lib.hid D1
      clear k0 z0 k1 z1 e2 hgA
      obtain ⟨k0, z0⟩ := D0.rule
      obtain ⟨k1, z1⟩ := D1.rule
      simp only [List.set_cons_succ, List.set_cons_zero] at k0
      clear D0 D1
      go_wp2
      obtain ⟨w3, e3, C1, hg3⟩ := set4 HD1.out (.slice A d.sectors.length c) (.slice B d.pending.length e) (.int .i64 left) (.bool d.stopped)
      rw [e3]
      obtain ⟨k2, z2⟩ := C1.rule
      refine bodyPost_ret (v := .tuple #[.agg #[.slice A d.sectors.length c, .slice B d.pending.length e, .int .i64 left, .bool d.stopped], .int .i64 0]) (by simp [results, Try.f26, go_sem, k2, z2]) rfl ?_
      exact RDE.mk' (by unfold Dk.stop; rw [if_neg (by rw [HR.out]; simp), if_neg (by omega)]) (HX2.out.grownN hg3 r1) (fun hE => RDk.mk (HD.out.len.1.ext hE).up (HD.out.len.2.1.ext hE).up)

/-- The last of some writes to a place, or else s. -/
def lookIn (l : List (Int × List UInt8)) (at_ : Int) (s : List UInt8) : List UInt8 := match l.reverse.find? (fun x => x.1 == at_) with | some x => x.2 | none => s
theorem lookIn_snoc (l : List (Int × List UInt8)) (x : Int × List UInt8) (at_ : Int) (s : List UInt8) : lookIn (l ++ [x]) at_ s = if (x.1 == at_) = true then x.2 else lookIn l at_ s := by
  unfold lookIn
  rw [List.reverse_append]
  simp only [List.reverse_cons, List.reverse_nil, List.nil_append, List.cons_append, List.find?_cons]
  cases h : (x.1 == at_) <;> simp [h]

set_option maxHeartbeats 2000000 in
theorem rread_ok (v : Value) (d : Dk) (n : Nat) (w : World) (hd : RDk S w v d) (h1 : d.runs = true) (h2 : n < d.sectors.length) :
    Calls Try.prog 22 #[v, .int .i64 n] w (RBE S w (d.look n) 0) := by
  obtain ⟨A, c, B, e, rfl, q1, q2⟩ := hd.form
  obtain ⟨f1, f2, f3, f4, f5, f6, f7, f8⟩ := runs_facts h1
  have hch : d.check = 0 := by rcases runs_cases d with ⟨_, h⟩ | ⟨_, _, h⟩ | ⟨h, _, _⟩ <;> simp_all
  have HCH := Lib.hid hch
  have HD := Lib.hid hd
  have HS := Lib.hid q1
  have HP := Lib.hid q2
  have H6 := Lib.hid f6
  obtain ⟨sec, hsec, -⟩ := get_of_lt _ _ h2
  obtain ⟨b, off, As, cs, rfl, hb, c1, hv, hcv, hmv⟩ := q1.get hsec
  have HV := Lib.hid hv
  have HSEC := Lib.hid hsec
  have HC1 := Lib.hid c1
  clear hd q1 q2 h1 f6 f7 f8 hch hsec c1 hv
  go_enter Try.func22, Try.ntmps22
  go_wp2_with fail
  (with_reducible refine (rcheck_any _ d _ (HD.out.ext ((Ext.refl _).alloc _))).mono ?_)
  rintro e1 w1 ⟨rfl, hx1⟩
  have B0 := Lib.hid ((Blk.new w w.heap.size _ _ rfl).ext hx1)
  have HX1 := Lib.hid (((Ext.refl w).alloc _).trans hx1)
  clear hx1
  obtain ⟨k0, z0⟩ := B0.out.rule
  rw [H6.out] at k0
  rw [HCH.out]
  have e1 := HX1.out.keep HC1.out
  go_wp2
  go_loop [6, 7] (fun u i => ∃ (k : Nat) (Au : Option Addr) (nu cu : Nat), k ≤ d.pending.length ∧ i = .int .i64 k ∧ u = .slice Au nu cu ∧ Hid (RBs S w (.slice Au nu cu) (lookIn (d.pending.take k) n sec))) (fun _ i => d.pending.length - (intOf i).toNat)
  case atStart => exact ⟨0, As, sec.length, cs, Nat.zero_le _, rfl, rfl, HV⟩
  case round =>
    obtain ⟨k, Au, nu, cu, hk, rfl, rfl, hru⟩ := hrel
    by_cases hlt : k < d.pending.length
    · obtain ⟨x, hx, hxm⟩ := get_of_lt _ _ hlt
      obtain ⟨bp, offp, A', c', rfl, hbp, d0, d1, hvx, hcx, hmx⟩ := HP.out.get hx
      have g0 := HX1.out.keep d0
      have g1 := HX1.out.keep d1
      have HVX := Lib.hid hvx
      have HT : Hid (lookIn (d.pending.take (k + 1)) n sec = if (x.1 == (n : Int)) = true then x.2 else lookIn (d.pending.take k) n sec) := by
        obtain ⟨hk', hx'⟩ := List.getElem?_eq_some_iff.1 hx
        show _ = _
        rw [List.take_succ_eq_append_getElem hk', hx', lookIn_snoc]
      clear hx hxm d0 d1 hvx
      cases hq : (x.1 == (n : Int))
      · have HQ := Lib.hid hq
        go_wp2
        go_round
        case rel => exact ⟨k + 1, Au, nu, cu, by omega, by go_num, rfl, by rw [HT.out, HQ.out]; exact hru⟩
        case measure => simp [intOf]; omega
      · have HQ := Lib.hid hq
        go_wp2
        go_round
        case rel => exact ⟨k + 1, A', x.2.length, c', by omega, by go_num, rfl, by rw [HT.out, HQ.out]; exact HVX⟩
        case measure => simp [intOf]; omega
    · go_wp2
      go_ret2
      refine ⟨_, rfl, ?_, HX1.out⟩
      have := hru.out
      rw [List.take_of_length_le (by omega)] at this
      have hl : d.look n = lookIn d.pending n sec := by
        unfold Dk.look lookIn
        rw [Int.toNat_natCast, List.getD_eq_getElem?_getD, HSEC.out, Option.getD_some]
        rfl
      rw [hl]
      exact this.ext HX1.out

set_option maxHeartbeats 2000000 in
theorem rread_bad (v : Value) (d : Dk) (at_ : Int) (w : World) (hd : RDk S w v d) (h : d.runs = false ∨ d.runs = true ∧ d.has at_ = false) :
    Calls Try.prog 22 #[v, .int .i64 at_] w (RBE S w [] 380) := by
  obtain ⟨A, c, B, e, rfl, q1, q2⟩ := hd.form
  obtain ⟨f1, f1'⟩ := q1.at.2.1
  have HD := Lib.hid hd
  have HH : Hid (d.check = 380 ∨ (d.check = 0 ∧ d.stopped = true) ∨ (d.check = 0 ∧ d.stopped = false ∧ at_ < 0) ∨ (d.check = 0 ∧ d.stopped = false ∧ 0 ≤ at_ ∧ d.sectors.length ≤ at_)) := by
    show _ ∨ _
    rcases runs_cases d with ⟨h1, h2⟩ | ⟨h1, h2, h3⟩ | ⟨h1, h2, h3⟩
    · exact .inl h1
    · exact .inr (.inl ⟨h1, h2⟩)
    · rcases h with h | ⟨_, h⟩
      · rw [h3] at h; cases h
      · unfold Dk.has at h
        simp only [Bool.and_eq_false_iff, decide_eq_false_iff_not] at h
        by_cases h0 : at_ < 0
        · exact .inr (.inr (.inl ⟨h1, h2, h0⟩))
        · exact .inr (.inr (.inr ⟨h1, h2, by omega, by omega⟩))
  clear hd q1 q2 h
  go_enter Try.func22, Try.ntmps22
  go_wp2_with fail
  (with_reducible refine (rcheck_any _ d _ (HD.out.ext ((Ext.refl _).alloc _))).mono ?_)
  rintro e1 w1 ⟨rfl, hx1⟩
  have B0 := Lib.hid ((Blk.new w w.heap.size _ _ rfl).ext hx1)
  have HX1 := Lib.hid (((Ext.refl w).alloc _).trans hx1)
  clear hx1
  obtain ⟨k0, z0⟩ := B0.out.rule
  rcases HH.out with h | ⟨h, hs⟩ | ⟨h, hs, h'⟩ | ⟨h, hs, h', h''⟩
  · rw [h]; clear h HH
    go_wp2
    go_ret2
    exact ⟨_, rfl, RSl.nil _, HX1.out⟩
  all_goals
    rw [h]
    rw [hs] at k0
    clear h HH hs
    go_wp2
    go_ret2
    exact ⟨_, rfl, RSl.nil _, HX1.out⟩

theorem rread_any (v : Value) (d : Dk) (at_ : Int) (w : World) (hd : RDk S w v d) : Calls Try.prog 22 #[v, .int .i64 at_] w (RBE S w (d.read at_).1 (d.read at_).2) := by
  unfold Dk.read
  cases hr : d.runs
  · simp only [Bool.false_and, if_true]
    exact rread_bad v d at_ w hd (.inl hr)
  cases hh : d.has at_
  · simp only [Bool.and_false, if_true]
    exact rread_bad v d at_ w hd (.inr ⟨hr, hh⟩)
  simp only [Bool.and_self, Bool.true_eq_false, if_false]
  unfold Dk.has at hh
  simp only [Bool.and_eq_true, decide_eq_true_eq] at hh
  obtain ⟨n, rfl⟩ : ∃ n : Nat, at_ = n := ⟨at_.toNat, by omega⟩
  exact rread_ok v d n w hd hr (by omega)

end Go.Proofs.Ytklhgghlkidfjaa
