/- Several texts in one: DiskF, JrO, DiskG, DiskH, DiskI, DiskJ, DiskK, DiskN, DiskO, LocD, RefB, Frame, LawA, Plain, JrP, Apl, Apm, JrE, JrF. -/
import Derived.Test.YtfmhnplkpohogaaBvnB
import Derived.Test.YtfmhnplkpohogaaBvnA
import Derived.Deep.RegionHeld3
import Derived.Deep.RegionLaw
import Derived.Deep.DeepCutAuto
import Derived.Test.YtfmhnplkpohogaaShelf
import Derived.Deep.OwnRows
import Derived.RangeFuncNested
import Derived.RangeFuncBound
import Derived.RangeFuncCalls
import Derived.RangeFuncLeaves
import Derived.Shelf.Abstract
import Derived.Shelf.RegionOpen
import Derived.OwnWalkIn
import Derived.TacticsInMore
import Derived.LoopNIn
import Derived.LoopIn
import Derived.Deep.QuietTactic
import Derived.BigQuiet
import Derived.ProofKit
import Derived.SizedLaws
import Derived.Deep.Slices
import Derived.KernelRfl
import Derived.Test.YtfmhnplkpohogaaProg
set_option linter.unusedVariables false
set_option linter.unusedSimpArgs false
namespace Go.Proofs.Ytfmhnplkpohogaa
open Go.RowKit

variable {S S' : Nat → Prop}

/-- A torn sector: the first half of the new bytes, the second half of the old ones. -/
def torn (new old : List UInt8) : List UInt8 := new.take 64 ++ old.drop 64
def Dk.syncStop (d : Dk) (k : Nat) (x : Int × List UInt8) : Dk :=
  ⟨(performL d.sectors (d.pending.take k)).set x.1.toNat (torn x.2 ((performL d.sectors (d.pending.take k)).getD x.1.toNat [])), [], 0, true⟩
def Dk.syncOk (d : Dk) : Dk := ⟨performL d.sectors d.pending, [], if 0 ≤ d.left then d.left - d.pending.length else d.left, false⟩
def Dk.sync (d : Dk) : Dk × Int :=
  if d.runs = false then (Dk.zero, 380)
  else if 0 ≤ d.left ∧ d.left < d.pending.length then (d.syncStop d.left.toNat (d.pending.getD d.left.toNat (0, [])), 380)
  else (d.syncOk, 0)

theorem RPf.read {w w' : World} {l : List (List UInt8)} {v : Value} {vs : List Value} {base : Nat} (ho : w'.ownsRow base 35 1 v l.length vs)
    (hr : ∀ i (h : i < l.length) (h' : i < vs.length), RBs S w vs[i] l[i]) (hx : Ext w w') (hb : w.heap.size ≤ base) : RBss (Fr S w) w' v l := by
  have hl : vs.length = l.length := by have := ho.1; omega
  refine RSl.own ho (fun b h => .inr (Nat.le_trans hb h)) rfl (fun u hu => ?_) (fun i hi => ?_)
  · obtain ⟨i, hi, rfl⟩ := List.getElem_of_mem hu
    obtain ⟨A, cap, h, _⟩ := (hr i (by omega) hi).form
    rw [h]; rfl
  · rw [chunk_one (by omega)]
    exact ⟨_, rfl, ((hr i hi (by omega)).ext hx).up⟩

set_option maxHeartbeats 2000000 in
theorem sync_ok (v : Value) (d : Dk) (w : World) (hd : RDk S w v d) (h1 : d.runs = true) (h2 : d.left < 0 ∨ d.pending.length ≤ d.left) :
    Calls Try.prog 27 #[v] w (RDE S w d.syncOk 0) := by
  obtain ⟨A, c, B, e, rfl, q1, q2⟩ := hd.form
  obtain ⟨f1, f2, f3, f4, f5, f6, f7, f8⟩ := runs_facts h1
  have HD := Lib.hid hd
  have H1 := Lib.hid h1
  have HS := Lib.hid q1
  have HP := Lib.hid q2
  have H7 := Lib.hid f7
  have H6 := Lib.hid f6
  clear hd h1 q1 q2 f7 f8 f6
  go_enter Try.func27, Try.ntmps27
  go_wp2_with fail
  (with_reducible refine (runs_any _ d _ (HD.out.ext (((Ext.refl _).alloc _).alloc _))).mono ?_)
  rintro e1 w1 ⟨rfl, hx1⟩
  have B0 := Lib.hid (((Blk.new w w.heap.size _ _ rfl).alloc _).ext hx1)
  have B1 := Lib.hid ((Blk.new _ (w.heap.size + 1) _ _ (by simp)).ext hx1)
  have HX1 := Lib.hid ((((Ext.refl w).alloc _).alloc _).trans hx1)
  have r1 : w.heap.size ≤ w.heap.size + 1 := Nat.le_succ _
  clear hx1
  obtain ⟨k0, z0⟩ := B0.out.rule
  obtain ⟨k1, z1⟩ := B1.out.rule
  rw [H1.out]
  have P0 := Lib.hid (fun (W : World) (hW : Ext w W) => perform_any (.slice A d.sectors.length c) (.slice B d.pending.length e) d.sectors d.pending w W hW HS.out HP.out (by omega) (by omega) (fun i hi => by have := H7.out _ (List.getElem_mem hi); omega))
  rcases h2 with h2 | h2
  · go_wp2_with fail
    go_region_held3 (fun W => W.cell? ⟨w.heap.size, 0, none⟩ = some (.slice A d.sectors.length c) ∧ W.cell? ⟨w.heap.size, 1, none⟩ = some (.slice B d.pending.length e) ∧ W.cell? ⟨w.heap.size, 2, none⟩ = some (.int .i64 d.left)) (go_keep)
      (first | (go_at_call 54; refine (P0.out _ HX1.out.drew).mono ?_; rintro e2 w2 ⟨v2, vs, rfl, hown, hr, hx2⟩; have C0 := Lib.hid (B0.out.drew.ext hx2); have C1 := Lib.hid (B1.out.drew.ext hx2); have HX2 := Lib.hid (HX1.out.drew.trans hx2); clear k0 z0 k1 z1; obtain ⟨k0, z0⟩ := C0.out.rule; obtain ⟨k1, z1⟩ := C1.out.rule; obtain ⟨A2, cap2, rfl, hc2, hm2⟩ := own_any hown; have HO := Lib.hid hown; have HR := Lib.hid hr; have HX := Lib.hid hx2; clear hown hr hx2))
    rename_i hheld
    clear hheld
    obtain ⟨w3, e3, D1, hg3⟩ := set4 C1.out (.slice A2 (performL d.sectors d.pending).length cap2) (.slice none 0 0) (.int .i64 d.left) (.bool false)
    rw [e3]
    have g1 : w.heap.size + 1 < w1.drew.heap.size := B1.out.lt
    have D0 := Lib.hid (C0.out.grownN hg3 (by omega))
    have HX3 := Lib.hid (HX2.out.grownN hg3 r1)
    have HO3 := Lib.hid (own_grownN HO.out hg3 g1)
    have HD1 := Lib.hid D1
    clear k0 z0 k1 z1 e3 D1 hg3
    obtain ⟨k1, z1⟩ := HD1.out.rule
    go_wp2
    obtain ⟨w4, e4, E1, hg4⟩ := set4 HD1.out (.slice A2 (performL d.sectors d.pending).length cap2) (.slice none 0 0) (.int .i64 d.left) (.bool false)
    rw [e4]
    obtain ⟨k2, z2⟩ := E1.rule
    refine bodyPost_ret (v := .tuple #[.agg #[.slice A2 (performL d.sectors d.pending).length cap2, .slice none 0 0, .int .i64 d.left, .bool false], .int .i64 0]) (by simp [results, Try.results27, go_sem, k2, z2]) rfl ?_
    have hl : d.syncOk = ⟨performL d.sectors d.pending, [], d.left, false⟩ := by unfold Dk.syncOk; rw [if_neg (by omega)]
    refine ⟨_, rfl, ?_, HX3.out.grownN hg4 r1⟩
    rw [hl]
    exact RDk.mk (RPf.read (w := w) (own_grownN HO3.out hg4 g1) HR.out (HX3.out.grownN hg4 r1) (by omega)) (RSl.nil _)
  · go_wp2_with fail
    go_region_held3 (fun W => W.cell? ⟨w.heap.size, 0, none⟩ = some (.slice A d.sectors.length c) ∧ W.cell? ⟨w.heap.size, 1, none⟩ = some (.slice B d.pending.length e) ∧ W.cell? ⟨w.heap.size, 2, none⟩ = some (.int .i64 d.left)) (go_keep)
      (first | (go_at_call 54; refine (P0.out _ HX1.out.drew).mono ?_; rintro e2 w2 ⟨v2, vs, rfl, hown, hr, hx2⟩; have C0 := Lib.hid (B0.out.drew.ext hx2); have C1 := Lib.hid (B1.out.drew.ext hx2); have HX2 := Lib.hid (HX1.out.drew.trans hx2); clear k0 z0 k1 z1; obtain ⟨k0, z0⟩ := C0.out.rule; obtain ⟨k1, z1⟩ := C1.out.rule; obtain ⟨A2, cap2, rfl, hc2, hm2⟩ := own_any hown; have HO := Lib.hid hown; have HR := Lib.hid hr; have HX := Lib.hid hx2; clear hown hr hx2))
    rename_i hheld
    clear hheld
    obtain ⟨w3, e3, D1, hg3⟩ := set4 C1.out (.slice A2 (performL d.sectors d.pending).length cap2) (.slice none 0 0) (.int .i64 d.left) (.bool false)
    rw [e3]
    have g1 : w.heap.size + 1 < w1.drew.heap.size := B1.out.lt
    have D0 := Lib.hid (C0.out.grownN hg3 (by omega))
    have HX3 := Lib.hid (HX2.out.grownN hg3 r1)
    have HO3 := Lib.hid (own_grownN HO.out hg3 g1)
    have HD1 := Lib.hid D1
    clear k0 z0 k1 z1 e3 D1 hg3
    obtain ⟨k1, z1⟩ := HD1.out.rule
    have hsub : IntKind.i64.wrap (d.left - d.pending.length) = d.left - d.pending.length := IntWalk.i64_in _ (by omega)
    have D1' := Lib.hid HD1.out
    go_wp2
    obtain ⟨w4, e4, E1, hg4⟩ := set4 (p := .slice A2 (performL d.sectors d.pending).length cap2) (q := .slice none 0 0) (r := .int .i64 (d.left - d.pending.length)) (s := .bool false) (HD1.out.set 2 (.int .i64 (d.left - d.pending.length))) (.slice A2 (performL d.sectors d.pending).length cap2) (.slice none 0 0) (.int .i64 (d.left - d.pending.length)) (.bool false)
    rw [e4]
    obtain ⟨k2, z2⟩ := E1.rule
    have hgA := grown_setC (i := 2) (u := .int .i64 (d.left - d.pending.length)) (grown_rfl w3 (some (w.heap.size + 1)))
    refine bodyPost_ret (v := .tuple #[.agg #[.slice A2 (performL d.sectors d.pending).length cap2, .slice none 0 0, .int .i64 (d.left - d.pending.length), .bool false], .int .i64 0]) (by simp [results, Try.results27, go_sem, k2, z2]) rfl ?_
    have hl : d.syncOk = ⟨performL d.sectors d.pending, [], d.left - d.pending.length, false⟩ := by unfold Dk.syncOk; rw [if_pos (by omega)]
    have HX4 := ((HX3.out.grownN hgA r1).grownN hg4 r1)
    refine ⟨_, rfl, ?_, HX4⟩
    rw [hl]
    exact RDk.mk (RPf.read (w := w) (own_grownN (own_grownN HO3.out hgA g1) hg4 g1) HR.out HX4 (by omega)) (RSl.nil _)

set_option maxHeartbeats 2000000 in
theorem sync_bad (v : Value) (d : Dk) (w : World) (hd : RDk S w v d) (h1 : d.runs = false) :
    Calls Try.prog 27 #[v] w (RDE S w Dk.zero 380) := by
  obtain ⟨A, c, B, e, rfl, q1, q2⟩ := hd.form
  have HD := Lib.hid hd
  have H1 := Lib.hid h1
  clear hd h1 q1 q2
  go_enter Try.func27, Try.ntmps27
  go_wp2_with fail
  (with_reducible refine (runs_any _ d _ (HD.out.ext (((Ext.refl _).alloc _).alloc _))).mono ?_)
  rintro e1 w1 ⟨rfl, hx1⟩
  have B1 := Lib.hid ((Blk.new _ (w.heap.size + 1) _ _ (by simp)).ext hx1)
  have HX1 := Lib.hid ((((Ext.refl w).alloc _).alloc _).trans hx1)
  have r1 : w.heap.size ≤ w.heap.size + 1 := Nat.le_succ _
  clear hx1
  obtain ⟨k1, z1⟩ := B1.out.rule
  rw [H1.out]
  go_wp2
  obtain ⟨w4, e4, E1, hg4⟩ := set4 B1.out (.slice none 0 0) (.slice none 0 0) (.int .i64 0) (.bool false)
  rw [e4]
  obtain ⟨k2, z2⟩ := E1.rule
  refine bodyPost_ret (v := .tuple #[.agg #[.slice none 0 0, .slice none 0 0, .int .i64 0, .bool false], .int .i64 380]) (by simp [results, Try.results27, go_sem, k2, z2]) rfl ?_
  exact ⟨_, rfl, RDk.zero _, HX1.out.grownN hg4 r1⟩

end Go.Proofs.Ytfmhnplkpohogaa

namespace Go.Proofs.Ytfmhnplkpohogaa

/-- a sum of 64 bits: it may go around -/
def usedW (l : List (List UInt8)) : Int := l.foldl (fun n b => IntKind.i64.wrap (n + (secs b.length : Nat))) 0
theorem usedW_app (l : List (List UInt8)) (b : List UInt8) : usedW (l ++ [b]) = IntKind.i64.wrap (usedW l + (secs b.length : Nat)) := by simp [usedW, List.foldl_append]
theorem usedW_take {l : List (List UInt8)} {k : Nat} {b : List UInt8} (h : l[k]? = some b) : usedW (l.take (k + 1)) = IntKind.i64.wrap (usedW (l.take k) + (secs b.length : Nat)) := by
  rw [List.take_add_one, h]; exact usedW_app _ _
theorem wrapI64 (n : Int) : IntKind.i64.wrap n = (n + 9223372036854775808) % 18446744073709551616 - 9223372036854775808 := by
  rw [IntKind.wrap_i64]
theorem usedW_small : ∀ {l : List (List UInt8)}, usedL l < 9223372036854775808 → usedW l = (usedL l : Nat) := fun {l} => snoc_ind (P := fun l => usedL l < 9223372036854775808 → usedW l = (usedL l : Nat)) (fun _ => rfl) (fun a c ih h => by
  rw [usedL_app, usedL_cons, usedL_nil] at h ⊢
  rw [usedW_app, ih (by omega), wrapI64]
  omega) l
structure Lg where
  many : Int
  recs : List (List UInt8)
  synced : Int
def Lg.zero : Lg := ⟨0, [], 0⟩
def Lg.check (l : Lg) : Int := if l.many < 1 ∨ 4096 < l.many ∨ l.synced < 0 ∨ (l.recs.length : Nat) < l.synced ∨ l.many < usedW l.recs then 1 else 0
def Lg.left (l : Lg) : Int := IntKind.i64.wrap (l.many - usedW l.recs)
def Lg.room (l : Lg) : Int := if l.check = 0 then IntKind.i64.wrap (112 * l.left) else 0
def Lg.append (l : Lg) (b : List UInt8) : Lg × Int := if l.check = 0 then (if l.left < (secs b.length : Nat) then (Lg.zero, 2) else (⟨l.many, l.recs ++ [b], l.synced⟩, 0)) else (Lg.zero, 1)
/-! what Open answers -/
def openE (d : Dk) : Int := if d.check ≠ 0 then d.check else if d.stopped = true then 380 else if 0 < d.pending.length then 1 else 0
def openR (d : Dk) : List (List UInt8) := if openE d = 0 then recsOf d.sectors else []
def openM (d : Dk) : Int := if openE d = 0 then d.sectors.length else 0
theorem openE_1 {d : Dk} (h : d.check ≠ 0) : openE d = d.check := if_pos h
theorem openE_2 {d : Dk} (h : d.check = 0) (h2 : d.stopped = true) : openE d = 380 := by rw [openE, if_neg (by omega), if_pos h2]
theorem openE_3 {d : Dk} (h : d.check = 0) (h2 : d.stopped = false) (h3 : 0 < d.pending.length) : openE d = 1 := by rw [openE, if_neg (by omega), if_neg (by rw [h2]; decide), if_pos h3]
theorem openE_0 {d : Dk} (h : d.check = 0) (h2 : d.stopped = false) (h3 : ¬ 0 < d.pending.length) : openE d = 0 := by rw [openE, if_neg (by omega), if_neg (by rw [h2]; decide), if_neg h3]
theorem open_bad {d : Dk} {n : Int} (h : openE d = n) (h0 : n ≠ 0) : openR d = [] ∧ openM d = 0 := by
  rw [openR, openM, h, if_neg h0, if_neg h0]; exact ⟨rfl, rfl⟩
theorem open_good {d : Dk} (h : openE d = 0) : openR d = recsOf d.sectors ∧ openM d = d.sectors.length := by
  rw [openR, openM, h, if_pos rfl, if_pos rfl]; exact ⟨rfl, rfl⟩
theorem runs_of_check {d : Dk} (h : d.check = 0) (h2 : d.stopped = false) : d.runs = true := by unfold Dk.runs; rw [h, h2]; rfl

abbrev wrapI (n : Int) : Int := IntKind.i64.wrap n
theorem Lg.check_bad (m : Int) (R : List (List UInt8)) (s : Int) (h : m < 1 ∨ 4096 < m ∨ s < 0 ∨ ((R.length : Nat) : Int) < s ∨ m < usedW R) : (Lg.mk m R s).check = 1 := if_pos h
theorem Lg.check_ok (m : Int) (R : List (List UInt8)) (s : Int) (h : ¬ (m < 1 ∨ 4096 < m ∨ s < 0 ∨ ((R.length : Nat) : Int) < s ∨ m < usedW R)) : (Lg.mk m R s).check = 0 := if_neg h
theorem Lg.room_bad {l : Lg} (h : l.check ≠ 0) : l.room = 0 := if_neg h
theorem Lg.room_ok {l : Lg} (h : l.check = 0) : l.room = IntKind.i64.wrap (112 * l.left) := if_pos h
theorem Lg.append_1 {l : Lg} {b : List UInt8} (h : l.check ≠ 0) : l.append b = (Lg.zero, l.check) := by
  rw [Lg.append, if_neg h]
  unfold Lg.check at h ⊢
  split
  · rfl
  · rename_i c; rw [if_neg c] at h; exact absurd rfl h
theorem Lg.append_2 {l : Lg} {b : List UInt8} (h : l.check = 0) (h2 : l.left < (secs b.length : Nat)) : l.append b = (Lg.zero, 2) := by rw [Lg.append, if_pos h, if_pos h2]
theorem Lg.append_ok {l : Lg} {b : List UInt8} (h : l.check = 0) (h2 : ¬ l.left < (secs b.length : Nat)) : l.append b = (⟨l.many, l.recs ++ [b], l.synced⟩, 0) := by rw [Lg.append, if_pos h, if_neg h2]
theorem Lg.check_01 (l : Lg) : l.check = 0 ∨ l.check = 1 := by unfold Lg.check; split <;> simp

end Go.Proofs.Ytfmhnplkpohogaa

namespace Go.Proofs.Ytfmhnplkpohogaa
open Go.RowKit

variable {S S' : Nat → Prop}

theorem RWs.take {w : World} {A : Option Addr} {n cap : Nat} {l : List (Int × List UInt8)} (h : RWs S w (.slice A n cap) l) {m c : Nat} (hm : m ≤ n) (hc : m ≤ c) (hc2 : c ≤ 9223372036854775807) : RWs S w (.slice A m c) (l.take m) := RSl.take h hm hc hc2

theorem perform_len (l : List (Int × List UInt8)) : ∀ (ss : List (List UInt8)), (∀ x ∈ ss, x.length = 128) → (∀ x ∈ l, x.2.length = 128) → ∀ x ∈ performL ss l, x.length = 128 := by
  induction l with
  | nil => intro ss h _ x hx; exact h x hx
  | cons y l ih =>
    intro ss h h2 x hx
    refine ih (ss.set y.1.toNat y.2) (fun z hz => ?_) (fun z hz => h2 z (List.mem_cons_of_mem _ hz)) x hx
    rcases List.mem_or_eq_of_mem_set hz with hz | hz
    · exact h z hz
    · rw [hz]; exact h2 y (List.mem_cons_self ..)

theorem row_at {w w3 : World} {base g n cap : Nat} {e : TypeId} {vs : List Value} {ps : List (List UInt8)} (ho : w3.ownsRow base e 1 (.slice (some ⟨g, 0, none⟩) n cap) n vs)
    (hr : ∀ i (h : i < ps.length) (h' : i < vs.length), RBs S w vs[i] ps[i]) (hp : ps.length = n) {at_ : Nat} (h : at_ < n) :
    ∃ A c old, ps[at_]? = some old ∧ w3.cell? ⟨g, at_, none⟩ = some (.slice A old.length c) ∧ w3.frozen? ⟨g, at_, none⟩ = false ∧ RBs S w (.slice A old.length c) old ∧ old.length ≤ c ∧ c ≤ 9223372036854775807 := by
  have hv : vs.length = n := by have := ho.1; omega
  have h1 := hr at_ (by omega) (by omega)
  obtain ⟨A, c, hf, h2, h3⟩ := h1.form
  refine ⟨A, c, ps[at_], List.getElem?_eq_getElem (by omega), ?_, ho.frozenAt at_, ?_, h2, h3⟩
  · rw [ho.cellAt at_ (by omega), List.getElem?_eq_getElem (by omega), hf]
  · rw [← hf]; exact h1

theorem copy_src {w : World} {A : Option Addr} {cs : List Value} (h : ∃ ad, A = some ad) (hp : ∀ j v, cs[j]? = some v → ∃ ad, A = some ad ∧ w.cell? (ad.add j) = some v) : ∃ ad, A = some ad ∧ ∀ j v, cs[j]? = some v → w.cell? (ad.add j) = some v := by
  obtain ⟨ad, ha⟩ := h
  refine ⟨ad, ha, fun j v hv => ?_⟩
  obtain ⟨ad', ha', h⟩ := hp j v hv
  rw [ha] at ha'
  injection ha' with ha'
  rw [ha']; exact h

theorem torn_vals {cur : List Value} {data old : List UInt8} {c : Nat} (hct : cur.take (128 * 1) = byteVals old) (hd : data.length = 128) (ho : old.length = 128) (hc : cur.length = c * 1) (hcc : 128 ≤ c) :
    (splice cur 0 (byteVals (data.take 64))).take (128 * 1) = byteVals (torn data old) := by
  have h64 : (byteVals (data.take 64)).length = 64 := by simp [byteVals]; omega
  unfold splice
  rw [List.take_zero, List.nil_append, h64, List.take_append, h64, List.take_of_length_le (by omega)]
  have : List.take (128 * 1 - 64) (List.drop (0 + 64) cur) = (cur.take (128 * 1)).drop 64 := by rw [List.drop_take]
  rw [this, hct]
  simp [torn, byteVals]

theorem stop_fin {w w' : World} {base g n cap : Nat} {vs : List Value} {ps : List (List UInt8)} {at_ g4 cap4 : Nat} {cur : List Value} {data old : List UInt8} {e e4 : TypeId}
    (ho : w'.ownsRow base e 1 (.slice (some ⟨g, 0, none⟩) n cap) n (vs.set at_ (.slice (some ⟨g4, 0, none⟩) 128 cap4)))
    (hr : ∀ i (h : i < ps.length) (h' : i < vs.length), RBs S w vs[i] ps[i]) (hx : Ext w w') (hp : ps.length = n)
    (hg : Blk w' g4 e4 (splice cur 0 (byteVals (data.take 64)))) (hct : cur.take (128 * 1) = byteVals old) (hc : 128 ≤ cap4) (hm : cap4 ≤ 9223372036854775807) (hd : data.length = 128) (hol : old.length = 128)
    (hcur : cur.length = cap4 * 1) (hgw : w.heap.size ≤ g4) (hbw : w.heap.size ≤ base) : RBss (Fr S w) w' (.slice (some ⟨g, 0, none⟩) n cap) (ps.set at_ (torn data old)) := by
  have hv : vs.length = n := by have := ho.1; simp at this; omega
  have htl : (torn data old).length = 128 := by simp [torn]; omega
  have hdata : RBs (Fr S w) w' (.slice (some ⟨g4, 0, none⟩) 128 cap4) (torn data old) := by
    have := own_of_blk (n := 128) (cap := cap4) (k := 1) hg hc hm (by rw [length_splice _ _ _ (by simp [byteVals]; omega)]; exact hcur) (Nat.le_refl _)
    rw [torn_vals hct hd hol hcur hc] at this
    exact RBs.own this (fun b h => .inr (Nat.le_trans hgw h))
  refine RSl.own ho (fun b h => .inr (Nat.le_trans hbw h)) (by simp [hp]) (fun u hu => ?_) (fun i hi => ?_)
  · rcases List.mem_or_eq_of_mem_set hu with h | h
    · obtain ⟨i, hi, rfl⟩ := List.getElem_of_mem h
      obtain ⟨A, c, hf, _⟩ := (hr i (by omega) hi).form
      rw [hf]; rfl
    · rw [h]; rfl
  · simp at hi
    rw [chunk_one (by simp; omega)]
    refine ⟨_, rfl, ?_⟩
    rw [List.getElem_set, List.getElem_set]
    split
    · exact hdata
    · exact ((hr i hi (by omega)).ext hx).up

set_option maxHeartbeats 2000000 in
theorem sync_stop (v : Value) (d : Dk) (w : World) (k : Nat) (hd : RDk S w v d) (h1 : d.runs = true) (h2 : d.left = k) (h3 : k < d.pending.length) :
    Calls Try.prog 27 #[v] w (RDE S w (d.syncStop k d.pending[k]) 380) := by
  obtain ⟨A, c, B, e, rfl, q1, q2⟩ := hd.form
  obtain ⟨f1, f2, f3, f4, f5, f6, f7, f8⟩ := runs_facts h1
  have HD := Lib.hid hd
  have H1 := Lib.hid h1
  have HS := Lib.hid q1
  have HP := Lib.hid q2
  have H7 := Lib.hid f7
  have H8 := Lib.hid f8
  obtain ⟨hqa, hqb⟩ := q2.at.2.1
  obtain ⟨bp, offp, rfl, hbp, hcp⟩ := q2.at.2.2 (by omega)
  obtain ⟨x, c1, c2, hx⟩ := hcp k h3
  obtain ⟨x1, x2, x3⟩ := f7 _ (List.getElem_mem h3)
  obtain ⟨at_, hat⟩ : ∃ at_ : Nat, d.pending[k].1 = at_ := ⟨d.pending[k].1.toNat, by omega⟩
  obtain ⟨data, hdata⟩ : ∃ data, d.pending[k].2 = data := ⟨_, rfl⟩
  rw [hat] at c1 x1 x2
  rw [hdata] at hx x3
  obtain ⟨Ax, cx, rfl, hcx, hmx⟩ := hx.form
  have HX := Lib.hid hx
  have HAT := Lib.hid hat
  have HDA := Lib.hid hdata
  have C1 := Lib.hid c1
  have C2 := Lib.hid c2
  rw [h2] at *
  have H2 := Lib.hid h2
  have X3 := Lib.hid x3
  clear hd h1 h2 q1 q2 f7 f8 f6 hcp hx hat hdata c1 c2 x3
  go_enter Try.func27, Try.ntmps27
  go_wp2_with fail
  (with_reducible refine (runs_any _ d _ (HD.out.ext (((Ext.refl _).alloc _).alloc _))).mono ?_)
  rintro e1 w1 ⟨rfl, hx1⟩
  have B0 := Lib.hid (((Blk.new w w.heap.size _ _ rfl).alloc _).ext hx1)
  have B1 := Lib.hid ((Blk.new _ (w.heap.size + 1) _ _ (by simp)).ext hx1)
  have HX1 := Lib.hid ((((Ext.refl w).alloc _).alloc _).trans hx1)
  have r1 : w.heap.size ≤ w.heap.size + 1 := Nat.le_succ _
  clear hx1
  obtain ⟨k0, z0⟩ := B0.out.rule
  obtain ⟨k1, z1⟩ := B1.out.rule
  rw [H1.out]
  go_wp2_with fail
  (with_reducible refine (perform_any _ _ d.sectors (d.pending.take k) w _ HX1.out HS.out (HP.out.take (Nat.le_of_lt h3) (Nat.le_refl _) (by omega)) (by omega) (by rw [List.length_take]; omega) (fun i hi => by
    have hm : (d.pending.take k)[i] ∈ d.pending := List.mem_of_mem_take (List.getElem_mem hi)
    have := H7.out _ hm; omega)).mono ?_)
  rintro e2 w2 ⟨v2, vs, rfl, hown, hr, hx2⟩
  have hpl : (performL d.sectors (d.pending.take k)).length = d.sectors.length := performL_length _ _
  obtain ⟨ps, hps⟩ : ∃ ps, performL d.sectors (d.pending.take k) = ps := ⟨_, rfl⟩
  rw [hps] at hown hr hpl
  have HPS := Lib.hid hps
  rw [hpl] at hown
  obtain ⟨g, cap2, rfl, hg1, hg2, hc2, hm2⟩ := own_form hown (by omega)
  have hvl : vs.length = d.sectors.length := by have := hown.1; omega
  have HPL := Lib.hid hpl
  have HVL := Lib.hid hvl
  have C0 := Lib.hid (B0.out.ext hx2)
  have D1 := Lib.hid (B1.out.ext hx2)
  have HX2 := Lib.hid (HX1.out.trans hx2)
  have g1 := B1.out.lt
  have HO := Lib.hid hown
  have HR := Lib.hid hr
  clear k0 z0 k1 z1 hown hr hx2 hps hpl hvl B0 B1
  obtain ⟨k0, z0⟩ := C0.out.rule
  obtain ⟨k1, z1⟩ := D1.out.rule
  have hlt1 := D1.out.lt
  have e1 := HX2.out.keep C1.out
  have e2 := HX2.out.keep C2.out
  go_upto_region 7 with (fail)
  obtain ⟨w3, e3, E1, hg3⟩ := set4 D1.out (.slice (some ⟨g, 0, none⟩) d.sectors.length cap2) (.slice none 0 0) (.int .i64 0) (.bool true)
  rw [e3]
  have F0 := Lib.hid (C0.out.grownN hg3 (by omega))
  have F1 := Lib.hid E1
  have HX3 := Lib.hid (HX2.out.grownN hg3 r1)
  have HO3 := Lib.hid (own_grownN HO.out hg3 g1)
  have hz3 := hg3.size
  clear k0 z0 k1 z1 e1 e2 e3 E1 hg3 HX2 C0 D1 HO
  obtain ⟨k0, z0⟩ := F0.out.rule
  obtain ⟨k1, z1⟩ := F1.out.rule
  have e1 := HX3.out.keep C1.out
  have e2 := HX3.out.keep C2.out
  have hlt1 := F1.out.lt
  obtain ⟨Ay, cy, old, hold, q1, q2, hrat, hcy, hmy⟩ := row_at HO3.out HR.out HPL.out (at_ := at_) (by omega)
  have HOLD := Lib.hid hold
  have hll : old.length = 128 := by
    rw [← HPS.out] at hold
    exact perform_len _ _ (fun x hx => H8.out x hx) (fun x hx => (H7.out x (List.mem_of_mem_take hx)).2.2) _ (List.mem_of_getElem? hold)
  rw [hll] at q1 hrat hcy
  have HLL := Lib.hid hll
  have HRAT := Lib.hid hrat
  clear hrat hold hll
  have hgl : g < w3.heap.size := by omega
  go_wp2_with fail
  obtain ⟨-, -, hcel⟩ := HRAT.out.vals
  (with_reducible refine (cloneB_any _ _ _ (byteVals old) _ (hcel.ext (HX3.out.alloc _)) (by omega)).mono ?_)
  rintro e4 w4 ⟨v4, rfl, hown4, hx4⟩
  obtain ⟨g4, cap4, rfl, hg41, hg42, hc4, hm4⟩ := own_form hown4 (by omega)
  have G0 := Lib.hid ((F0.out.alloc _).ext hx4)
  have G1 := Lib.hid ((F1.out.alloc _).ext hx4)
  have G2 := Lib.hid ((Blk.new w3 w3.heap.size _ _ rfl).ext hx4)
  have HX4 := Lib.hid ((HX3.out.alloc _).trans hx4)
  have HO4 := Lib.hid (own_ext (HO3.out.alloc _) hx4)
  have HN4 := Lib.hid hown4
  simp only [World.size_alloc] at hg41
  clear k0 z0 k1 z1 e1 e2 q1 q2 hown4 hx4 hcel F0 F1 HX3 HO3
  obtain ⟨k0, z0⟩ := G0.out.rule
  obtain ⟨k1, z1⟩ := G1.out.rule
  obtain ⟨k2, z2⟩ := G2.out.rule
  have h64 : (0 : Int) ≤ 64 ∧ (64 : Int) ≤ (cap4 : Int) := by omega
  obtain ⟨cur4, hcur4, hcl4, hct4⟩ := own_blk HN4.out
  have HCUR := Lib.hid hcur4
  have HCT := Lib.hid hct4
  obtain ⟨-, -, hdc⟩ := (HX.out.ext HX4.out).vals
  have hd128 := X3.out
  have hs1 : ((Try.prog.info? 5).map (·.size)) = some 1 := by kernel_rfl
  have HCS : Hid ((byteVals (data.take 64)).length = Nat.min data.length 64) := by show _ = _; rw [hd128]; simp [byteVals, hd128]
  have HPOS : Hid (∀ j v, (byteVals (data.take 64))[j]? = some v → ∃ ad, Ax = some ad ∧ w4.drew.cell? (ad.add j) = some v) := by
    intro j v hv
    obtain ⟨b, off, ha, hb, hx⟩ := hdc.2.2 (by omega)
    refine ⟨_, ha, ?_⟩
    rw [addr_add]
    refine hx j v ?_
    simp only [byteVals, List.map_take, List.getElem?_take] at hv
    split at hv
    · exact hv
    · cases hv
  have HAX : Hid (∃ ad, Ax = some ad) := by
    obtain ⟨b, off, ha, _⟩ := hdc.2.2 (by omega)
    exact ⟨_, ha⟩
  have HLE : Hid (0 + (byteVals (data.take 64)).length ≤ cur4.length) := by show _ ≤ _; rw [hcl4]; simp [byteVals]; omega
  have HBW : Hid (Below (w3.heap.size + 1) w4 w4.drew) := (Below.refl _ _).drew
  have HCL := Lib.hid hcl4
  clear hdc hd128 hcur4 hct4 hcl4
  go_wp2_with fail
  go_region_law (refine step_copy_splice rfl (.tmp 50) (.tmp 52) 35 35 rfl 5 Try.underlying35 hs1 _ _ _ _ _ _ rfl rfl g4 0 cur4 5 HCUR.out (byteVals (data.take 64)) HCS.out (fun _ => ⟨rfl, copy_src HAX.out HPOS.out⟩) HLE.out (byteVals_one _) (w3.heap.size + 1) w4 HBW.out hg41 ?_; intro w5 HG5 hb5)
  have hz0 := G0.out.lt
  have hz1 := G1.out.lt
  have hz2 := G2.out.lt
  have I0 := Lib.hid (G0.out.below hb5 (by omega))
  have I1 := Lib.hid (G1.out.below hb5 (by omega))
  have I2 := Lib.hid (G2.out.below hb5 (by omega))
  have HX5 := Lib.hid (HX4.out.belowN hb5 (by omega))
  have HO5 := Lib.hid (own_below HO4.out hb5 (by omega))
  have hz5 := hb5.size
  clear k0 z0 k1 z1 k2 z2 G0 G1 G2 HX4 HO4 hb5
  obtain ⟨k0, z0⟩ := I0.out.rule
  obtain ⟨k1, z1⟩ := I1.out.rule
  obtain ⟨k2, z2⟩ := I2.out.rule
  obtain ⟨Az, cz, old', hold', q1, q2, -, -, -⟩ := row_at HO5.out HR.out HPL.out (at_ := at_) (by omega)
  clear hold'
  have hgne : g ≠ w.heap.size + 1 := by omega
  go_upto_region 11 with (fail)
  obtain ⟨hown6, hg6⟩ := HO5.out.stored at_ (.slice (some ⟨g4, 0, none⟩) 128 cap4)
  obtain ⟨w6, e6⟩ : ∃ w6, w5.setCell ⟨g, at_, none⟩ (.slice (some ⟨g4, 0, none⟩) 128 cap4) = w6 := ⟨_, rfl⟩
  rw [e6] at hown6 hg6
  rw [e6]
  have J1 := Lib.hid (I1.out.grownN hg6 (by omega))
  have HX6 := Lib.hid (HX5.out.grownN hg6 (by omega))
  have HG6 := Lib.hid (Blk.grownN HG5.out hg6 (by omega))
  have HO6 := Lib.hid hown6
  clear k0 z0 k1 z1 k2 z2 q1 q2 e6 hown6 hg6 I0 I1 I2 HX5 HG5 HO5
  obtain ⟨k1, z1⟩ := J1.out.rule
  go_wp2
  obtain ⟨w7, e7, L1, hg7⟩ := set4 J1.out (.slice (some ⟨g, 0, none⟩) d.sectors.length cap2) (.slice none 0 0) (.int .i64 0) (.bool true)
  rw [e7]
  obtain ⟨k2, z2⟩ := L1.rule
  refine bodyPost_ret (v := .tuple #[.agg #[.slice (some ⟨g, 0, none⟩) d.sectors.length cap2, .slice none 0 0, .int .i64 0, .bool true], .int .i64 380]) (by simp [results, Try.results27, go_sem, k2, z2]) rfl ?_
  have HX7 := HX6.out.grownN hg7 r1
  refine ⟨_, rfl, ?_, HX7⟩
  unfold Dk.syncStop
  rw [HPS.out, HAT.out, HDA.out, Int.toNat_natCast, List.getD_eq_getElem?_getD, HOLD.out, Option.getD_some]
  exact RDk.mk (stop_fin (own_grownN HO6.out hg7 g1) HR.out HX7 HPL.out (Blk.grownN HG6.out hg7 (by omega)) HCT.out hc4 hm4 X3.out HLL.out HCL.out (by omega) (by omega)) (RSl.nil _)

theorem sync_any (v : Value) (d : Dk) (w : World) (hd : RDk S w v d) : Calls Try.prog 27 #[v] w (RDE S w d.sync.1 d.sync.2) := by
  unfold Dk.sync
  cases hr : d.runs
  · simp only [if_true]
    exact sync_bad v d w hd hr
  · simp only [Bool.true_eq_false, if_false]
    by_cases hl : 0 ≤ d.left ∧ d.left < d.pending.length
    · rw [if_pos hl]
      have hk : d.left.toNat < d.pending.length := by omega
      rw [List.getD_eq_getElem?_getD, List.getElem?_eq_getElem hk, Option.getD_some]
      exact sync_stop v d w d.left.toNat hd hr (by omega) hk
    · rw [if_neg hl]
      exact sync_ok v d w hd hr (by omega)

end Go.Proofs.Ytfmhnplkpohogaa

namespace Go.Proofs.Ytfmhnplkpohogaa
set_option maxRecDepth 100000
open Go.RowKit

variable {S S' : Nat → Prop}

theorem rep_splice (u : Value) (cur : List Value) (n k : Nat) (hl : cur.length = n) (hk : k ≤ n) (h : ∀ i, i < k → cur[i]? = some u) (m : Nat) (hm : k + m ≤ n) : (splice cur k (List.replicate m u)).length = n ∧ ∀ i, i < k + m → (splice cur k (List.replicate m u))[i]? = some u := by
  refine ⟨by rw [length_splice _ _ _ (by simp; omega)]; exact hl, fun i hi => ?_⟩
  unfold splice
  rw [List.getElem?_append]
  split
  · rename_i h1
    simp at h1
    rw [List.getElem?_take, if_pos (by omega)]
    exact h i (by omega)
  · rename_i h1
    simp at h1
    have hk' : min k cur.length = k := Nat.min_eq_left (by omega)
    rw [List.getElem?_append_left (by simp [hk']; omega), List.getElem?_replicate, if_pos (by rw [List.length_take, hk']; omega)]

theorem mul_one_any (n : Nat) (hn : n ≤ 4096) (w : World) : Calls Try.prog 68 #[.int .u64 1, .int .u64 n] w (fun e w' => e = .returned (.tuple #[.int .u64 0, .int .u64 n]) ∧ w = w') := by
  refine (Try.bits_Mul 1 n (by omega) (by omega) w).mono ?_
  rintro e w' ⟨rfl, rfl⟩
  refine ⟨?_, rfl⟩
  rw [Nat.one_mul, Nat.div_eq_of_lt (by omega), Nat.mod_eq_of_lt (by omega)]
  rfl

set_option maxHeartbeats 2000000 in
theorem repeat_any (b off cap : Nat) (u : Value) (n : Nat) (w : World) (hc : w.cell? ⟨b, off, none⟩ = some u) (hu : u.oneCell' = true) (h1 : 1 ≤ n) (h2 : n ≤ 4096) :
    Calls Try.prog 49 #[.slice (some ⟨b, off, none⟩) 1 cap, .int .i64 n] w (RCl w 35 1 n (List.replicate n u)) := by
  have HC := Lib.hid hc
  have HU := Lib.hid hu
  clear hc hu
  have hmk := fun (W : World) => run_make_row' (P := Try.prog) 22 35 (.slice none 0 0) 24 Try.underlying22 elBss.hi rfl .i64 .i64 n (by omega) (by omega) W
  go_enter Try.func49, Try.ntmps49
  go_wp2_with fail
  (with_reducible refine (mul_one_any n h2 _).mono ?_)
  rintro e1 w1 ⟨rfl, rfl⟩
  go_wp2_with (with_reducible refine stop_copy ?_)
  have hblk : Blk (w.alloc (.cells (madeCells #[.slice none 0 0] n) 35)) w.heap.size 35 (List.replicate n (.slice none 0 0)) := by
    have := heap_alloc_new w (.cells (madeCells #[.slice none 0 0] n) 35)
    unfold Blk
    rw [this, ← toList_madeCells_one]
  refine Lib.hid (wpList_cpy elBss rfl rfl rfl rfl hblk (ys := [u]) ?_ (by simp; omega) ?_)
  · refine ⟨rfl, ?_, fun _ => ⟨b, off, rfl, ?_, fun j v hv => ?_⟩⟩
    · intro x hx; simp at hx; subst hx; exact HU.out
    · have hlt : b < w.heap.size := World.block_lt_of_cell? w _ HC.out
      simp; omega
    · have hlt : b < w.heap.size := World.block_lt_of_cell? w _ HC.out
      rw [World.cell?_alloc_lt _ _ _ hlt]
      cases j with
      | zero => simp at hv; subst hv; exact HC.out
      | succ j => simp at hv
  intro w2 hg2 hgr
  have HX2 : Hid (Ext w w2) := Lib.hid (((Ext.refl w).alloc _).grownN hgr (Nat.le_refl _))
  have HG2 : Hid (∃ cur : List Value, Blk w2 w.heap.size 35 cur ∧ cur.length = n ∧ ∀ i, i < 1 → cur[i]? = some u) := by
    refine ⟨_, hg2, ?_⟩
    have hm : List.take (min 1 n) [u] = List.replicate 1 u := by rw [Nat.min_eq_left h1]; rfl
    rw [hm]
    have := rep_splice u (List.replicate n (.slice none 0 0)) n 0 (by simp) (by omega) (fun i hi => by omega) 1 (by omega)
    exact this
  rw [Nat.min_eq_left h1]
  clear hg2 hgr hblk hmk
  go_wp2_with fail
  go_loopw [8] (fun i wr => ∃ k : Nat, 1 ≤ k ∧ k ≤ n ∧ i = .int .i64 k ∧ Ext w wr ∧ Hid (∃ cur : List Value, Blk wr w.heap.size 35 cur ∧ cur.length = n ∧ ∀ i, i < k → cur[i]? = some u)) (fun i _ => n - (intOf i).toNat)
  case atStart => exact ⟨1, Nat.le_refl _, h1, rfl, HX2.out, HG2⟩
  case round =>
    obtain ⟨k, hk1, hk2, rfl, hx, hcur⟩ := hrel
    by_cases hlt : k < n
    · obtain ⟨cur, hb, hl, hcu⟩ := hcur.out
      have HB := Lib.hid hb
      have HL := Lib.hid hl
      have HCU := Lib.hid hcu
      clear hb hl hcu hcur
      have i1 : (0 : Int) ≤ (k : Int) := Int.natCast_nonneg _
      have i2 : (k : Int) ≤ (n : Int) := by omega
      have hne : ¬ n = k := by omega
      have hs1 : ((Try.prog.info? 35).map (·.size)) = some 1 := by kernel_rfl
      have HM : Hid ((List.replicate (Nat.min k (n - k)) u).length = Nat.min k (n - k)) := by show _ = _; simp
      have HLE : Hid (k + (List.replicate (Nat.min k (n - k)) u).length ≤ cur.length) := by
        show _ ≤ _
        rw [HL.out, List.length_replicate]
        have : Nat.min k (n - k) ≤ n - k := Nat.min_le_right _ _
        omega
      have HU1 : Hid (∀ v ∈ List.replicate (Nat.min k (n - k)) u, v.oneCell' = true) := by
        intro v hv
        rw [List.eq_of_mem_replicate hv]; exact HU.out
      have HSRC : Hid (∀ j v, (List.replicate (Nat.min k (n - k)) u)[j]? = some v → wr.drew.cell? ((⟨w.heap.size, 0, none⟩ : Addr).add j) = some v) := by
        intro j v hv
        rw [List.getElem?_replicate] at hv
        split at hv
        · rename_i hj
          injection hv with hv
          subst hv
          have : Nat.min k (n - k) ≤ k := Nat.min_le_left _ _
          rw [addr_add, Nat.zero_add]
          have := (HB.out.rule).1 j
          rw [World.cell?_drew, this]
          exact HCU.out j (by omega)
        · cases hv
      have HBW : Hid (Below w.heap.size w wr.drew) := hx.drew
      go_wp2_with fail
      go_region_held3 (fun _ => True) (trivial) ((refine step_copy_splice rfl (.tmp 41) (.tmp 44) 22 22 rfl 35 Try.underlying22 hs1 _ _ _ _ _ _ rfl rfl w.heap.size k cur 35 HB.out (List.replicate (Nat.min k (n - k)) u) HM.out (fun _ => ⟨rfl, _, rfl, HSRC.out⟩) HLE.out HU1.out w.heap.size w HBW.out (Nat.le_refl _) ?_; intro w5 HG5 hb5))
      have hmle : Nat.min k (n - k) ≤ n - k := Nat.min_le_right _ _
      have hmpos : 1 ≤ Nat.min k (n - k) := Nat.le_min.2 ⟨hk1, by omega⟩
      have hnew : Hid (∃ cur : List Value, Blk w5 w.heap.size 35 cur ∧ cur.length = n ∧ ∀ i, i < k + Nat.min k (n - k) → cur[i]? = some u) :=
        ⟨_, HG5.out, rep_splice u cur n k HL.out hk2 HCU.out _ (by omega)⟩
      obtain ⟨m, hm⟩ : ∃ m, Nat.min k (n - k) = m := ⟨_, rfl⟩
      rw [hm] at hmle hmpos hnew
      rw [hm, show IntKind.i64.wrap ((k : Int) + (m : Int)) = ((k + m : Nat) : Int) from by rw [IntWalk.i64_in _ (by omega)]; omega]
      clear HM HLE HU1 HSRC HBW HG5 hm hs1 HB HL HCU
      go_wp2
      go_roundw
      case rel => exact ⟨k + m, by omega, by omega, rfl, hb5, hnew⟩
      case measure => simp [intOf]; omega
    · obtain rfl : k = n := by omega
      go_wp2
      go_ret
      obtain ⟨cur, hb, hl, hcu⟩ := hcur.out
      have hcr : cur = List.replicate k u := by
        apply List.ext_getElem?
        intro i
        by_cases hi : i < k
        · rw [hcu i hi, List.getElem?_replicate, if_pos hi]
        · rw [List.getElem?_eq_none (by omega), List.getElem?_replicate, if_neg hi]
      refine ⟨_, rfl, ?_, hx⟩
      have := own_of_blk (n := k) (cap := k) (k := 1) hb (Nat.le_refl _) (by omega) (by omega) (Nat.le_refl w.heap.size)
      rw [List.take_of_length_le (by omega), hcr] at this
      exact this

def Dk.new (n : Int) : Dk × Int := if n < 1 ∨ 4096 < n then (Dk.zero, 1) else (⟨List.replicate n.toNat (List.replicate 128 0), [], -1, false⟩, 0)

attribute [local go_sem] make128

set_option maxHeartbeats 2000000 in
theorem new_any (n : Int) (w : World) : Calls Try.prog 25 #[.int .i64 n] w (RDE S w (Dk.new n).1 (Dk.new n).2) := by
  have r0 : w.heap.size ≤ w.heap.size := Nat.le_refl _
  rcases (by omega : n < 1 ∨ 4096 < n ∨ (1 ≤ n ∧ n ≤ 4096)) with h | h | ⟨h, h'⟩
  · have HD : Hid (Dk.new n = (Dk.zero, 1)) := if_pos (.inl h)
    go_enter Try.func25, Try.ntmps25
    go_wp2
    refine bodyPost_ret (v := .tuple #[.agg #[.slice none 0 0, .slice none 0 0, .int .i64 0, .bool false], .int .i64 1]) (by simp [results, Try.results25, go_sem]) rfl ?_
    exact RDE.mk HD.out (RDk.zero _) ((Ext.refl w).alloc _)
  · have HD : Hid (Dk.new n = (Dk.zero, 1)) := if_pos (.inr h)
    go_enter Try.func25, Try.ntmps25
    go_wp2
    refine bodyPost_ret (v := .tuple #[.agg #[.slice none 0 0, .slice none 0 0, .int .i64 0, .bool false], .int .i64 1]) (by simp [results, Try.results25, go_sem]) rfl ?_
    exact RDE.mk HD.out (RDk.zero _) ((Ext.refl w).alloc _)
  · have HD : Hid (Dk.new n = (⟨List.replicate n.toNat (List.replicate 128 0), [], -1, false⟩, 0)) := if_neg (by omega)
    obtain ⟨k, rfl⟩ : ∃ k : Nat, n = k := ⟨n.toNat, by omega⟩
    go_enter Try.func25, Try.ntmps25
    go_wp2_with fail
    (with_reducible refine (repeat_any _ _ _ (.slice (some ⟨w.heap.size + 1, 0, none⟩) 128 128) k _ (by simp [go_sem]) rfl (by omega) (by omega)).mono ?_)
    rintro e1 w1 ⟨v1, rfl, hown, hx1⟩
    obtain ⟨A1, cap1, rfl, hc1, hm1⟩ := own_any hown
    have B0 := Lib.hid ((((Blk.new w w.heap.size _ _ rfl).alloc _).alloc _).ext hx1)
    have B1 := Lib.hid (((Blk.new (w.alloc (.cells #[.slice none 0 0, .slice none 0 0, .int .i64 0, .bool false] 25)) (w.heap.size + 1) 5 zeros128 (by simp)).alloc _).ext hx1)
    have HX1 := Lib.hid (((((Ext.refl w).alloc _).alloc _).alloc _).trans hx1)
    have HO := Lib.hid hown
    simp only [World.size_alloc] at HO
    clear hown hx1
    obtain ⟨k0, z0⟩ := B0.out.rule
    go_wp2
    obtain ⟨w2, e2, C0, hg2⟩ := set4 B0.out (.slice A1 k cap1) (.slice none 0 0) (.int .i64 (-1)) (.bool false)
    rw [e2]
    obtain ⟨k2, z2⟩ := C0.rule
    refine bodyPost_ret (v := .tuple #[.agg #[.slice A1 k cap1, .slice none 0 0, .int .i64 (-1), .bool false], .int .i64 0]) (by simp [results, Try.results25, go_sem, k2, z2]) rfl ?_
    refine RDE.mk HD.out (RDk.mk ?_ (RSl.nil _)) (HX1.out.grownN hg2 r0)
    have hz : RBs (Fr S w) w2 (.slice (some ⟨w.heap.size + 1, 0, none⟩) 128 128) (List.replicate 128 0) := by
      have := own_of_blk (n := 128) (cap := 128) (k := 1) (B1.out.grownN hg2 (by omega)) (Nat.le_refl _) (by omega) (by simp [zeros128, byteVals]) (Nat.le_refl _)
      rw [List.take_of_length_le (by simp [zeros128, byteVals])] at this
      exact RBs.own this (fun b h => .inr (by omega))
    refine RSl.own (own_grownN HO.out hg2 (by omega)) (fun b h => .inr (by omega)) (by simp) (fun u hu => by rw [List.eq_of_mem_replicate hu]; rfl) (fun i hi => ?_)
    rw [chunk_one (by simpa using hi)]
    exact ⟨_, rfl, by simpa using hz⟩

end Go.Proofs.Ytfmhnplkpohogaa

namespace Go.Proofs.Ytfmhnplkpohogaa
set_option maxRecDepth 100000
open Go.RowKit Go.Shelf

variable {S S' : Nat → Prop}

attribute [local go_sem] Oper.semAt_some

/-- An element that the iterator hands out: the index, where, and the slice's header. -/
structure It where
  i : Int
  at_ : Int
  a : Option Addr
  n : Nat
  c : Nat

abbrev It.enc (x : It) : Array Value := #[.int .i64 x.i, .agg #[.int .i64 x.at_, .slice x.a x.n x.c]]

end Go.Proofs.Ytfmhnplkpohogaa

namespace Go.Proofs.Ytfmhnplkpohogaa
set_option maxRecDepth 100000
open Go.RowKit Go.Shelf

variable {S S' : Nat → Prop}

attribute [local go_sem] Oper.semAt_some

def Dk.look (d : Dk) (at_ : Int) : List UInt8 := match d.pending.reverse.find? (fun x => x.1 == at_) with | some x => x.2 | none => d.sectors.getD at_.toNat []
def Dk.read (d : Dk) (at_ : Int) : List UInt8 × Int := if (d.runs && d.has at_) = false then ([], 380) else (d.look at_, 0)

/-- The elements as_ they lie in memory. -/
theorem its {w : World} {A : Option Addr} {n cap : Nat} {l : List (Int × List UInt8)} (h : RWs S w (.slice A n cap) l) :
    ∃ f : Nat → It, (∀ j, (f j).i = j) ∧ (∀ j (hj : j < l.length), (f j).at_ = l[j].1 ∧ RBs S w (.slice (f j).a (f j).n (f j).c) l[j].2) ∧
      (0 < n → ∃ b off, A = some ⟨b, off, none⟩ ∧ b < w.heap.size ∧ ∀ j, j < n → w.cell? ⟨b, off + j * 2, none⟩ = some (.int .i64 (f j).at_) ∧ w.cell? ⟨b, off + j * 2 + 1, none⟩ = some (.slice (f j).a (f j).n (f j).c)) := by
  obtain ⟨hn, _, hx⟩ := h.at
  rcases Nat.eq_zero_or_pos n with h0 | h0
  · refine ⟨fun j => ⟨j, 0, none, 0, 0⟩, fun _ => rfl, fun j hj => by omega, fun h => by omega⟩
  · obtain ⟨b, off, ha, hb, hc⟩ := hx h0
    have hex : ∀ j : Nat, ∃ x : It, x.i = j ∧ ∀ hj : j < l.length, x.at_ = l[j].1 ∧ RBs S w (.slice x.a x.n x.c) l[j].2 ∧ w.cell? ⟨b, off + j * 2, none⟩ = some (.int .i64 x.at_) ∧ w.cell? ⟨b, off + j * 2 + 1, none⟩ = some (.slice x.a x.n x.c) := by
      intro j
      by_cases hj : j < l.length
      · obtain ⟨v, c1, c2, c3⟩ := hc j hj
        obtain ⟨A', cap', rfl, _⟩ := c3.form
        exact ⟨⟨j, l[j].1, A', l[j].2.length, cap'⟩, rfl, fun _ => ⟨rfl, c3, c1, c2⟩⟩
      · exact ⟨⟨j, 0, none, 0, 0⟩, rfl, fun h => absurd h hj⟩
    obtain ⟨f, hf⟩ := Classical.axiomOfChoice hex
    exact ⟨f, fun j => (hf j).1, fun j hj => ⟨((hf j).2 hj).1, ((hf j).2 hj).2.1⟩, fun _ => ⟨b, off, ha, hb, fun j hj => ((hf j).2 (by omega)).2.2⟩⟩

end Go.Proofs.Ytfmhnplkpohogaa

namespace Go.Proofs.Ytfmhnplkpohogaa
set_option maxRecDepth 100000
open Go.RowKit

variable {S S' : Nat → Prop}

theorem RWs.get {w : World} {A : Option Addr} {n cap : Nat} {l : List (Int × List UInt8)} (h : RWs S w (.slice A n cap) l) {i : Nat} {x : Int × List UInt8} (hi : l[i]? = some x) :
    ∃ b off A' c', A = some ⟨b, off, none⟩ ∧ b < w.heap.size ∧ w.cell? ⟨b, off + i * 2, none⟩ = some (.int .i64 x.1) ∧ w.cell? ⟨b, off + i * 2 + 1, none⟩ = some (.slice A' x.2.length c') ∧ RBs S w (.slice A' x.2.length c') x.2 ∧ x.2.length ≤ c' ∧ c' ≤ 9223372036854775807 := by
  obtain ⟨hl, rfl⟩ := List.getElem?_eq_some_iff.1 hi
  obtain ⟨hn, _, hx⟩ := h.at
  obtain ⟨b, off, ha, hb, hc⟩ := hx (by omega)
  obtain ⟨v, c0, c1, c2⟩ := hc i hl
  obtain ⟨A', c', rfl, h1, h2⟩ := c2.form
  exact ⟨b, off, A', c', ha, hb, c0, c1, c2, h1, h2⟩

theorem get_of_lt {α : Type} (l : List α) (k : Nat) (h : k < l.length) : ∃ x, l[k]? = some x ∧ x ∈ l := ⟨l[k], List.getElem?_eq_getElem h, List.getElem_mem h⟩

end Go.Proofs.Ytfmhnplkpohogaa

namespace Go.Proofs.Ytfmhnplkpohogaa
set_option maxRecDepth 100000
open Go.RowKit

variable {S S' : Nat → Prop}

theorem Ext.drewN {a w : World} (h : Ext a w) (n : Nat) : Ext a (w.drewN n) := ⟨h.below.os, h.below.tape, h.below.output, h.below.size, h.below.block⟩

def Dk.same (a b : Dk) : Bool := decide (a.sectors = b.sectors ∧ a.pending = b.pending ∧ a.left = b.left ∧ a.stopped = b.stopped)

theorem conv_at (w : World) {A : Option Addr} {n c : Nat} {l : List UInt8} (h : RBs S w (.slice A n c) l) (k : Nat) : (convert 35 9 (.slice A n c)).run Try.prog (w.drewN k) = .ok (strOf l) (w.drewN k) :=
  conv_str (w := w.drewN k) h Try.underlying35 Try.underlying5 Try.underlying9

theorem same_not {a b : Dk} (h : a.sectors.length ≠ b.sectors.length ∨ a.pending.length ≠ b.pending.length ∨ a.left ≠ b.left ∨ a.stopped ≠ b.stopped) : false = a.same b := by
  unfold Dk.same
  symm
  rw [decide_eq_false_iff_not]
  rintro ⟨h1, h2, h3, h4⟩
  rw [h1, h2] at h
  simp_all

theorem same_not_sec {a b : Dk} {k : Nat} {x y : List UInt8} (hx : a.sectors[k]? = some x) (hy : b.sectors[k]? = some y) (h : x ≠ y) : false = a.same b := by
  unfold Dk.same
  symm
  rw [decide_eq_false_iff_not]
  rintro ⟨h1, _⟩
  rw [h1, hy] at hx
  injection hx with hx
  exact h hx.symm
theorem same_not_pen {a b : Dk} {k : Nat} {x y : Int × List UInt8} (hx : a.pending[k]? = some x) (hy : b.pending[k]? = some y) (h : x.1 ≠ y.1 ∨ x.2 ≠ y.2) : false = a.same b := by
  unfold Dk.same
  symm
  rw [decide_eq_false_iff_not]
  rintro ⟨_, h1, _⟩
  rw [h1, hy] at hx
  injection hx with hx
  subst hx
  simp at h

theorem take_succ_eqD {α : Type} {a b : List α} {k : Nat} {x : α} (h : a.take k = b.take k) (hx : a[k]? = some x) (hy : b[k]? = some x) : a.take (k + 1) = b.take (k + 1) := by
  obtain ⟨h1, rfl⟩ := List.getElem?_eq_some_iff.1 hx
  obtain ⟨h2, h3⟩ := List.getElem?_eq_some_iff.1 hy
  rw [List.take_succ_eq_append_getElem h1, List.take_succ_eq_append_getElem h2, h, h3]

set_option maxRecDepth 100000 in
set_option maxHeartbeats 2000000 in
theorem same_any (v u : Value) (a b : Dk) (w : World) (ha : RDk S w v a) (hb : RDk S w u b) : Calls Try.prog 23 #[v, u] w (RB w (a.same b)) := by
  obtain ⟨A, c, B, e, rfl, q1, q2⟩ := ha.form
  obtain ⟨A', c', B', e', rfl, q3, q4⟩ := hb.form
  obtain ⟨f1, f1'⟩ := q1.at.2.1
  obtain ⟨f2, f2'⟩ := q2.at.2.1
  obtain ⟨f3, f3'⟩ := q3.at.2.1
  obtain ⟨f4, f4'⟩ := q4.at.2.1
  have HS := Lib.hid q1
  have HP := Lib.hid q2
  have HS' := Lib.hid q3
  have HP' := Lib.hid q4
  clear ha hb q1 q2 q3 q4
  have HW : Hid (Ext w ((w.alloc (.cells #[.slice A a.sectors.length c, .slice B a.pending.length e, .int .i64 a.left, .bool a.stopped] 25)).alloc (.cells #[.slice A' b.sectors.length c', .slice B' b.pending.length e', .int .i64 b.left, .bool b.stopped] 25))) := ((Ext.refl _).alloc _).alloc _
  by_cases n1 : a.sectors.length = b.sectors.length
  rotate_left
  · have HN := Lib.hid (same_not (a := a) (b := b) (.inl n1))
    have t1 : ((a.sectors.length : Int) != (b.sectors.length : Int)) = true := by simp; omega
    have t2 : (a.sectors.length != b.sectors.length) = true := by simp; omega
    clear n1
    go_enter Try.func23, Try.ntmps23
    go_wp2
    go_ret
    exact ⟨ret_bool HN.out, HW.out⟩
  have t1 : ((a.sectors.length : Int) != (b.sectors.length : Int)) = false := by simp; omega
  by_cases n2 : a.pending.length = b.pending.length
  rotate_left
  · have HN := Lib.hid (same_not (a := a) (b := b) (.inr (.inl n2)))
    have t3 : ((a.pending.length : Int) != (b.pending.length : Int)) = true := by simp; omega
    clear n2 n1
    go_enter Try.func23, Try.ntmps23
    go_wp2
    go_ret
    exact ⟨ret_bool HN.out, HW.out⟩
  have t3 : ((a.pending.length : Int) != (b.pending.length : Int)) = false := by simp; omega
  by_cases n3 : a.left = b.left
  rotate_left
  · have HN := Lib.hid (same_not (a := a) (b := b) (.inr (.inr (.inl n3))))
    have t4 : (a.left != b.left) = true := by simpa using n3
    clear n2 n1 n3
    go_enter Try.func23, Try.ntmps23
    go_wp2
    go_ret
    exact ⟨ret_bool HN.out, HW.out⟩
  have t4 : (a.left != b.left) = false := by simpa using n3
  have N3 := Lib.hid n3
  clear n3
  by_cases n4 : a.stopped = b.stopped
  rotate_left
  · have HN := Lib.hid (same_not (a := a) (b := b) (.inr (.inr (.inr n4))))
    have t5 : (a.stopped == b.stopped) = false := by simpa using n4
    clear n2 n1 n4
    go_enter Try.func23, Try.ntmps23
    go_wp2
    go_ret
    exact ⟨ret_bool HN.out, HW.out⟩
  have t5 : (a.stopped == b.stopped) = true := by simpa using n4
  have N4 := Lib.hid n4
  have N1 := Lib.hid n1
  have N2 := Lib.hid n2
  have l1 : a.sectors.length ≤ b.sectors.length := by omega
  have l2 : a.pending.length ≤ b.pending.length := by omega
  clear n1 n2 n4
  go_enter Try.func23, Try.ntmps23
  go_wp2
  have B0 := Lib.hid ((Blk.new w w.heap.size 25 [.slice A a.sectors.length c, .slice B a.pending.length e, .int .i64 a.left, .bool a.stopped] rfl).alloc (.cells #[.slice A' b.sectors.length c', .slice B' b.pending.length e', .int .i64 b.left, .bool b.stopped] 25))
  have B1 := Lib.hid (Blk.new (w.alloc (.cells #[.slice A a.sectors.length c, .slice B a.pending.length e, .int .i64 a.left, .bool a.stopped] 25)) (w.heap.size + 1) 25 [.slice A' b.sectors.length c', .slice B' b.pending.length e', .int .i64 b.left, .bool b.stopped] (by simp))
  obtain ⟨W0, hW0⟩ : ∃ W0, (w.alloc (.cells #[.slice A a.sectors.length c, .slice B a.pending.length e, .int .i64 a.left, .bool a.stopped] 25)).alloc (.cells #[.slice A' b.sectors.length c', .slice B' b.pending.length e', .int .i64 b.left, .bool b.stopped] 25) = W0 := ⟨_, rfl⟩
  rw [hW0] at HW B0 ⊢
  have B1 : Hid (Blk W0 (w.heap.size + 1) 25 [.slice A' b.sectors.length c', .slice B' b.pending.length e', .int .i64 b.left, .bool b.stopped]) := by rw [← hW0]; exact B1
  obtain ⟨k0, z0⟩ := B0.out.rule
  obtain ⟨k1, z1⟩ := B1.out.rule
  clear hW0 t1 t3 t4 t5
  go_loopw [5] (fun i wr => ∃ k m : Nat, k ≤ a.sectors.length ∧ i = .int .i64 k ∧ wr = W0.drewN m ∧ Hid (a.sectors.take k = b.sectors.take k)) (fun i _ => a.sectors.length - (intOf i).toNat)
  case atStart => exact ⟨0, 0, Nat.zero_le _, rfl, rfl, rfl⟩
  case round =>
    obtain ⟨k, m, hk, rfl, rfl, heq⟩ := hrel
    by_cases hlt : k < a.sectors.length
    · obtain ⟨x, hx, -⟩ := get_of_lt _ _ hlt
      obtain ⟨y, hy, -⟩ := get_of_lt b.sectors k (by omega)
      obtain ⟨b1, o1, A1, c1, rfl, hb1, p1, r1, -, -⟩ := HS.out.get hx
      obtain ⟨b2, o2, A2, c2, rfl, hb2, p2, r2, -, -⟩ := HS'.out.get hy
      have p1 := HW.out.keep p1
      have p2 := HW.out.keep p2
      have v1 := conv_at W0 (r1.ext HW.out)
      have v2 := conv_at W0 (r2.ext HW.out)
      have HX := Lib.hid hx
      have HY := Lib.hid hy
      have i1 : (0 : Int) ≤ (k : Int) := Int.natCast_nonneg _
      have i2 : (k : Int) < (a.sectors.length : Int) := by omega
      have i3 : (k : Int) < (b.sectors.length : Int) := by omega
      clear hx hy r1 r2
      cases hq : (x == y)
      · have HQ := Lib.hid hq
        go_wp2
        go_quiet (fail)
        go_wp2
        go_ret
        exact ⟨ret_bool (same_not_sec HX.out HY.out (by have := HQ.out; simpa using this)), (HW.out.drewN _).drewN _⟩
      · have HQ := Lib.hid hq
        go_wp2
        go_quiet (fail)
        go_wp2
        go_roundw
        case rel =>
          have hxy : x = y := by have := HQ.out; simpa using this
          refine ⟨k + 1, m + nq, by omega, by go_num, by first | rfl | rw [World.drewN_drewN], take_succ_eqD heq.out HX.out ?_⟩
          rw [hxy]; exact HY.out
        case measure => simp [intOf]; omega
    · have HSS : Hid (a.sectors = b.sectors) := by
        have := heq.out
        rw [List.take_of_length_le (by omega), List.take_of_length_le (by have := N1.out; omega)] at this
        exact this
      clear heq
      go_wp2
      go_loopw [6] (fun i wr => ∃ k m : Nat, k ≤ a.pending.length ∧ i = .int .i64 k ∧ wr = W0.drewN m ∧ Hid (a.pending.take k = b.pending.take k)) (fun i _ => a.pending.length - (intOf i).toNat)
      case atStart => exact ⟨0, m, Nat.zero_le _, rfl, rfl, rfl⟩
      case round =>
        obtain ⟨j, m2, hj, rfl, rfl, heq⟩ := hrel
        by_cases hlt2 : j < a.pending.length
        · obtain ⟨x, hx, -⟩ := get_of_lt _ _ hlt2
          obtain ⟨y, hy, -⟩ := get_of_lt b.pending j (by omega)
          obtain ⟨b1, o1, A1, c1, rfl, hb1, p0, p1, r1, -, -⟩ := HP.out.get hx
          obtain ⟨b2, o2, A2, c2, rfl, hb2, s0, s1, r2, -, -⟩ := HP'.out.get hy
          have p0 := HW.out.keep p0
          have p1 := HW.out.keep p1
          have s0 := HW.out.keep s0
          have s1 := HW.out.keep s1
          have v1 := conv_at W0 (r1.ext HW.out)
          have v2 := conv_at W0 (r2.ext HW.out)
          have HX := Lib.hid hx
          have HY := Lib.hid hy
          have i1 : (0 : Int) ≤ (j : Int) := Int.natCast_nonneg _
          have i2 : (j : Int) < (a.pending.length : Int) := by omega
          have i3 : (j : Int) < (b.pending.length : Int) := by omega
          clear hx hy r1 r2
          cases ha : (x.1 != y.1)
          · have HA := Lib.hid ha
            cases hq : (x.2 == y.2)
            · have HQ := Lib.hid hq
              go_wp2
              go_quiet (fail)
              go_wp2
              go_ret
              exact ⟨ret_bool (same_not_pen HX.out HY.out (.inr (by have := HQ.out; simpa using this))), (HW.out.drewN _).drewN _⟩
            · have HQ := Lib.hid hq
              go_wp2
              go_quiet (fail)
              go_wp2
              go_roundw
              case rel =>
                have hxy : x = y := by
                  have h1 := HQ.out
                  have h2 := HA.out
                  simp at h1 h2
                  exact Prod.ext h2 h1
                refine ⟨j + 1, m2 + nq, by omega, by go_num, by first | rfl | rw [World.drewN_drewN], take_succ_eqD heq.out HX.out ?_⟩
                rw [hxy]; exact HY.out
              case measure => simp [intOf]; omega
          · have HA := Lib.hid ha
            go_wp2
            go_quiet (fail)
            go_wp2
            go_ret
            exact ⟨ret_bool (same_not_pen HX.out HY.out (.inl (by have := HA.out; simpa using this))), (HW.out.drewN _).drewN _⟩
        · go_wp2
          go_ret
          refine ⟨ret_bool ?_, HW.out.drewN _⟩
          have h2 := heq.out
          rw [List.take_of_length_le (by omega), List.take_of_length_le (by have := N2.out; omega)] at h2
          unfold Dk.same
          symm
          rw [decide_eq_true_eq]
          exact ⟨HSS.out, h2, N3.out, N4.out⟩

end Go.Proofs.Ytfmhnplkpohogaa

namespace Go.Proofs.Ytfmhnplkpohogaa
set_option maxRecDepth 100000
open Go.RowKit

variable {S S' : Nat → Prop}

attribute [local go_sem] make128

/-- Some disks that read; some blocks that are known whole: carried from world to world in one go. -/
def AllD (W : World) (l : List ((Nat → Prop) × Value × Dk)) : Prop := ∀ x ∈ l, RDk x.1 W x.2.1 x.2.2
def AllB (W : World) (l : List (Nat × TypeId × List Value)) : Prop := ∀ x ∈ l, Blk W x.1 x.2.1 x.2.2

theorem AllD.nil (W : World) : AllD W [] := fun _ h => by cases h
theorem AllB.nil (W : World) : AllB W [] := fun _ h => by cases h
theorem AllD.cons {W : World} {l : List ((Nat → Prop) × Value × Dk)} (h : AllD W l) {v : Value} {d : Dk} (hd : RDk S W v d) : AllD W ((S, v, d) :: l) := fun x hx => by
  cases hx with
  | head => exact hd
  | tail _ hx => exact h x hx
theorem AllB.cons {W : World} {l : List (Nat × TypeId × List Value)} (h : AllB W l) {n : Nat} {t : TypeId} {cs : List Value} (hb : Blk W n t cs) : AllB W ((n, t, cs) :: l) := fun x hx => by
  cases hx with
  | head => exact hb
  | tail _ hx => exact h x hx
theorem AllD.ext {W W' : World} {l : List ((Nat → Prop) × Value × Dk)} (h : AllD W l) (hx : Ext W W') : AllD W' l := fun x hm => (h x hm).ext hx
theorem AllB.ext {W W' : World} {l : List (Nat × TypeId × List Value)} (h : AllB W l) (hx : Ext W W') : AllB W' l := fun x hm => (h x hm).ext hx
theorem AllD.alloc {W : World} {l : List ((Nat → Prop) × Value × Dk)} (h : AllD W l) (o : Obj) : AllD (W.alloc o) l := h.ext ((Ext.refl _).alloc _)
theorem AllB.alloc {W : World} {l : List (Nat × TypeId × List Value)} (h : AllB W l) (o : Obj) : AllB (W.alloc o) l := h.ext ((Ext.refl _).alloc _)
theorem AllD.d0 {W : World} {x : (Nat → Prop) × Value × Dk} {l : List ((Nat → Prop) × Value × Dk)} (h : AllD W (x :: l)) : RDk x.1 W x.2.1 x.2.2 := h x (List.mem_cons_self ..)
theorem AllD.tl {W : World} {x : (Nat → Prop) × Value × Dk} {l : List ((Nat → Prop) × Value × Dk)} (h : AllD W (x :: l)) : AllD W l := fun y hy => h y (List.mem_cons_of_mem _ hy)
theorem AllB.b0 {W : World} {x : Nat × TypeId × List Value} {l : List (Nat × TypeId × List Value)} (h : AllB W (x :: l)) : Blk W x.1 x.2.1 x.2.2 := h x (List.mem_cons_self ..)
theorem AllB.tl {W : World} {x : Nat × TypeId × List Value} {l : List (Nat × TypeId × List Value)} (h : AllB W (x :: l)) : AllB W l := fun y hy => h y (List.mem_cons_of_mem _ hy)

end Go.Proofs.Ytfmhnplkpohogaa

namespace Go.Proofs.Ytfmhnplkpohogaa
open Go.RowKit

variable {S S' : Nat → Prop}

theorem RWs.pres {w w' : World} {v : Value} {l : List (Int × List UInt8)} (h : RWs S w v l) (hp : Pres S w w') : RWs S w' v l := h.keep hp.1 hp.2
theorem RDk.pres {w w' : World} {v : Value} {d : Dk} (h : RDk S w v d) (hp : Pres S w w') : RDk S w' v d := h.keep hp.1 hp.2
theorem RWr.subB {w : World} {cs : List Value} {x : Int × List UInt8} (h : RWr S w cs x) (hs : ∀ b, b < w.heap.size → S b → S' b) : RWr S' w cs x := by
  obtain ⟨v, hv, h⟩ := h; exact ⟨v, hv, h.subB hs⟩
theorem RWs.subB {w : World} {v : Value} {l : List (Int × List UInt8)} (h : RWs S w v l) (hs : ∀ b, b < w.heap.size → S b → S' b) : RWs S' w v l := RSl.subB h hs fun _ _ h => h.subB hs
theorem RDk.subB {w : World} {v : Value} {d : Dk} (h : RDk S w v d) (hs : ∀ b, b < w.heap.size → S b → S' b) : RDk S' w v d := by
  obtain ⟨A, n, c, B, m, e, hv, h1, h2⟩ := h; exact ⟨A, n, c, B, m, e, hv, h1.subB hs, h2.subB hs⟩

end Go.Proofs.Ytfmhnplkpohogaa

namespace Go.Proofs.Ytfmhnplkpohogaa
set_option maxRecDepth 100000
open Go.RowKit

variable {S S' : Nat → Prop}

def lenOf : Value → Nat | .slice _ n _ => n | _ => 0

end Go.Proofs.Ytfmhnplkpohogaa

namespace Go.Proofs.Ytfmhnplkpohogaa
open Go.RowKit Go.ChangeShapes Go.WideShapes Go.ChangeAt Go.Deep

section
variable {H : Type} {enc : TypeId × Value → H} {P : Program}

/-- The blocks that were there. -/
def Old (w : World) (b : Nat) : Prop := b < w.heap.size

theorem sameAt_of_ext {W W' : World} (hb : Ext W W') {p : MemPlace} (hp : p.block < W.heap.size) : W.sameAt W' p := by
  cases p with
  | cell b off => exact hb.cell hp
  | map b => exact hb.below.block b hp

theorem trodAll_ext {W W' : World} (hb : Ext W W') {sp : Nat → Bool} : ∀ {ts : List TypeId} {vs : List Value} {ds : List (DataW H)} {ps : List MemPlace},
    DataW.TrodAll enc P W 0 sp true ts vs ds ps → (∀ p ∈ ps, p.block < W.heap.size) → DataW.TrodAll enc P W' 0 sp true ts vs ds ps
  | [], [], [], _, h, _ => h
  | _ :: _, _ :: _, _ :: _, _, ⟨p, q, ⟨n, h1⟩, h2, e⟩, hs =>
    ⟨p, q, ⟨n, DataW.trod_carry n _ _ _ h1 (fun x hx => sameAt_of_ext hb (hs x (by rw [e]; exact List.mem_append_left _ hx)))⟩,
      trodAll_ext hb h2 (fun x hx => hs x (by rw [e]; exact List.mem_append_right _ hx)), e⟩

/-- What a law owes behind its call: it has returned true, and nothing that was there has changed. -/
theorem law_post {f : Func} {s : ChangeSpec} {W W' : World} {args : Array Value} {ds : List (DataW H)} {before : List MemPlace}
    (hl : laidOutB P = true) (hm : mapsRowed P = true) (hf : ((List.range P.types.size).all fun t => match P.underlying t with | some (.slice e) => decide (0 < P.cellsOf e) | _ => true) = true)
    (hts : ∀ t ∈ f.params.toList, t < P.types.size) (hv : s.vars = []) {tb : TypeId} (hr : f.resultTypes = #[tb]) (hb : P.underlying tb = some .bool)
    (hs : s.fn H ds = { results := [.lit (.bool true)], args := ds })
    (hW : DataW.Whole enc P f.params.toList s.vars false W args.toList ds [] before) (hx : Ext W W') :
    s.post enc P f false true false false W args (.bool true) W' := by
  have hlt : ∀ p ∈ before, p.block < W.heap.size := fun p hp => hW.lt p hp
  obtain ⟨p, q, hA, hV, rfl, hz, hn⟩ := id hW
  rw [hv] at hV
  have hq : q = [] := hV
  subst hq
  rw [List.append_nil] at hW hlt hz
  have again : ∀ sp : Nat → Bool, (∀ x ∈ p, sp x.block = true) → DataW.TrodAll enc P W' 0 sp true f.params.toList args.toList ds p := fun sp hsp =>
    trodAll_ext hx (DataW.TrodAll.respare (kids_rows hl hm) (fun t e ht hu => slices_full_of P hf t e ht hu) hts hA hsp) hlt
  have hold : ∀ x ∈ p, (fun b => decide (b < W.heap.size)) x.block = true := fun x hx => by simpa using hlt x hx
  have hres : ∀ (b : Nat) (sp : Nat → Bool) (hd : Bool), DataW.TrodAll enc P W' b sp hd f.resultTypes.toList ((Value.bool true).resultList f.resultTypes.size) [.lit (.bool true)] [] := fun b sp hd => by
    rw [hr]; exact trodAll_mk1 (shut_bool hb _)
  refine ⟨ds, [], p, [], p, [], hW, ?_, ?_, ?_, ?_, fun _ => ?_⟩
  · rw [List.append_nil, hs]; exact hres _ _ _
  · rw [List.append_nil, hs]; exact again _ hold
  · rw [List.append_nil, hs, hv]; rfl
  · refine World.keptBut_mono (fun x hx => ⟨hx, ?_⟩) (hx.below.frame (· ∈ p))
    exact Or.inr (by simpa using hx)
  · refine ⟨?_, [.lit (.bool true)] ++ ds, [], ([] ++ p) ++ [], ⟨[] ++ p, [], ?_, ?_, rfl, ?_, ?_⟩, ?_⟩
    · exact ok_one hr rfl (okWide_bool_mk hb _)
    · exact trodAll_append (again _ (fun _ _ => rfl)) (hres _ _ _)
    · rw [hv]; rfl
    · intro b off hp
      have hin : MemPlace.cell b off ∈ p := by simpa using hp
      rw [hx.frz b off (hlt _ hin)]
      exact hz b off hin
    · intro ha; cases ha
    · intro x hx _
      simpa using hx

/-- The weights of a datum are within reach. -/
def Reach (P : Program) (t : TypeId) (d : DataW H) : Prop := ∀ n ∈ d.weights P t, n ≤ reachBytes

theorem reach_of {ts : List TypeId} {ds : List (DataW H)} (h : (DataW.weightsEach P ts ds).all (· ≤ reachBytes) = true) {j : Nat} {t : TypeId} {d : DataW H} (ht : ts[j]? = some t) (hd : ds[j]? = some d) : Reach P t d := fun n hn => by
  have := List.all_eq_true.1 h n (DataW.weights_mem_each ht hd n hn)
  simpa using this

theorem weightsAll_mem {e : TypeId} {x : DataW H} {n : Nat} (hn : n ∈ x.weights P e) : ∀ {l : List (DataW H)}, x ∈ l → n ∈ DataW.weightsAll P e l
  | y :: l, h => by
    simp only [DataW.weightsAll, List.mem_append]
    cases h with
    | head => exact .inl hn
    | tail _ h => exact .inr (weightsAll_mem hn h)

theorem Reach.elem {t e : TypeId} {l s : List (DataW H)} (h : Reach P t (.slice l s)) (ht : P.underlying t = some (.slice e)) {x : DataW H} (hx : x ∈ l) : Reach P e x := fun n hn => h n (by
  simp only [DataW.weights, ht, List.mem_cons, List.mem_append]
  exact .inr (.inl (weightsAll_mem hn hx)))
theorem Reach.len {t e : TypeId} {l s : List (DataW H)} (h : Reach P t (.slice l s)) (ht : P.underlying t = some (.slice e)) : (l.length + s.length) * P.bytesOf e ≤ reachBytes := h _ (by
  simp [DataW.weights, ht])
theorem Reach.field {t : TypeId} {fs : Array Field} {l : List (DataW H)} (h : Reach P t (.agg l)) (ht : P.underlying t = some (.struct fs)) {j : Nat} {f : Field} {x : DataW H} (hf : fs[j]? = some f) (hx : l[j]? = some x) : Reach P f.type x := fun n hn => h n (by
  simp only [DataW.weights, ht]
  refine DataW.weights_mem_each (j := j) (t := f.type) (d := x) ?_ hx n hn
  rw [List.getElem?_map, Array.getElem?_toList, hf]; rfl)

end

/-- A choice for every index, as_ a list. -/
theorem list_of_lt {α : Type} {n : Nat} {p : Nat → α → Prop} (h : ∀ i, i < n → ∃ x, p i x) : ∃ l : List α, l.length = n ∧ ∀ i (hi : i < l.length), p i l[i] := by
  induction n with
  | zero => exact ⟨[], rfl, fun i hi => absurd hi (Nat.not_lt_zero _)⟩
  | succ n ih =>
    obtain ⟨l, hl, hp⟩ := ih (fun i hi => h i (Nat.lt_succ_of_lt hi))
    obtain ⟨x, hx⟩ := h n (Nat.lt_succ_self n)
    refine ⟨l ++ [x], by simp [hl], fun i hi => ?_⟩
    by_cases hlt : i < l.length
    · rw [List.getElem_append_left hlt]; exact hp i hlt
    · have : i = l.length := by simp at hi; omega
      subst this
      simp only [List.getElem_append_right (Nat.le_refl _), Nat.sub_self, List.getElem_cons_zero]
      rw [hl]; exact hx

section
variable {H : Type} {enc : TypeId × Value → H} {P : Program} {W : World}

theorem flat_length {α : Type} {l : List (List α)} {k : Nat} (h : ∀ x ∈ l, x.length = k) : l.flatten.length = l.length * k := by
  induction l with
  | nil => simp
  | cons x l ih =>
    rw [List.flatten_cons, List.length_append, ih (fun y hy => h y (List.mem_cons_of_mem _ hy)), h x (List.mem_cons_self ..), List.length_cons, Nat.add_mul, Nat.one_mul, Nat.add_comm]

theorem chunk_flat {l : List (List Value)} {k : Nat} (h : ∀ x ∈ l, x.length = k) : ∀ i (hi : i < l.length), chunk k l.flatten i = l[i] := by
  induction l with
  | nil => intro i hi; exact absurd hi (Nat.not_lt_zero _)
  | cons x l ih =>
    intro i hi
    have hx := h x (List.mem_cons_self ..)
    unfold chunk
    cases i with
    | zero => simp [hx]
    | succ i =>
      rw [List.flatten_cons, Nat.add_mul, Nat.one_mul, List.drop_append, List.drop_eq_nil_of_le (by omega), List.nil_append, hx, Nat.add_sub_cancel]
      exact ih (fun y hy => h y (List.mem_cons_of_mem _ hy)) i (by simpa using hi)

theorem flat_get {l : List (List Value)} {k : Nat} (h : ∀ x ∈ l, x.length = k) {j : Nat} {u : Value} (hu : l.flatten[j]? = some u) (hk : 0 < k) : ∃ x, l[j / k]? = some x ∧ x[j % k]? = some u := by
  induction l generalizing j with
  | nil => simp at hu
  | cons x l ih =>
    have hx := h x (List.mem_cons_self ..)
    rw [List.flatten_cons] at hu
    by_cases hj : j < k
    · rw [List.getElem?_append_left (by omega)] at hu
      exact ⟨x, by simp [Nat.div_eq_of_lt hj], by rw [Nat.mod_eq_of_lt hj]; exact hu⟩
    · rw [List.getElem?_append_right (by omega), hx] at hu
      obtain ⟨y, h1, h2⟩ := ih (fun y hy => h y (List.mem_cons_of_mem _ hy)) hu
      have hd : j / k = (j - k) / k + 1 := by rw [← Nat.sub_add_cancel (by omega : k ≤ j), Nat.add_div_right _ hk, Nat.add_sub_cancel]
      refine ⟨y, by rw [hd]; simpa using h1, ?_⟩
      rwa [Nat.mod_eq_sub_mod (by omega)]

/-- Elements that are formed: one cell each. -/
def OneC (cs : List Value) : Prop := ∀ u ∈ cs, u.oneCell' = true

/-- A slice opens: each element by what its own reading gives. -/
theorem open_rsl {α : Type} {k : Nat} {R : World → List Value → α → Prop} {B : α → Prop} {t e : TypeId} {fuel : Nat} {cs : List Value} {x : DataW H × List MemPlace}
    (ht : P.underlying t = some (.slice e)) (hk : P.cellsOf e = k) (hk0 : 0 < k) (h : DataW.trod enc P W 0 (fun _ => true) true fuel t cs = some x) (hreach : Reach P t x.1)
    (hR : ∀ n cs' y, DataW.trod enc P W 0 (fun _ => true) true n e cs' = some y → Reach P e y.1 → ∃ a, R W cs' a ∧ B a ∧ OneC cs') :
    ∃ v l, cs = [v] ∧ RSl (Old W) k R W v l ∧ (∀ a ∈ l, B a) ∧ l.length * P.bytesOf e ≤ reachBytes ∧ v.oneCell' = true := by
  rcases open_slice ht h with ⟨rfl, rfl⟩ | ⟨a, len, cap, m, n, D, Pl, rfl, hb, hlc, hcm, hm, rfl, hi⟩
  · exact ⟨_, [], rfl, RSl.nil _, (fun a ha => by cases ha), (by simp), rfl⟩
  · simp only [if_true] at hm
    subst hm
    rw [hk] at hi
    have hsome : ∀ i, i < len → ∃ ya : List Value × α, (W.cells? 0 (a.add (i * k)) k = some ya.1 ∧ R W ya.1 ya.2) ∧ B ya.2 ∧ OneC ya.1 := fun i hil => by
      obtain ⟨cs', hc, htr⟩ := hi i (by omega)
      obtain ⟨y, h1, h2, h3⟩ := hR n cs' _ htr (hreach.elem ht (by simp only [List.mem_map]; exact ⟨i, List.mem_range.2 hil, rfl⟩))
      exact ⟨(cs', y), ⟨hc, h1⟩, h2, h3⟩
    obtain ⟨L, hL, hp⟩ := list_of_lt hsome
    have hlen : ∀ y ∈ L.map (·.1), y.length = k := fun y hy => by
      obtain ⟨z, hz, rfl⟩ := List.mem_map.1 hy
      obtain ⟨i, hil, rfl⟩ := List.getElem_of_mem hz
      exact (World.cells?_some (hp i hil).1.1).2.1
    have hcell : ∀ i (hil : i < L.length) (j : Nat) (u : Value), (L[i].1)[j]? = some u → W.cell? (a.add (i * k + j)) = some u := fun i hil j u hu => by
      obtain ⟨_, hl2, hat⟩ := World.cells?_some (hp i hil).1.1
      have hjk : j < k := by rw [← hl2]; exact (List.getElem?_eq_some_iff.1 hu).1
      have := hat j hjk
      rw [hu, add_add] at this
      exact this
    have hLl : (L.map (·.1)).length = L.length := List.length_map ..
    refine ⟨_, L.map (·.2), rfl, ⟨some a, m, (L.map (·.1)).flatten, by rw [List.length_map, hL], ⟨by rw [List.length_map]; omega, by simpa [maxLen] using hcm⟩, ⟨?_, ?_, fun h0 => ?_⟩, fun i hil => ?_, fun h0 => ?_⟩, fun y hy => ?_, ?_, rfl⟩
    · rw [flat_length hlen, hLl, List.length_map]
    · intro u hu
      obtain ⟨y, hy, hu⟩ := List.mem_flatten.1 hu
      obtain ⟨z, hz, rfl⟩ := List.mem_map.1 hy
      obtain ⟨i, hil, rfl⟩ := List.getElem_of_mem hz
      exact (hp i hil).2.2 u hu
    · rw [List.length_map] at h0
      have hc0 : ∃ u, W.cell? (a.add 0) = some u := by
        have h1 : (L[0].1)[0]? = some ((L[0].1)[0]'(by rw [hlen _ (List.mem_map.2 ⟨_, List.getElem_mem h0, rfl⟩)]; exact hk0)) := List.getElem?_eq_getElem _
        have := hcell 0 h0 0 _ h1
        rw [Nat.zero_mul, Nat.zero_add] at this
        exact ⟨_, this⟩
      obtain ⟨u0, hu0⟩ := hc0
      have ha0 : a.add 0 = a := by simp [Addr.add]
      rw [ha0] at hu0
      obtain ⟨b, off, spot⟩ := a
      have hspot : spot = none := World.cell?_spot hu0
      subst hspot
      refine ⟨b, off, rfl, World.block_lt_of_cell? W _ hu0, fun j u hu => ?_⟩
      obtain ⟨y, h1, h2⟩ := flat_get hlen hu hk0
      rw [List.getElem?_map] at h1
      obtain ⟨z, h3, rfl⟩ := Option.map_eq_some_iff.1 h1
      obtain ⟨hil, rfl⟩ := List.getElem?_eq_some_iff.1 h3
      have := hcell _ hil _ _ h2
      rw [Nat.mul_comm, Nat.div_add_mod] at this
      rw [← this]
      congr 1
      unfold Addr.add
      split <;> simp_all
    · rw [List.length_map] at hil
      rw [chunk_flat hlen i (by simpa using hil)]
      simp only [List.getElem_map]
      exact (hp i hil).1.2
    · rw [List.length_map] at h0
      have h1 : (L[0].1)[0]? = some ((L[0].1)[0]'(by rw [hlen _ (List.mem_map.2 ⟨_, List.getElem_mem h0, rfl⟩)]; exact hk0)) := List.getElem?_eq_getElem _
      have hu0 := hcell 0 h0 0 _ h1
      rw [Nat.zero_mul, Nat.zero_add] at hu0
      have ha0 : a.add 0 = a := by simp [Addr.add]
      rw [ha0] at hu0
      obtain ⟨b, off, spot⟩ := a
      have hspot : spot = none := World.cell?_spot hu0
      subst hspot
      exact ⟨b, off, rfl, World.block_lt_of_cell? W _ hu0⟩
    · obtain ⟨z, hz, rfl⟩ := List.mem_map.1 hy
      obtain ⟨i, hil, rfl⟩ := List.getElem_of_mem hz
      exact (hp i hil).2.1
    · have := hreach.len ht
      simp only [List.length_map, List.length_range] at this
      rw [List.length_map, hL]
      exact Nat.le_trans (Nat.mul_le_mul_right _ (Nat.le_add_right _ _)) this

/-- Bytes open. -/
theorem open_byte {e : TypeId} (he : P.underlying e = some (.int .u8)) (n : Nat) (cs' : List Value) (y : DataW H × List MemPlace) (h : DataW.trod enc P W 0 (fun _ => true) true n e cs' = some y) : ∃ c : UInt8, RByte W cs' c ∧ True ∧ OneC cs' := by
  obtain ⟨m, rfl, _, hw⟩ := DataW.trod_int he h
  have hb : 0 ≤ m ∧ m ≤ 255 := by simpa [Lit.wf, IntKind.min, IntKind.max, IntKind.signed, IntKind.bits] using hw
  refine ⟨UInt8.ofNat m.toNat, ?_, trivial, fun u hu => ?_⟩
  · unfold RByte
    have : (UInt8.ofNat m.toNat).toNat = m.toNat := by rw [UInt8.toNat_ofNat']; omega
    rw [this, Int.toNat_of_nonneg hb.1]
  · simp at hu; subst hu; rfl

theorem open_bytes {t e : TypeId} (ht : P.underlying t = some (.slice e)) (he : P.underlying e = some (.int .u8)) (hc : P.cellsOf e = 1) (hby : P.bytesOf e = 1) {n : Nat} {cs : List Value} {y : DataW H × List MemPlace}
    (h : DataW.trod enc P W 0 (fun _ => true) true n t cs = some y) (hr : Reach P t y.1) : ∃ v l, cs = [v] ∧ RBs (Old W) W v l ∧ l.length ≤ 140737488351232 ∧ v.oneCell' = true := by
  obtain ⟨v, l, h1, h2, _, h4, h5⟩ := open_rsl (k := 1) (R := RByte) (B := fun _ => True) ht hc (by omega) h hr (fun n cs' y hy _ => open_byte he n cs' y hy)
  refine ⟨v, l, h1, h2, ?_, h5⟩
  rw [hby, Nat.mul_one] at h4
  exact h4

end

end Go.Proofs.Ytfmhnplkpohogaa

namespace Go.Proofs.Ytfmhnplkpohogaa
open Go.RowKit

variable {S S' : Nat → Prop}

theorem RDk.clip {w : World} {v : Value} {d : Dk} (h : RDk S w v d) : RDk (Clip S w) w v d := h.subB fun _ hb hs => ⟨hs, hb⟩
theorem RDk.all {w : World} {v : Value} {d : Dk} (h : RDk S w v d) : RDk (fun _ => True) w v d := h.sub fun _ _ => trivial
theorem same_self (d : Dk) : d.same d = true := by simp [Dk.same]
end Go.Proofs.Ytfmhnplkpohogaa

namespace Go.Proofs.Ytfmhnplkpohogaa

theorem runs_of {d : Dk} (h1 : 1 ≤ d.sectors.length) (h2 : d.sectors.length ≤ 4096) (h3 : d.pending.length ≤ 4096) (h4 : -1 ≤ d.left) (h5 : d.left ≤ 65536) (h6 : d.stopped = false)
    (h7 : ∀ x ∈ d.pending, 0 ≤ x.1 ∧ x.1 < d.sectors.length ∧ x.2.length = 128) (h8 : ∀ x ∈ d.sectors, x.length = 128) : d.runs = true := by
  have hb : d.bad = false := by
    rw [Bool.eq_false_iff]
    unfold Dk.bad
    simp only [Bool.or_eq_true, decide_eq_true_eq, List.any_eq_true, badWrite, badSector, Bool.not_eq_true', decide_eq_false_iff_not, ne_eq]
    rintro ((((((h | h) | h) | h) | h) | ⟨x, hx, h⟩) | ⟨x, hx, h⟩) <;> try omega
    · have := h7 x hx; omega
    · exact h (h8 x hx)
  unfold Dk.runs Dk.check
  rw [hb, h6]; rfl

theorem runs_check {d : Dk} (h : d.runs = true) : d.check = 0 := by
  unfold Dk.runs at h; simp at h; exact h.1

theorem has_iff {d : Dk} {n : Int} : d.has n = true ↔ 0 ≤ n ∧ n < d.sectors.length := by unfold Dk.has; simp

theorem write_good {d : Dk} {n : Int} {b : List UInt8} (hr : d.runs = true) (hh : d.has n = true) (hb : b.length ≤ 128) (hp : d.pending.length < 4096) : d.write n b = (⟨d.sectors, d.pending ++ [(n, fill128 b)], d.left, d.stopped⟩, 0) := by
  unfold Dk.write
  rw [hr, hh, if_neg (by simp), if_neg (by omega), if_neg (by omega)]

end Go.Proofs.Ytfmhnplkpohogaa

namespace Go.Proofs.Ytfmhnplkpohogaa

/-! sectors, one after the other, as_ writes -/
def atL : Nat → List (List UInt8) → List (Int × List UInt8)
  | _, [] => []
  | k, s :: ss => (((k : Nat) : Int), s) :: atL (k + 1) ss
theorem atL_len : ∀ (k : Nat) (ss : List (List UInt8)), (atL k ss).length = ss.length
  | _, [] => rfl
  | k, s :: ss => by rw [atL, List.length_cons, List.length_cons, atL_len]
theorem atL_app : ∀ (k : Nat) (ss ts : List (List UInt8)), atL k (ss ++ ts) = atL k ss ++ atL (k + ss.length) ts
  | k, [], ts => by simp [atL]
  | k, s :: ss, ts => by rw [List.cons_append, atL, atL, List.cons_append, atL_app, List.length_cons, show k + 1 + ss.length = k + (ss.length + 1) by omega]
theorem atL_mem : ∀ (k : Nat) (ss : List (List UInt8)), ∀ x ∈ atL k ss, (k : Int) ≤ x.1 ∧ x.1 < (k + ss.length : Nat) ∧ x.2 ∈ ss
  | _, [], x, h => by cases h
  | k, s :: ss, x, h => by
    rcases List.mem_cons.1 h with rfl | h
    · refine ⟨by show (k : Int) ≤ (k : Nat); omega, by show ((k : Nat) : Int) < _; rw [List.length_cons]; omega, by simp⟩
    · obtain ⟨h1, h2, h3⟩ := atL_mem (k + 1) ss x h
      exact ⟨by omega, by rw [List.length_cons]; omega, by simp [h3]⟩
theorem set_app {α : Type} (a : List α) (x y : α) (c : List α) : (a ++ x :: c).set a.length y = a ++ y :: c := by
  rw [List.set_append_right _ _ (Nat.le_refl _), Nat.sub_self]; rfl
theorem perform_atL : ∀ (ss a b c : List (List UInt8)), b.length = ss.length → performL (a ++ b ++ c) (atL a.length ss) = a ++ ss ++ c
  | [], a, b, c, h => by
    have : b = [] := List.eq_nil_of_length_eq_zero h
    subst this; rfl
  | s :: ss, a, b, c, h => by
    rcases b with _ | ⟨y, b⟩
    · cases h
    · show performL ((a ++ y :: b ++ c).set ((a.length : Nat) : Int).toNat s) (atL (a.length + 1) ss) = _
      rw [show ((a.length : Nat) : Int).toNat = a.length from rfl, List.append_assoc, List.cons_append, set_app]
      have ih := perform_atL ss (a ++ [s]) b c (by simpa using h)
      rw [List.length_append, List.length_singleton] at ih
      simp only [List.append_assoc, List.singleton_append, List.cons_append, List.nil_append] at ih ⊢
      exact ih
theorem perform_at {L ss : List (List UInt8)} {k : Nat} (h : k + ss.length ≤ L.length) : performL L (atL k ss) = L.take k ++ ss ++ L.drop (k + ss.length) := by
  have e := perform_atL ss (L.take k) ((L.drop k).take ss.length) (L.drop (k + ss.length)) (by rw [List.length_take, List.length_drop]; omega)
  rw [List.length_take, Nat.min_eq_left (by omega), List.append_assoc] at e
  rw [show (L.drop k).take ss.length ++ L.drop (k + ss.length) = L.drop k by rw [← List.drop_drop]; exact List.take_append_drop _ _, List.take_append_drop] at e
  exact e

/-! pieces, one by one -/
theorem pieces_get (g : Nat) : ∀ {n k : Nat} {first : Bool} {b : List UInt8} {j : Nat}, j < n → (pieces g n k first b)[j]? = some (encL g (k + j) (kindOf (first && j == 0) (n == j + 1)) ((b.drop (112 * j)).take 112))
  | 0, _, _, _, _, h => absurd h (by omega)
  | n + 1, k, first, b, 0, _ => by
    rw [pieces, List.getElem?_cons_zero, Nat.mul_zero, List.drop_zero, Nat.add_zero]
    have : (n + 1 == 0 + 1) = (n == 0) := by cases n <;> rfl
    rw [this]
    cases first <;> rfl
  | n + 1, k, first, b, j + 1, h => by
    rw [pieces, List.getElem?_cons_succ, pieces_get g (by omega : j < n), List.drop_drop, show k + 1 + j = k + (j + 1) by omega, show 112 + 112 * j = 112 * (j + 1) by omega]
    have h1 : (n + 1 == j + 1 + 1) = (n == j + 1) := by simp
    rw [h1]
    cases first <;> rfl
theorem pieces_take (g : Nat) {n k : Nat} {b : List UInt8} {j : Nat} (h : j < n) : (pieces g n k true b).take (j + 1) = (pieces g n k true b).take j ++ [encL g (k + j) (kindOf (j == 0) (n == j + 1)) ((b.drop (112 * j)).take 112)] := by
  rw [List.take_add_one, pieces_get g h]
  rfl
theorem allSecs_take (g : Nat) : ∀ {rs : List (List UInt8)} {k i : Nat} {b : List UInt8}, rs[i]? = some b → allSecs g k (rs.take (i + 1)) = allSecs g k (rs.take i) ++ pieces g (secs b.length) (k + usedL (rs.take i)) true b
  | [], _, _, _, h => by cases h
  | r :: rs, k, 0, b, h => by
    have : r = b := by simpa using h
    subst this
    rw [List.take_succ_cons, List.take_zero, List.take_zero, allSecs, allSecs, allSecs, usedL_nil]; simp
  | r :: rs, k, i + 1, b, h => by
    have ih := allSecs_take g (rs := rs) (k := k + secs r.length) (i := i) (b := b) (by simpa using h)
    rw [List.take_succ_cons, List.take_succ_cons, allSecs, allSecs, ih, usedL_cons, List.append_assoc, Nat.add_assoc]

/-! what Sync answers -/
/-- the disk with some sectors written behind one another -/
def Dk.wr (d : Dk) (k : Nat) (ss : List (List UInt8)) : Dk := ⟨d.sectors, atL k ss, d.left, d.stopped⟩
def Lg.at (l : Lg) : Nat := usedL (l.recs.take l.synced.toNat)
def Lg.secs (l : Lg) (d : Dk) : List (List UInt8) := allSecs (maxG d.sectors + 1) l.at (l.recs.drop l.synced.toNat)
def Lg.sync (l : Lg) (d : Dk) : Lg × Dk × Int :=
  if l.check ≠ 0 then (Lg.zero, Dk.zero, l.check)
  else if d.check ≠ 0 then (Lg.zero, Dk.zero, d.check)
  else if d.stopped = false ∧ l.many ≠ (d.sectors.length : Nat) then (Lg.zero, Dk.zero, 1)
  else if openE d ≠ 0 then (Lg.zero, Dk.zero, openE d)
  else if recsOf d.sectors ≠ l.recs.take l.synced.toNat ∨ 4294967296 ≤ maxG d.sectors + 1 then (Lg.zero, Dk.zero, 390)
  else if l.synced = (l.recs.length : Nat) then (l, d, 0)
  else if (d.wr l.at (l.secs d)).sync.2 ≠ 0 then (Lg.zero, (d.wr l.at (l.secs d)).sync.1, (d.wr l.at (l.secs d)).sync.2)
  else (⟨l.many, l.recs, (l.recs.length : Nat)⟩, (d.wr l.at (l.secs d)).sync.1, 0)
section
variable {l : Lg} {d : Dk}
theorem sync_1 (h : l.check ≠ 0) : l.sync d = (Lg.zero, Dk.zero, l.check) := if_pos h
theorem sync_2 (h : l.check = 0) (h2 : d.check ≠ 0) : l.sync d = (Lg.zero, Dk.zero, d.check) := by rw [Lg.sync, if_neg (by omega), if_pos h2]
theorem sync_3 (h : l.check = 0) (h2 : d.check = 0) (h3 : d.stopped = false) (h4 : l.many ≠ (d.sectors.length : Nat)) : l.sync d = (Lg.zero, Dk.zero, 1) := by rw [Lg.sync, if_neg (by omega), if_neg (by omega), if_pos ⟨h3, h4⟩]
theorem sync_4 (h : l.check = 0) (h2 : d.check = 0) (h3 : d.stopped = true ∨ l.many = (d.sectors.length : Nat)) (h4 : openE d ≠ 0) : l.sync d = (Lg.zero, Dk.zero, openE d) := by
  rw [Lg.sync, if_neg (by omega), if_neg (by omega), if_neg (by rintro ⟨a, b⟩; rcases h3 with c | c; exact absurd (a.symm.trans c) (by decide); exact b c), if_pos h4]
theorem many_of (h : openE d = 0) : d.check = 0 ∧ d.stopped = false ∧ d.pending = [] := by
  unfold openE at h
  split at h
  · rename_i c; exact absurd h c
  · rename_i c
    split at h
    · cases h
    · rename_i c2
      split at h
      · cases h
      · rename_i c3
        exact ⟨by omega, by simpa using c2, List.eq_nil_of_length_eq_zero (by omega)⟩
theorem sync_5 (h : l.check = 0) (h3 : l.many = (d.sectors.length : Nat)) (h4 : openE d = 0) (h5 : recsOf d.sectors ≠ l.recs.take l.synced.toNat ∨ 4294967296 ≤ maxG d.sectors + 1) : l.sync d = (Lg.zero, Dk.zero, 390) := by
  rw [Lg.sync, if_neg (by omega), if_neg (by rw [(many_of h4).1]; omega), if_neg (by rintro ⟨a, b⟩; exact b h3), if_neg (by omega), if_pos h5]
/-- the way to the writes is free -/
structure Goes (l : Lg) (d : Dk) : Prop where
  lc : l.check = 0
  many : l.many = (d.sectors.length : Nat)
  op : openE d = 0
  rcs : recsOf d.sectors = l.recs.take l.synced.toNat
  gn : maxG d.sectors + 1 < 4294967296
theorem sync_6 (h : Goes l d) (h6 : l.synced = (l.recs.length : Nat)) : l.sync d = (l, d, 0) := by
  rw [Lg.sync, if_neg (by rw [h.lc]; omega), if_neg (by rw [(many_of h.op).1]; omega), if_neg (by rintro ⟨a, b⟩; exact b h.many), if_neg (by rw [h.op]; omega), if_neg (by rintro (a | a); exact a h.rcs; have := h.gn; omega), if_pos h6]
theorem sync_7 (h : Goes l d) (h6 : l.synced ≠ (l.recs.length : Nat)) (h7 : (d.wr l.at (l.secs d)).sync.2 ≠ 0) : l.sync d = (Lg.zero, (d.wr l.at (l.secs d)).sync.1, (d.wr l.at (l.secs d)).sync.2) := by
  rw [Lg.sync, if_neg (by rw [h.lc]; omega), if_neg (by rw [(many_of h.op).1]; omega), if_neg (by rintro ⟨a, b⟩; exact b h.many), if_neg (by rw [h.op]; omega), if_neg (by rintro (a | a); exact a h.rcs; have := h.gn; omega), if_neg h6, if_pos h7]
theorem sync_8 (h : Goes l d) (h6 : l.synced ≠ (l.recs.length : Nat)) (h7 : (d.wr l.at (l.secs d)).sync.2 = 0) : l.sync d = (⟨l.many, l.recs, (l.recs.length : Nat)⟩, (d.wr l.at (l.secs d)).sync.1, 0) := by
  rw [Lg.sync, if_neg (by rw [h.lc]; omega), if_neg (by rw [(many_of h.op).1]; omega), if_neg (by rintro ⟨a, b⟩; exact b h.many), if_neg (by rw [h.op]; omega), if_neg (by rintro (a | a); exact a h.rcs; have := h.gn; omega), if_neg h6, if_neg (by omega)]
theorem check_facts (h : l.check = 0) : 1 ≤ l.many ∧ l.many ≤ 4096 ∧ 0 ≤ l.synced ∧ l.synced ≤ (l.recs.length : Nat) ∧ usedW l.recs ≤ l.many := by
  unfold Lg.check at h
  split at h
  · cases h
  · rename_i c; omega
theorem check_used (h : l.check = 0) (hu : usedL l.recs < 9223372036854775808) : usedL l.recs ≤ l.many.toNat := by
  have := check_facts h
  rw [usedW_small hu] at this
  omega
theorem usedL_split (l : List (List UInt8)) (k : Nat) : usedL (l.take k) + usedL (l.drop k) = usedL l := by
  rw [← usedL_app, List.take_append_drop]
theorem usedL_take_le (l : List (List UInt8)) (k : Nat) : usedL (l.take k) ≤ usedL l := by have := usedL_split l k; omega
theorem Goes.room (h : Goes l d) (hu : usedL l.recs < 9223372036854775808) : l.at + usedL (l.recs.drop l.synced.toNat) ≤ d.sectors.length ∧ d.sectors.length ≤ 4096 := by
  have h1 := check_used h.lc hu
  have h2 := usedL_split l.recs l.synced.toNat
  have h3 := check_facts h.lc
  have h4 := h.many
  unfold Lg.at
  omega
theorem Goes.runs (h : Goes l d) : d.runs = true := by
  obtain ⟨h1, h2, -⟩ := many_of h.op
  exact runs_of_check h1 h2
theorem wr_nil (h : Goes l d) (k : Nat) : d = d.wr k [] := by
  have h3 := (many_of h.op).2.2
  rcases d with ⟨a, b, c, e⟩
  cases h3
  rfl
theorem wr_runs (h : Goes l d) {k : Nat} {ss : List (List UInt8)} (hk : k + ss.length ≤ d.sectors.length) (h128 : ∀ s ∈ ss, s.length = 128) : (d.wr k ss).runs = true := by
  obtain ⟨f1, f2, f3, f4, f5, f6, f7, f8⟩ := runs_facts h.runs
  refine runs_of f1 f2 (by show (atL k ss).length ≤ 4096; rw [atL_len]; omega) f4 f5 (many_of h.op).2.1 (fun x hx => ?_) f8
  obtain ⟨h1, h2, h3⟩ := atL_mem _ _ x hx
  exact ⟨by omega, by show x.1 < (d.sectors.length : Nat); omega, h128 _ h3⟩
theorem wr_write (h : Goes l d) {k : Nat} {ss : List (List UInt8)} {s : List UInt8} (hk : k + ss.length < d.sectors.length) (h128 : ∀ s ∈ ss, s.length = 128) (hs : s.length = 128) : (d.wr k ss).write (k + ss.length : Nat) s = (d.wr k (ss ++ [s]), 0) := by
  have h2 := (runs_facts h.runs).2.1
  rw [write_good (wr_runs h (by omega) h128) (has_iff.2 ⟨by omega, by show _ < (d.sectors.length : Int); omega⟩) (by omega) (by show (atL k ss).length < 4096; rw [atL_len]; omega)]
  have e : fill128 s = s := by unfold fill128; rw [hs]; simp
  rw [e]
  unfold Dk.wr
  rw [atL_app]
  rfl
end

end Go.Proofs.Ytfmhnplkpohogaa

namespace Go.Proofs.Ytfmhnplkpohogaa
open Go.RowKit

variable {S S' S2 : Nat → Prop}

/-- values that read as_ byte strings -/
def RVS (S : Nat → Prop) (w : World) (vs : List Value) (l : List (List UInt8)) : Prop := vs.length = l.length ∧ ∀ i (h : i < l.length) (h' : i < vs.length), RBs S w vs[i] l[i]
theorem RVS.of {w : World} {A : Option Addr} {n c : Nat} {l : List (List UInt8)} (h : RBss S w (.slice A n c) l) : n = l.length ∧ ∃ vs, Cel w 1 A n vs ∧ RVS S w vs l := by
  obtain ⟨hn, -, vs, hc, hv⟩ := RSl.cel h
  have hl : vs.length = l.length := by have := hc.1; omega
  refine ⟨hn, vs, hc, hl, fun i h1 h2 => ?_⟩
  obtain ⟨v, e, hr⟩ := hv i h1
  rw [chunk_one h2] at e
  injection e with e
  exact e ▸ hr
theorem RVS.keep {w w' : World} {vs : List Value} {l : List (List UInt8)} (h : RVS S w vs l) (hz : w.heap.size ≤ w'.heap.size) (hk : ∀ b, S b → b < w.heap.size → w'.heap[b]? = w.heap[b]?) : RVS S w' vs l := ⟨h.1, fun i h1 h2 => (h.2 i h1 h2).keep hz hk⟩
theorem RVS.sub {w : World} {vs : List Value} {l : List (List UInt8)} (h : RVS S w vs l) (hs : ∀ b, S b → S' b) : RVS S' w vs l := ⟨h.1, fun i h1 h2 => (h.2 i h1 h2).sub hs⟩
theorem RVS.snoc {w : World} {vs : List Value} {l : List (List UInt8)} {u : Value} {b : List UInt8} (h : RVS S w vs l) (hu : RBs S w u b) : RVS S w (vs ++ [u]) (l ++ [b]) := by
  refine ⟨by simp [h.1], fun i h1 h2 => ?_⟩
  by_cases hi : i < l.length
  · rw [List.getElem_append_left hi, List.getElem_append_left (by rw [h.1]; exact hi)]
    exact h.2 i hi _
  · simp only [List.length_append, List.length_singleton] at h1
    have e : i = l.length := by omega
    subst e
    rw [List.getElem_append_right (Nat.le_refl _), List.getElem_append_right (by rw [h.1]; exact Nat.le_refl _)]
    simp only [h.1, Nat.sub_self, List.getElem_cons_zero]
    exact hu
theorem RVS.one {w : World} {vs : List Value} {l : List (List UInt8)} (h : RVS S w vs l) : ∀ u ∈ vs, u.oneCell' = true := fun u hu => by
  obtain ⟨i, hi, rfl⟩ := List.getElem_of_mem hu
  exact RBs.one (h.2 i (by rw [← h.1]; exact hi) hi)
theorem RVS.bss {base : Nat} {e : TypeId} {v : Value} {n : Nat} {w : World} {vs : List Value} {l : List (List UInt8)} (h : RVS S w vs l) (hr : w.ownsRow base e 1 v n vs) : RBss (fun b => S b ∨ base ≤ b) w v l := by
  have hl := hr.1
  refine RSl.own hr (fun b hb => .inr hb) (by have := h.1; omega) h.one fun i hi => ?_
  have hi' : i < vs.length := by rw [h.1]; exact hi
  rw [chunk_one hi']
  exact ⟨_, rfl, (h.2 i hi hi').sub fun b hb => .inl hb⟩
section
variable {N : Nat} {m : List (Nat × Value)} {a : Act} {P : Program} {ops : Array Oper} {Q : Exit → Act → World → Prop} {i : Nat} {w : World} {o : Oper} {K : Act → World → Prop} {d : Nat}
/-- one more behind a full slice -/
theorem o_appS {t e : TypeId} {z : Value} {bytes : Nat} (E : El P t e z 1 bytes) (hF : Sl N m a) (ho : ops[i]? = some o) (hw : Region.wanted o (yielded ops a.tmps) = true) (hd : o.dst = some d) (hN : Nat.blt d N = true) {s x : Operand}
    (hop : o.op = .call { callee := .builtin .append, args := #[s, x], argTypes := #[t, t] }) {A : Option Addr} {n : Nat} (hs : a.eval s = .slice A n n) {g : Nat} {u : Value} (hx : a.eval x = .slice (some ⟨g, 0, none⟩) 1 1)
    {l : List (List UInt8)} {b : List UInt8} (hl : RBss S w (.slice A n n) l) {te : TypeId} (hg : Blk w g te [u]) (hu : RBs S w u b) (h63 : n + 1 ≤ 9223372036854775807) (hbytes : (n + 1) * bytes ≤ 140737488355328)
    (h : ∀ A' c' w' a', Sl N ((d, .slice A' (n + 1) c') :: m) a' → RBss (fun k => S k ∨ w.heap.size ≤ k) w' (.slice A' (n + 1) c') (l ++ [b]) → Ext w w' → K a' w') : wpOp P ops Q i K a w := by
  obtain ⟨hn, vs, hc, hv⟩ := RVS.of hl
  have hcx := hg.cel (k := 1) (m := 1) rfl (by simp [hu.one])
  obtain ⟨v', w', hrun, h1, h2, h3⟩ := run_app_full (P := P) (ty := o.type) (c := 1) E hc hcx (by omega) h63 hbytes
  obtain ⟨A', c', rfl, h4, h5⟩ := own_any h1
  refine op_wp ho hw ?_
  unfold Oper.wp execOp
  simp only [hop, resolve, invoke, builtin, Sem.run_bind, Sem.run_pure, Result.andThen_ok, List.map_toArray, List.map_cons, List.map_nil, hs, hx, hrun]
  exact h A' c' w' _ (by rw [hd]; exact hF.put hN) (RVS.bss ((hv.snoc hu).keep h2.size fun k hk hlt => h2.below.block k hlt) h1) h2
/-- a list behind a literal of nothing -/
theorem o_appL {t e : TypeId} {z : Value} {bytes : Nat} (E : El P t e z 1 bytes) (hF : Sl N m a) (ho : ops[i]? = some o) (hw : Region.wanted o (yielded ops a.tmps) = true) (hd : o.dst = some d) (hN : Nat.blt d N = true) {s x : Operand}
    (hop : o.op = .call { callee := .builtin .append, args := #[s, x], argTypes := #[t, t] }) {g : Nat} (hs : a.eval s = .slice (some ⟨g, 0, none⟩) 0 0) {A : Option Addr} {n c : Nat} (hx : a.eval x = .slice A n c)
    {l : List (List UInt8)} (hg : Blk w g e []) (hl : RBss S w (.slice A n c) l) (hS : ∀ b, S b → b ≠ g) (h63 : n ≤ 9223372036854775807) (hbytes : n * bytes ≤ 140737488355328)
    (h : ∀ A' c' vs w' a', Sl N ((d, .slice A' n c') :: m) a' → w'.ownsRow g e 1 (.slice A' n c') n vs → RVS S w' vs l → w.grownBy w' (some g) → (∀ b, b < w.heap.size → b ≠ g → some b ≠ (Value.slice A' n c').ownBlock) → n ≤ c' → K a' w') : wpOp P ops Q i K a w := by
  obtain ⟨hn, vs, hc, hv⟩ := RVS.of hl
  refine o_appB E hF ho hw hd hN hop hs hx (own_blk0 hg) hc (Nat.le_of_lt hg.lt) (by omega) (by rw [Nat.zero_add]; exact hbytes) (List.nil_append _) fun A' c' w' a' hF' h1 h2 h3 h4 h5 => ?_
  rw [Nat.zero_add] at hF' h1 h3 h5
  exact h A' c' vs w' a' hF' h1 (hv.keep h2.size fun b hb hlt => h2.block b hlt (fun e => hS b hb (by injection e))) h2 (fun b hb hne => h5 b hb (fun e => hne (by injection e))) h3
/-- one more behind that -/
theorem o_appR {t e : TypeId} {z : Value} {bytes : Nat} (E : El P t e z 1 bytes) (hF : Sl N m a) (ho : ops[i]? = some o) (hw : Region.wanted o (yielded ops a.tmps) = true) (hd : o.dst = some d) (hN : Nat.blt d N = true) {s x : Operand}
    (hop : o.op = .call { callee := .builtin .append, args := #[s, x], argTypes := #[t, t] }) {A : Option Addr} {n c : Nat} (hs : a.eval s = .slice A n c) {g : Nat} {u : Value} (hx : a.eval x = .slice (some ⟨g, 0, none⟩) 1 1)
    {l : List (List UInt8)} {b : List UInt8} {base : Nat} {vs : List Value} (hr : w.ownsRow base e 1 (.slice A n c) n vs) (hv : RVS S w vs l) {te : TypeId} (hg : Blk w g te [u]) (hu : RBs S w u b)
    (hS : ∀ k, S k → some k ≠ (Value.slice A n c).ownBlock) (hbase : base ≤ w.heap.size) (h63 : n + 1 ≤ 9223372036854775807) (hbytes : (n + 1) * bytes ≤ 140737488355328)
    (h : ∀ A' c' w' a', Sl N ((d, .slice A' (n + 1) c') :: m) a' → RBss (fun k => S k ∨ base ≤ k) w' (.slice A' (n + 1) c') (l ++ [b]) → w.grownBy w' (Value.slice A n c).ownBlock → K a' w') : wpOp P ops Q i K a w := by
  have hcx := hg.cel (k := 1) (m := 1) rfl (by simp [hu.one])
  refine o_appB E hF ho hw hd hN hop hs hx hr hcx hbase h63 hbytes rfl fun A' c' w' a' hF' h1 h2 h3 h4 h5 => ?_
  exact h A' c' w' a' hF' (RVS.bss ((hv.snoc hu).keep h2.size fun k hk hlt => h2.block k hlt (hS k hk)) h1) h2
end

/-- what an operation on a log returns -/
def LogRet (S : Nat → Prop) (w : World) (x : Lg × Int) (e : Ending) (w' : World) : Prop := ∃ A c, e = .returned (.tuple #[.agg #[.int .i64 x.1.many, .slice A x.1.recs.length c, .int .i64 x.1.synced], .int .i64 x.2]) ∧ RBss (Fr S w) w' (.slice A x.1.recs.length c) x.1.recs ∧ Ext w w'
theorem log_fin {w w' : World} {x : Lg × Int} {m s n : Int} {R : List (List UInt8)} {A : Option Addr} {k c : Nat} (he : x = (⟨m, R, s⟩, n)) (h : RBss S' w' (.slice A k c) R) (hS : ∀ b, S' b → Fr S w b) (hx : Ext w w') : LogRet S w x (.returned (.tuple #[.agg #[.int .i64 m, .slice A k c, .int .i64 s], .int .i64 n])) w' := by
  subst he
  obtain ⟨rfl, -⟩ := RBss.at h
  exact ⟨A, c, rfl, h.sub hS, hx⟩
theorem log_err {w w' : World} {x : Lg × Int} {n : Int} (he : x = (Lg.zero, n)) (hx : Ext w w') : LogRet S w x (.returned (.tuple #[.agg #[.int .i64 0, .slice none 0 0, .int .i64 0], .int .i64 n])) w' :=
  log_fin (R := []) (S' := fun _ => False) he (RSl.nil _) (fun _ h => h.elim) hx
theorem RBss.full0 {w : World} {A : Option Addr} {n c : Nat} {l : List (List UInt8)} (h : RBss S w (.slice A n c) l) : RBss S w (.slice A n n) l := by
  obtain ⟨A', cap, xs, hv, hc, hl, hr, hs⟩ := h
  cases hv
  exact ⟨A, l.length, xs, rfl, ⟨Nat.le_refl _, by omega⟩, hl, hr, hs⟩
section
variable {P : Program} {ρ : Operand → Value} {W : World} {d : Option Tmp} {t : TypeId} {p : String} {af : Array Edge} {g : Option (Nat × Bool)} {x y : Operand}
theorem rn_max2N {s : TypeId} {a b : Nat} {u : TypeDesc} (hu : P.underlying s = some u) (hx : ρ x = .int .i64 (a : Nat)) (hy : ρ y = .int .i64 (b : Nat)) : (execOp ρ ⟨d, .call { callee := .builtin .max, args := #[x, y], argTypes := #[s, s] }, t, p, af, g⟩).run P W = .ok (.value (.int .i64 ((max a b : Nat) : Int))) W := by
  rw [show ((max a b : Nat) : Int) = max (a : Int) b by omega]
  exact rn_max2 hu hx hy
theorem rn_min2N {s : TypeId} {a b : Nat} {u : TypeDesc} (hu : P.underlying s = some u) (hx : ρ x = .int .i64 (a : Nat)) (hy : ρ y = .int .i64 (b : Nat)) : (execOp ρ ⟨d, .call { callee := .builtin .min, args := #[x, y], argTypes := #[s, s] }, t, p, af, g⟩).run P W = .ok (.value (.int .i64 ((min a b : Nat) : Int))) W := by
  rw [show ((min a b : Nat) : Int) = min (a : Int) b by omega]
  exact rn_min2 hu hx hy
end

end Go.Proofs.Ytfmhnplkpohogaa

namespace Go.Proofs.Ytfmhnplkpohogaa
open Go.RowKit

variable {S S' S2 : Nat → Prop}

theorem retCC1 {N : Nat} {m : List (Nat × Value)} {a : Act} {P : Program} {fn : Func} {R : Ending → World → Prop} {w : World} {t t2 u b b2 : Nat} {ty tt ty2 tt2 : TypeId} {cs cs2 : List Value} {v2 : Value} {td td2 : TypeDesc} (hF : Sl N m a) (hr : fn.results = #[.cell t ty, .cell t2 ty2, .tmp u])
    (hv : look m t = some (.pointer (some ⟨b, 0, none⟩))) (hv2 : look m t2 = some (.pointer (some ⟨b2, 0, none⟩))) (hu : look m u = some v2)
    (hB : Blk w b tt cs) (hty : P.underlying ty = some td) (hd : aggTy td = true) (hi : (P.info? ty).map (·.size) = some cs.length)
    (hB2 : Blk w b2 tt2 cs2) (hty2 : P.underlying ty2 = some td2) (hd2 : aggTy td2 = true) (hi2 : (P.info? ty2).map (·.size) = some cs2.length) (h : R (.returned (.tuple #[.agg cs.toArray, .agg cs2.toArray, v2])) w) : bodyPost P fn R .ret a w := by
  have h1 := hF.get hv
  have h3 := hF.get hv2
  have h2 := hF.get hu
  simp only [Act.eval] at h1 h2 h3
  refine bodyPost_ret ?_ hF.2.1 h
  have := run_loadVar_row (P := P) w b tt ty cs.toArray (0, 0) td hB hty (by cases td <;> simp_all [aggTy]) (by simpa using hi)
  have this2 := run_loadVar_row (P := P) w b2 tt2 ty2 cs2.toArray (0, 0) td2 hB2 hty2 (by cases td2 <;> simp_all [aggTy]) (by simpa using hi2)
  rw [Array.getD_eq_getD_getElem?] at h1 h2 h3
  simp [results, hr, h1, h2, h3, asAddr, this, this2]

/-! lists that are equal so far -/
theorem take_eqR {R T : List (List UInt8)} {k : Nat} {x y : List UInt8} (h : R.take k = T.take k) (hx : R[k]? = some x) (hy : T[k]? = some y) (e : x = y) : R.take (k + 1) = T.take (k + 1) := by
  rw [List.take_add_one, List.take_add_one, hx, hy, e, h]
theorem ne_atR {R T : List (List UInt8)} {k : Nat} {x y : List UInt8} (hx : R[k]? = some x) (hy : T[k]? = some y) (e : x ≠ y) : decide (R = T) = false := decide_eq_false fun h => e (by
  subst h
  rw [hx] at hy
  exact Option.some.inj hy)
theorem ne_lenR {R T : List (List UInt8)} (e : R.length ≠ T.length) : decide (R = T) = false := decide_eq_false fun h => e (by rw [h])
theorem eq_allR {R T : List (List UInt8)} {k : Nat} (h : R.take k = T.take k) (h1 : k = R.length) (h2 : R.length = T.length) : decide (R = T) = true := decide_eq_true (by
  subst h1
  rw [List.take_length, h2, List.take_length] at h
  exact h)
def Lg.same (a b : Lg) : Bool := decide (a.many = b.many ∧ a.synced = b.synced ∧ a.recs = b.recs)
theorem same_ne {m s m2 s2 : Int} {R T : List (List UInt8)} (h : m ≠ m2 ∨ s ≠ s2) : (Lg.mk m R s).same (Lg.mk m2 T s2) = false := decide_eq_false fun e => by
  rcases h with h | h
  · exact h e.1
  · exact h e.2.1
theorem same_ok {m s m2 s2 : Int} {R T : List (List UInt8)} (h1 : m = m2) (h2 : s = s2) : (Lg.mk m R s).same (Lg.mk m2 T s2) = decide (R = T) := by simp [Lg.same, h1, h2]
section
variable {P : Program} {ρ : Operand → Value} {W : World} {d : Option Tmp} {t xt yt : TypeId} {p : String} {af : Array Edge} {g : Option (Nat × Bool)} {x y : Operand}
theorem b_or8 (a b : UInt8) : (binOp .or t (.int .u8 (a.toNat : Nat)) (.int .u8 (b.toNat : Nat))).run P W = .ok (.int .u8 ((a ||| b).toNat : Nat)) W := by
  show Sem.run P (pure (Value.int .u8 (IntKind.u8.wrap ((BitVec.ofInt IntKind.u8.bits ((a.toNat : Nat) : Int) ||| BitVec.ofInt IntKind.u8.bits ((b.toNat : Nat) : Int)).toNat : Nat)))) W = _
  rw [ofInt8, ofInt8, Sem.run_pure, wrap8n _ (BitVec.isLt _)]
  rfl
theorem rn_or8 {a b : UInt8} (hx : ρ x = .int .u8 (a.toNat : Nat)) (hy : ρ y = .int .u8 (b.toNat : Nat)) : (execOp ρ ⟨d, .binOp .or xt x y yt, t, p, af, g⟩).run P W = .ok (.value (.int .u8 ((a ||| b).toNat : Nat))) W := rn_bin hx hy guard_int (b_or8 a b)
end
theorem args0_2 {ρ : Operand → Value} {x0 x1 : Operand} {v0 v1 : Value} (h0 : ρ x0 = v0) (h1 : ρ x1 = v1) : #[] ++ #[x0, x1].map ρ = #[v0, v1] := by simp [h0, h1]

/-! what lies behind: x[l:], x[l:h] -/
def cutA (A : Option Addr) (c l sz : Nat) : Option Addr := if c = l then A else A.map (·.add (l * sz))
theorem cutA_eq {A : Option Addr} {b off c l sz : Nat} (hA : A = some ⟨b, off, none⟩) (h : c ≠ l) : cutA A c l sz = some ⟨b, off + l * sz, none⟩ := by
  rw [cutA, if_neg h, hA, Option.map_some, addr_add]
section
variable {P : Program} {ρ : Operand → Value} {W : World} {d : Option Tmp} {t : TypeId} {p : String} {af : Array Edge} {g : Option (Nat × Bool)}
theorem rn_cutLo {s e : TypeId} {x y : Operand} {A : Option Addr} {n c sz l : Nat} {k : IntKind} (hu : P.underlying s = some (.slice e)) (hi : (P.info? e).map (·.size) = some sz) (hx : ρ x = .slice A n c) (hy : ρ y = .int k (l : Int)) (h1 : l ≤ n) :
    (execOp ρ ⟨d, .slice s x (some y) none none, t, p, af, g⟩).run P W = .ok (.value (.slice (cutA A c l sz) (n - l) (c - l))) W := by
  have hb : (Instr.sliceBound (.int k (l : Int)) n .sliceB).run P W = .ok l W := by rw [bound_ok (by omega) (by omega)]; simp
  simp [execOp, Instr.sliceAt, Instr.slice, Instr.sliceBounds, run_underlying hu, hx, hy, hb, size_of hi, cutA]
end
theorem Fl.cutmid {w : World} {A : Option Addr} {n c l h : Nat} {y : List UInt8} (hf : Fl S w 1 (.slice A n c) n (byteVals y)) (h1 : l ≤ h) (h2 : h ≤ n) : Fl S w 1 (.slice (cutA A c l 1) (h - l) (c - l)) (h - l) (byteVals ((y.drop l).take (h - l))) := by
  have hy := hf.blen
  obtain ⟨A', c', e, hc, hcel, hs⟩ := hf
  cases e
  refine ⟨_, _, rfl, ⟨by omega, by omega⟩, ⟨by rw [byteVals_len rfl, List.length_take, List.length_drop]; omega, byteVals_one _, fun h0 => ?_⟩, fun h0 => ?_⟩
  · obtain ⟨b, off, ha, hb, hx⟩ := hcel.2.2 (by omega)
    refine ⟨b, off + l * 1, cutA_eq ha (by omega), hb, fun j u hu => ?_⟩
    rw [← byteVals_take, ← byteVals_drop, List.getElem?_take] at hu
    split at hu
    · rw [List.getElem?_drop] at hu
      rw [Nat.mul_one, Nat.add_assoc]
      exact hx _ u hu
    · cases hu
  · obtain ⟨b, off, ha, hb⟩ := hs (by omega)
    exact ⟨b, off + l * 1, cutA_eq ha (by omega), hb⟩
theorem Fl.cut {w : World} {A : Option Addr} {n c l : Nat} {y : List UInt8} (hf : Fl S w 1 (.slice A n c) n (byteVals y)) (h1 : l ≤ n) : Fl S w 1 (.slice (cutA A c l 1) (n - l) (c - l)) (n - l) (byteVals (y.drop l)) := by
  have hy := hf.blen
  have := hf.cutmid h1 (Nat.le_refl n)
  rwa [List.take_of_length_le (by rw [List.length_drop]; omega)] at this
theorem RBss.cut {w : World} {A : Option Addr} {n c j : Nat} {l : List (List UInt8)} (h : RBss S w (.slice A n c) l) (hj : j ≤ n) : RBss S w (.slice (cutA A c j 1) (n - j) (c - j)) (l.drop j) := by
  obtain ⟨A', cap, xs, hv, hc, ⟨hl1, hl2, hl3⟩, hr, hs⟩ := h
  cases hv
  have e1 : xs.length = l.length := by omega
  have hn : l.length - j = (l.drop j).length := by rw [List.length_drop]
  rw [hn]
  refine ⟨_, c - j, xs.drop j, rfl, ⟨by rw [List.length_drop]; omega, by omega⟩, ⟨by rw [List.length_drop, List.length_drop]; omega, fun u hu => hl2 u (List.mem_of_mem_drop hu), fun h0 => ?_⟩, fun i hi => ?_, fun h0 => ?_⟩
  · rw [List.length_drop] at h0
    obtain ⟨b', off', ha, hb, hx⟩ := hl3 (by omega)
    exact ⟨b', off' + j * 1, cutA_eq ha (by omega), hb, fun i u hu => by rw [Nat.mul_one, Nat.add_assoc]; exact hx _ u (by rw [List.getElem?_drop] at hu; exact hu)⟩
  · rw [List.length_drop] at hi
    obtain ⟨v, e, hr2⟩ := hr (j + i) (by omega)
    rw [chunk_one (by omega)] at e
    rw [chunk_one (by rw [List.length_drop]; omega)]
    injection e with e
    refine ⟨v, by rw [List.getElem_drop, e], ?_⟩
    rw [List.getElem_drop]
    exact hr2
  · rw [List.length_drop] at h0
    obtain ⟨b', off', ha, hS⟩ := hs (by omega)
    exact ⟨b', off' + j * 1, cutA_eq ha (by omega), hS⟩
theorem calls_conv {P : Program} {f : FuncId} {args : Array Value} {w : World} {d d' : Dk} {n n' : Int} (h : Calls P f args w (RDE S w d n)) (e1 : d = d') (e2 : n = n') : Calls P f args w (RDE S w d' n') := by
  subst e1 e2; exact h
theorem take_min {l : List UInt8} {n : Nat} (h : l.length = n) : l.take (min n 112) = l.take 112 := by
  subst h
  by_cases hn : l.length ≤ 112
  · rw [Nat.min_eq_left hn, List.take_length, List.take_of_length_le hn]
  · rw [Nat.min_eq_right (by omega)]
theorem drop_min {l : List UInt8} {n : Nat} (h : l.length = n) : l.drop (min n 112) = l.drop 112 := by
  subst h
  by_cases hn : l.length ≤ 112
  · rw [Nat.min_eq_left hn, List.drop_length, List.drop_eq_nil_of_le hn]
  · rw [Nat.min_eq_right (by omega)]
/-- what Sync returns -/
def SyncRet (S : Nat → Prop) (w : World) (x : Lg × Dk × Int) (e : Ending) (w' : World) : Prop := ∃ A c v, e = .returned (.tuple #[.agg #[.int .i64 x.1.many, .slice A x.1.recs.length c, .int .i64 x.1.synced], v, .int .i64 x.2.2]) ∧ RBss (Fr S w) w' (.slice A x.1.recs.length c) x.1.recs ∧ RDk (Fr S w) w' v x.2.1 ∧ Ext w w'
theorem lsync_fin {w w' : World} {x : Lg × Dk × Int} {m s n : Int} {R : List (List UInt8)} {A : Option Addr} {c : Nat} {v : Value} {d : Dk} (he : x = (⟨m, R, s⟩, d, n)) (h : RBss S' w' (.slice A R.length c) R) (hS : ∀ b, S' b → Fr S w b) (hd : RDk S2 w' v d) (hS2 : ∀ b, S2 b → Fr S w b) (hx : Ext w w') :
    SyncRet S w x (.returned (.tuple #[.agg #[.int .i64 m, .slice A R.length c, .int .i64 s], v, .int .i64 n])) w' := by
  subst he
  exact ⟨A, c, v, rfl, h.sub hS, hd.sub hS2, hx⟩
theorem lsync_err {w w' : World} {x : Lg × Dk × Int} {n : Int} (he : x = (Lg.zero, Dk.zero, n)) (hx : Ext w w') : SyncRet S w x (.returned (.tuple #[.agg #[.int .i64 0, .slice none 0 0, .int .i64 0], .agg #[.slice none 0 0, .slice none 0 0, .int .i64 0, .bool false], .int .i64 n])) w' :=
  lsync_fin (R := []) (S' := fun _ => False) (S2 := fun _ => False) he (RSl.nil _) (fun _ h => h.elim) (RDk.zero _) (fun _ h => h.elim) hx
theorem lsync_bad {w w' : World} {x : Lg × Dk × Int} {n : Int} {d : Dk} {v : Value} (he : x = (Lg.zero, d, n)) (hd : RDk S2 w' v d) (hS2 : ∀ b, S2 b → Fr S w b) (hx : Ext w w') : SyncRet S w x (.returned (.tuple #[.agg #[.int .i64 0, .slice none 0 0, .int .i64 0], v, .int .i64 n])) w' :=
  lsync_fin (R := []) (S' := fun _ => False) he (RSl.nil _) (fun _ h => h.elim) hd hS2 hx
/-! kinds of pieces -/
theorem kind_last {q : UInt8} {j n : Nat} (hq : q = kindOf (j == 0) false) (h : n = j + 1) : q ||| 2 = kindOf (j == 0) (n == j + 1) := by
  subst h
  rw [hq]
  simp only [beq_self_eq_true]
  cases (j == 0) <;> rfl
theorem kind_mid {q : UInt8} {j n : Nat} (hq : q = kindOf (j == 0) false) (h : n ≠ j + 1) : q = kindOf (j == 0) (n == j + 1) := by
  rw [hq, show (n == j + 1) = false by simpa using h]
theorem kind_next (j : Nat) : (0 : UInt8) = kindOf (j + 1 == 0) false := rfl

/-! the writes of Sync, piece by piece -/
theorem Fl.piece {w : World} {A : Option Addr} {c j : Nat} {x : List UInt8} (hf : Fl S w 1 (.slice A (x.length - 112 * j) c) (x.length - 112 * j) (byteVals (x.drop (112 * j)))) :
    Fl S w 1 (.slice (cutA A c (min (x.length - 112 * j) 112) 1) (x.length - 112 * (j + 1)) (c - min (x.length - 112 * j) 112)) (x.length - 112 * (j + 1)) (byteVals (x.drop (112 * (j + 1)))) := by
  have h := hf.cut (l := min (x.length - 112 * j) 112) (Nat.min_le_left _ _)
  rw [drop_min (by rw [List.length_drop]), List.drop_drop, show x.length - 112 * j - min (x.length - 112 * j) 112 = x.length - 112 * (j + 1) by omega, show 112 * j + 112 = 112 * (j + 1) by omega] at h
  exact h
theorem Fl.start {w : World} {A : Option Addr} {c : Nat} {x : List UInt8} (hf : Fl S w 1 (.slice A x.length c) x.length (byteVals x)) : Fl S w 1 (.slice A (x.length - 112 * 0) c) (x.length - 112 * 0) (byteVals (x.drop (112 * 0))) := hf
theorem ts_next {g a0 : Nat} {ss ts : List (List UInt8)} {x : List UInt8} {j : Nat} {q : UInt8} (hts : ts = ss ++ (pieces g (secs x.length) (a0 + ss.length) true x).take j) (hj : j < secs x.length) (hl : ts.length = ss.length + j) (hq : q = kindOf (j == 0) (secs x.length == j + 1)) :
    ts ++ [encL g (a0 + ts.length) q ((x.drop (112 * j)).take (min (x.length - 112 * j) 112))] = ss ++ (pieces g (secs x.length) (a0 + ss.length) true x).take (j + 1) := by
  rw [pieces_take g hj, ← List.append_assoc, ← hts, take_min (by rw [List.length_drop]), hq, hl, Nat.add_assoc]
theorem ts_len {g a0 : Nat} {ss ts : List (List UInt8)} {x : List UInt8} {j : Nat} (hts : ts = ss ++ (pieces g (secs x.length) (a0 + ss.length) true x).take j) (hj : j ≤ secs x.length) : ts.length = ss.length + j := by
  rw [hts, List.length_append, List.length_take, pieces_len]; omega
theorem ts_128 {g a0 : Nat} {ss ts : List (List UInt8)} {x : List UInt8} {j : Nat} (hts : ts = ss ++ (pieces g (secs x.length) (a0 + ss.length) true x).take j) (hs : ∀ z ∈ ss, z.length = 128) : ∀ z ∈ ts, z.length = 128 := fun z hz => by
  rw [hts] at hz
  rcases List.mem_append.1 hz with h | h
  · exact hs z h
  · exact pieces_128 _ _ _ _ _ z (List.mem_of_mem_take h)
theorem ss_next {g a0 : Nat} {ns ss ts : List (List UInt8)} {x : List UInt8} {k j : Nat} (hss : ss = allSecs g a0 (ns.take k)) (hx : ns[k]? = some x) (hts : ts = ss ++ (pieces g (secs x.length) (a0 + ss.length) true x).take j) (hj : j = secs x.length) : ts = allSecs g a0 (ns.take (k + 1)) := by
  have hl : ss.length = usedL (ns.take k) := by rw [hss, allSecs_len]
  rw [hts, hj, List.take_of_length_le (by rw [pieces_len]; omega), allSecs_take g hx, ← hl, ← hss]
theorem ss_room {g a0 : Nat} {ns ss : List (List UInt8)} {x : List UInt8} {k : Nat} (hss : ss = allSecs g a0 (ns.take k)) (hx : ns[k]? = some x) : ss.length + secs x.length ≤ usedL ns := by
  have h := usedL_split ns (k + 1)
  rw [List.take_add_one, hx, usedL_app] at h
  have e : usedL (some x).toList = secs x.length := by show usedL [x] = _; rw [usedL_cons, usedL_nil]; omega
  rw [hss, allSecs_len]; omega
theorem wr_all {m s : Int} {R : List (List UInt8)} {d xd : Dk} {g a0 k : Nat} {ns ss : List (List UInt8)} (ha0 : usedL (R.take s.toNat) = a0) (hns : R.drop s.toNat = ns) (hgg : g = maxG d.sectors + 1) (hss : ss = allSecs g a0 (ns.take k)) (hk : k = ns.length) (hxd : xd = d.wr a0 ss) :
    xd = d.wr (Lg.mk m R s).at ((Lg.mk m R s).secs d) := by
  subst ha0 hns hgg hk
  rw [hxd, hss, List.take_length]
  rfl

end Go.Proofs.Ytfmhnplkpohogaa

namespace Go.Proofs.Ytfmhnplkpohogaa
open Go.RowKit

variable {S S' : Nat → Prop}

set_option maxRecDepth 100000 in
set_option maxHeartbeats 1000000 in
theorem beq_any (A : Option Addr) (c : Nat) (a : List UInt8) (B : Option Addr) (e : Nat) (b : List UInt8) (w : World) (ha : Fl S w 1 (.slice A a.length c) a.length (byteVals a)) (hb : Fl S w 1 (.slice B b.length e) b.length (byteVals b)) :
  Calls Try.prog 43 #[.slice A a.length c, .slice B b.length e] w (fun e w' => e = .returned (.bool (decide (a = b))) ∧ Ext w w') := by
 have hca : Fl (Clip S w) w 1 (.slice A a.length c) a.length (byteVals a) := ha.clip
 have hcac := (Fl.cel hca).2.1
 have hcb : Fl (Clip S w) w 1 (.slice B b.length e) b.length (byteVals b) := hb.clip
 have hcbc := (Fl.cel hcb).2.1
 refine calls_enter (l := [(.slice A a.length c), (.slice B b.length e)]) Try.func43 rfl rfl rfl (fun aA hF => ?_)
 refine wp_seq_k (fun K1 hK1 => ?_)
 refine wp_region_lit ?_
 refine qv 0 (.bool false) hF rfl (rn_assign rfl) fun _ F3 => ?_; clear hF
 refine wpList_nil ?_
 refine hK1 _ _ ?_
 clear hK1
 refine wp_seq_k (fun K4 hK4 => ?_)
 refine wp_region_lit ?_
 refine qv 0 (.slice A a.length c) F3 rfl (rn_move (F3.get rfl)) fun _ F6 => ?_; clear F3
 refine qv 1 (strOf a) F6 rfl (rn_str (F6.get rfl) (Fl.rbs hca) Try.underlying35 Try.underlying5 Try.underlying9) fun _ F8 => ?_; clear F6
 refine qv 2 (.slice B b.length e) F8 rfl (rn_move (F8.get rfl)) fun _ F10 => ?_; clear F8
 refine qv 3 (strOf b) F10 rfl (rn_str (F10.get rfl) (Fl.rbs hcb) Try.underlying35 Try.underlying5 Try.underlying9) fun _ F12 => ?_; clear F10
 refine qv 4 (.bool (decide (a = b))) F12 rfl (rn_eqs (F12.get rfl) (F12.get rfl) rfl) fun _ F14 => ?_; clear F12
 refine qv 5 (.bool (decide (a = b))) F14 rfl (rn_assign (F14.get rfl)) fun _ F16 => ?_; clear F14
 refine wpList_nil ?_
 refine hK4 _ _ ?_
 clear hK4
 have F17 := (((F16.nil.c F16 4 rfl).c F16 1 rfl).c F16 0 rfl)
 clear F16
 refine wp_ret ?_
 refine ret1 F17 rfl rfl ?_
 exact ⟨rfl, (Ext.refl w)⟩

theorem beq_at {S2 : Nat → Prop} {v u : Value} {n m : Nat} (a b : List UInt8) (w : World) (ha : Fl S w 1 v n (byteVals a)) (hb : Fl S2 w 1 u m (byteVals b)) :
  Calls Try.prog 43 #[v, u] w (fun e w' => e = .returned (.bool (decide (a = b))) ∧ Ext w w') := by
 have h1 := ha.blen
 have h2 := hb.blen
 subst h1 h2
 obtain ⟨A, c, rfl, _⟩ := ha.form
 obtain ⟨B, e, rfl, _⟩ := hb.form
 exact beq_any (S := fun _ => True) A c a B e b w (ha.sub fun _ _ => trivial) (hb.sub fun _ _ => trivial)

set_option maxRecDepth 100000 in
set_option maxHeartbeats 1000000 in
theorem get_any (A : Option Addr) (c : Nat) (l : List UInt8) (w : World) (hf : Fl S w 1 (.slice A l.length c) l.length (byteVals l)) (h4 : l.length ≤ 4) :
  Calls Try.prog 41 #[.slice A l.length c] w (fun e w' => e = .returned (.int .u64 (num l : Nat)) ∧ Ext w w') := by
 have hc : Fl (Clip S w) w 1 (.slice A l.length c) l.length (byteVals l) := hf.clip
 have hcc := (Fl.cel hc).2.1
 refine calls_enter (l := [(.slice A l.length c)]) Try.func41 rfl rfl rfl (fun aA hF => ?_)
 refine wp_seq_k (fun K1 hK1 => ?_)
 refine wp_region_lit ?_
 refine qv 0 (.int .u64 0) hF rfl (rn_assign rfl) fun _ F3 => ?_; clear hF
 refine wpList_nil ?_
 refine hK1 _ _ ?_
 clear hK1
 refine wp_seq_k (fun K4 hK4 => ?_)
 refine wp_seq_k (fun K5 hK5 => ?_)
 refine wp_region_lit ?_
 refine qv 0 (.slice A l.length c) F3 rfl (rn_move (F3.get rfl)) fun _ F7 => ?_; clear F3
 refine qv 1 (.int .i64 (l.length : Nat)) F7 rfl (rn_len_slice Try.underlying35 (F7.get rfl)) fun _ F9 => ?_; clear F7
 refine qv 2 (.int .i64 0) F9 rfl (rn_move rfl) fun _ F11 => ?_; clear F9
 refine wpList_nil ?_
 refine hK5 _ _ ?_
 clear hK5
 refine wp_block ?_
 refine wp_loop (fun a' W => ∃ (k : Nat) (x : Nat), Sl 18 [(0, (.slice A l.length c)), (2, (.int .u64 (x : Nat))), (5, (.slice A l.length c)), (6, (.int .i64 (l.length : Nat))), (7, (.int .i64 (k : Nat)))] a' ∧ k ≤ l.length ∧ x = num (l.take k) ∧ Ext w W ∧ w.heap.size ≤ W.heap.size) (fun a' _ => l.length - (intOf (a'.eval (.tmp 7))).toNat) ⟨0, 0, (((((F11.nil.cons (q_get F11 (t := 7) rfl (by first | rfl | (congr 1; omega) | (congr 1; done)))).cons (q_get F11 (t := 6) rfl rfl)).cons (q_get F11 (t := 5) rfl rfl)).cons (q_get F11 (t := 2) rfl (by first | rfl | (congr 1; omega) | (congr 1; done)))).cons (q_get F11 (t := 0) rfl rfl)), (by omega), rfl, (Ext.refl w), (Nat.le_refl _)⟩ ?_
 clear F11
 rintro a12 w13 ⟨k, x, F14, hp16, hp17, hx15, hf18⟩
 have hL19 := F14
 have z20 := hx15.size
 have z21 := num_lt4 (l := l.take k) (by rw [List.length_take]; omega)
 have z22 := congrArg (256 * ·) hp17
 refine wp_seq_k (fun K23 hK23 => ?_)
 refine wp_region_lit ?_
 refine qv 0 (.bool (decide (((k : Nat) : Int) < ((l.length : Nat) : Int)))) F14 rfl (rn_lss (F14.get rfl) (F14.get rfl)) fun _ F25 => ?_; clear F14
 refine wpList_nil ?_
 refine hK23 _ _ ?_
 clear hK23
 refine wp_seq_k (fun K26 hK26 => ?_)
 by_cases hc27 : ((k : Nat) : Int) < ((l.length : Nat) : Int)
 ·skip
  refine wp_cond_true (c_true F25 rfl (decide_eq_true hc27)) ?_
  refine wp_skip ?_
  refine hK26 _ _ ?_
  clear hK26
  refine wp_seq_k (fun K28 hK28 => ?_)
  refine wp_block ?_
  refine wp_seq_k (fun K29 hK29 => ?_)
  refine wp_region_lit ?_
  have d33 := (hc.ext hx15)
  obtain ⟨b30, o31, hA32, -⟩ := Fl.at d33 (by omega)
  refine qv 0 (.pointer (some ⟨b30, o31 + k, none⟩)) F25 rfl (rn_index1 Try.underlying35 inf5 ((F25.get rfl).trans (by rw [hA32])) (F25.get rfl) (by omega : (0 : Int) ≤ (k : Nat)) (by omega : ((k : Nat) : Int) < ((l.length : Nat) : Int))) fun _ F35 => ?_; clear F25
  refine qv 1 (.int .u8 ((l.getD k 0).toNat : Nat)) F35 rfl (rn_load (isAgg_no Try.underlying5 rfl) (F35.get rfl) (Fl.cellAt d33 hA32 (byteVals_at (i := k) (by omega)))) fun _ F37 => ?_; clear F35
  refine qv 2 (.int .u8 ((l.getD k 0).toNat : Nat)) F37 rfl (rn_assign (F37.get rfl)) fun _ F39 => ?_; clear F37
  refine wpList_nil ?_
  refine hK29 _ _ ?_
  clear hK29
  refine wp_region_lit ?_
  refine qv 0 (.int .u64 (x : Nat)) F39 rfl (rn_move (F39.get rfl)) fun _ F41 => ?_; clear F39
  refine qv 1 (.int .u64 (x * 2 ^ 8 : Nat)) F41 rfl (rn_shlU (a := x) (n := 8) (F41.get rfl) rfl (by omega) (by omega)) fun _ F43 => ?_; clear F41
  refine qv 2 (.int .u8 ((l.getD k 0).toNat : Nat)) F43 rfl (rn_move (F43.get rfl)) fun _ F45 => ?_; clear F43
  have z46 := UInt8.toNat_lt (l.getD k 0)
  refine qv 3 (.int .u64 ((l.getD k 0).toNat : Nat)) F45 rfl (rn_convW Try.underlying5 Try.underlying68 (F45.get rfl) (cvn_64 ((l.getD k 0).toNat) (by omega))) fun _ F48 => ?_; clear F45
  refine qv 4 (.int .u64 ((x * 2 ^ 8) + ((l.getD k 0).toNat) : Nat)) F48 rfl (rn_orU (a := x * 2 ^ 8) (b := (l.getD k 0).toNat) (F48.get rfl) (F48.get rfl) (by omega) (by omega) (by omega)) fun _ F50 => ?_; clear F48
  refine qv 5 (.int .u64 ((x * 2 ^ 8) + ((l.getD k 0).toNat) : Nat)) F50 rfl (rn_assign (F50.get rfl)) fun _ F52 => ?_; clear F50
  refine wpList_nil ?_
  refine hK28 _ _ ?_
  clear hK28
  have F53 := (((((((F52.nil.c F52 4 rfl).c F52 8 rfl).c F52 7 rfl).c F52 6 rfl).c F52 5 rfl).c F52 2 rfl).c F52 0 rfl)
  clear F52
  refine wp_region_lit ?_
  refine qv 0 (.int .i64 (k + 1 : Nat)) F53 rfl (rn_addN (a := k) (b := 1) (F53.get rfl) rfl (by omega)) fun _ F55 => ?_; clear F53
  refine qv 1 (.int .i64 (k + 1 : Nat)) F55 rfl (rn_move (F55.get rfl)) fun _ F57 => ?_; clear F55
  refine wpList_nil ?_
  refine ⟨⟨(k + 1), (x * 2 ^ 8) + ((l.getD k 0).toNat), (((((F57.nil.cons (q_get F57 (t := 7) rfl (by first | rfl | (congr 1; omega) | (congr 1; done)))).cons (q_get F57 (t := 6) rfl rfl)).cons (q_get F57 (t := 5) rfl rfl)).cons (q_get F57 (t := 2) rfl (by first | rfl | (congr 1; omega) | (congr 1; done)))).cons (q_get F57 (t := 0) rfl rfl)), (by omega), (by rw [← take_snoc (by omega : k < l.length), num_app, ← hp17] <;> omega), ((Ext.refl w).trans hx15), (by omega)⟩, ?_⟩
  rw [F57.get (t := 7) rfl, hL19.get (t := 7) rfl]; simp [intOf] <;> omega
 ·skip
  refine wp_cond_false (c_false F25 rfl (decide_eq_false hc27)) ?_
  refine wp_exit ?_
  refine exit_then ?_
  refine exit_then ?_
  refine exit_here ?_
  refine hK4 _ _ ?_
  clear hK4
  refine wp_seq_k (fun K58 hK58 => ?_)
  refine wp_region_lit ?_
  refine qv 0 (.int .u64 (x : Nat)) F25 rfl (rn_move (F25.get rfl)) fun _ F60 => ?_; clear F25
  refine qv 1 (.int .u64 (x : Nat)) F60 rfl (rn_assign (F60.get rfl)) fun _ F62 => ?_; clear F60
  refine wpList_nil ?_
  refine hK58 _ _ ?_
  clear hK58
  refine wp_ret ?_
  refine ret1 F62 rfl rfl ?_
  have hk : k = l.length := by omega
  have hx := hp17
  rw [hk, List.take_length] at hx
  exact ⟨by rw [hx], ((Ext.refl w).trans hx15)⟩

theorem get_at {v : Value} {m : Nat} (l : List UInt8) (w : World) (hf : Fl S w 1 v m (byteVals l)) (h4 : m ≤ 4) :
  Calls Try.prog 41 #[v] w (fun e w' => e = .returned (.int .u64 (num l : Nat)) ∧ Ext w w') := by
 have hm := hf.blen
 subst hm
 obtain ⟨A, c, rfl, _⟩ := hf.form
 exact get_any A c l w hf h4

set_option maxRecDepth 100000 in
set_option maxHeartbeats 1000000 in
theorem sum9_any (A : Option Addr) (c : Nat) (l : List UInt8) (w : World) (hf : Fl S w 1 (.slice A l.length c) l.length (byteVals l)) :
  Calls Try.prog 65 #[.slice A l.length c] w (fun e w' => e = .returned (.int .u32 ((crc l).toNat : Nat)) ∧ Ext w w') := by
 have hc : Fl (Clip S w) w 1 (.slice A l.length c) l.length (byteVals l) := hf.clip
 have hcc := (Fl.cel hc).2.1
 refine calls_enter (l := [(.slice A l.length c)]) Try.func65 rfl rfl rfl (fun aA hF => ?_)
 refine wp_seq_k (fun K1 hK1 => ?_)
 refine wp_region_lit ?_
 refine qv 0 (.int .u32 0) hF rfl (rn_assign rfl) fun _ F3 => ?_; clear hF
 refine wpList_nil ?_
 refine hK1 _ _ ?_
 clear hK1
 refine wp_seq_k (fun K4 hK4 => ?_)
 refine wp_region_lit ?_
 refine qv 0 (.int .u32 4294967295) F3 rfl (rn_assign rfl) fun _ F6 => ?_; clear F3
 refine wpList_nil ?_
 refine hK4 _ _ ?_
 clear hK4
 refine wp_seq_k (fun K7 hK7 => ?_)
 refine wp_seq_k (fun K8 hK8 => ?_)
 refine wp_region_lit ?_
 refine qv 0 (.slice A l.length c) F6 rfl (rn_move (F6.get rfl)) fun _ F10 => ?_; clear F6
 refine qv 1 (.int .i64 (l.length : Nat)) F10 rfl (rn_len_slice Try.underlying35 (F10.get rfl)) fun _ F12 => ?_; clear F10
 refine qv 2 (.int .i64 0) F12 rfl (rn_move rfl) fun _ F14 => ?_; clear F12
 refine wpList_nil ?_
 refine hK8 _ _ ?_
 clear hK8
 refine wp_block ?_
 refine wp_loop (fun a' W => ∃ (k : Nat) (x : UInt32), Sl 28 [(0, (.slice A l.length c)), (2, (.int .u32 0)), (3, (.int .u32 (x.toNat : Nat))), (6, (.slice A l.length c)), (7, (.int .i64 (l.length : Nat))), (8, (.int .i64 (k : Nat)))] a' ∧ k ≤ l.length ∧ x = crcL (l.take k) ∧ Ext w W ∧ w.heap.size ≤ W.heap.size) (fun a' _ => l.length - (intOf (a'.eval (.tmp 8))).toNat) ⟨0, 4294967295, ((((((F14.nil.cons (q_get F14 (t := 8) rfl (by first | rfl | (congr 1; omega) | (congr 1; done)))).cons (q_get F14 (t := 7) rfl rfl)).cons (q_get F14 (t := 6) rfl rfl)).cons (q_get F14 (t := 3) rfl (by first | rfl | (congr 1; omega) | (congr 1; done)))).cons (q_get F14 (t := 2) rfl rfl)).cons (q_get F14 (t := 0) rfl rfl)), (by omega), rfl, (Ext.refl w), (Nat.le_refl _)⟩ ?_
 clear F14
 rintro a15 w16 ⟨k, x, F17, hp19, hp20, hx18, hf21⟩
 have hL22 := F17
 have z23 := hx18.size
 refine wp_seq_k (fun K24 hK24 => ?_)
 refine wp_region_lit ?_
 refine qv 0 (.bool (decide (((k : Nat) : Int) < ((l.length : Nat) : Int)))) F17 rfl (rn_lss (F17.get rfl) (F17.get rfl)) fun _ F26 => ?_; clear F17
 refine wpList_nil ?_
 refine hK24 _ _ ?_
 clear hK24
 refine wp_seq_k (fun K27 hK27 => ?_)
 by_cases hc28 : ((k : Nat) : Int) < ((l.length : Nat) : Int)
 ·skip
  refine wp_cond_true (c_true F26 rfl (decide_eq_true hc28)) ?_
  refine wp_skip ?_
  refine hK27 _ _ ?_
  clear hK27
  refine wp_seq_k (fun K29 hK29 => ?_)
  refine wp_block ?_
  refine wp_seq_k (fun K30 hK30 => ?_)
  refine wp_region_lit ?_
  have d34 := (hc.ext hx18)
  obtain ⟨b31, o32, hA33, -⟩ := Fl.at d34 (by omega)
  refine qv 0 (.pointer (some ⟨b31, o32 + k, none⟩)) F26 rfl (rn_index1 Try.underlying35 inf5 ((F26.get rfl).trans (by rw [hA33])) (F26.get rfl) (by omega : (0 : Int) ≤ (k : Nat)) (by omega : ((k : Nat) : Int) < ((l.length : Nat) : Int))) fun _ F36 => ?_; clear F26
  refine qv 1 (.int .u8 ((l.getD k 0).toNat : Nat)) F36 rfl (rn_load (isAgg_no Try.underlying5 rfl) (F36.get rfl) (Fl.cellAt d34 hA33 (byteVals_at (i := k) (by omega)))) fun _ F38 => ?_; clear F36
  refine qv 2 (.int .u8 ((l.getD k 0).toNat : Nat)) F38 rfl (rn_assign (F38.get rfl)) fun _ F40 => ?_; clear F38
  refine wpList_nil ?_
  refine hK30 _ _ ?_
  clear hK30
  refine wp_seq_k (fun K41 hK41 => ?_)
  refine wp_region_lit ?_
  refine qv 0 (.int .u32 (x.toNat : Nat)) F40 rfl (rn_move (F40.get rfl)) fun _ F43 => ?_; clear F40
  refine qv 1 (.int .u8 ((l.getD k 0).toNat : Nat)) F43 rfl (rn_move (F43.get rfl)) fun _ F45 => ?_; clear F43
  refine qv 2 (.int .u32 (((l.getD k 0).toUInt32).toNat : Nat)) F45 rfl (rn_convW Try.underlying5 Try.underlying91 (F45.get rfl) (cv8_32 (l.getD k 0))) fun _ F47 => ?_; clear F45
  refine qv 3 (.int .u32 ((x ^^^ ((l.getD k 0).toUInt32)).toNat : Nat)) F47 rfl (rn_xor32 (a := x) (b := ((l.getD k 0).toUInt32)) (F47.get rfl) (F47.get rfl)) fun _ F49 => ?_; clear F47
  refine qv 4 (.int .u32 ((x ^^^ ((l.getD k 0).toUInt32)).toNat : Nat)) F49 rfl (rn_assign (F49.get rfl)) fun _ F51 => ?_; clear F49
  refine wpList_nil ?_
  refine hK41 _ _ ?_
  clear hK41
  have F52 := ((((((((F51.nil.c F51 5 rfl).c F51 9 rfl).c F51 8 rfl).c F51 7 rfl).c F51 6 rfl).c F51 3 rfl).c F51 2 rfl).c F51 0 rfl)
  clear F51
  refine wp_seq_k (fun K53 hK53 => ?_)
  refine wp_region_lit ?_
  refine qv 0 (.int .i64 0) F52 rfl (rn_move rfl) fun _ F55 => ?_; clear F52
  refine wpList_nil ?_
  refine hK53 _ _ ?_
  clear hK53
  refine wp_block ?_
  refine wp_loop (fun a' W => ∃ (j : Nat) (y : UInt32), Sl 28 [(0, (.slice A l.length c)), (2, (.int .u32 0)), (3, (.int .u32 (y.toNat : Nat))), (6, (.slice A l.length c)), (7, (.int .i64 (l.length : Nat))), (8, (.int .i64 (k : Nat))), (9, (.bool (decide (((k : Nat) : Int) < ((l.length : Nat) : Int))))), (5, (.int .u8 ((l.getD k 0).toNat : Nat))), (16, (.int .i64 (j : Nat)))] a' ∧ j ≤ 8 ∧ y = crcTo ((x ^^^ ((l.getD k 0).toUInt32))) j ∧ Ext w W ∧ w16.heap.size ≤ W.heap.size) (fun a' _ => 8 - (intOf (a'.eval (.tmp 16))).toNat) ⟨0, (x ^^^ ((l.getD k 0).toUInt32)), (((((((((F55.nil.cons (q_get F55 (t := 16) rfl (by first | rfl | (congr 1; omega) | (congr 1; done)))).cons (q_get F55 (t := 5) rfl rfl)).cons (q_get F55 (t := 9) rfl rfl)).cons (q_get F55 (t := 8) rfl rfl)).cons (q_get F55 (t := 7) rfl rfl)).cons (q_get F55 (t := 6) rfl rfl)).cons (q_get F55 (t := 3) rfl (by first | rfl | (congr 1; omega) | (congr 1; done)))).cons (q_get F55 (t := 2) rfl rfl)).cons (q_get F55 (t := 0) rfl rfl)), (by omega), rfl, ((Ext.refl w).trans hx18), (Nat.le_refl _)⟩ ?_
  clear F55
  rintro a56 w57 ⟨j, y, F58, hp60, hp61, hx59, hf62⟩
  have hL63 := F58
  have z64 := hx59.size
  refine wp_seq_k (fun K65 hK65 => ?_)
  refine wp_region_lit ?_
  refine qv 0 (.bool (decide (((j : Nat) : Int) < (8 : Int)))) F58 rfl (rn_lss (F58.get rfl) rfl) fun _ F67 => ?_; clear F58
  refine wpList_nil ?_
  refine hK65 _ _ ?_
  clear hK65
  refine wp_seq_k (fun K68 hK68 => ?_)
  by_cases hc69 : ((j : Nat) : Int) < (8 : Int)
  ·skip
   refine wp_cond_true (c_true F67 rfl (decide_eq_true hc69)) ?_
   refine wp_skip ?_
   refine hK68 _ _ ?_
   clear hK68
   refine wp_seq_k (fun K70 hK70 => ?_)
   refine wp_block ?_
   refine wp_region_lit ?_
   refine qv 0 (.int .u32 (y.toNat : Nat)) F67 rfl (rn_move (F67.get rfl)) fun _ F72 => ?_; clear F67
   refine qv 1 (.int .u32 ((y >>> UInt32.ofNat 1).toNat : Nat)) F72 rfl (rn_shr32 (a := y) (n := 1) (F72.get rfl) rfl (by omega)) fun _ F74 => ?_; clear F72
   refine qv 2 (.int .u32 (y.toNat : Nat)) F74 rfl (rn_move (F74.get rfl)) fun _ F76 => ?_; clear F74
   refine qv 3 (.int .u32 ((y &&& (1 : UInt32)).toNat : Nat)) F76 rfl (rn_and32 (a := y) (b := (1 : UInt32)) (F76.get rfl) rfl) fun _ F78 => ?_; clear F76
   refine qv 4 (.int .u32 (((3988292384 : UInt32) * (y &&& (1 : UInt32))).toNat : Nat)) F78 rfl (rn_mul32 (a := (3988292384 : UInt32)) (b := (y &&& (1 : UInt32))) rfl (F78.get rfl)) fun _ F80 => ?_; clear F78
   refine qv 5 (.int .u32 (((y >>> UInt32.ofNat 1) ^^^ ((3988292384 : UInt32) * (y &&& (1 : UInt32)))).toNat : Nat)) F80 rfl (rn_xor32 (a := (y >>> UInt32.ofNat 1)) (b := ((3988292384 : UInt32) * (y &&& (1 : UInt32)))) (F80.get rfl) (F80.get rfl)) fun _ F82 => ?_; clear F80
   refine qv 6 (.int .u32 (((y >>> UInt32.ofNat 1) ^^^ ((3988292384 : UInt32) * (y &&& (1 : UInt32)))).toNat : Nat)) F82 rfl (rn_assign (F82.get rfl)) fun _ F84 => ?_; clear F82
   refine wpList_nil ?_
   refine hK70 _ _ ?_
   clear hK70
   have F85 := ((((((((((F84.nil.c F84 17 rfl).c F84 16 rfl).c F84 5 rfl).c F84 9 rfl).c F84 8 rfl).c F84 7 rfl).c F84 6 rfl).c F84 3 rfl).c F84 2 rfl).c F84 0 rfl)
   clear F84
   refine wp_region_lit ?_
   refine qv 0 (.int .i64 (j + 1 : Nat)) F85 rfl (rn_addN (a := j) (b := 1) (F85.get rfl) rfl (by omega)) fun _ F87 => ?_; clear F85
   refine qv 1 (.int .i64 (j + 1 : Nat)) F87 rfl (rn_move (F87.get rfl)) fun _ F89 => ?_; clear F87
   refine wpList_nil ?_
   refine ⟨⟨(j + 1), ((y >>> UInt32.ofNat 1) ^^^ ((3988292384 : UInt32) * (y &&& (1 : UInt32)))), (((((((((F89.nil.cons (q_get F89 (t := 16) rfl (by first | rfl | (congr 1; omega) | (congr 1; done)))).cons (q_get F89 (t := 5) rfl rfl)).cons (q_get F89 (t := 9) rfl rfl)).cons (q_get F89 (t := 8) rfl rfl)).cons (q_get F89 (t := 7) rfl rfl)).cons (q_get F89 (t := 6) rfl rfl)).cons (q_get F89 (t := 3) rfl (by first | rfl | (congr 1; omega) | (congr 1; done)))).cons (q_get F89 (t := 2) rfl rfl)).cons (q_get F89 (t := 0) rfl rfl)), (by omega), (by rw [hp61]; rfl), ((Ext.refl w).trans hx59), (by omega)⟩, ?_⟩
   rw [F89.get (t := 16) rfl, hL63.get (t := 16) rfl]; simp [intOf] <;> omega
  ·skip
   refine wp_cond_false (c_false F67 rfl (decide_eq_false hc69)) ?_
   refine wp_exit ?_
   refine exit_then ?_
   refine exit_then ?_
   refine exit_here ?_
   refine hK29 _ _ ?_
   clear hK29
   refine wp_region_lit ?_
   refine qv 0 (.int .i64 (k + 1 : Nat)) F67 rfl (rn_addN (a := k) (b := 1) (F67.get rfl) rfl (by omega)) fun _ F91 => ?_; clear F67
   refine qv 1 (.int .i64 (k + 1 : Nat)) F91 rfl (rn_move (F91.get rfl)) fun _ F93 => ?_; clear F91
   refine wpList_nil ?_
   refine ⟨⟨(k + 1), y, ((((((F93.nil.cons (q_get F93 (t := 8) rfl (by first | rfl | (congr 1; omega) | (congr 1; done)))).cons (q_get F93 (t := 7) rfl rfl)).cons (q_get F93 (t := 6) rfl rfl)).cons (q_get F93 (t := 3) rfl (by first | rfl | (congr 1; omega) | (congr 1; done)))).cons (q_get F93 (t := 2) rfl rfl)).cons (q_get F93 (t := 0) rfl rfl)), (by omega), (by rw [← take_snoc (by omega : k < l.length), crcL_app, ← hp20]; have := hp61; rwa [show j = 8 by omega] at this), ((Ext.refl w).trans hx59), (by omega)⟩, ?_⟩
   rw [F93.get (t := 8) rfl, hL22.get (t := 8) rfl]; simp [intOf] <;> omega
 ·skip
  refine wp_cond_false (c_false F26 rfl (decide_eq_false hc28)) ?_
  refine wp_exit ?_
  refine exit_then ?_
  refine exit_then ?_
  refine exit_here ?_
  refine hK7 _ _ ?_
  clear hK7
  refine wp_seq_k (fun K94 hK94 => ?_)
  refine wp_region_lit ?_
  refine qv 0 (.int .u32 (x.toNat : Nat)) F26 rfl (rn_move (F26.get rfl)) fun _ F96 => ?_; clear F26
  refine qv 1 (.int .u32 ((~~~ x).toNat : Nat)) F96 rfl (rn_not32 (a := x) (F96.get rfl)) fun _ F98 => ?_; clear F96
  refine qv 2 (.int .u32 ((~~~ x).toNat : Nat)) F98 rfl (rn_assign (F98.get rfl)) fun _ F100 => ?_; clear F98
  refine wpList_nil ?_
  refine hK94 _ _ ?_
  clear hK94
  refine wp_ret ?_
  refine ret1 F100 rfl rfl ?_
  have hk : k = l.length := by omega
  have hx := hp20
  rw [hk, List.take_length] at hx
  exact ⟨by rw [hx]; rfl, ((Ext.refl w).trans hx18)⟩

theorem sum_at9 {v : Value} {m : Nat} (l : List UInt8) (w : World) (hf : Fl S w 1 v m (byteVals l)) :
  Calls Try.prog 65 #[v] w (fun e w' => e = .returned (.int .u32 ((crc l).toNat : Nat)) ∧ Ext w w') := by
 have hm := hf.blen
 subst hm
 obtain ⟨A, c, rfl, _⟩ := hf.form
 exact sum9_any A c l w hf

end Go.Proofs.Ytfmhnplkpohogaa

namespace Go.Proofs.Ytfmhnplkpohogaa
open Go.RowKit

variable {S S' : Nat → Prop}

theorem El35 : El Try.prog 35 5 (.int .u8 0) 1 1 := ⟨Try.underlying35, by kernel_rfl, rfl, by decide⟩
theorem byteVals_mid (l : List UInt8) (j n : Nat) : ((byteVals l).drop (j * 1)).take (n * 1) = byteVals ((l.drop j).take n) := by rw [Nat.mul_one, Nat.mul_one, byteVals_drop, byteVals_take]
theorem copy_eq {la src : List UInt8} {off sl dl : Nat} (h : src.length = sl) (h2 : sl ≤ dl) : splice (byteVals la) off ((byteVals src).take (min sl dl)) = byteVals (la.take off ++ src ++ la.drop (off + sl)) := by
 subst h
 rw [Nat.min_eq_left h2, byteVals_take, List.take_length, splice, byteVals_take, byteVals_len rfl, byteVals_drop, byteVals_app, byteVals_app, List.append_assoc]
theorem copy_len {la src : List UInt8} {off : Nat} (h : off + src.length ≤ la.length) : (la.take off ++ src ++ la.drop (off + src.length)).length = la.length := by
 simp; omega
theorem Blk.celB {w : World} {g : Nat} {t : TypeId} {l : List UInt8} (h : Blk w g t (byteVals l)) {off n : Nat} (hl : off + n ≤ l.length) : Cel w 1 (some ⟨g, off, none⟩) n (byteVals ((l.drop off).take n)) := by
 refine ⟨by simp [byteVals]; omega, byteVals_one _, fun _ => ⟨g, off, rfl, h.lt, fun j u hu => ?_⟩⟩
 have hj := (List.getElem?_eq_some_iff.1 hu).1
 simp [byteVals] at hj
 rw [h.rule.1]
 simp only [byteVals, List.getElem?_map, List.getElem?_take, List.getElem?_drop] at hu ⊢
 rw [if_pos (by omega)] at hu
 exact hu
theorem Fl.midB {w : World} {g : Nat} {t : TypeId} {l : List UInt8} (h : Blk w g t (byteVals l)) {off n c : Nat} (hl : off + n ≤ l.length) (hc : n ≤ c ∧ c ≤ 9223372036854775807) (hS : S g) : Fl S w 1 (.slice (some ⟨g, off, none⟩) n c) n (byteVals ((l.drop off).take n)) :=
 ⟨_, c, rfl, hc, h.celB hl, fun _ => ⟨g, off, rfl, hS⟩⟩

set_option maxRecDepth 100000 in
set_option maxHeartbeats 1000000 in
theorem put_any (g : Nat) (l : List UInt8) (o m c n : Nat) (w : World) (hb : Blk w g 89 (byteVals l)) (hl : o + m ≤ l.length) (hm : m ≤ 8) (hn : n < 18446744073709551616) :
  Calls Try.prog 64 #[.slice (some ⟨g, o, none⟩) m c, .int .u64 (n : Nat)] w (fun e w' => e = .returned (.tuple #[]) ∧ Blk w' g 89 (byteVals (putL l o m n)) ∧ w.grownBy w' (some g)) := by
 have hlt := hb.lt
 refine calls_enter (l := [(.slice (some ⟨g, o, none⟩) m c), (.int .u64 (n : Nat))]) Try.func64 rfl rfl rfl (fun aA hF => ?_)
 refine wp_seq_k (fun K1 hK1 => ?_)
 refine wp_region_lit ?_
 refine qv 0 (.slice (some ⟨g, o, none⟩) m c) hF rfl (rn_move (hF.get rfl)) fun _ F3 => ?_; clear hF
 refine qv 1 (.int .i64 (m : Nat)) F3 rfl (rn_len_slice Try.underlying35 (F3.get rfl)) fun _ F5 => ?_; clear F3
 refine qv 2 (.int .i64 0) F5 rfl (rn_move rfl) fun _ F7 => ?_; clear F5
 refine wpList_nil ?_
 refine hK1 _ _ ?_
 clear hK1
 refine wp_block ?_
 refine wp_loop (fun a' W => ∃ (k : Nat) (x : List UInt8), Sl 23 [(0, (.slice (some ⟨g, o, none⟩) m c)), (1, (.int .u64 (n : Nat))), (6, (.int .i64 (m : Nat))), (7, (.int .i64 (k : Nat)))] a' ∧ k ≤ m ∧ x = putTo l o m n k ∧ w.grownBy W (some g) ∧ Blk W g 89 (byteVals x) ∧ w.heap.size ≤ W.heap.size) (fun a' _ => m - (intOf (a'.eval (.tmp 7))).toNat) ⟨0, l, ((((F7.nil.cons (q_get F7 (t := 7) rfl (by first | rfl | (congr 1; omega) | (congr 1; done)))).cons (q_get F7 (t := 6) rfl rfl)).cons (q_get F7 (t := 1) rfl rfl)).cons (q_get F7 (t := 0) rfl rfl)), (by omega), rfl, (grow_refl w g), hb, (Nat.le_refl _)⟩ ?_
 clear F7
 rintro a8 w9 ⟨k, x, F10, hp12, hp13, hx11, b14, hf15⟩
 have hL16 := F10
 have z17 := hx11.size
 have z18 := b14.lt
 have hxl : x.length = l.length := by rw [hp13]; exact putTo_len _ _ _ _ _
 refine wp_seq_k (fun K19 hK19 => ?_)
 refine wp_region_lit ?_
 refine qv 0 (.bool (decide (((k : Nat) : Int) < ((m : Nat) : Int)))) F10 rfl (rn_lss (F10.get rfl) (F10.get rfl)) fun _ F21 => ?_; clear F10
 refine wpList_nil ?_
 refine hK19 _ _ ?_
 clear hK19
 refine wp_seq_k (fun K22 hK22 => ?_)
 by_cases hc23 : ((k : Nat) : Int) < ((m : Nat) : Int)
 ·skip
  refine wp_cond_true (c_true F21 rfl (decide_eq_true hc23)) ?_
  refine wp_skip ?_
  refine hK22 _ _ ?_
  clear hK22
  refine wp_seq_k (fun K24 hK24 => ?_)
  refine wp_block ?_
  refine wp_seq_k (fun K25 hK25 => ?_)
  refine wp_region_lit ?_
  refine qv 0 (.int .i64 (k : Nat)) F21 rfl (rn_move (F21.get rfl)) fun _ F27 => ?_; clear F21
  refine qv 1 (.int .i64 (k : Nat)) F27 rfl (rn_assign (F27.get rfl)) fun _ F29 => ?_; clear F27
  refine wpList_nil ?_
  refine hK25 _ _ ?_
  clear hK25
  refine wp_region_lit ?_
  refine qv 0 (.slice (some ⟨g, o, none⟩) m c) F29 rfl (rn_move (F29.get rfl)) fun _ F31 => ?_; clear F29
  refine qv 1 (.slice (some ⟨g, o, none⟩) m c) F31 rfl (rn_move (F31.get rfl)) fun _ F33 => ?_; clear F31
  refine qv 2 (.int .i64 (m : Nat)) F33 rfl (rn_len_slice Try.underlying35 (F33.get rfl)) fun _ F35 => ?_; clear F33
  refine qv 3 (.int .i64 (m - 1 : Nat)) F35 rfl (rn_subN (a := m) (b := 1) (F35.get rfl) rfl (by omega) (by omega)) fun _ F37 => ?_; clear F35
  refine qv 4 (.int .i64 (k : Nat)) F37 rfl (rn_move (F37.get rfl)) fun _ F39 => ?_; clear F37
  refine qv 5 (.int .i64 ((m - 1) - k : Nat)) F39 rfl (rn_subN (a := m - 1) (b := k) (F39.get rfl) (F39.get rfl) (by omega) (by omega)) fun _ F41 => ?_; clear F39
  refine qv 6 (.int .u64 (n : Nat)) F41 rfl (rn_move (F41.get rfl)) fun _ F43 => ?_; clear F41
  refine qv 7 (.int .i64 (k : Nat)) F43 rfl (rn_move (F43.get rfl)) fun _ F45 => ?_; clear F43
  refine qv 8 (.int .i64 (8 * k : Nat)) F45 rfl (rn_mulN (a := 8) (b := k) rfl (F45.get rfl) (by omega)) fun _ F47 => ?_; clear F45
  refine qv 9 (.int .u64 (n / 2 ^ (8 * k) : Nat)) F47 rfl (rn_shrU (a := n) (n := 8 * k) (F47.get rfl) (F47.get rfl) (by omega)) fun _ F49 => ?_; clear F47
  refine qv 10 (.int .u8 ((UInt8.ofNat (n / 2 ^ (8 * k))).toNat : Nat)) F49 rfl (rn_convW Try.underlying68 Try.underlying5 (F49.get rfl) (cvi_8 (n / 2 ^ (8 * k)))) fun _ F51 => ?_; clear F49
  refine qv 11 (.pointer (some ⟨g, o + ((m - 1) - k), none⟩)) F51 rfl (rn_index1 Try.underlying35 inf5 (F51.get rfl) (F51.get rfl) (by omega : (0 : Int) ≤ ((m - 1) - k : Nat)) (by omega : (((m - 1) - k : Nat) : Int) < ((m : Nat) : Int))) fun _ F53 => ?_; clear F51
  refine wpl_op (i := 12) rfl (o_store1 (new := (byteVals (x.set (o + ((m - 1) - k)) (UInt8.ofNat (n / 2 ^ (8 * k)))))) F53 rfl rfl rfl rfl (F53.get rfl) (F53.get rfl) b14 inf5 (by rw [byteVals_len hxl]; omega) rfl (byteVals_set (by omega)) ?_)
  intro w54 b55 hg56; have z57 := hg56.size
  refine wpList_nil ?_
  refine hK24 _ _ ?_
  clear hK24
  have F58 := ((((((F53.nil.c F53 4 rfl).c F53 8 rfl).c F53 7 rfl).c F53 6 rfl).c F53 1 rfl).c F53 0 rfl)
  clear F53
  refine wp_region_lit ?_
  refine qv 0 (.int .i64 (k + 1 : Nat)) F58 rfl (rn_addN (a := k) (b := 1) (F58.get rfl) rfl (by omega)) fun _ F60 => ?_; clear F58
  refine qv 1 (.int .i64 (k + 1 : Nat)) F60 rfl (rn_move (F60.get rfl)) fun _ F62 => ?_; clear F60
  refine wpList_nil ?_
  refine ⟨⟨(k + 1), x.set (o + ((m - 1) - k)) (UInt8.ofNat (n / 2 ^ (8 * k))), ((((F62.nil.cons (q_get F62 (t := 7) rfl (by first | rfl | (congr 1; omega) | (congr 1; done)))).cons (q_get F62 (t := 6) rfl rfl)).cons (q_get F62 (t := 1) rfl rfl)).cons (q_get F62 (t := 0) rfl rfl)), (by omega), (by rw [putTo, ← hp13]), (grow_set (grow_set (grow_refl w g) hx11) hg56), b55, (by omega)⟩, ?_⟩
  rw [F62.get (t := 7) rfl, hL16.get (t := 7) rfl]; simp [intOf] <;> omega
 ·skip
  refine wp_cond_false (c_false F21 rfl (decide_eq_false hc23)) ?_
  refine wp_exit ?_
  refine exit_then ?_
  refine exit_then ?_
  refine exit_here ?_
  refine ret0 F21 rfl ?_
  have hk : k = m := by omega
  have hx := hp13
  rw [hk] at hx
  exact ⟨rfl, (by rw [putL, ← hx]; exact b14), (grow_set (grow_refl w g) hx11)⟩

set_option maxRecDepth 100000 in
set_option maxHeartbeats 1000000 in
theorem encode_any (n k : Nat) (q : UInt8) (A : Option Addr) (c : Nat) (b : List UInt8) (w : World) (hf : Fl S w 1 (.slice A b.length c) b.length (byteVals b)) (hq : b.length ≤ 112) (hn : n < 18446744073709551616) (hk : k < 65536) :
  Calls Try.prog 44 #[.int .u64 (n : Nat), .int .i64 (k : Nat), .int .u8 (q.toNat : Nat), .slice A b.length c] w (fun e w' => ∃ g, w.heap.size ≤ g ∧ e = .returned (.slice (some ⟨g, 0, none⟩) 128 128) ∧ Blk w' g 89 (byteVals (encL n k q b)) ∧ Ext w w') := by
 have hc : Fl (Clip S w) w 1 (.slice A b.length c) b.length (byteVals b) := hf.clip
 have hcc := (Fl.cel hc).2.1
 refine calls_enter (l := [(.int .u64 (n : Nat)), (.int .i64 (k : Nat)), (.int .u8 (q.toNat : Nat)), (.slice A b.length c)]) Try.func44 rfl rfl rfl (fun aA hF => ?_)
 refine wp_seq_k (fun K1 hK1 => ?_)
 refine wp_region_lit ?_
 refine qv 0 (.slice none 0 0) hF rfl (rn_assign rfl) fun _ F3 => ?_; clear hF
 refine wpList_nil ?_
 refine hK1 _ _ ?_
 clear hK1
 refine wp_seq_k (fun K4 hK4 => ?_)
 refine wp_region_lit ?_
 refine wpl_op (i := 0) rfl (o_new (fun g => (.pointer (some ⟨g, 0, none⟩))) (byteVals (List.replicate 128 0)) 89 F3 rfl rfl rfl rfl (by kernel_rfl) ?_)
 intro g5 w6 a11 F12 z9 z10 b7 hx8; clear F3
 refine wpList_nil ?_
 refine hK4 _ _ ?_
 clear hK4
 refine wp_seq_k (fun K13 hK13 => ?_)
 refine wp_region_lit ?_
 refine qv 0 (.slice (some ⟨g5, 0, none⟩) 4 128) F12 rfl (rn_arrHi Try.underlying89 inf5 (F12.get rfl) rfl (by omega : (0 : Int) ≤ 4) (by omega : (4 : Int) ≤ ((128 : Nat) : Int))) fun _ F15 => ?_; clear F12
 refine qv 1 (.int .u64 (n : Nat)) F15 rfl (rn_move (F15.get rfl)) fun _ F17 => ?_; clear F15
 refine wpl_op (i := 2) rfl (o_call F17 rfl rfl rfl rfl (rn_call (args2 (F17.get rfl) (F17.get rfl)) rfl (by kernel_rfl)) (put_any g5 (List.replicate 128 0) 0 4 128 n _ b7 (by have := (show List.length (List.replicate 128 (0 : UInt8)) = 128 from rfl); omega) (by omega) (by omega)) ?_)
 rintro _ w18 ⟨rfl, b19, hg20⟩
 refine ⟨_, rfl, ?_⟩; intro a21 F22; clear F17; have z23 := hg20.size
 refine wpList_nil ?_
 refine hK13 _ _ ?_
 clear hK13
 refine wp_seq_k (fun K24 hK24 => ?_)
 obtain ⟨v25, e26⟩ : ∃ z, z = putL (List.replicate 128 0) 0 4 n := ⟨_, rfl⟩
 have hl27 : v25.length = 128 := (congrArg List.length e26).trans ((putL_len _ _ _ _).trans (show List.length (List.replicate 128 (0 : UInt8)) = 128 from rfl))
 rw [← e26] at b19
 refine wp_region_lit ?_
 refine qv 0 (.slice (some ⟨g5, 8, none⟩) 2 120) F22 rfl (rn_arrLH (l := 8) (h := 10) Try.underlying89 inf5 (F22.get rfl) rfl rfl (by omega) (by omega) (by omega) rfl rfl rfl) fun _ F29 => ?_; clear F22
 refine qv 1 (.int .i64 (k : Nat)) F29 rfl (rn_move (F29.get rfl)) fun _ F31 => ?_; clear F29
 refine qv 2 (.int .u64 (k : Nat)) F31 rfl (rn_convW Try.underlying3 Try.underlying68 (F31.get rfl) (cvn_64 k (by omega))) fun _ F33 => ?_; clear F31
 refine wpl_op (i := 3) rfl (o_call F33 rfl rfl rfl rfl (rn_call (args2 (F33.get rfl) (F33.get rfl)) rfl (by kernel_rfl)) (put_any g5 v25 8 2 120 k _ b19 (by have := hl27; omega) (by omega) (by omega)) ?_)
 rintro _ w34 ⟨rfl, b35, hg36⟩
 refine ⟨_, rfl, ?_⟩; intro a37 F38; clear F33; have z39 := hg36.size
 refine wpList_nil ?_
 refine hK24 _ _ ?_
 clear hK24
 have F40 := ((((((F38.nil.c F38 9 rfl).c F38 8 rfl).c F38 3 rfl).c F38 2 rfl).c F38 1 rfl).c F38 0 rfl)
 clear F38
 refine wp_seq_k (fun K41 hK41 => ?_)
 obtain ⟨v42, e43⟩ : ∃ z, z = putL v25 8 2 k := ⟨_, rfl⟩
 have hl44 : v42.length = 128 := (congrArg List.length e43).trans ((putL_len _ _ _ _).trans hl27)
 rw [← e43] at b35
 refine wp_region_lit ?_
 refine qv 0 (.int .u8 (q.toNat : Nat)) F40 rfl (rn_move (F40.get rfl)) fun _ F46 => ?_; clear F40
 refine qv 1 (.slice A b.length c) F46 rfl (rn_move (F46.get rfl)) fun _ F48 => ?_; clear F46
 refine qv 2 (.int .i64 (b.length : Nat)) F48 rfl (rn_len_slice Try.underlying35 (F48.get rfl)) fun _ F50 => ?_; clear F48
 refine qv 3 (.int .u8 ((UInt8.ofNat b.length).toNat : Nat)) F50 rfl (rn_convW Try.underlying3 Try.underlying5 (F50.get rfl) (cvi_8 b.length)) fun _ F52 => ?_; clear F50
 refine qv 4 (.pointer (some ⟨g5, 0 + 10, none⟩)) F52 rfl (rn_indexArr Try.underlying89 inf5 (F52.get rfl) rfl (by omega : (0 : Int) ≤ 10) (by omega : (10 : Int) < ((128 : Nat) : Int))) fun _ F54 => ?_; clear F52
 refine wpl_op (i := 5) rfl (o_store1 (new := (byteVals (v42.set 10 q))) F54 rfl rfl rfl rfl (F54.get rfl) (F54.get rfl) b35 inf5 (by rw [byteVals_len hl44]; omega) rfl (byteVals_set (by omega)) ?_)
 intro w55 b56 hg57; have z58 := hg57.size
 refine qv 6 (.pointer (some ⟨g5, 0 + 11, none⟩)) F54 rfl (rn_indexArr Try.underlying89 inf5 (F54.get rfl) rfl (by omega : (0 : Int) ≤ 11) (by omega : (11 : Int) < ((128 : Nat) : Int))) fun _ F60 => ?_; clear F54
 refine wpl_op (i := 7) rfl (o_store1 (new := (byteVals ((v42.set 10 q).set 11 (UInt8.ofNat b.length)))) F60 rfl rfl rfl rfl (F60.get rfl) (F60.get rfl) b56 inf5 (by rw [byteVals_len (show List.length (v42.set 10 q) = _ from List.length_set.trans hl44)]; omega) rfl (byteVals_set (by omega)) ?_)
 intro w61 b62 hg63; have z64 := hg63.size
 refine wpList_nil ?_
 refine hK41 _ _ ?_
 clear hK41
 have F65 := ((((((F60.nil.c F60 9 rfl).c F60 8 rfl).c F60 3 rfl).c F60 2 rfl).c F60 1 rfl).c F60 0 rfl)
 clear F60
 refine wp_seq_k (fun K66 hK66 => ?_)
 obtain ⟨v67, e68⟩ : ∃ z, z = (v42.set 10 q) := ⟨_, rfl⟩
 have hl69 : v67.length = 128 := (congrArg List.length e68).trans (show List.length (v42.set 10 q) = _ from List.length_set.trans hl44)
 rw [← e68] at b62
 obtain ⟨v70, e71⟩ : ∃ z, z = v67.set 11 (UInt8.ofNat b.length) := ⟨_, rfl⟩
 have hl72 : v70.length = 128 := (congrArg List.length e71).trans (show List.length (v67.set 11 (UInt8.ofNat b.length)) = _ from List.length_set.trans hl69)
 rw [← e71] at b62
 refine wp_region_lit ?_
 refine qv 0 (.slice (some ⟨g5, 12, none⟩) 116 116) F65 rfl (rn_arrLo (l := 12) Try.underlying89 inf5 (F65.get rfl) rfl (by omega)) fun _ F74 => ?_; clear F65
 refine qv 1 (.slice A b.length c) F74 rfl (rn_move (F74.get rfl)) fun _ F76 => ?_; clear F74
 have d77 := (hc.pres ((((((Pres.refl w).ext hx8).grownN hg20 (fun h => by simp only [Clip] at h; omega)).grownN hg36 (fun h => by simp only [Clip] at h; omega)).grownN hg57 (fun h => by simp only [Clip] at h; omega)).grownN hg63 (fun h => by simp only [Clip] at h; omega)))
 refine wpl_op (i := 2) rfl (o_copy (new := byteVals (v70.take 12 ++ b ++ v70.drop (12 + b.length))) (n := b.length) (El35) F76 rfl rfl rfl rfl rfl (F76.get rfl) (F76.get rfl) b62 (Fl.cel d77).2.2 (by rw [byteVals_len hl72]; omega) (copy_eq rfl (by omega)) (by omega) ?_)
 intro w78 a81 F82 b79 hg80; clear F76; have z83 := hg80.size
 refine wpList_nil ?_
 refine hK66 _ _ ?_
 clear hK66
 refine wp_seq_k (fun K84 hK84 => ?_)
 obtain ⟨v85, e86⟩ : ∃ z, z = v70.take 12 ++ b ++ v70.drop (12 + b.length) := ⟨_, rfl⟩
 have hl87 : v85.length = 128 := (congrArg List.length e86).trans ((copy_len (by have := hl72; omega)).trans hl72)
 rw [← e86] at b79
 refine wp_region_lit ?_
 refine qv 0 (.slice (some ⟨g5, 124, none⟩) 4 4) F82 rfl (rn_arrLo (l := 124) Try.underlying89 inf5 (F82.get rfl) rfl (by omega)) fun _ F89 => ?_; clear F82
 refine qv 1 (.int .u64 (n : Nat)) F89 rfl (rn_move (F89.get rfl)) fun _ F91 => ?_; clear F89
 refine wpl_op (i := 2) rfl (o_call F91 rfl rfl rfl rfl (rn_call (args2 (F91.get rfl) (F91.get rfl)) rfl (by kernel_rfl)) (put_any g5 v85 124 4 4 n _ b79 (by have := hl87; omega) (by omega) (by omega)) ?_)
 rintro _ w92 ⟨rfl, b93, hg94⟩
 refine ⟨_, rfl, ?_⟩; intro a95 F96; clear F91; have z97 := hg94.size
 refine wpList_nil ?_
 refine hK84 _ _ ?_
 clear hK84
 have F98 := ((((((F96.nil.c F96 9 rfl).c F96 8 rfl).c F96 3 rfl).c F96 2 rfl).c F96 1 rfl).c F96 0 rfl)
 clear F96
 refine wp_seq_k (fun K99 hK99 => ?_)
 obtain ⟨v100, e101⟩ : ∃ z, z = putL v85 124 4 n := ⟨_, rfl⟩
 have hl102 : v100.length = 128 := (congrArg List.length e101).trans ((putL_len _ _ _ _).trans hl87)
 rw [← e101] at b93
 have hx104 : ∃ W, w92.drew = W ∧ Ext w92 W := ⟨_, rfl, (Ext.refl _).drew⟩
 obtain ⟨w103, e105, hx104⟩ := hx104
 have z106 := hx104.size
 refine any_start (fun W => Ext w103 W ∧ Blk W g5 89 (byteVals v100)) (fun i => i == 4) 5 #[false, false, false, false, false] rfl rfl rfl ?_
 rw [e105]; clear e105
 refine qp 0 (.slice (some ⟨g5, 4, none⟩) 4 124) F98 rfl rfl (fun W => (rn_arrLH (l := 4) (h := 8) Try.underlying89 inf5 (F98.get rfl) rfl rfl (by omega) (by omega) (by omega) rfl rfl rfl)) fun _ F108 => ?_; clear F98
 refine qp 1 (.slice (some ⟨g5, 8, none⟩) 116 120) F108 rfl rfl (fun W => (rn_arrLH (l := 8) (h := 124) Try.underlying89 inf5 (F108.get rfl) rfl rfl (by omega) (by omega) (by omega) rfl rfl rfl)) fun _ F110 => ?_; clear F108
 refine any_one (i := 2) (by decide +kernel) rfl ?_
 have b111 := (b93.ext hx104)
 have z112 := UInt32.toNat_lt (crc ((v100.drop 8).take 116))
 refine o_call F110 rfl rfl rfl rfl (rn_call (args1 (F110.get rfl)) rfl (by kernel_rfl)) (sum_at9 (v := (.slice (some ⟨g5, 8, none⟩) 116 120)) (m := 116) ((v100.drop 8).take 116) _ (Fl.midB (S := fun b => b = g5) b111 (by have := hl102; omega) (by omega) rfl)) ?_
 rintro _ w113 ⟨rfl, hx114⟩
 refine ⟨_, rfl, ?_⟩; intro a115 F116; clear F110; have z117 := hx114.size
 have b118 := (b111.ext hx114)
 refine ⟨fun _ _ => ⟨((Ext.refl w103).trans hx114), b118⟩, ?_⟩
 have hS119 : Ext w103 w113 ∧ Blk w113 g5 89 (byteVals v100) := ⟨((Ext.refl w103).trans hx114), b118⟩
 refine qs 3 (.int .u64 ((crc ((v100.drop 8).take 116)).toNat : Nat)) F116 rfl rfl hS119 (fun W hW => (rn_convW Try.underlying91 Try.underlying68 (F116.get rfl) (cvn_64 ((crc ((v100.drop 8).take 116)).toNat) (by omega)))) fun _ F121 => ?_; clear F116
 refine any_one (i := 4) (by decide +kernel) rfl ?_
 refine o_call F121 rfl rfl rfl rfl (rn_call (args2 (F121.get rfl) (F121.get rfl)) rfl (by kernel_rfl)) (put_any g5 v100 4 4 124 ((crc ((v100.drop 8).take 116)).toNat) _ b118 (by have := hl102; omega) (by omega) (by omega)) ?_
 rintro _ w122 ⟨rfl, b123, hg124⟩
 refine ⟨_, rfl, ?_⟩; intro a125 F126; clear F121; have z127 := hg124.size
 refine ⟨fun h => absurd h (by decide), ?_⟩
 refine any_nil (by decide +kernel) ?_
 refine hK99 _ _ ?_
 clear hK99
 have F128 := ((((((F126.nil.c F126 9 rfl).c F126 8 rfl).c F126 3 rfl).c F126 2 rfl).c F126 1 rfl).c F126 0 rfl)
 clear F126
 refine wp_seq_k (fun K129 hK129 => ?_)
 obtain ⟨v130, e131⟩ : ∃ z, z = putL v100 4 4 ((crc ((v100.drop 8).take 116)).toNat) := ⟨_, rfl⟩
 have hl132 : v130.length = 128 := (congrArg List.length e131).trans ((putL_len _ _ _ _).trans hl102)
 rw [← e131] at b123
 refine wp_region_lit ?_
 refine qv 0 (.slice (some ⟨g5, 0, none⟩) 128 128) F128 rfl (rn_arrAll Try.underlying89 inf5 (F128.get rfl)) fun _ F134 => ?_; clear F128
 refine qv 1 (.slice (some ⟨g5, 0, none⟩) 128 128) F134 rfl (rn_assign (F134.get rfl)) fun _ F136 => ?_; clear F134
 refine wpList_nil ?_
 refine hK129 _ _ ?_
 clear hK129
 refine wp_ret ?_
 refine ret1 F136 rfl rfl ?_
 have he := enc_eq (g := n) (k := k) (q := q) hq e26 e43 e68 e71 e86 e101 e131
 exact ⟨_, by omega, rfl, (by rw [← he]; exact b123), (((((((((((Ext.refl w).trans hx8).grownN hg20 (by omega)).grownN hg36 (by omega)).grownN hg57 (by omega)).grownN hg63 (by omega)).grownN hg80 (by omega)).grownN hg94 (by omega)).trans hx104).trans hx114).grownN hg124 (by omega))⟩

theorem encode_at {v : Value} {m : Nat} (n k : Nat) (q : UInt8) (b : List UInt8) (w : World) (hf : Fl S w 1 v m (byteVals b)) (hq : m ≤ 112) (hn : n < 18446744073709551616) (hk : k < 65536) :
  Calls Try.prog 44 #[.int .u64 (n : Nat), .int .i64 (k : Nat), .int .u8 (q.toNat : Nat), v] w (fun e w' => ∃ g, w.heap.size ≤ g ∧ e = .returned (.slice (some ⟨g, 0, none⟩) 128 128) ∧ Blk w' g 89 (byteVals (encL n k q b)) ∧ Ext w w') := by
 have h1 := hf.blen
 subst h1
 obtain ⟨A, c, rfl, _⟩ := hf.form
 exact encode_any n k q A c b w hf hq hn hk

end Go.Proofs.Ytfmhnplkpohogaa
