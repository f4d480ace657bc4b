/- Contract of disk.Sync. -/
import Derived.Test.YtklhgghlkidfjaaDiskE
import Derived.Test.YtklhgghlkidfjaaLawsB
import Derived.Deep.RegionHeld3
import Derived.Deep.RegionLaw
namespace Go.Proofs.Ytklhgghlkidfjaa
open Go.RowKit

variable {S S' : Nat → Prop}

/-- A torn sector: the first half of the new bytes, the second half of the old ones. -/
def torn (new old : List UInt8) : List UInt8 := new.take 64 ++ old.drop 64
def Dk.syncStop (d : Dk) (k : Nat) (x : Int × List UInt8) : Dk :=
  ⟨(performL d.sectors (d.pending.take k)).set x.1.toNat (torn x.2 ((performL d.sectors (d.pending.take k)).getD x.1.toNat [])), [], 0, true⟩
def Dk.syncOk (d : Dk) : Dk := ⟨performL d.sectors d.pending, [], if 0 ≤ d.left then d.left - d.pending.length else d.left, false⟩
def Dk.sync (d : Dk) : Dk × Int :=
  if d.runs = false then (Dk.zero, 380)
  else if 0 ≤ d.left ∧ d.left < d.pending.length then (d.syncStop d.left.toNat (d.pending.getD d.left.toNat (0, [])), 380)
  else (d.syncOk, 0)

theorem RPf.read {w w' : World} {l : List (List UInt8)} {v : Value} {vs : List Value} {base : Nat} (ho : w'.ownsRow base 35 1 v l.length vs)
    (hr : ∀ i (h : i < l.length) (h' : i < vs.length), RBs S w vs[i] l[i]) (hx : Ext w w') (hb : w.heap.size ≤ base) : RBss (Fr S w) w' v l := by
  have hl : vs.length = l.length := by have := ho.1; omega
  refine RSl.own ho (fun b h => .inr (Nat.le_trans hb h)) rfl (fun u hu => ?_) (fun i hi => ?_)
  · obtain ⟨i, hi, rfl⟩ := List.getElem_of_mem hu
    obtain ⟨A, cap, h, _⟩ := (hr i (by omega) hi).form
    rw [h]; rfl
  · rw [chunk_one (by omega)]
    exact ⟨_, rfl, ((hr i hi (by omega)).ext hx).up⟩

set_option maxHeartbeats 2000000 in
theorem sync_ok (v : Value) (d : Dk) (w : World) (hd : RDk S w v d) (h1 : d.runs = true) (h2 : d.left < 0 ∨ d.pending.length ≤ d.left) :
    Calls Try.prog 23 #[v] w (RDE S w d.syncOk 0) := by
  obtain ⟨A, c, B, e, rfl, q1, q2⟩ := hd.form
  obtain ⟨f1, f2, f3, f4, f5, f6, f7, f8⟩ := runs_facts h1
  have HD := Lib.hid hd
  have H1 := Lib.hid h1
  have HS := Lib.hid q1
  have HP := Lib.hid q2
  have H7 := Lib.hid f7
  have H6 := Lib.hid f6
  clear hd h1 q1 q2 f7 f8 f6
  go_enter Try.func23, Try.ntmps23
  go_wp2_with fail
  (with_reducible refine (runs_any _ d _ (HD.out.ext (((Ext.refl _).alloc _).alloc _))).mono ?_)
  rintro e1 w1 ⟨rfl, hx1⟩
  have B0 := Lib.hid (((Blk.new w w.heap.size _ _ rfl).alloc _).ext hx1)
  have B1 := Lib.hid ((Blk.new _ (w.heap.size + 1) _ _ (by simp)).ext hx1)
  have HX1 := Lib.hid ((((Ext.refl w).alloc _).alloc _).trans hx1)
  have r1 : w.heap.size ≤ w.heap.size + 1 := Nat.le_succ _
  clear hx1
  obtain ⟨k0, z0⟩ := B0.out.rule
  obtain ⟨k1, z1⟩ := B1.out.rule
  rw [H1.out]
  have P0 := Lib.hid (fun (W : World) (hW : Ext w W) => perform_any (.slice A d.sectors.length c) (.slice B d.pending.length e) d.sectors d.pending w W hW HS.out HP.out (by omega) (by omega) (fun i hi => by have := H7.out _ (List.getElem_mem hi); omega))
  rcases h2 with h2 | h2
  · go_wp2_with fail
    go_region_held3 (fun W => W.cell? ⟨w.heap.size, 0, none⟩ = some (.slice A d.sectors.length c) ∧ W.cell? ⟨w.heap.size, 1, none⟩ = some (.slice B d.pending.length e) ∧ W.cell? ⟨w.heap.size, 2, none⟩ = some (.int .i64 d.left)) (go_keep)
      (first | (go_at_call 40; refine (P0.out _ HX1.out.drew).mono ?_; rintro e2 w2 ⟨v2, vs, rfl, hown, hr, hx2⟩; have C0 := Lib.hid (B0.out.drew.ext hx2); have C1 := Lib.hid (B1.out.drew.ext hx2); have HX2 := Lib.hid (HX1.out.drew.trans hx2); clear k0 z0 k1 z1; obtain ⟨k0, z0⟩ := C0.out.rule; obtain ⟨k1, z1⟩ := C1.out.rule; obtain ⟨A2, cap2, rfl, hc2, hm2⟩ := own_any hown; have HO := Lib.hid hown; have HR := Lib.hid hr; have HX := Lib.hid hx2; clear hown hr hx2))
    rename_i hheld
    clear hheld
    obtain ⟨w3, e3, D1, hg3⟩ := set4 C1.out (.slice A2 (performL d.sectors d.pending).length cap2) (.slice none 0 0) (.int .i64 d.left) (.bool false)
    rw [e3]
    have g1 : w.heap.size + 1 < w1.drew.heap.size := B1.out.lt
    have D0 := Lib.hid (C0.out.grownN hg3 (by omega))
    have HX3 := Lib.hid (HX2.out.grownN hg3 r1)
    have HO3 := Lib.hid (own_grownN HO.out hg3 g1)
    have HD1 := Lib.hid D1
    clear k0 z0 k1 z1 e3 D1 hg3
    obtain ⟨k1, z1⟩ := HD1.out.rule
    go_wp2
    obtain ⟨w4, e4, E1, hg4⟩ := set4 HD1.out (.slice A2 (performL d.sectors d.pending).length cap2) (.slice none 0 0) (.int .i64 d.left) (.bool false)
    rw [e4]
    obtain ⟨k2, z2⟩ := E1.rule
    refine bodyPost_ret (v := .tuple #[.agg #[.slice A2 (performL d.sectors d.pending).length cap2, .slice none 0 0, .int .i64 d.left, .bool false], .int .i64 0]) (by simp [results, Try.results23, go_sem, k2, z2]) rfl ?_
    have hl : d.syncOk = ⟨performL d.sectors d.pending, [], d.left, false⟩ := by unfold Dk.syncOk; rw [if_neg (by omega)]
    refine ⟨_, rfl, ?_, HX3.out.grownN hg4 r1⟩
    rw [hl]
    exact RDk.mk (RPf.read (w := w) (own_grownN HO3.out hg4 g1) HR.out (HX3.out.grownN hg4 r1) (by omega)) (RSl.nil _)
  · go_wp2_with fail
    go_region_held3 (fun W => W.cell? ⟨w.heap.size, 0, none⟩ = some (.slice A d.sectors.length c) ∧ W.cell? ⟨w.heap.size, 1, none⟩ = some (.slice B d.pending.length e) ∧ W.cell? ⟨w.heap.size, 2, none⟩ = some (.int .i64 d.left)) (go_keep)
      (first | (go_at_call 40; refine (P0.out _ HX1.out.drew).mono ?_; rintro e2 w2 ⟨v2, vs, rfl, hown, hr, hx2⟩; have C0 := Lib.hid (B0.out.drew.ext hx2); have C1 := Lib.hid (B1.out.drew.ext hx2); have HX2 := Lib.hid (HX1.out.drew.trans hx2); clear k0 z0 k1 z1; obtain ⟨k0, z0⟩ := C0.out.rule; obtain ⟨k1, z1⟩ := C1.out.rule; obtain ⟨A2, cap2, rfl, hc2, hm2⟩ := own_any hown; have HO := Lib.hid hown; have HR := Lib.hid hr; have HX := Lib.hid hx2; clear hown hr hx2))
    rename_i hheld
    clear hheld
    obtain ⟨w3, e3, D1, hg3⟩ := set4 C1.out (.slice A2 (performL d.sectors d.pending).length cap2) (.slice none 0 0) (.int .i64 d.left) (.bool false)
    rw [e3]
    have g1 : w.heap.size + 1 < w1.drew.heap.size := B1.out.lt
    have D0 := Lib.hid (C0.out.grownN hg3 (by omega))
    have HX3 := Lib.hid (HX2.out.grownN hg3 r1)
    have HO3 := Lib.hid (own_grownN HO.out hg3 g1)
    have HD1 := Lib.hid D1
    clear k0 z0 k1 z1 e3 D1 hg3
    obtain ⟨k1, z1⟩ := HD1.out.rule
    have hsub : IntKind.i64.wrap (d.left - d.pending.length) = d.left - d.pending.length := IntWalk.i64_in _ (by omega)
    have D1' := Lib.hid HD1.out
    go_wp2
    obtain ⟨w4, e4, E1, hg4⟩ := set4 (p := .slice A2 (performL d.sectors d.pending).length cap2) (q := .slice none 0 0) (r := .int .i64 (d.left - d.pending.length)) (s := .bool false) (HD1.out.set 2 (.int .i64 (d.left - d.pending.length))) (.slice A2 (performL d.sectors d.pending).length cap2) (.slice none 0 0) (.int .i64 (d.left - d.pending.length)) (.bool false)
    rw [e4]
    obtain ⟨k2, z2⟩ := E1.rule
    have hgA := grown_setC (i := 2) (u := .int .i64 (d.left - d.pending.length)) (grown_rfl w3 (some (w.heap.size + 1)))
    refine bodyPost_ret (v := .tuple #[.agg #[.slice A2 (performL d.sectors d.pending).length cap2, .slice none 0 0, .int .i64 (d.left - d.pending.length), .bool false], .int .i64 0]) (by simp [results, Try.results23, go_sem, k2, z2]) rfl ?_
    have hl : d.syncOk = ⟨performL d.sectors d.pending, [], d.left - d.pending.length, false⟩ := by unfold Dk.syncOk; rw [if_pos (by omega)]
    have HX4 := ((HX3.out.grownN hgA r1).grownN hg4 r1)
    refine ⟨_, rfl, ?_, HX4⟩
    rw [hl]
    exact RDk.mk (RPf.read (w := w) (own_grownN (own_grownN HO3.out hgA g1) hg4 g1) HR.out HX4 (by omega)) (RSl.nil _)

set_option maxHeartbeats 2000000 in
theorem sync_bad (v : Value) (d : Dk) (w : World) (hd : RDk S w v d) (h1 : d.runs = false) :
    Calls Try.prog 23 #[v] w (RDE S w Dk.zero 380) := by
  obtain ⟨A, c, B, e, rfl, q1, q2⟩ := hd.form
  have HD := Lib.hid hd
  have H1 := Lib.hid h1
  clear hd h1 q1 q2
  go_enter Try.func23, Try.ntmps23
  go_wp2_with fail
  (with_reducible refine (runs_any _ d _ (HD.out.ext (((Ext.refl _).alloc _).alloc _))).mono ?_)
  rintro e1 w1 ⟨rfl, hx1⟩
  have B1 := Lib.hid ((Blk.new _ (w.heap.size + 1) _ _ (by simp)).ext hx1)
  have HX1 := Lib.hid ((((Ext.refl w).alloc _).alloc _).trans hx1)
  have r1 : w.heap.size ≤ w.heap.size + 1 := Nat.le_succ _
  clear hx1
  obtain ⟨k1, z1⟩ := B1.out.rule
  rw [H1.out]
  go_wp2
  obtain ⟨w4, e4, E1, hg4⟩ := set4 B1.out (.slice none 0 0) (.slice none 0 0) (.int .i64 0) (.bool false)
  rw [e4]
  obtain ⟨k2, z2⟩ := E1.rule
  refine bodyPost_ret (v := .tuple #[.agg #[.slice none 0 0, .slice none 0 0, .int .i64 0, .bool false], .int .i64 380]) (by simp [results, Try.results23, go_sem, k2, z2]) rfl ?_
  exact ⟨_, rfl, RDk.zero _, HX1.out.grownN hg4 r1⟩

end Go.Proofs.Ytklhgghlkidfjaa
