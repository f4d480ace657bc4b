/- Contracts of disk.Check, runs, has, Restart, Stop. -/
import Derived.Test.YtklhgghlkidfjaaDiskA
namespace Go.Proofs.Ytklhgghlkidfjaa
open Go.RowKit

variable {S S' : Nat → Prop}

/-- returned a disk (and nothing else); nothing that was there has changed. -/
def RD (S : Nat → Prop) (w : World) (d : Dk) (e : Ending) (w' : World) : Prop := ∃ v, e = .returned v ∧ RDk (Fr S w) w' v d ∧ Ext w w'
/-- returned a disk and a number. -/
def RDE (S : Nat → Prop) (w : World) (d : Dk) (n : Int) (e : Ending) (w' : World) : Prop := ∃ v, e = .returned (.tuple #[v, .int .i64 n]) ∧ RDk (Fr S w) w' v d ∧ Ext w w'

def Dk.zero : Dk := ⟨[], [], 0, false⟩

theorem RDk.len {w : World} {A B : Option Addr} {n c m e : Nat} {l : Int} {s : Bool} {d : Dk} (h : RDk S w (.agg #[.slice A n c, .slice B m e, .int .i64 l, .bool s]) d) :
    RBss S w (.slice A d.sectors.length c) d.sectors ∧ RWs S w (.slice B d.pending.length e) d.pending ∧ n = d.sectors.length ∧ m = d.pending.length ∧ l = d.left ∧ s = d.stopped := by
  obtain ⟨A', n', c', B', m', e', hv, h1, h2⟩ := h
  cases hv
  obtain ⟨rfl, _⟩ := h1.at
  obtain ⟨rfl, _⟩ := h2.at
  exact ⟨h1, h2, rfl, rfl, rfl, rfl⟩

theorem RDk.form {w : World} {v : Value} {d : Dk} (h : RDk S w v d) : ∃ A c B e, v = .agg #[.slice A d.sectors.length c, .slice B d.pending.length e, .int .i64 d.left, .bool d.stopped] ∧ RBss S w (.slice A d.sectors.length c) d.sectors ∧ RWs S w (.slice B d.pending.length e) d.pending := by
  obtain ⟨A', n', c', B', m', e', rfl, h1, h2⟩ := h
  obtain ⟨rfl, _⟩ := h1.at
  obtain ⟨rfl, _⟩ := h2.at
  exact ⟨A', c', B', e', rfl, h1, h2⟩

theorem RDk.mk {w : World} {A B : Option Addr} {n c m e : Nat} {l : Int} {s : Bool} {ss : List (List UInt8)} {pp : List (Int × List UInt8)} (h1 : RBss S w (.slice A n c) ss) (h2 : RWs S w (.slice B m e) pp) : RDk S w (.agg #[.slice A n c, .slice B m e, .int .i64 l, .bool s]) ⟨ss, pp, l, s⟩ :=
  ⟨A, n, c, B, m, e, rfl, h1, h2⟩

theorem check_bad {d : Dk} (h : d.sectors.length < 1 ∨ 4096 < d.sectors.length ∨ 4096 < d.pending.length ∨ d.left < -1 ∨ 65536 < d.left) : (380 : Int) = d.check := by
  unfold Dk.check
  rw [if_pos]
  unfold Dk.bad
  simp only [Bool.or_eq_true, decide_eq_true_eq]
  omega
theorem check_bad2 {d : Dk} (h : d.pending.any (badWrite d.sectors.length) = true ∨ d.sectors.any badSector = true) : (380 : Int) = d.check := by
  unfold Dk.check
  rw [if_pos]
  unfold Dk.bad
  simp only [Bool.or_eq_true]
  rcases h with h | h
  · exact .inl (.inr h)
  · exact .inr h
theorem check_good {d : Dk} (h : ¬ (d.sectors.length < 1 ∨ 4096 < d.sectors.length ∨ 4096 < d.pending.length ∨ d.left < -1 ∨ 65536 < d.left)) (h1 : d.pending.any (badWrite d.sectors.length) = false) (h2 : d.sectors.any badSector = false) : (0 : Int) = d.check := by
  unfold Dk.check
  rw [if_neg]
  unfold Dk.bad
  rw [h1, h2]
  simp only [Bool.or_eq_true, decide_eq_true_eq, Bool.or_false]
  omega

set_option maxHeartbeats 1000000 in
theorem check_any (v : Value) (d : Dk) (w : World) (hd : RDk S w v d) :
    Calls Try.prog 15 #[v] w (RI w d.check) := by
  obtain ⟨A, c, B, e, rfl, h1, h2⟩ := hd.form
  obtain ⟨f1, f1'⟩ := h1.at.2.1
  obtain ⟨f2, f2'⟩ := h2.at.2.1
  have H1 := Lib.hid h1
  have H2 := Lib.hid h2
  have hb : d.check = if d.bad then 380 else 0 := rfl
  have HB := Lib.hid hb
  clear h1 h2 hd hb
  obtain ⟨ss, pp, left, stopped⟩ := d
  dsimp only at *
  go_enter Try.func15, Try.ntmps15
  go_wp2_with fail
  case' _ => skip
  rotate_left
  all_goals first
    | (go_ret; exact ⟨ret_int (check_bad (by dsimp only; omega)), ((Ext.refl _).alloc _).alloc _⟩)
    | skip
  have x0 : Ext w ((w.alloc (.cells #[.slice A ss.length c, .slice B pp.length e, .int .i64 left, .bool stopped] 25)).alloc (.cells #[.int .i64 ss.length] 3)) := ((Ext.refl _).alloc _).alloc _
  (with_reducible refine (containsW_any _ pp (w.heap.size + 1) ss.length _ (by simp [go_sem]) (by simp) (H2.out.ext x0)).mono ?_)
  rintro e1 w1 ⟨rfl, hx⟩
  have hc := hx.cells
  have hsz := hx.size
  simp only [World.size_alloc] at hsz
  cases hbad : pp.any (badWrite ss.length)
  · have H1' := Lib.hid ((H1.out.ext x0).ext hx)
    have HX := Lib.hid (x0.trans hx)
    clear x0 hx
    go_wp2_with fail
    (with_reducible refine (containsB_any _ ss _ H1'.out).mono ?_)
    rintro e2 w2 ⟨rfl, hx2⟩
    cases hbad2 : ss.any badSector
    · go_wp2
      go_ret
      exact ⟨ret_int (check_good (by dsimp only; omega) hbad hbad2), HX.out.trans hx2⟩
    · go_wp2
      go_ret
      exact ⟨ret_int (check_bad2 (.inr hbad2)), HX.out.trans hx2⟩
  · have HX := Lib.hid (x0.trans hx)
    go_wp2
    go_ret
    exact ⟨ret_int (check_bad2 (.inl hbad)), HX.out⟩

def Dk.runs (d : Dk) : Bool := decide (d.check = 0) && !d.stopped
def Dk.has (d : Dk) (at_ : Int) : Bool := decide (0 ≤ at_) && decide (at_ < d.sectors.length)

theorem check_01 (d : Dk) : d.check = 0 ∨ d.check = 380 := by unfold Dk.check; split <;> simp

set_option maxHeartbeats 1000000 in
theorem runs_any (v : Value) (d : Dk) (w : World) (hd : RDk S w v d) :
    Calls Try.prog 35 #[v] w (RB w d.runs) := by
  obtain ⟨A, c, B, e, rfl, h1, h2⟩ := hd.form
  have HD := Lib.hid hd
  have HR : Hid (d.runs = (decide (d.check = 0) && !d.stopped)) := rfl
  have h01 := check_01 d
  clear hd h1 h2
  go_enter Try.func35, Try.ntmps35
  go_wp2_with fail
  (with_reducible refine (check_any _ d _ (HD.out.ext ((Ext.refl _).alloc _))).mono ?_)
  rintro e1 w1 ⟨rfl, hx⟩
  have hx0 := Lib.hid (((Ext.refl w).alloc _).trans hx)
  have hc := hx.cells
  have hsz := hx.size
  simp only [World.size_alloc] at hsz
  clear hx
  rcases h01 with h01 | h01
  · rw [h01]
    have H01 := Lib.hid h01
    clear h01
    go_wp2
    go_ret
    exact ⟨ret_bool (by rw [HR.out, H01.out]; simp), hx0.out⟩
  · rw [h01]
    have H01 := Lib.hid h01
    clear h01
    go_wp2
    go_ret
    exact ⟨ret_bool (by rw [HR.out, H01.out]; simp), hx0.out⟩

set_option maxHeartbeats 1000000 in
theorem has_any (v : Value) (d : Dk) (at_ : Int) (w : World) (hd : RDk S w v d) :
    Calls Try.prog 36 #[v, .int .i64 at_] w (RB w (d.has at_)) := by
  obtain ⟨A, c, B, e, rfl, h1, h2⟩ := hd.form
  have HR : Hid (d.has at_ = (decide (0 ≤ at_) && decide (at_ < d.sectors.length))) := rfl
  clear hd h1 h2
  go_enter Try.func36, Try.ntmps36
  go_wp2
  all_goals
    go_ret
    exact ⟨ret_bool (by rw [HR.out, Bool.eq_iff_iff]; simp; omega), (Ext.refl _).alloc _⟩

def Dk.restart (d : Dk) : Dk := ⟨d.sectors, [], -1, false⟩

set_option maxHeartbeats 1000000 in
theorem restart_any (v : Value) (d : Dk) (w : World) (hd : RDk S w v d) :
    Calls Try.prog 17 #[v] w (RD S w d.restart) := by
  obtain ⟨A, c, B, e, rfl, h1, h2⟩ := hd.form
  have H1 := Lib.hid h1
  clear hd h1 h2
  go_enter Try.func17, Try.ntmps17
  go_wp2
  refine bodyPost_ret (v := .agg #[.slice A d.sectors.length c, .slice none 0 0, .int .i64 (-1), .bool false]) (by simp [results, Try.results17, go_sem]) rfl ?_
  exact ⟨_, rfl, RDk.mk (H1.out.ext (((Ext.refl _).alloc _).alloc _)).up (RSl.nil _), ((Ext.refl _).alloc _).alloc _⟩

def Dk.stop (d : Dk) (left : Int) : Dk × Int := if d.runs = false then (Dk.zero, 380) else if left < 0 ∨ 65536 < left then (Dk.zero, 1) else (⟨d.sectors, d.pending, left, d.stopped⟩, 0)

theorem RDk.zero (w : World) : RDk S w (.agg #[.slice none 0 0, .slice none 0 0, .int .i64 0, .bool false]) Dk.zero := RDk.mk (RSl.nil _) (RSl.nil _)

theorem RDE.mk {w w' : World} {d : Dk} {n : Int} {v : Value} {d' : Dk × Int} (hd : d' = (d, n)) (h1 : RDk (Fr S w) w' v d) (h2 : Ext w w') : RDE S w d'.1 d'.2 (.returned (.tuple #[v, .int .i64 n])) w' := by
  subst hd; exact ⟨v, rfl, h1, h2⟩

theorem RDE.mk' {w w' : World} {d : Dk} {n : Int} {v : Value} {d' : Dk × Int} (hd : d' = (d, n)) (h2 : Ext w w') (h1 : Ext w w' → RDk (Fr S w) w' v d) : RDE S w d'.1 d'.2 (.returned (.tuple #[v, .int .i64 n])) w' :=
  RDE.mk hd (h1 h2) h2

set_option maxHeartbeats 1000000 in
theorem stop_any (v : Value) (d : Dk) (left : Int) (w : World) (hd : RDk S w v d) :
    Calls Try.prog 25 #[v, .int .i64 left] w (RDE S w (d.stop left).1 (d.stop left).2) := by
  obtain ⟨A, c, B, e, rfl, h1, h2⟩ := hd.form
  have HD := Lib.hid hd
  clear hd h1 h2
  go_enter Try.func25, Try.ntmps25
  go_wp2_with fail
  (with_reducible refine (runs_any _ d _ (HD.out.ext (((Ext.refl _).alloc _).alloc _))).mono ?_)
  rintro e1 w1 ⟨rfl, hx⟩
  have hx0 := Lib.hid ((((Ext.refl w).alloc _).alloc _).trans hx)
  have k0 := hx.loc w.heap.size (by simp only [World.size_alloc]; omega)
  have k1 := hx.loc (w.heap.size + 1) (by simp only [World.size_alloc]; omega)
  simp [go_sem] at k0 k1
  have hsz := hx.size
  simp only [World.size_alloc] at hsz
  clear hx
  obtain ⟨k0, z0⟩ := k0
  obtain ⟨k1, z1⟩ := k1
  cases hr : d.runs
  · have HR := Lib.hid hr
    clear hr
    go_wp2
    refine bodyPost_ret (v := .tuple #[.agg #[.slice none 0 0, .slice none 0 0, .int .i64 0, .bool false], .int .i64 380]) (by simp [results, Try.results25, go_sem, k1, z1]) rfl ?_
    exact RDE.mk (by unfold Dk.stop; rw [if_pos HR.out]) (RDk.zero _) ((((hx0.out.setCell (p := ⟨w.heap.size + 1, 0, none⟩) (Nat.le_succ _) _).setCell (p := ⟨w.heap.size + 1, 1, none⟩) (Nat.le_succ _) _).setCell (p := ⟨w.heap.size + 1, 2, none⟩) (Nat.le_succ _) _).setCell (p := ⟨w.heap.size + 1, 3, none⟩) (Nat.le_succ _) _)
  · have HR := Lib.hid hr
    clear hr
    rcases (by omega : left < 0 ∨ 65536 < left ∨ (0 ≤ left ∧ left ≤ 65536)) with hl | hl | ⟨hl, hl'⟩
    · go_wp2
      refine bodyPost_ret (v := .tuple #[.agg #[.slice none 0 0, .slice none 0 0, .int .i64 0, .bool false], .int .i64 1]) (by simp [results, Try.results25, go_sem, k1, z1]) rfl ?_
      exact RDE.mk (by unfold Dk.stop; rw [if_neg (by rw [HR.out]; simp), if_pos (by omega)]) (RDk.zero _) ((((hx0.out.setCell (p := ⟨w.heap.size + 1, 0, none⟩) (Nat.le_succ _) _).setCell (p := ⟨w.heap.size + 1, 1, none⟩) (Nat.le_succ _) _).setCell (p := ⟨w.heap.size + 1, 2, none⟩) (Nat.le_succ _) _).setCell (p := ⟨w.heap.size + 1, 3, none⟩) (Nat.le_succ _) _)
    · go_wp2
      refine bodyPost_ret (v := .tuple #[.agg #[.slice none 0 0, .slice none 0 0, .int .i64 0, .bool false], .int .i64 1]) (by simp [results, Try.results25, go_sem, k1, z1]) rfl ?_
      exact RDE.mk (by unfold Dk.stop; rw [if_neg (by rw [HR.out]; simp), if_pos (by omega)]) (RDk.zero _) ((((hx0.out.setCell (p := ⟨w.heap.size + 1, 0, none⟩) (Nat.le_succ _) _).setCell (p := ⟨w.heap.size + 1, 1, none⟩) (Nat.le_succ _) _).setCell (p := ⟨w.heap.size + 1, 2, none⟩) (Nat.le_succ _) _).setCell (p := ⟨w.heap.size + 1, 3, none⟩) (Nat.le_succ _) _)
    · go_wp2
      refine bodyPost_ret (v := .tuple #[.agg #[.slice A d.sectors.length c, .slice B d.pending.length e, .int .i64 left, .bool d.stopped], .int .i64 0]) (by simp [results, Try.results25, go_sem, k0, z0, k1, z1]) rfl ?_
      exact RDE.mk' (by unfold Dk.stop; rw [if_neg (by rw [HR.out]; simp), if_neg (by omega)]) (((((hx0.out.setCell (p := ⟨w.heap.size, 2, none⟩) (Nat.le_refl _) _).setCell (p := ⟨w.heap.size + 1, 0, none⟩) (Nat.le_succ _) _).setCell (p := ⟨w.heap.size + 1, 1, none⟩) (Nat.le_succ _) _).setCell (p := ⟨w.heap.size + 1, 2, none⟩) (Nat.le_succ _) _).setCell (p := ⟨w.heap.size + 1, 3, none⟩) (Nat.le_succ _) _) (fun hE => RDk.mk (HD.out.len.1.ext hE).up (HD.out.len.2.1.ext hE).up)

end Go.Proofs.Ytklhgghlkidfjaa
