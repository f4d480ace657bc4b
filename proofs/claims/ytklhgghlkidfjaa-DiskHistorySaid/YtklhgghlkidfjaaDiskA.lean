/- The disk's data in memory, and the contracts of disk.isSector, Check and what they call. -/
import Derived.Test.YtklhgghlkidfjaaProg
import Derived.Test.YtklhgghlkidfjaaBase
import Derived.Handy
namespace Go.Proofs.Ytklhgghlkidfjaa
open Go.RowKit

variable {S S' : Nat → Prop}

/-- A write: where, and the bytes. -/
def RWr (S : Nat → Prop) (w : World) (cs : List Value) (x : Int × List UInt8) : Prop := ∃ v, cs = [.int .i64 x.1, v] ∧ RBs S w v x.2
theorem RWr.ext {w w' : World} {cs : List Value} {x : Int × List UInt8} (h : RWr S w cs x) (he : Ext w w') : RWr S w' cs x := by
  obtain ⟨v, hv, h⟩ := h; exact ⟨v, hv, h.ext he⟩
def RWs (S : Nat → Prop) (w : World) (v : Value) (l : List (Int × List UInt8)) : Prop := RSl S 2 (RWr S) w v l
theorem RWs.ext {w w' : World} {v : Value} {l : List (Int × List UInt8)} (h : RWs S w v l) (he : Ext w w') : RWs S w' v l := RSl.ext h he fun _ _ h => h.ext he
theorem RWs.form {w : World} {v : Value} {l : List (Int × List UInt8)} (h : RWs S w v l) : ∃ A cap, v = .slice A l.length cap ∧ l.length ≤ cap ∧ cap ≤ 9223372036854775807 := RSl.form h
theorem RWs.at {w : World} {A : Option Addr} {n cap : Nat} {l : List (Int × List UInt8)} (h : RWs S w (.slice A n cap) l) : n = l.length ∧ (n ≤ cap ∧ cap ≤ 9223372036854775807) ∧
    (0 < n → ∃ b off, A = some ⟨b, off, none⟩ ∧ b < w.heap.size ∧ ∀ i (h : i < l.length), ∃ v, w.cell? ⟨b, off + i * 2, none⟩ = some (.int .i64 l[i].1) ∧ w.cell? ⟨b, off + i * 2 + 1, none⟩ = some v ∧ RBs S w v l[i].2) := by
  obtain ⟨hn, hc, hl⟩ := RSl.elem h
  refine ⟨hn, hc, fun h0 => ?_⟩
  obtain ⟨b, off, ha, hb, hx⟩ := hl h0
  refine ⟨b, off, ha, hb, fun i hi => ?_⟩
  obtain ⟨cs, hk, hcs, v, rfl, hr⟩ := hx i hi
  exact ⟨v, by simpa using hcs 0 _ rfl, by simpa using hcs 1 _ rfl, hr⟩

/-- A disk. -/
structure Dk where
  sectors : List (List UInt8)
  pending : List (Int × List UInt8)
  left : Int
  stopped : Bool

def RDk (S : Nat → Prop) (w : World) (v : Value) (d : Dk) : Prop :=
  ∃ A n c B m e, v = .agg #[.slice A n c, .slice B m e, .int .i64 d.left, .bool d.stopped] ∧ RBss S w (.slice A n c) d.sectors ∧ RWs S w (.slice B m e) d.pending
theorem RDk.ext {w w' : World} {v : Value} {d : Dk} (h : RDk S w v d) (he : Ext w w') : RDk S w' v d := by
  obtain ⟨A, n, c, B, m, e, hv, h1, h2⟩ := h; exact ⟨A, n, c, B, m, e, hv, h1.ext he, h2.ext he⟩

theorem RWr.keep {w w' : World} {cs : List Value} {x : Int × List UInt8} (h : RWr S w cs x) (hz : w.heap.size ≤ w'.heap.size) (hk : ∀ b, S b → b < w.heap.size → w'.heap[b]? = w.heap[b]?) : RWr S w' cs x := by
  obtain ⟨v, hv, h⟩ := h; exact ⟨v, hv, h.keep hz hk⟩
theorem RWr.sub {w : World} {cs : List Value} {x : Int × List UInt8} (h : RWr S w cs x) (hs : ∀ b, S b → S' b) : RWr S' w cs x := by
  obtain ⟨v, hv, h⟩ := h; exact ⟨v, hv, h.sub hs⟩
theorem RWs.keep {w w' : World} {v : Value} {l : List (Int × List UInt8)} (h : RWs S w v l) (hz : w.heap.size ≤ w'.heap.size) (hk : ∀ b, S b → b < w.heap.size → w'.heap[b]? = w.heap[b]?) : RWs S w' v l := RSl.keep h hz hk fun _ _ h => h.keep hz hk
theorem RWs.sub {w : World} {v : Value} {l : List (Int × List UInt8)} (h : RWs S w v l) (hs : ∀ b, S b → S' b) : RWs S' w v l := RSl.sub h hs fun _ _ h => h.sub hs
theorem RWs.up {w w0 : World} {v : Value} {l : List (Int × List UInt8)} (h : RWs S w v l) : RWs (Fr S w0) w v l := h.sub fun _ => .inl
theorem RDk.keep {w w' : World} {v : Value} {d : Dk} (h : RDk S w v d) (hz : w.heap.size ≤ w'.heap.size) (hk : ∀ b, S b → b < w.heap.size → w'.heap[b]? = w.heap[b]?) : RDk S w' v d := by
  obtain ⟨A, n, c, B, m, e, hv, h1, h2⟩ := h; exact ⟨A, n, c, B, m, e, hv, h1.keep hz hk, h2.keep hz hk⟩
theorem RDk.sub {w : World} {v : Value} {d : Dk} (h : RDk S w v d) (hs : ∀ b, S b → S' b) : RDk S' w v d := by
  obtain ⟨A, n, c, B, m, e, hv, h1, h2⟩ := h; exact ⟨A, n, c, B, m, e, hv, h1.sub hs, h2.sub hs⟩
theorem RDk.up {w w0 : World} {v : Value} {d : Dk} (h : RDk S w v d) : RDk (Fr S w0) w v d := h.sub fun _ => .inl

/-- returned b; nothing that was there has changed. -/
def RB (w : World) (b : Bool) (e : Ending) (w' : World) : Prop := e = .returned (.bool b) ∧ Ext w w'
def RI (w : World) (n : Int) (e : Ending) (w' : World) : Prop := e = .returned (.int .i64 n) ∧ Ext w w'

/-! plain functions -/
def badWrite (n : Nat) (x : Int × List UInt8) : Bool := decide (x.1 < 0) || decide ((n : Int) ≤ x.1) || !decide (x.2.length = 128)
def badSector (x : List UInt8) : Bool := !decide (x.length = 128)
def Dk.bad (d : Dk) : Bool := decide (d.sectors.length < 1) || decide (4096 < d.sectors.length) || decide (4096 < d.pending.length) || decide (d.left < -1) || decide (65536 < d.left) || d.pending.any (badWrite d.sectors.length) || d.sectors.any badSector
def Dk.check (d : Dk) : Int := if d.bad then 380 else 0

set_option maxHeartbeats 400000 in
theorem isSector_any (a : Option Addr) (len cap : Nat) (w : World) :
    Calls Try.prog 31 #[.slice a len cap] w fun e w' => e = .returned (.bool (decide (len = 128))) ∧ w = w' := by
  go_enter Try.func31, Try.ntmps31
  go_wp2
  go_ret
  exact ⟨ret_bool (by rw [Bool.eq_iff_iff]; simp; omega), rfl⟩

set_option maxHeartbeats 400000 in
theorem bad1_any (at_ : Int) (a : Option Addr) (len cap : Nat) (b : Nat) (n : Int) (w : World) (hb : w.cell? ⟨b, 0, none⟩ = some (.int .i64 n)) (hbl : b < w.heap.size) :
    Calls Try.prog 30 #[.agg #[.int .i64 at_, .slice a len cap], .pointer (some ⟨b, 0, none⟩)] w (RB w (decide (at_ < 0) || decide (n ≤ at_) || !decide (len = 128))) := by
  go_enter Try.func30, Try.ntmps30
  go_wp2_with (go_at_call 31; refine (isSector_any _ _ _ _).mono ?_; rintro e w' ⟨rfl, rfl⟩)
  all_goals
    go_ret
    exact ⟨ret_bool (by simp [*]), (Ext.refl _).alloc _⟩

set_option maxHeartbeats 400000 in
theorem bad2_any (a : Option Addr) (len cap : Nat) (w : World) :
    Calls Try.prog 34 #[.slice a len cap] w fun e w' => e = .returned (.bool (!decide (len = 128))) ∧ w = w' := by
  go_enter Try.func34, Try.ntmps34
  go_wp2_with (go_at_call 31; refine (isSector_any _ _ _ _).mono ?_; rintro e w' ⟨rfl, rfl⟩)
  go_ret
  exact ⟨rfl, rfl⟩

/-- IndexFunc over writes: at least 0 exactly if one is bad. -/
def RIdx (w : World) (b : Bool) (e : Ending) (w' : World) : Prop := ∃ r : Int, e = .returned (.int .i64 r) ∧ Ext w w' ∧ decide (0 ≤ r) = b

theorem any_take_succ {α : Type} (p : α → Bool) (l : List α) (k : Nat) (h : k < l.length) : (l.take (k + 1)).any p = ((l.take k).any p || p l[k]) := by
  rw [List.take_succ_eq_append_getElem h, List.any_append]; simp only [List.any_cons, List.any_nil, Bool.or_false]

theorem any_of_take {α : Type} (p : α → Bool) (l : List α) (k : Nat) (h : (l.take k).any p = true) : l.any p = true := by
  rw [List.any_eq_true] at *
  obtain ⟨x, hx, hp⟩ := h
  exact ⟨x, List.mem_of_mem_take hx, hp⟩

set_option maxHeartbeats 400000 in
theorem indexW_any (v : Value) (l : List (Int × List UInt8)) (b : Nat) (n : Nat) (w : World) (hb : w.cell? ⟨b, 0, none⟩ = some (.int .i64 n)) (hbl : b < w.heap.size)
    (hs : RWs S w v l) :
    Calls Try.prog 43 #[v, .func (.func 30) #[] #[.pointer (some ⟨b, 0, none⟩)]] w (RIdx w (l.any (badWrite n))) := by
  obtain ⟨A, cap, rfl, hcap, hmax⟩ := hs.form
  have HS := Lib.hid hs.at.2.2; clear hs
  have HB := Lib.hid hb; clear hb
  go_enter Try.func43, Try.ntmps43
  go_wp2
  go_loopw [8] (fun i wr => ∃ k : Nat, k ≤ l.length ∧ i = .int .i64 k ∧ Ext w wr ∧ Hid ((l.take k).any (badWrite n) = false)) (fun i _ => l.length - (intOf i).toNat)
  case atStart => exact ⟨0, Nat.zero_le _, rfl, Ext.refl _, by show _ = _; simp⟩
  case round =>
    obtain ⟨k, hk, rfl, hbw, hno⟩ := hrel
    by_cases hlt : k < l.length
    · obtain ⟨ba, off, rfl, hba, hc⟩ := HS.out (by omega)
      obtain ⟨x, c1, c2, hx⟩ := hc k hlt
      clear hc
      obtain ⟨A', cap', rfl, hcap', hmax'⟩ := hx.form
      have e1 := hbw.keep c1
      have e2 := hbw.keep c2
      have HX := Lib.hid hx
      clear c1 c2 hx
      have hsz := hbw.size
      have HCB := Lib.hid (hbw.keep HB.out)
      go_wp2_with fail
      (with_reducible refine (bad1_any _ _ _ _ b n _ HCB.out (by omega)).mono ?_)
      rintro e w1 ⟨rfl, hb1⟩
      have hbb := hbw.trans hb1
      have hts := any_take_succ (badWrite n) l k hlt
      have HTS := Lib.hid hts
      clear hts
      cases hbad : (decide (l[k].1 < 0) || decide ((n : Int) ≤ l[k].1) || !decide (l[k].2.length = 128))
      · go_wp2
        go_roundw
        case rel => exact ⟨k + 1, by omega, by go_num, hbb, by show _ = _; rw [HTS.out, hno.out]; exact hbad⟩
        case measure => simp [intOf]; omega
      · go_wp2
        go_ret
        refine ⟨k, rfl, hbb, ?_⟩
        rw [any_of_take _ l (k + 1) (by rw [HTS.out]; rw [Bool.or_eq_true]; exact .inr hbad)]
        simp
    · go_wp2_with fail
      go_ret
      refine ⟨-1, rfl, hbw, ?_⟩
      have := hno.out
      rw [List.take_of_length_le (by omega)] at this
      rw [this]; rfl

set_option maxHeartbeats 400000 in
theorem indexB_any (v : Value) (l : List (List UInt8)) (w : World)
    (hs : RBss S w v l) :
    Calls Try.prog 44 #[v, .func (.func 34) #[] #[]] w (RIdx w (l.any badSector)) := by
  obtain ⟨A, cap, rfl, hcap, hmax⟩ := hs.form
  have HS := Lib.hid hs.at.2.2; clear hs
  go_enter Try.func44, Try.ntmps44
  go_wp2
  go_loopw [8] (fun i wr => ∃ k : Nat, k ≤ l.length ∧ i = .int .i64 k ∧ w = wr ∧ Hid ((l.take k).any badSector = false)) (fun i _ => l.length - (intOf i).toNat)
  case atStart => exact ⟨0, Nat.zero_le _, rfl, rfl, by show _ = _; simp⟩
  case round =>
    obtain ⟨k, hk, rfl, rfl, hno⟩ := hrel
    by_cases hlt : k < l.length
    · obtain ⟨ba, off, rfl, hba, hc⟩ := HS.out (by omega)
      obtain ⟨x, c1, hx⟩ := hc k hlt
      clear hc
      obtain ⟨A', cap', rfl, hcap', hmax'⟩ := hx.form
      have HX := Lib.hid hx
      clear hx
      go_wp2_with fail
      (with_reducible refine (bad2_any _ _ _ _).mono ?_)
      rintro e w1 ⟨rfl, rfl⟩
      have HTS := Lib.hid (any_take_succ badSector l k hlt)
      cases hbad : (!decide (l[k].length = 128))
      · go_wp2
        go_roundw
        case rel => exact ⟨k + 1, by omega, by go_num, by trivial, by show _ = _; rw [HTS.out, hno.out]; exact hbad⟩
        case measure => simp [intOf]; omega
      · go_wp2
        go_ret
        refine ⟨k, rfl, Ext.refl _, ?_⟩
        rw [any_of_take _ l (k + 1) (by rw [HTS.out]; rw [Bool.or_eq_true]; exact .inr hbad)]
        simp
    · go_wp2_with fail
      go_ret
      refine ⟨-1, rfl, Ext.refl _, ?_⟩
      have := hno.out
      rw [List.take_of_length_le (by omega)] at this
      rw [this]; rfl

set_option maxHeartbeats 400000 in
theorem containsW_any (v : Value) (l : List (Int × List UInt8)) (b : Nat) (n : Nat) (w : World) (hb : w.cell? ⟨b, 0, none⟩ = some (.int .i64 n)) (hbl : b < w.heap.size)
    (hs : RWs S w v l) :
    Calls Try.prog 32 #[v, .func (.func 30) #[] #[.pointer (some ⟨b, 0, none⟩)]] w (RB w (l.any (badWrite n))) := by
  have HB := Lib.hid hb; clear hb
  have HS := Lib.hid hs; clear hs
  go_enter Try.func32, Try.ntmps32
  go_wp2_with fail
  (with_reducible refine (indexW_any _ l b n _ HB.out hbl HS.out).mono ?_)
  rintro e w1 ⟨r, rfl, hx, hr⟩
  have HR := Lib.hid hr; clear hr
  go_wp2
  go_ret
  exact ⟨ret_bool HR.out, hx⟩

set_option maxHeartbeats 400000 in
theorem containsB_any (v : Value) (l : List (List UInt8)) (w : World)
    (hs : RBss S w v l) :
    Calls Try.prog 33 #[v, .func (.func 34) #[] #[]] w (RB w (l.any badSector)) := by
  have HS := Lib.hid hs; clear hs
  go_enter Try.func33, Try.ntmps33
  go_wp2_with fail
  (with_reducible refine (indexB_any _ l _ HS.out).mono ?_)
  rintro e w1 ⟨r, rfl, hx, hr⟩
  have HR := Lib.hid hr; clear hr
  go_wp2
  go_ret
  exact ⟨ret_bool HR.out, hx⟩

end Go.Proofs.Ytklhgghlkidfjaa
