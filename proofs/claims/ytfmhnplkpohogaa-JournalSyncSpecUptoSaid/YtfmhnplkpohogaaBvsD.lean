/- Several texts in one: DiskO, LocD, RefB, RefC0, Frame, LawA, RefC1, Plain, JrP, Apl, Apm, JrE. -/
import Derived.Test.YtfmhnplkpohogaaBvsC
import Derived.Test.YtfmhnplkpohogaaBvsA
import Derived.ProofKit
import Derived.SizedLaws
import Derived.Deep.Slices
import Derived.KernelRfl
import Derived.Test.YtfmhnplkpohogaaBvsB
import Derived.Test.YtfmhnplkpohogaaProg
set_option linter.unusedVariables false
set_option linter.unusedSimpArgs false
namespace Go.Proofs.Ytfmhnplkpohogaa
set_option maxRecDepth 100000
open Go.RowKit

variable {S S' : Nat → Prop}

attribute [local go_sem] make128

/-- Some disks that read; some blocks that are known whole: carried from world to world in one go. -/
def AllD (W : World) (l : List ((Nat → Prop) × Value × Dk)) : Prop := ∀ x ∈ l, RDk x.1 W x.2.1 x.2.2
def AllB (W : World) (l : List (Nat × TypeId × List Value)) : Prop := ∀ x ∈ l, Blk W x.1 x.2.1 x.2.2

theorem AllD.nil (W : World) : AllD W [] := fun _ h => by cases h
theorem AllB.nil (W : World) : AllB W [] := fun _ h => by cases h
theorem AllD.cons {W : World} {l : List ((Nat → Prop) × Value × Dk)} (h : AllD W l) {v : Value} {d : Dk} (hd : RDk S W v d) : AllD W ((S, v, d) :: l) := fun x hx => by
  cases hx with
  | head => exact hd
  | tail _ hx => exact h x hx
theorem AllB.cons {W : World} {l : List (Nat × TypeId × List Value)} (h : AllB W l) {n : Nat} {t : TypeId} {cs : List Value} (hb : Blk W n t cs) : AllB W ((n, t, cs) :: l) := fun x hx => by
  cases hx with
  | head => exact hb
  | tail _ hx => exact h x hx
theorem AllD.ext {W W' : World} {l : List ((Nat → Prop) × Value × Dk)} (h : AllD W l) (hx : Ext W W') : AllD W' l := fun x hm => (h x hm).ext hx
theorem AllB.ext {W W' : World} {l : List (Nat × TypeId × List Value)} (h : AllB W l) (hx : Ext W W') : AllB W' l := fun x hm => (h x hm).ext hx
theorem AllD.alloc {W : World} {l : List ((Nat → Prop) × Value × Dk)} (h : AllD W l) (o : Obj) : AllD (W.alloc o) l := h.ext ((Ext.refl _).alloc _)
theorem AllB.alloc {W : World} {l : List (Nat × TypeId × List Value)} (h : AllB W l) (o : Obj) : AllB (W.alloc o) l := h.ext ((Ext.refl _).alloc _)
theorem AllD.d0 {W : World} {x : (Nat → Prop) × Value × Dk} {l : List ((Nat → Prop) × Value × Dk)} (h : AllD W (x :: l)) : RDk x.1 W x.2.1 x.2.2 := h x (List.mem_cons_self ..)
theorem AllD.tl {W : World} {x : (Nat → Prop) × Value × Dk} {l : List ((Nat → Prop) × Value × Dk)} (h : AllD W (x :: l)) : AllD W l := fun y hy => h y (List.mem_cons_of_mem _ hy)
theorem AllB.b0 {W : World} {x : Nat × TypeId × List Value} {l : List (Nat × TypeId × List Value)} (h : AllB W (x :: l)) : Blk W x.1 x.2.1 x.2.2 := h x (List.mem_cons_self ..)
theorem AllB.tl {W : World} {x : Nat × TypeId × List Value} {l : List (Nat × TypeId × List Value)} (h : AllB W (x :: l)) : AllB W l := fun y hy => h y (List.mem_cons_of_mem _ hy)

end Go.Proofs.Ytfmhnplkpohogaa

namespace Go.Proofs.Ytfmhnplkpohogaa
open Go.RowKit

variable {S S' : Nat → Prop}

theorem RWs.pres {w w' : World} {v : Value} {l : List (Int × List UInt8)} (h : RWs S w v l) (hp : Pres S w w') : RWs S w' v l := h.keep hp.1 hp.2
theorem RDk.pres {w w' : World} {v : Value} {d : Dk} (h : RDk S w v d) (hp : Pres S w w') : RDk S w' v d := h.keep hp.1 hp.2
theorem RWr.subB {w : World} {cs : List Value} {x : Int × List UInt8} (h : RWr S w cs x) (hs : ∀ b, b < w.heap.size → S b → S' b) : RWr S' w cs x := by
  obtain ⟨v, hv, h⟩ := h; exact ⟨v, hv, h.subB hs⟩
theorem RWs.subB {w : World} {v : Value} {l : List (Int × List UInt8)} (h : RWs S w v l) (hs : ∀ b, b < w.heap.size → S b → S' b) : RWs S' w v l := RSl.subB h hs fun _ _ h => h.subB hs
theorem RDk.subB {w : World} {v : Value} {d : Dk} (h : RDk S w v d) (hs : ∀ b, b < w.heap.size → S b → S' b) : RDk S' w v d := by
  obtain ⟨A, n, c, B, m, e, hv, h1, h2⟩ := h; exact ⟨A, n, c, B, m, e, hv, h1.subB hs, h2.subB hs⟩

end Go.Proofs.Ytfmhnplkpohogaa

namespace Go.Proofs.Ytfmhnplkpohogaa
set_option maxRecDepth 100000
open Go.RowKit

variable {S S' : Nat → Prop}

theorem own_baseR {w : World} {base base' : Nat} {e : TypeId} {k : Nat} {v : Value} {n : Nat} {xs : List Value} (h : w.ownsRow base e k v n xs) (hb : base' ≤ base) : w.ownsRow base' e k v n xs := by
  refine ⟨h.1, ?_⟩
  rcases h.2 with h0 | ⟨g, cap, cur, hv, hbb, rest⟩
  · exact .inl h0
  · exact .inr ⟨g, cap, cur, hv, Nat.le_trans hb hbb, rest⟩
def lenOf : Value → Nat | .slice _ n _ => n | _ => 0

theorem byteVals_length (l : List UInt8) : (byteVals l).length = l.length := by simp [byteVals]
theorem byteVals_snoc (l : List UInt8) (c : UInt8) : byteVals (l ++ [c]) = byteVals l ++ [.int .u8 c.toNat] := by simp [byteVals]
theorem byteVals_append (l m : List UInt8) : byteVals (l ++ m) = byteVals l ++ byteVals m := by simp [byteVals]

theorem rwrite_fin {w w' : World} {d : Dk} {A B : Option Addr} {c cap : Nat} {e e8 : TypeId} {xs : List Value} {at_ : Int} {b : List UInt8} {u : Value} {base base8 : Nat} (hx : Ext w w') (hs : RBss S w (.slice A d.sectors.length c) d.sectors)
    (pr : ∀ i (h : i < d.pending.length), RWr S w (chunk 2 xs i) d.pending[i]) (p0 : xs.length = d.pending.length * 2) (p1 : ∀ u ∈ xs, u.oneCell' = true)
    (ho : w'.ownsRow base e 2 (.slice B (d.pending.length + 1) cap) (d.pending.length + 1) (xs ++ [.int .i64 at_, u]))
    (hg : w'.ownsRow base8 e8 1 u 128 (byteVals (fill128 b))) (hgw : w.heap.size ≤ base8) (hbw : w.heap.size ≤ base) :
    RDE S w ⟨d.sectors, d.pending ++ [(at_, fill128 b)], d.left, d.stopped⟩ 0 (.returned (.tuple #[.agg #[.slice A d.sectors.length c, .slice B (d.pending.length + 1) cap, .int .i64 d.left, .bool d.stopped], .int .i64 0])) w' := by
  refine ⟨_, rfl, RDk.mk (hs.ext hx).up ?_, hx⟩
  have hdata : RBs (Fr S w) w' u (fill128 b) := RBs.own hg (fun b hb => .inr (Nat.le_trans hgw hb))
  obtain ⟨A8, c8, rfl, _, _⟩ := own_any hg
  refine RSl.own ho (fun b hb => .inr (Nat.le_trans hbw hb)) (by simp) (fun u hu => ?_) (fun i hi => ?_)
  · rcases List.mem_append.1 hu with h | h
    · exact p1 u h
    · simp at h
      rcases h with rfl | rfl <;> rfl
  · rcases Nat.lt_or_ge i d.pending.length with h | h
    · rw [chunk_append_left p0 h, List.getElem_append_left h]
      exact ((pr i h).ext hx).sub fun _ => .inl
    · have hi' : i = d.pending.length := by simp at hi; omega
      subst hi'
      rw [chunk_append_right p0 (Nat.le_refl _), Nat.sub_self, chunk_self (by rfl)]
      simp only [List.getElem_append_right (Nat.le_refl _), Nat.sub_self, List.getElem_cons_zero]
      exact ⟨_, rfl, hdata⟩

set_option maxRecDepth 100000 in
set_option maxHeartbeats 4000000 in
theorem rwrite_ok (v u : Value) (d : Dk) (n : Nat) (b : List UInt8) (w : World) (hd : RDk S w v d) (hu : RBs S w u b)
    (h1 : d.runs = true) (h2 : n < d.sectors.length) (h3 : b.length ≤ 128) (h4 : d.pending.length ≠ 4096) :
    Calls Try.prog 46 #[v, .int .i64 n, u] w (RDE S w ⟨d.sectors, d.pending ++ [((n : Int), fill128 b)], d.left, d.stopped⟩ 0) := by
  obtain ⟨A, c, B, e, rfl, q1, q2⟩ := hd.form
  obtain ⟨C, f, rfl, q3, q4⟩ := hu.form
  obtain ⟨f1, f2, f3, f4, f5, f6, f7, f8⟩ := runs_facts h1
  have hch : d.check = 0 := by rcases runs_cases d with ⟨_, h⟩ | ⟨_, _, h⟩ | ⟨h, _, _⟩ <;> simp_all
  have HCH := Lib.hid hch
  have HD := Lib.hid hd
  have HU := Lib.hid hu
  have HS := Lib.hid q1
  have HP := Lib.hid q2
  have H6 := Lib.hid f6
  have h4' : ((d.pending.length : Int) == 4096) = false := by simp; omega
  clear hd hu h1 q1 q2 f6 f7 f8 hch h4
  go_enter Try.func46, Try.ntmps46
  go_wp2_with fail
  (with_reducible refine (rcheck_any _ d _ (HD.out.ext (((Ext.refl _).alloc _).alloc _))).mono ?_)
  rintro e1 w1 ⟨rfl, hx1⟩
  have B0 := Lib.hid (((Blk.new w w.heap.size _ _ rfl).alloc _).ext hx1)
  have B1 := Lib.hid ((Blk.new _ (w.heap.size + 1) _ _ (by simp)).ext hx1)
  have HX1 := Lib.hid ((((Ext.refl w).alloc _).alloc _).trans hx1)
  clear hx1
  obtain ⟨k0, z0⟩ := B0.out.rule
  rw [H6.out] at k0
  rw [HCH.out]
  go_wp2_with (with_reducible refine stop_append ?_)
  obtain ⟨_, _, hcel⟩ := HU.out.vals
  have hl1 := B1.out.lt
  refine Lib.hid (wpList_app elBytes rfl rfl rfl rfl (World.ownsRow_lit w1 #[] 0 (Nat.le_refl _) (Nat.zero_le _) (by simp)) ((hcel.ext HX1.out).ext ((Ext.refl _).alloc _)) (by simp) (by omega) (by omega) ?_)
  intro v' w' hown hg hat
  simp only [Nat.zero_add, List.nil_append] at hown
  have HO := Lib.hid hown
  have D0 := Lib.hid ((B0.out.alloc (.cells #[] 5)).grown hg (fun e => by have e : some w.heap.size = some w1.heap.size := e; injection e; omega))
  have D1 := Lib.hid ((B1.out.alloc (.cells #[] 5)).grown hg (fun e => by have e : some (w.heap.size + 1) = some w1.heap.size := e; injection e; omega))
  have HX2 := Lib.hid ((HX1.out.alloc _).grown hg (fun k hk => by have hk : some w1.heap.size = some k := hk; injection hk; omega))
  clear hown hg hat k0 z0 B0 B1 HX1 hcel
  have hz1 : w.heap.size + 2 ≤ w1.heap.size := by omega
  go_wp2_with fail
  go_loopw [8] (fun v wr => ∃ (k : Nat), k ≤ 128 ∧ b.length ≤ k ∧ lenOf v = k ∧ Hid (Ext w wr) ∧ Hid (Blk wr w.heap.size 25 [.slice A d.sectors.length c, .slice B d.pending.length e, .int .i64 d.left, .bool d.stopped])
      ∧ Hid (Blk wr (w.heap.size + 1) 25 [.slice none 0 0, .slice none 0 0, .int .i64 0, .bool false]) ∧ Hid (wr.ownsRow (w.heap.size + 2) 5 1 v k (byteVals (b ++ List.replicate (k - b.length) 0)))) (fun v _ => 128 - lenOf v)
  case atStart =>
    refine ⟨b.length, h3, Nat.le_refl _, ?_, HX2, D0, D1, ?_⟩
    · obtain ⟨A8, c8, rfl, _, _⟩ := own_any HO.out; rfl
    · rw [Nat.sub_self, List.replicate_zero, List.append_nil]; exact Lib.hid (own_baseR HO.out hz1)
  case round =>
    obtain ⟨k, hk, hbk, hlen, HX, B0, B1, HO⟩ := hrel
    obtain ⟨A8, c8, rfl, hc1, hc2⟩ := own_any HO.out
    have HLEN := Lib.hid hlen
    clear hlen
    obtain ⟨k0, z0⟩ := B0.out.rule
    obtain ⟨k1, z1⟩ := B1.out.rule
    have hl0 := B0.out.lt
    have hl1 := B1.out.lt
    by_cases hlt : k < 128
    · go_wp2_with (with_reducible refine stop_append ?_)
      refine Lib.hid (wpList_app elBytes rfl rfl rfl rfl (own_ext HO.out ((Ext.refl _).alloc _)) (Blk.cel (cs := [.int .u8 0]) (Blk.new wr wr.heap.size _ _ rfl) rfl (fun u hu => by simp at hu; subst hu; rfl)) (by simp; omega) (by omega) (by omega) ?_)
      intro v' w' hown hg hat
      have hbb : byteVals (b ++ List.replicate (k - b.length) 0) ++ [Value.int .u8 0] = byteVals (b ++ List.replicate (k + 1 - b.length) 0) := by
        rw [show k + 1 - b.length = (k - b.length) + 1 from by omega, List.replicate_succ', ← List.append_assoc, byteVals_snoc]; rfl
      rw [hbb] at hown
      obtain ⟨A9, c9, rfl, hc3, hc4⟩ := own_any hown
      have HO' := Lib.hid hown
      have C0 := Lib.hid ((B0.out.alloc (.cells #[.int .u8 0] 5)).grown hg (own_ne HO.out (by omega)))
      have C1 := Lib.hid ((B1.out.alloc (.cells #[.int .u8 0] 5)).grown hg (own_ne HO.out (by omega)))
      have HX' := Lib.hid ((HX.out.alloc (.cells #[.int .u8 0] 5)).grown hg (fun k hk => by have := (HO.out.lt k hk).1; omega))
      clear hown hg hat hbb k0 z0 k1 z1
      go_wp2
      go_roundw
      case rel => exact ⟨k + 1, by omega, by omega, rfl, HX', C0, C1, HO'⟩
      case measure => simp [lenOf]; omega
    · obtain rfl : k = 128 := by omega
      go_wp2_with (with_reducible refine stop_append ?_)
      obtain ⟨_, _, xs, pcel, pr⟩ := RSl.cel HP.out
      have PR := Lib.hid pr
      have PC := Lib.hid pcel
      clear pr pcel
      refine Lib.hid (wpList_app elWs rfl rfl rfl rfl (World.ownsRow_lit wr #[] 0 (Nat.le_refl _) (Nat.zero_le _) (by simp)) ((PC.out.ext HX.out).ext ((Ext.refl _).alloc _)) (by simp) (by omega) (by omega) ?_)
      intro v' w' hown hg hat
      simp only [Nat.zero_add, List.nil_append] at hown
      obtain ⟨A9, c9, rfl, hc3, hc4⟩ := own_any hown
      have HO' := Lib.hid hown
      have C0 := Lib.hid ((B0.out.alloc (.cells #[] 76)).grown hg (fun e => by have e : some w.heap.size = some wr.heap.size := e; injection e; omega))
      have C1 := Lib.hid ((B1.out.alloc (.cells #[] 76)).grown hg (fun e => by have e : some (w.heap.size + 1) = some wr.heap.size := e; injection e; omega))
      have HX' := Lib.hid ((HX.out.alloc (.cells #[] 76)).grown hg (fun k hk => by have hk : some wr.heap.size = some k := hk; injection hk; omega))
      have HO8 := Lib.hid ((own_ext HO.out ((Ext.refl _).alloc (.cells #[] 76))).kept hg (by
        right
        intro e
        have e : (Value.slice A8 128 c8).ownBlock = some wr.heap.size := e
        have := (HO.out.lt _ e).2
        omega))
      have hz' := hg.size
      simp only [World.size_alloc] at hz'
      clear hown hg hat k0 z0 k1 z1 B0 B1 HO
      go_wp2_with (with_reducible refine stop_append ?_)
      refine Lib.hid (wpList_app elWs rfl rfl rfl rfl (own_ext HO'.out ((Ext.refl _).alloc _)) (Blk.cel (cs := [.int .i64 n, .slice A8 128 c8]) (m := 1) (Blk.new w' w'.heap.size _ _ rfl) rfl (fun u hu => by simp at hu; rcases hu with rfl | rfl <;> rfl)) (by simp; omega) (by omega) (by omega) ?_)
      intro v2 w2 hown2 hg2 hat2
      obtain ⟨A7, c7, rfl, hc5, hc6⟩ := own_any hown2
      have HO2 := Lib.hid hown2
      have E0 := Lib.hid ((C0.out.alloc (.cells #[.int .i64 n, .slice A8 128 c8] 76)).grown hg2 (own_ne HO'.out (by omega)))
      have E1 := Lib.hid ((C1.out.alloc (.cells #[.int .i64 n, .slice A8 128 c8] 76)).grown hg2 (own_ne HO'.out (by omega)))
      have HX2 := Lib.hid ((HX'.out.alloc (.cells #[.int .i64 n, .slice A8 128 c8] 76)).grown hg2 (fun k hk => by have := (HO'.out.lt k hk).1; omega))
      have HO82 := Lib.hid ((own_ext HO8.out ((Ext.refl _).alloc (.cells #[.int .i64 n, .slice A8 128 c8] 76))).kept hg2 (by
        cases h8 : (Value.slice A8 128 c8).ownBlock with
        | none => exact .inl rfl
        | some g8 =>
          right
          intro e
          have e : some g8 = (Value.slice A9 d.pending.length c9).ownBlock := e
          obtain ⟨cur, hcur⟩ := own_heap HO8.out h8
          obtain ⟨cur', hcur'⟩ := own_heap HO'.out e.symm
          rw [hcur] at hcur'
          injection hcur' with h
          injection h with _ h _
          exact absurd h (by decide)))
      clear hown2 hg2 hat2 C0 C1
      obtain ⟨k0, z0⟩ := E0.out.rule
      obtain ⟨k1, z1⟩ := E1.out.rule
      have hl0 := E0.out.lt
      have hl1 := E1.out.lt
      go_upto_region 11 with (fail)
      obtain ⟨w3, e3⟩ : ∃ w3, w2.setCell ⟨w.heap.size, 1, none⟩ (.slice A7 (d.pending.length + 1) c7) = w3 := ⟨_, rfl⟩
      rw [e3]
      have F0 : Hid (Blk w3 w.heap.size 25 [.slice A d.sectors.length c, .slice A7 (d.pending.length + 1) c7, .int .i64 d.left, .bool d.stopped]) := by rw [← e3]; exact Lib.hid (E0.out.setE rfl)
      have F1 : Hid (Blk w3 (w.heap.size + 1) 25 [.slice none 0 0, .slice none 0 0, .int .i64 0, .bool false]) := by rw [← e3]; exact Lib.hid (E1.out.farC (by omega))
      have hg3 : w2.grownBy w3 (some w.heap.size) := by rw [← e3]; exact grown_setC (grown_rfl _ _)
      have HX3 := Lib.hid (HX2.out.grownN hg3 (Nat.le_refl _))
      have HO3 := Lib.hid (own_grownN HO2.out hg3 (by omega))
      have HO83 := Lib.hid (own_grownN HO82.out hg3 (by omega))
      clear k0 z0 k1 z1 e3 hg3 E0 E1
      obtain ⟨k0, z0⟩ := F0.out.rule
      obtain ⟨k1, z1⟩ := F1.out.rule
      have hl0 := F0.out.lt
      have hl1 := F1.out.lt
      go_wp2
      obtain ⟨w4, e4, G1, hg4⟩ := set4 F1.out (.slice A d.sectors.length c) (.slice A7 (d.pending.length + 1) c7) (.int .i64 d.left) (.bool d.stopped)
      rw [e4]
      obtain ⟨k2, z2⟩ := G1.rule
      refine bodyPost_ret (v := .tuple #[.agg #[.slice A d.sectors.length c, .slice A7 (d.pending.length + 1) c7, .int .i64 d.left, .bool d.stopped], .int .i64 0]) (by simp [results, Try.f46, go_sem, k2, z2]) rfl ?_
      have hfill : b ++ List.replicate (128 - b.length) 0 = fill128 b := rfl
      have HOF := own_grownN HO83.out hg4 (by omega)
      rw [hfill] at HOF
      exact rwrite_fin (HX3.out.grownN hg4 (by omega)) HS.out PR.out PC.out.1 PC.out.2.1 (own_grownN HO3.out hg4 (by omega)) HOF (by omega) (by omega)

set_option maxHeartbeats 4000000 in
theorem rwrite_bad (v u : Value) (d : Dk) (at_ : Int) (b : List UInt8) (w : World) (hd : RDk S w v d) (hu : RBs S w u b) (n : Int)
    (hn : d.runs = false ∧ n = 380 ∨ d.runs = true ∧ d.has at_ = false ∧ n = 380 ∨ d.runs = true ∧ d.has at_ = true ∧ 128 < b.length ∧ n = 1 ∨ d.runs = true ∧ d.has at_ = true ∧ b.length ≤ 128 ∧ d.pending.length = 4096 ∧ n = 2) :
    Calls Try.prog 46 #[v, .int .i64 at_, u] w (RDE S w Dk.zero n) := by
  obtain ⟨A, c, B, e, rfl, q1, q2⟩ := hd.form
  obtain ⟨C, f, rfl, q3, q4⟩ := hu.form
  obtain ⟨f1, f1'⟩ := q1.at.2.1
  have HD := Lib.hid hd
  have HH : Hid ((d.check = 380 ∧ n = 380) ∨ (d.check = 0 ∧ d.stopped = true ∧ n = 380) ∨ (d.check = 0 ∧ d.stopped = false ∧ at_ < 0 ∧ n = 380) ∨ (d.check = 0 ∧ d.stopped = false ∧ 0 ≤ at_ ∧ d.sectors.length ≤ at_ ∧ n = 380)
      ∨ (d.check = 0 ∧ d.stopped = false ∧ 0 ≤ at_ ∧ at_ < d.sectors.length ∧ 128 < b.length ∧ n = 1) ∨ (d.check = 0 ∧ d.stopped = false ∧ 0 ≤ at_ ∧ at_ < d.sectors.length ∧ b.length ≤ 128 ∧ d.pending.length = 4096 ∧ n = 2)) := by
    show _ ∨ _
    rcases runs_cases d with ⟨h1, h2⟩ | ⟨h1, h2, h3⟩ | ⟨h1, h2, h3⟩
    · rw [h2] at hn
      simp at hn
      exact .inl ⟨h1, hn⟩
    · rw [h3] at hn
      simp at hn
      exact .inr (.inl ⟨h1, h2, hn⟩)
    · rw [h3] at hn
      simp only [Dk.has, Bool.and_eq_false_iff, Bool.and_eq_true, decide_eq_false_iff_not, decide_eq_true_eq, Bool.true_eq_false, false_and, true_and, false_or] at hn
      rcases hn with ⟨h, hn⟩ | ⟨⟨h, h'⟩, h4, hn⟩ | ⟨⟨h, h'⟩, h4, h5, hn⟩
      · by_cases h0 : at_ < 0
        · exact .inr (.inr (.inl ⟨h1, h2, h0, hn⟩))
        · exact .inr (.inr (.inr (.inl ⟨h1, h2, by omega, by omega, hn⟩)))
      · exact .inr (.inr (.inr (.inr (.inl ⟨h1, h2, h, h', h4, hn⟩))))
      · exact .inr (.inr (.inr (.inr (.inr ⟨h1, h2, h, h', h4, h5, hn⟩))))
  have r1 : w.heap.size ≤ w.heap.size + 1 := Nat.le_succ _
  clear hd hu q1 q2 hn
  go_enter Try.func46, Try.ntmps46
  go_wp2_with fail
  (with_reducible refine (rcheck_any _ d _ (HD.out.ext (((Ext.refl _).alloc _).alloc _))).mono ?_)
  rintro e1 w1 ⟨rfl, hx1⟩
  have B0 := Lib.hid (((Blk.new w w.heap.size _ _ rfl).alloc _).ext hx1)
  have B1 := Lib.hid ((Blk.new _ (w.heap.size + 1) _ _ (by simp)).ext hx1)
  have HX1 := Lib.hid ((((Ext.refl w).alloc _).alloc _).trans hx1)
  clear hx1
  obtain ⟨k0, z0⟩ := B0.out.rule
  obtain ⟨k1, z1⟩ := B1.out.rule
  rcases HH.out with ⟨h, rfl⟩ | ⟨h, hs, rfl⟩ | ⟨h, hs, h', rfl⟩ | ⟨h, hs, h', h'', rfl⟩ | ⟨h, hs, h', h'', h3, rfl⟩ | ⟨h, hs, h', h'', h3, h4, rfl⟩
  · rw [h]; clear h HH
    go_wp2
    obtain ⟨w4, e4, G1, hg4⟩ := set4 B1.out (.slice none 0 0) (.slice none 0 0) (.int .i64 0) (.bool false)
    rw [e4]
    obtain ⟨k2, z2⟩ := G1.rule
    refine bodyPost_ret (v := .tuple #[.agg #[.slice none 0 0, .slice none 0 0, .int .i64 0, .bool false], .int .i64 380]) (by simp [results, Try.f46, go_sem, k2, z2]) rfl ?_
    exact ⟨_, rfl, RDk.zero _, HX1.out.grownN hg4 r1⟩
  · rw [h]; rw [hs] at k0; clear h HH hs
    go_wp2
    obtain ⟨w4, e4, G1, hg4⟩ := set4 B1.out (.slice none 0 0) (.slice none 0 0) (.int .i64 0) (.bool false)
    rw [e4]
    obtain ⟨k2, z2⟩ := G1.rule
    refine bodyPost_ret (v := .tuple #[.agg #[.slice none 0 0, .slice none 0 0, .int .i64 0, .bool false], .int .i64 380]) (by simp [results, Try.f46, go_sem, k2, z2]) rfl ?_
    exact ⟨_, rfl, RDk.zero _, HX1.out.grownN hg4 r1⟩
  · rw [h]; rw [hs] at k0; clear h HH hs
    go_wp2
    obtain ⟨w4, e4, G1, hg4⟩ := set4 B1.out (.slice none 0 0) (.slice none 0 0) (.int .i64 0) (.bool false)
    rw [e4]
    obtain ⟨k2, z2⟩ := G1.rule
    refine bodyPost_ret (v := .tuple #[.agg #[.slice none 0 0, .slice none 0 0, .int .i64 0, .bool false], .int .i64 380]) (by simp [results, Try.f46, go_sem, k2, z2]) rfl ?_
    exact ⟨_, rfl, RDk.zero _, HX1.out.grownN hg4 r1⟩
  · rw [h]; rw [hs] at k0; clear h HH hs
    go_wp2
    obtain ⟨w4, e4, G1, hg4⟩ := set4 B1.out (.slice none 0 0) (.slice none 0 0) (.int .i64 0) (.bool false)
    rw [e4]
    obtain ⟨k2, z2⟩ := G1.rule
    refine bodyPost_ret (v := .tuple #[.agg #[.slice none 0 0, .slice none 0 0, .int .i64 0, .bool false], .int .i64 380]) (by simp [results, Try.f46, go_sem, k2, z2]) rfl ?_
    exact ⟨_, rfl, RDk.zero _, HX1.out.grownN hg4 r1⟩
  · rw [h]; rw [hs] at k0; clear h HH hs
    go_wp2
    obtain ⟨w4, e4, G1, hg4⟩ := set4 B1.out (.slice none 0 0) (.slice none 0 0) (.int .i64 0) (.bool false)
    rw [e4]
    obtain ⟨k2, z2⟩ := G1.rule
    refine bodyPost_ret (v := .tuple #[.agg #[.slice none 0 0, .slice none 0 0, .int .i64 0, .bool false], .int .i64 1]) (by simp [results, Try.f46, go_sem, k2, z2]) rfl ?_
    exact ⟨_, rfl, RDk.zero _, HX1.out.grownN hg4 r1⟩
  · rw [h]; rw [hs] at k0
    have h4' : ((d.pending.length : Int) == 4096) = true := by simp; omega
    clear h HH hs h4
    go_wp2
    obtain ⟨w4, e4, G1, hg4⟩ := set4 B1.out (.slice none 0 0) (.slice none 0 0) (.int .i64 0) (.bool false)
    rw [e4]
    obtain ⟨k2, z2⟩ := G1.rule
    refine bodyPost_ret (v := .tuple #[.agg #[.slice none 0 0, .slice none 0 0, .int .i64 0, .bool false], .int .i64 2]) (by simp [results, Try.f46, go_sem, k2, z2]) rfl ?_
    exact ⟨_, rfl, RDk.zero _, HX1.out.grownN hg4 r1⟩

theorem rwrite_any (v u : Value) (d : Dk) (at_ : Int) (b : List UInt8) (w : World) (hd : RDk S w v d) (hu : RBs S w u b) :
    Calls Try.prog 46 #[v, .int .i64 at_, u] w (RDE S w (d.write at_ b).1 (d.write at_ b).2) := by
  unfold Dk.write
  cases hr : d.runs
  · simp only [Bool.false_and, if_true]
    exact rwrite_bad v u d at_ b w hd hu 380 (.inl ⟨hr, rfl⟩)
  cases hh : d.has at_
  · simp only [Bool.and_false, if_true]
    exact rwrite_bad v u d at_ b w hd hu 380 (.inr (.inl ⟨hr, hh, rfl⟩))
  simp only [Bool.and_self, Bool.true_eq_false, if_false]
  by_cases hl : 128 < b.length
  · rw [if_pos hl]
    exact rwrite_bad v u d at_ b w hd hu 1 (.inr (.inr (.inl ⟨hr, hh, hl, rfl⟩)))
  rw [if_neg hl]
  by_cases hp : d.pending.length = 4096
  · rw [if_pos hp]
    exact rwrite_bad v u d at_ b w hd hu 2 (.inr (.inr (.inr ⟨hr, hh, by omega, hp, rfl⟩)))
  rw [if_neg hp]
  unfold Dk.has at hh
  simp only [Bool.and_eq_true, decide_eq_true_eq] at hh
  obtain ⟨n, rfl⟩ : ∃ n : Nat, at_ = n := ⟨at_.toNat, by omega⟩
  exact rwrite_ok v u d n b w hd hu hr (by omega) (by omega) hp

end Go.Proofs.Ytfmhnplkpohogaa

namespace Go.Proofs.Ytfmhnplkpohogaa
set_option maxRecDepth 100000
open Go.RowKit

variable {S S' : Nat → Prop}

set_option maxHeartbeats 2000000 in
theorem rsync_bad (v : Value) (d : Dk) (w : World) (hd : RDk S w v d) (h1 : d.runs = false) :
    Calls Try.prog 48 #[v] w (RDE S w Dk.zero 380) := by
  obtain ⟨A, c, B, e, rfl, q1, q2⟩ := hd.form
  have HD := Lib.hid hd
  have HC : Hid ((d.check = 380) ∨ (d.check = 0 ∧ d.stopped = true)) := by
    show _ ∨ _
    rcases runs_cases d with ⟨h, _⟩ | ⟨h, h', _⟩ | ⟨_, _, h⟩
    · exact .inl h
    · exact .inr ⟨h, h'⟩
    · rw [h1] at h; cases h
  clear hd q1 q2
  go_enter Try.func48, Try.ntmps48
  go_wp2_with fail
  (with_reducible refine (rcheck_any _ d _ (HD.out.ext (((Ext.refl _).alloc _).alloc _))).mono ?_)
  rintro e1 w1 ⟨rfl, hx1⟩
  have B0 := Lib.hid (((Blk.new w w.heap.size _ _ rfl).alloc _).ext hx1)
  have B1 := Lib.hid ((Blk.new _ (w.heap.size + 1) _ _ (by simp)).ext hx1)
  have HX1 := Lib.hid ((((Ext.refl w).alloc _).alloc _).trans hx1)
  have r1 : w.heap.size ≤ w.heap.size + 1 := Nat.le_succ _
  clear hx1
  obtain ⟨k0, z0⟩ := B0.out.rule
  obtain ⟨k1, z1⟩ := B1.out.rule
  rcases HC.out with h | ⟨h, hs⟩
  · rw [h]; clear h HC
    go_wp2
    obtain ⟨w4, e4, G1, hg4⟩ := set4 B1.out (.slice none 0 0) (.slice none 0 0) (.int .i64 0) (.bool false)
    rw [e4]
    obtain ⟨k2, z2⟩ := G1.rule
    refine bodyPost_ret (v := .tuple #[.agg #[.slice none 0 0, .slice none 0 0, .int .i64 0, .bool false], .int .i64 380]) (by simp [results, Try.f48, go_sem, k2, z2]) rfl ?_
    exact ⟨_, rfl, RDk.zero _, HX1.out.grownN hg4 r1⟩
  · rw [h]; rw [hs] at k0; clear h HC hs
    go_wp2
    obtain ⟨w4, e4, G1, hg4⟩ := set4 B1.out (.slice none 0 0) (.slice none 0 0) (.int .i64 0) (.bool false)
    rw [e4]
    obtain ⟨k2, z2⟩ := G1.rule
    refine bodyPost_ret (v := .tuple #[.agg #[.slice none 0 0, .slice none 0 0, .int .i64 0, .bool false], .int .i64 380]) (by simp [results, Try.f48, go_sem, k2, z2]) rfl ?_
    exact ⟨_, rfl, RDk.zero _, HX1.out.grownN hg4 r1⟩

end Go.Proofs.Ytfmhnplkpohogaa

namespace Go.Proofs.Ytfmhnplkpohogaa
open Go.RowKit Go.ChangeShapes Go.WideShapes Go.ChangeAt Go.Deep

section
variable {H : Type} {enc : TypeId × Value → H} {P : Program}

/-- The blocks that were there. -/
def Old (w : World) (b : Nat) : Prop := b < w.heap.size

theorem sameAt_of_ext {W W' : World} (hb : Ext W W') {p : MemPlace} (hp : p.block < W.heap.size) : W.sameAt W' p := by
  cases p with
  | cell b off => exact hb.cell hp
  | map b => exact hb.below.block b hp

theorem trodAll_ext {W W' : World} (hb : Ext W W') {sp : Nat → Bool} : ∀ {ts : List TypeId} {vs : List Value} {ds : List (DataW H)} {ps : List MemPlace},
    DataW.TrodAll enc P W 0 sp true ts vs ds ps → (∀ p ∈ ps, p.block < W.heap.size) → DataW.TrodAll enc P W' 0 sp true ts vs ds ps
  | [], [], [], _, h, _ => h
  | _ :: _, _ :: _, _ :: _, _, ⟨p, q, ⟨n, h1⟩, h2, e⟩, hs =>
    ⟨p, q, ⟨n, DataW.trod_carry n _ _ _ h1 (fun x hx => sameAt_of_ext hb (hs x (by rw [e]; exact List.mem_append_left _ hx)))⟩,
      trodAll_ext hb h2 (fun x hx => hs x (by rw [e]; exact List.mem_append_right _ hx)), e⟩

/-- What a law owes behind its call: it has returned true, and nothing that was there has changed. -/
theorem law_post {f : Func} {s : ChangeSpec} {W W' : World} {args : Array Value} {ds : List (DataW H)} {before : List MemPlace}
    (hl : laidOutB P = true) (hm : mapsRowed P = true) (hf : ((List.range P.types.size).all fun t => match P.underlying t with | some (.slice e) => decide (0 < P.cellsOf e) | _ => true) = true)
    (hts : ∀ t ∈ f.params.toList, t < P.types.size) (hv : s.vars = []) {tb : TypeId} (hr : f.resultTypes = #[tb]) (hb : P.underlying tb = some .bool)
    (hs : s.fn H ds = { results := [.lit (.bool true)], args := ds })
    (hW : DataW.Whole enc P f.params.toList s.vars false W args.toList ds [] before) (hx : Ext W W') :
    s.post enc P f false true false false W args (.bool true) W' := by
  have hlt : ∀ p ∈ before, p.block < W.heap.size := fun p hp => hW.lt p hp
  obtain ⟨p, q, hA, hV, rfl, hz, hn⟩ := id hW
  rw [hv] at hV
  have hq : q = [] := hV
  subst hq
  rw [List.append_nil] at hW hlt hz
  have again : ∀ sp : Nat → Bool, (∀ x ∈ p, sp x.block = true) → DataW.TrodAll enc P W' 0 sp true f.params.toList args.toList ds p := fun sp hsp =>
    trodAll_ext hx (DataW.TrodAll.respare (kids_rows hl hm) (fun t e ht hu => slices_full_of P hf t e ht hu) hts hA hsp) hlt
  have hold : ∀ x ∈ p, (fun b => decide (b < W.heap.size)) x.block = true := fun x hx => by simpa using hlt x hx
  have hres : ∀ (b : Nat) (sp : Nat → Bool) (hd : Bool), DataW.TrodAll enc P W' b sp hd f.resultTypes.toList ((Value.bool true).resultList f.resultTypes.size) [.lit (.bool true)] [] := fun b sp hd => by
    rw [hr]; exact trodAll_mk1 (shut_bool hb _)
  refine ⟨ds, [], p, [], p, [], hW, ?_, ?_, ?_, ?_, fun _ => ?_⟩
  · rw [List.append_nil, hs]; exact hres _ _ _
  · rw [List.append_nil, hs]; exact again _ hold
  · rw [List.append_nil, hs, hv]; rfl
  · refine World.keptBut_mono (fun x hx => ⟨hx, ?_⟩) (hx.below.frame (· ∈ p))
    exact Or.inr (by simpa using hx)
  · refine ⟨?_, [.lit (.bool true)] ++ ds, [], ([] ++ p) ++ [], ⟨[] ++ p, [], ?_, ?_, rfl, ?_, ?_⟩, ?_⟩
    · exact ok_one hr rfl (okWide_bool_mk hb _)
    · exact trodAll_append (again _ (fun _ _ => rfl)) (hres _ _ _)
    · rw [hv]; rfl
    · intro b off hp
      have hin : MemPlace.cell b off ∈ p := by simpa using hp
      rw [hx.frz b off (hlt _ hin)]
      exact hz b off hin
    · intro ha; cases ha
    · intro x hx _
      simpa using hx

/-- The weights of a datum are within reach. -/
def Reach (P : Program) (t : TypeId) (d : DataW H) : Prop := ∀ n ∈ d.weights P t, n ≤ reachBytes

theorem reach_of {ts : List TypeId} {ds : List (DataW H)} (h : (DataW.weightsEach P ts ds).all (· ≤ reachBytes) = true) {j : Nat} {t : TypeId} {d : DataW H} (ht : ts[j]? = some t) (hd : ds[j]? = some d) : Reach P t d := fun n hn => by
  have := List.all_eq_true.1 h n (DataW.weights_mem_each ht hd n hn)
  simpa using this

theorem weightsAll_mem {e : TypeId} {x : DataW H} {n : Nat} (hn : n ∈ x.weights P e) : ∀ {l : List (DataW H)}, x ∈ l → n ∈ DataW.weightsAll P e l
  | y :: l, h => by
    simp only [DataW.weightsAll, List.mem_append]
    cases h with
    | head => exact .inl hn
    | tail _ h => exact .inr (weightsAll_mem hn h)

theorem Reach.elem {t e : TypeId} {l s : List (DataW H)} (h : Reach P t (.slice l s)) (ht : P.underlying t = some (.slice e)) {x : DataW H} (hx : x ∈ l) : Reach P e x := fun n hn => h n (by
  simp only [DataW.weights, ht, List.mem_cons, List.mem_append]
  exact .inr (.inl (weightsAll_mem hn hx)))
theorem Reach.len {t e : TypeId} {l s : List (DataW H)} (h : Reach P t (.slice l s)) (ht : P.underlying t = some (.slice e)) : (l.length + s.length) * P.bytesOf e ≤ reachBytes := h _ (by
  simp [DataW.weights, ht])
theorem Reach.field {t : TypeId} {fs : Array Field} {l : List (DataW H)} (h : Reach P t (.agg l)) (ht : P.underlying t = some (.struct fs)) {j : Nat} {f : Field} {x : DataW H} (hf : fs[j]? = some f) (hx : l[j]? = some x) : Reach P f.type x := fun n hn => h n (by
  simp only [DataW.weights, ht]
  refine DataW.weights_mem_each (j := j) (t := f.type) (d := x) ?_ hx n hn
  rw [List.getElem?_map, Array.getElem?_toList, hf]; rfl)

end

/-- A choice for every index, as_ a list. -/
theorem list_of_lt {α : Type} {n : Nat} {p : Nat → α → Prop} (h : ∀ i, i < n → ∃ x, p i x) : ∃ l : List α, l.length = n ∧ ∀ i (hi : i < l.length), p i l[i] := by
  induction n with
  | zero => exact ⟨[], rfl, fun i hi => absurd hi (Nat.not_lt_zero _)⟩
  | succ n ih =>
    obtain ⟨l, hl, hp⟩ := ih (fun i hi => h i (Nat.lt_succ_of_lt hi))
    obtain ⟨x, hx⟩ := h n (Nat.lt_succ_self n)
    refine ⟨l ++ [x], by simp [hl], fun i hi => ?_⟩
    by_cases hlt : i < l.length
    · rw [List.getElem_append_left hlt]; exact hp i hlt
    · have : i = l.length := by simp at hi; omega
      subst this
      simp only [List.getElem_append_right (Nat.le_refl _), Nat.sub_self, List.getElem_cons_zero]
      rw [hl]; exact hx

section
variable {H : Type} {enc : TypeId × Value → H} {P : Program} {W : World}

theorem flat_length {α : Type} {l : List (List α)} {k : Nat} (h : ∀ x ∈ l, x.length = k) : l.flatten.length = l.length * k := by
  induction l with
  | nil => simp
  | cons x l ih =>
    rw [List.flatten_cons, List.length_append, ih (fun y hy => h y (List.mem_cons_of_mem _ hy)), h x (List.mem_cons_self ..), List.length_cons, Nat.add_mul, Nat.one_mul, Nat.add_comm]

theorem chunk_flat {l : List (List Value)} {k : Nat} (h : ∀ x ∈ l, x.length = k) : ∀ i (hi : i < l.length), chunk k l.flatten i = l[i] := by
  induction l with
  | nil => intro i hi; exact absurd hi (Nat.not_lt_zero _)
  | cons x l ih =>
    intro i hi
    have hx := h x (List.mem_cons_self ..)
    unfold chunk
    cases i with
    | zero => simp [hx]
    | succ i =>
      rw [List.flatten_cons, Nat.add_mul, Nat.one_mul, List.drop_append, List.drop_eq_nil_of_le (by omega), List.nil_append, hx, Nat.add_sub_cancel]
      exact ih (fun y hy => h y (List.mem_cons_of_mem _ hy)) i (by simpa using hi)

theorem flat_get {l : List (List Value)} {k : Nat} (h : ∀ x ∈ l, x.length = k) {j : Nat} {u : Value} (hu : l.flatten[j]? = some u) (hk : 0 < k) : ∃ x, l[j / k]? = some x ∧ x[j % k]? = some u := by
  induction l generalizing j with
  | nil => simp at hu
  | cons x l ih =>
    have hx := h x (List.mem_cons_self ..)
    rw [List.flatten_cons] at hu
    by_cases hj : j < k
    · rw [List.getElem?_append_left (by omega)] at hu
      exact ⟨x, by simp [Nat.div_eq_of_lt hj], by rw [Nat.mod_eq_of_lt hj]; exact hu⟩
    · rw [List.getElem?_append_right (by omega), hx] at hu
      obtain ⟨y, h1, h2⟩ := ih (fun y hy => h y (List.mem_cons_of_mem _ hy)) hu
      have hd : j / k = (j - k) / k + 1 := by rw [← Nat.sub_add_cancel (by omega : k ≤ j), Nat.add_div_right _ hk, Nat.add_sub_cancel]
      refine ⟨y, by rw [hd]; simpa using h1, ?_⟩
      rwa [Nat.mod_eq_sub_mod (by omega)]

/-- Elements that are formed: one cell each. -/
def OneC (cs : List Value) : Prop := ∀ u ∈ cs, u.oneCell' = true

/-- A slice opens: each element by what its own reading gives. -/
theorem open_rsl {α : Type} {k : Nat} {R : World → List Value → α → Prop} {B : α → Prop} {t e : TypeId} {fuel : Nat} {cs : List Value} {x : DataW H × List MemPlace}
    (ht : P.underlying t = some (.slice e)) (hk : P.cellsOf e = k) (hk0 : 0 < k) (h : DataW.trod enc P W 0 (fun _ => true) true fuel t cs = some x) (hreach : Reach P t x.1)
    (hR : ∀ n cs' y, DataW.trod enc P W 0 (fun _ => true) true n e cs' = some y → Reach P e y.1 → ∃ a, R W cs' a ∧ B a ∧ OneC cs') :
    ∃ v l, cs = [v] ∧ RSl (Old W) k R W v l ∧ (∀ a ∈ l, B a) ∧ l.length * P.bytesOf e ≤ reachBytes ∧ v.oneCell' = true := by
  rcases open_slice ht h with ⟨rfl, rfl⟩ | ⟨a, len, cap, m, n, D, Pl, rfl, hb, hlc, hcm, hm, rfl, hi⟩
  · exact ⟨_, [], rfl, RSl.nil _, (fun a ha => by cases ha), (by simp), rfl⟩
  · simp only [if_true] at hm
    subst hm
    rw [hk] at hi
    have hsome : ∀ i, i < len → ∃ ya : List Value × α, (W.cells? 0 (a.add (i * k)) k = some ya.1 ∧ R W ya.1 ya.2) ∧ B ya.2 ∧ OneC ya.1 := fun i hil => by
      obtain ⟨cs', hc, htr⟩ := hi i (by omega)
      obtain ⟨y, h1, h2, h3⟩ := hR n cs' _ htr (hreach.elem ht (by simp only [List.mem_map]; exact ⟨i, List.mem_range.2 hil, rfl⟩))
      exact ⟨(cs', y), ⟨hc, h1⟩, h2, h3⟩
    obtain ⟨L, hL, hp⟩ := list_of_lt hsome
    have hlen : ∀ y ∈ L.map (·.1), y.length = k := fun y hy => by
      obtain ⟨z, hz, rfl⟩ := List.mem_map.1 hy
      obtain ⟨i, hil, rfl⟩ := List.getElem_of_mem hz
      exact (World.cells?_some (hp i hil).1.1).2.1
    have hcell : ∀ i (hil : i < L.length) (j : Nat) (u : Value), (L[i].1)[j]? = some u → W.cell? (a.add (i * k + j)) = some u := fun i hil j u hu => by
      obtain ⟨_, hl2, hat⟩ := World.cells?_some (hp i hil).1.1
      have hjk : j < k := by rw [← hl2]; exact (List.getElem?_eq_some_iff.1 hu).1
      have := hat j hjk
      rw [hu, add_add] at this
      exact this
    have hLl : (L.map (·.1)).length = L.length := List.length_map ..
    refine ⟨_, L.map (·.2), rfl, ⟨some a, m, (L.map (·.1)).flatten, by rw [List.length_map, hL], ⟨by rw [List.length_map]; omega, by simpa [maxLen] using hcm⟩, ⟨?_, ?_, fun h0 => ?_⟩, fun i hil => ?_, fun h0 => ?_⟩, fun y hy => ?_, ?_, rfl⟩
    · rw [flat_length hlen, hLl, List.length_map]
    · intro u hu
      obtain ⟨y, hy, hu⟩ := List.mem_flatten.1 hu
      obtain ⟨z, hz, rfl⟩ := List.mem_map.1 hy
      obtain ⟨i, hil, rfl⟩ := List.getElem_of_mem hz
      exact (hp i hil).2.2 u hu
    · rw [List.length_map] at h0
      have hc0 : ∃ u, W.cell? (a.add 0) = some u := by
        have h1 : (L[0].1)[0]? = some ((L[0].1)[0]'(by rw [hlen _ (List.mem_map.2 ⟨_, List.getElem_mem h0, rfl⟩)]; exact hk0)) := List.getElem?_eq_getElem _
        have := hcell 0 h0 0 _ h1
        rw [Nat.zero_mul, Nat.zero_add] at this
        exact ⟨_, this⟩
      obtain ⟨u0, hu0⟩ := hc0
      have ha0 : a.add 0 = a := by simp [Addr.add]
      rw [ha0] at hu0
      obtain ⟨b, off, spot⟩ := a
      have hspot : spot = none := World.cell?_spot hu0
      subst hspot
      refine ⟨b, off, rfl, World.block_lt_of_cell? W _ hu0, fun j u hu => ?_⟩
      obtain ⟨y, h1, h2⟩ := flat_get hlen hu hk0
      rw [List.getElem?_map] at h1
      obtain ⟨z, h3, rfl⟩ := Option.map_eq_some_iff.1 h1
      obtain ⟨hil, rfl⟩ := List.getElem?_eq_some_iff.1 h3
      have := hcell _ hil _ _ h2
      rw [Nat.mul_comm, Nat.div_add_mod] at this
      rw [← this]
      congr 1
      unfold Addr.add
      split <;> simp_all
    · rw [List.length_map] at hil
      rw [chunk_flat hlen i (by simpa using hil)]
      simp only [List.getElem_map]
      exact (hp i hil).1.2
    · rw [List.length_map] at h0
      have h1 : (L[0].1)[0]? = some ((L[0].1)[0]'(by rw [hlen _ (List.mem_map.2 ⟨_, List.getElem_mem h0, rfl⟩)]; exact hk0)) := List.getElem?_eq_getElem _
      have hu0 := hcell 0 h0 0 _ h1
      rw [Nat.zero_mul, Nat.zero_add] at hu0
      have ha0 : a.add 0 = a := by simp [Addr.add]
      rw [ha0] at hu0
      obtain ⟨b, off, spot⟩ := a
      have hspot : spot = none := World.cell?_spot hu0
      subst hspot
      exact ⟨b, off, rfl, World.block_lt_of_cell? W _ hu0⟩
    · obtain ⟨z, hz, rfl⟩ := List.mem_map.1 hy
      obtain ⟨i, hil, rfl⟩ := List.getElem_of_mem hz
      exact (hp i hil).2.1
    · have := hreach.len ht
      simp only [List.length_map, List.length_range] at this
      rw [List.length_map, hL]
      exact Nat.le_trans (Nat.mul_le_mul_right _ (Nat.le_add_right _ _)) this

/-- Bytes open. -/
theorem open_byte {e : TypeId} (he : P.underlying e = some (.int .u8)) (n : Nat) (cs' : List Value) (y : DataW H × List MemPlace) (h : DataW.trod enc P W 0 (fun _ => true) true n e cs' = some y) : ∃ c : UInt8, RByte W cs' c ∧ True ∧ OneC cs' := by
  obtain ⟨m, rfl, _, hw⟩ := DataW.trod_int he h
  have hb : 0 ≤ m ∧ m ≤ 255 := by simpa [Lit.wf, IntKind.min, IntKind.max, IntKind.signed, IntKind.bits] using hw
  refine ⟨UInt8.ofNat m.toNat, ?_, trivial, fun u hu => ?_⟩
  · unfold RByte
    have : (UInt8.ofNat m.toNat).toNat = m.toNat := by rw [UInt8.toNat_ofNat']; omega
    rw [this, Int.toNat_of_nonneg hb.1]
  · simp at hu; subst hu; rfl

theorem open_bytes {t e : TypeId} (ht : P.underlying t = some (.slice e)) (he : P.underlying e = some (.int .u8)) (hc : P.cellsOf e = 1) (hby : P.bytesOf e = 1) {n : Nat} {cs : List Value} {y : DataW H × List MemPlace}
    (h : DataW.trod enc P W 0 (fun _ => true) true n t cs = some y) (hr : Reach P t y.1) : ∃ v l, cs = [v] ∧ RBs (Old W) W v l ∧ l.length ≤ 140737488351232 ∧ v.oneCell' = true := by
  obtain ⟨v, l, h1, h2, _, h4, h5⟩ := open_rsl (k := 1) (R := RByte) (B := fun _ => True) ht hc (by omega) h hr (fun n cs' y hy _ => open_byte he n cs' y hy)
  refine ⟨v, l, h1, h2, ?_, h5⟩
  rw [hby, Nat.mul_one] at h4
  exact h4

end

end Go.Proofs.Ytfmhnplkpohogaa

namespace Go.Proofs.Ytfmhnplkpohogaa
open Go.RowKit

variable {S S' : Nat → Prop}

theorem RDk.clip {w : World} {v : Value} {d : Dk} (h : RDk S w v d) : RDk (Clip S w) w v d := h.subB fun _ hb hs => ⟨hs, hb⟩
theorem RDk.all {w : World} {v : Value} {d : Dk} (h : RDk S w v d) : RDk (fun _ => True) w v d := h.sub fun _ _ => trivial
theorem same_self (d : Dk) : d.same d = true := by simp [Dk.same]
end Go.Proofs.Ytfmhnplkpohogaa

namespace Go.Proofs.Ytfmhnplkpohogaa
set_option maxRecDepth 100000
open Go.RowKit

variable {S S' : Nat → Prop}

theorem perf_next {w : World} {ss : List (List UInt8)} {l : List (Int × List UInt8)} {k j : Nat} {x : Int × List UInt8} {vs : List Value} {v : Value} (hx : l[k]? = some x) (hv : RBs S w v x.2) (hj : j = 0 + x.1.toNat)
    (h : ∀ i (h : i < (performL ss (l.take k)).length) (h' : i < vs.length), RBs S w vs[i] (performL ss (l.take k))[i]) :
    ∀ i (h : i < (performL ss (l.take (k + 1))).length) (h' : i < (vs.set j v).length), RBs S w (vs.set j v)[i] (performL ss (l.take (k + 1)))[i] := by
  intro i h1 h2
  rw [Nat.zero_add] at hj
  subst hj
  obtain ⟨hk, rfl⟩ := List.getElem?_eq_some_iff.1 hx
  have hts : l.take (k + 1) = l.take k ++ [l[k]] := by rw [List.take_succ_eq_append_getElem hk]
  simp only [hts, performL_snoc] at h1 ⊢
  rw [List.getElem_set, List.getElem_set]
  split
  · exact hv
  · exact h i (by simpa using h1) (by simpa using h2)

theorem row_elem {w : World} {vs : List Value} {ps : List (List UInt8)} (h : ∀ i (h : i < ps.length) (h' : i < vs.length), RBs S w vs[i] ps[i]) (hl : vs.length = ps.length) {j : Nat} (hj : j < ps.length) :
    ∃ A c old, ps[j]? = some old ∧ vs[j]? = some (.slice A old.length c) ∧ RBs S w (.slice A old.length c) old ∧ old.length ≤ c ∧ c ≤ 9223372036854775807 := by
  have h1 := h j hj (by omega)
  obtain ⟨A, c, hf, h2, h3⟩ := h1.form
  refine ⟨A, c, ps[j], List.getElem?_eq_getElem hj, ?_, ?_, h2, h3⟩
  · rw [List.getElem?_eq_getElem (by omega), hf]
  · rw [← hf]; exact h1

theorem RBs.addr {w : World} {A : Option Addr} {n c : Nat} {l : List UInt8} (h : RBs S w (.slice A n c) l) (h0 : 0 < n) : ∃ b off, A = some ⟨b, off, none⟩ := by
  obtain ⟨_, _, hx⟩ := h.at
  obtain ⟨b, off, ha, _⟩ := hx h0
  exact ⟨b, off, ha⟩
theorem RBs.takeCel {w : World} {A : Option Addr} {n c : Nat} {l : List UInt8} (h : RBs S w (.slice A n c) l) {m : Nat} (hm : m ≤ n) : Cel w 1 A m (byteVals (l.take m)) := by
  obtain ⟨hn, _, h1, h2, h3⟩ := h.vals
  refine ⟨by rw [byteVals_length, List.length_take]; omega, byteVals_one _, fun h0 => ?_⟩
  obtain ⟨b, off, ha, hb, hx⟩ := h3 (by omega)
  refine ⟨b, off, ha, hb, fun j u hu => hx j u ?_⟩
  simp only [byteVals, List.map_take, List.getElem?_take] at hu
  split at hu
  · exact hu
  · cases hu
theorem RBs.dropCel {w : World} {b off n c : Nat} {l : List UInt8} (h : RBs S w (.slice (some ⟨b, off, none⟩) n c) l) {m : Nat} (hm : m ≤ n) : Cel w 1 (some ⟨b, off + m * 1, none⟩) (n - m) (byteVals (l.drop m)) := by
  obtain ⟨hn, _, h1, h2, h3⟩ := h.vals
  refine ⟨by rw [byteVals_length, List.length_drop]; omega, byteVals_one _, fun h0 => ?_⟩
  obtain ⟨b', off', ha, hb, hx⟩ := h3 (by omega)
  injection ha with ha
  cases ha
  refine ⟨b, off + m * 1, rfl, hb, fun j u hu => ?_⟩
  simp only [byteVals, List.map_drop, List.getElem?_drop] at hu
  rw [Nat.mul_one, Nat.add_assoc]
  exact hx _ u hu

theorem rsync_fin {w W : World} {d : Dk} {vs : List Value} {g cap base : Nat} {l : Int} {s : Bool} {n : Int} {ps : List (List UInt8)} (hx : Ext w W) (ho : W.ownsRow base 35 1 (.slice (some ⟨g, 0, none⟩) d.sectors.length cap) d.sectors.length vs) (hb : w.heap.size ≤ base)
    (hr : ∀ i (h : i < ps.length) (h' : i < vs.length), RBs (Fr S w) W vs[i] ps[i]) (hl : ps.length = d.sectors.length) (he : d.sync = (⟨ps, [], l, s⟩, n)) :
    RDE S w d.sync.1 d.sync.2 (.returned (.tuple #[.agg #[.slice (some ⟨g, 0, none⟩) d.sectors.length cap, .slice none 0 0, .int .i64 l, .bool s], .int .i64 n])) W := by
  refine RDE.mk he (RDk.mk ?_ (RSl.nil _)) hx
  have hv : vs.length = d.sectors.length := by have := ho.1; omega
  refine RSl.own (l := ps) ho (fun b h => .inr (Nat.le_trans hb h)) hl.symm (fun u hu => ?_) (fun i hi => ?_)
  · obtain ⟨i, hi, rfl⟩ := List.getElem_of_mem hu
    obtain ⟨A, c, h, _⟩ := (hr i (by omega) hi).form
    rw [h]; rfl
  · rw [chunk_one (by omega)]
    exact ⟨_, rfl, hr i hi (by omega)⟩

theorem rsync_torn {w W : World} {vs : List Value} {ps : List (List UInt8)} {j g cap base n : Nat} {data old : List UInt8} {e : TypeId} (hx : Ext w W) (hr : ∀ i (h : i < ps.length) (h' : i < vs.length), RBs S w vs[i] ps[i])
    (ho : W.ownsRow base e 1 (.slice (some ⟨g, 0, none⟩) n cap) n (byteVals (data.take 64) ++ byteVals (old.drop 64))) (hb : w.heap.size ≤ base) :
    ∀ i (h : i < (ps.set j (torn data old)).length) (h' : i < (vs.set j (.slice (some ⟨g, 0, none⟩) n cap)).length), RBs (Fr S w) W (vs.set j (.slice (some ⟨g, 0, none⟩) n cap))[i] (ps.set j (torn data old))[i] := by
  intro i h1 h2
  rw [List.getElem_set, List.getElem_set]
  split
  · rw [← byteVals_append] at ho
    exact RBs.own ho (fun b h => .inr (Nat.le_trans hb h))
  · exact ((hr i (by simpa using h1) (by simpa using h2)).ext hx).up

end Go.Proofs.Ytfmhnplkpohogaa

namespace Go.Proofs.Ytfmhnplkpohogaa

theorem runs_of {d : Dk} (h1 : 1 ≤ d.sectors.length) (h2 : d.sectors.length ≤ 4096) (h3 : d.pending.length ≤ 4096) (h4 : -1 ≤ d.left) (h5 : d.left ≤ 65536) (h6 : d.stopped = false)
    (h7 : ∀ x ∈ d.pending, 0 ≤ x.1 ∧ x.1 < d.sectors.length ∧ x.2.length = 128) (h8 : ∀ x ∈ d.sectors, x.length = 128) : d.runs = true := by
  have hb : d.bad = false := by
    rw [Bool.eq_false_iff]
    unfold Dk.bad
    simp only [Bool.or_eq_true, decide_eq_true_eq, List.any_eq_true, badWrite, badSector, Bool.not_eq_true', decide_eq_false_iff_not, ne_eq]
    rintro ((((((h | h) | h) | h) | h) | ⟨x, hx, h⟩) | ⟨x, hx, h⟩) <;> try omega
    · have := h7 x hx; omega
    · exact h (h8 x hx)
  unfold Dk.runs Dk.check
  rw [hb, h6]; rfl

theorem has_iff {d : Dk} {n : Int} : d.has n = true ↔ 0 ≤ n ∧ n < d.sectors.length := by unfold Dk.has; simp

theorem write_good {d : Dk} {n : Int} {b : List UInt8} (hr : d.runs = true) (hh : d.has n = true) (hb : b.length ≤ 128) (hp : d.pending.length < 4096) : d.write n b = (⟨d.sectors, d.pending ++ [(n, fill128 b)], d.left, d.stopped⟩, 0) := by
  unfold Dk.write
  rw [hr, hh, if_neg (by simp), if_neg (by omega), if_neg (by omega)]

end Go.Proofs.Ytfmhnplkpohogaa

namespace Go.Proofs.Ytfmhnplkpohogaa

/-! sectors, one after the other, as_ writes -/
def atL : Nat → List (List UInt8) → List (Int × List UInt8)
  | _, [] => []
  | k, s :: ss => (((k : Nat) : Int), s) :: atL (k + 1) ss
theorem atL_len : ∀ (k : Nat) (ss : List (List UInt8)), (atL k ss).length = ss.length
  | _, [] => rfl
  | k, s :: ss => by rw [atL, List.length_cons, List.length_cons, atL_len]
theorem atL_app : ∀ (k : Nat) (ss ts : List (List UInt8)), atL k (ss ++ ts) = atL k ss ++ atL (k + ss.length) ts
  | k, [], ts => by simp [atL]
  | k, s :: ss, ts => by rw [List.cons_append, atL, atL, List.cons_append, atL_app, List.length_cons, show k + 1 + ss.length = k + (ss.length + 1) by omega]
theorem atL_mem : ∀ (k : Nat) (ss : List (List UInt8)), ∀ x ∈ atL k ss, (k : Int) ≤ x.1 ∧ x.1 < (k + ss.length : Nat) ∧ x.2 ∈ ss
  | _, [], x, h => by cases h
  | k, s :: ss, x, h => by
    rcases List.mem_cons.1 h with rfl | h
    · refine ⟨by show (k : Int) ≤ (k : Nat); omega, by show ((k : Nat) : Int) < _; rw [List.length_cons]; omega, by simp⟩
    · obtain ⟨h1, h2, h3⟩ := atL_mem (k + 1) ss x h
      exact ⟨by omega, by rw [List.length_cons]; omega, by simp [h3]⟩
/-! pieces, one by one -/
theorem pieces_get (g : Nat) : ∀ {n k : Nat} {first : Bool} {b : List UInt8} {j : Nat}, j < n → (pieces g n k first b)[j]? = some (encL g (k + j) (kindOf (first && j == 0) (n == j + 1)) ((b.drop (112 * j)).take 112))
  | 0, _, _, _, _, h => absurd h (by omega)
  | n + 1, k, first, b, 0, _ => by
    rw [pieces, List.getElem?_cons_zero, Nat.mul_zero, List.drop_zero, Nat.add_zero]
    have : (n + 1 == 0 + 1) = (n == 0) := by cases n <;> rfl
    rw [this]
    cases first <;> rfl
  | n + 1, k, first, b, j + 1, h => by
    rw [pieces, List.getElem?_cons_succ, pieces_get g (by omega : j < n), List.drop_drop, show k + 1 + j = k + (j + 1) by omega, show 112 + 112 * j = 112 * (j + 1) by omega]
    have h1 : (n + 1 == j + 1 + 1) = (n == j + 1) := by simp
    rw [h1]
    cases first <;> rfl
theorem pieces_take (g : Nat) {n k : Nat} {b : List UInt8} {j : Nat} (h : j < n) : (pieces g n k true b).take (j + 1) = (pieces g n k true b).take j ++ [encL g (k + j) (kindOf (j == 0) (n == j + 1)) ((b.drop (112 * j)).take 112)] := by
  rw [List.take_add_one, pieces_get g h]
  rfl
theorem allSecs_take (g : Nat) : ∀ {rs : List (List UInt8)} {k i : Nat} {b : List UInt8}, rs[i]? = some b → allSecs g k (rs.take (i + 1)) = allSecs g k (rs.take i) ++ pieces g (secs b.length) (k + usedL (rs.take i)) true b
  | [], _, _, _, h => by cases h
  | r :: rs, k, 0, b, h => by
    have : r = b := by simpa using h
    subst this
    rw [List.take_succ_cons, List.take_zero, List.take_zero, allSecs, allSecs, allSecs, usedL_nil]; simp
  | r :: rs, k, i + 1, b, h => by
    have ih := allSecs_take g (rs := rs) (k := k + secs r.length) (i := i) (b := b) (by simpa using h)
    rw [List.take_succ_cons, List.take_succ_cons, allSecs, allSecs, ih, usedL_cons, List.append_assoc, Nat.add_assoc]

/-! what Sync answers -/
/-- the disk with some sectors written behind one another -/
def Dk.wr (d : Dk) (k : Nat) (ss : List (List UInt8)) : Dk := ⟨d.sectors, atL k ss, d.left, d.stopped⟩
def Lg.at (l : Lg) : Nat := usedL (l.recs.take l.synced.toNat)
def Lg.secs (l : Lg) (d : Dk) : List (List UInt8) := allSecs (maxG d.sectors + 1) l.at (l.recs.drop l.synced.toNat)
def Lg.sync (l : Lg) (d : Dk) : Lg × Dk × Int :=
  if l.check ≠ 0 then (Lg.zero, Dk.zero, l.check)
  else if d.check ≠ 0 then (Lg.zero, Dk.zero, d.check)
  else if d.stopped = false ∧ l.many ≠ (d.sectors.length : Nat) then (Lg.zero, Dk.zero, 1)
  else if openE d ≠ 0 then (Lg.zero, Dk.zero, openE d)
  else if recsOf d.sectors ≠ l.recs.take l.synced.toNat ∨ 4294967296 ≤ maxG d.sectors + 1 then (Lg.zero, Dk.zero, 390)
  else if l.synced = (l.recs.length : Nat) then (l, d, 0)
  else if (d.wr l.at (l.secs d)).sync.2 ≠ 0 then (Lg.zero, (d.wr l.at (l.secs d)).sync.1, (d.wr l.at (l.secs d)).sync.2)
  else (⟨l.many, l.recs, (l.recs.length : Nat)⟩, (d.wr l.at (l.secs d)).sync.1, 0)
section
variable {l : Lg} {d : Dk}
theorem sync_1 (h : l.check ≠ 0) : l.sync d = (Lg.zero, Dk.zero, l.check) := if_pos h
theorem sync_2 (h : l.check = 0) (h2 : d.check ≠ 0) : l.sync d = (Lg.zero, Dk.zero, d.check) := by rw [Lg.sync, if_neg (by omega), if_pos h2]
theorem sync_3 (h : l.check = 0) (h2 : d.check = 0) (h3 : d.stopped = false) (h4 : l.many ≠ (d.sectors.length : Nat)) : l.sync d = (Lg.zero, Dk.zero, 1) := by rw [Lg.sync, if_neg (by omega), if_neg (by omega), if_pos ⟨h3, h4⟩]
theorem sync_4 (h : l.check = 0) (h2 : d.check = 0) (h3 : d.stopped = true ∨ l.many = (d.sectors.length : Nat)) (h4 : openE d ≠ 0) : l.sync d = (Lg.zero, Dk.zero, openE d) := by
  rw [Lg.sync, if_neg (by omega), if_neg (by omega), if_neg (by rintro ⟨a, b⟩; rcases h3 with c | c; exact absurd (a.symm.trans c) (by decide); exact b c), if_pos h4]
theorem many_of (h : openE d = 0) : d.check = 0 ∧ d.stopped = false ∧ d.pending = [] := by
  unfold openE at h
  split at h
  · rename_i c; exact absurd h c
  · rename_i c
    split at h
    · cases h
    · rename_i c2
      split at h
      · cases h
      · rename_i c3
        exact ⟨by omega, by simpa using c2, List.eq_nil_of_length_eq_zero (by omega)⟩
theorem sync_5 (h : l.check = 0) (h3 : l.many = (d.sectors.length : Nat)) (h4 : openE d = 0) (h5 : recsOf d.sectors ≠ l.recs.take l.synced.toNat ∨ 4294967296 ≤ maxG d.sectors + 1) : l.sync d = (Lg.zero, Dk.zero, 390) := by
  rw [Lg.sync, if_neg (by omega), if_neg (by rw [(many_of h4).1]; omega), if_neg (by rintro ⟨a, b⟩; exact b h3), if_neg (by omega), if_pos h5]
/-- the way to the writes is free -/
structure Goes (l : Lg) (d : Dk) : Prop where
  lc : l.check = 0
  many : l.many = (d.sectors.length : Nat)
  op : openE d = 0
  rcs : recsOf d.sectors = l.recs.take l.synced.toNat
  gn : maxG d.sectors + 1 < 4294967296
theorem sync_6 (h : Goes l d) (h6 : l.synced = (l.recs.length : Nat)) : l.sync d = (l, d, 0) := by
  rw [Lg.sync, if_neg (by rw [h.lc]; omega), if_neg (by rw [(many_of h.op).1]; omega), if_neg (by rintro ⟨a, b⟩; exact b h.many), if_neg (by rw [h.op]; omega), if_neg (by rintro (a | a); exact a h.rcs; have := h.gn; omega), if_pos h6]
theorem sync_7 (h : Goes l d) (h6 : l.synced ≠ (l.recs.length : Nat)) (h7 : (d.wr l.at (l.secs d)).sync.2 ≠ 0) : l.sync d = (Lg.zero, (d.wr l.at (l.secs d)).sync.1, (d.wr l.at (l.secs d)).sync.2) := by
  rw [Lg.sync, if_neg (by rw [h.lc]; omega), if_neg (by rw [(many_of h.op).1]; omega), if_neg (by rintro ⟨a, b⟩; exact b h.many), if_neg (by rw [h.op]; omega), if_neg (by rintro (a | a); exact a h.rcs; have := h.gn; omega), if_neg h6, if_pos h7]
theorem sync_8 (h : Goes l d) (h6 : l.synced ≠ (l.recs.length : Nat)) (h7 : (d.wr l.at (l.secs d)).sync.2 = 0) : l.sync d = (⟨l.many, l.recs, (l.recs.length : Nat)⟩, (d.wr l.at (l.secs d)).sync.1, 0) := by
  rw [Lg.sync, if_neg (by rw [h.lc]; omega), if_neg (by rw [(many_of h.op).1]; omega), if_neg (by rintro ⟨a, b⟩; exact b h.many), if_neg (by rw [h.op]; omega), if_neg (by rintro (a | a); exact a h.rcs; have := h.gn; omega), if_neg h6, if_neg (by omega)]
theorem check_facts (h : l.check = 0) : 1 ≤ l.many ∧ l.many ≤ 4096 ∧ 0 ≤ l.synced ∧ l.synced ≤ (l.recs.length : Nat) ∧ usedW l.recs ≤ l.many := by
  unfold Lg.check at h
  split at h
  · cases h
  · rename_i c; omega
theorem check_used (h : l.check = 0) (hu : usedL l.recs < 9223372036854775808) : usedL l.recs ≤ l.many.toNat := by
  have := check_facts h
  rw [usedW_small hu] at this
  omega
theorem usedL_split (l : List (List UInt8)) (k : Nat) : usedL (l.take k) + usedL (l.drop k) = usedL l := by
  rw [← usedL_app, List.take_append_drop]
theorem usedL_take_le (l : List (List UInt8)) (k : Nat) : usedL (l.take k) ≤ usedL l := by have := usedL_split l k; omega
theorem Goes.room (h : Goes l d) (hu : usedL l.recs < 9223372036854775808) : l.at + usedL (l.recs.drop l.synced.toNat) ≤ d.sectors.length ∧ d.sectors.length ≤ 4096 := by
  have h1 := check_used h.lc hu
  have h2 := usedL_split l.recs l.synced.toNat
  have h3 := check_facts h.lc
  have h4 := h.many
  unfold Lg.at
  omega
theorem Goes.runs (h : Goes l d) : d.runs = true := by
  obtain ⟨h1, h2, -⟩ := many_of h.op
  exact runs_of_check h1 h2
theorem wr_nil (h : Goes l d) (k : Nat) : d = d.wr k [] := by
  have h3 := (many_of h.op).2.2
  rcases d with ⟨a, b, c, e⟩
  cases h3
  rfl
theorem wr_runs (h : Goes l d) {k : Nat} {ss : List (List UInt8)} (hk : k + ss.length ≤ d.sectors.length) (h128 : ∀ s ∈ ss, s.length = 128) : (d.wr k ss).runs = true := by
  obtain ⟨f1, f2, f3, f4, f5, f6, f7, f8⟩ := runs_facts h.runs
  refine runs_of f1 f2 (by show (atL k ss).length ≤ 4096; rw [atL_len]; omega) f4 f5 (many_of h.op).2.1 (fun x hx => ?_) f8
  obtain ⟨h1, h2, h3⟩ := atL_mem _ _ x hx
  exact ⟨by omega, by show x.1 < (d.sectors.length : Nat); omega, h128 _ h3⟩
theorem wr_write (h : Goes l d) {k : Nat} {ss : List (List UInt8)} {s : List UInt8} (hk : k + ss.length < d.sectors.length) (h128 : ∀ s ∈ ss, s.length = 128) (hs : s.length = 128) : (d.wr k ss).write (k + ss.length : Nat) s = (d.wr k (ss ++ [s]), 0) := by
  have h2 := (runs_facts h.runs).2.1
  rw [write_good (wr_runs h (by omega) h128) (has_iff.2 ⟨by omega, by show _ < (d.sectors.length : Int); omega⟩) (by omega) (by show (atL k ss).length < 4096; rw [atL_len]; omega)]
  have e : fill128 s = s := by unfold fill128; rw [hs]; simp
  rw [e]
  unfold Dk.wr
  rw [atL_app]
  rfl
end

end Go.Proofs.Ytfmhnplkpohogaa

namespace Go.Proofs.Ytfmhnplkpohogaa
open Go.RowKit

variable {S S' S2 : Nat → Prop}

/-- values that read as_ byte strings -/
def RVS (S : Nat → Prop) (w : World) (vs : List Value) (l : List (List UInt8)) : Prop := vs.length = l.length ∧ ∀ i (h : i < l.length) (h' : i < vs.length), RBs S w vs[i] l[i]
theorem RVS.of {w : World} {A : Option Addr} {n c : Nat} {l : List (List UInt8)} (h : RBss S w (.slice A n c) l) : n = l.length ∧ ∃ vs, Cel w 1 A n vs ∧ RVS S w vs l := by
  obtain ⟨hn, -, vs, hc, hv⟩ := RSl.cel h
  have hl : vs.length = l.length := by have := hc.1; omega
  refine ⟨hn, vs, hc, hl, fun i h1 h2 => ?_⟩
  obtain ⟨v, e, hr⟩ := hv i h1
  rw [chunk_one h2] at e
  injection e with e
  exact e ▸ hr
theorem RVS.keep {w w' : World} {vs : List Value} {l : List (List UInt8)} (h : RVS S w vs l) (hz : w.heap.size ≤ w'.heap.size) (hk : ∀ b, S b → b < w.heap.size → w'.heap[b]? = w.heap[b]?) : RVS S w' vs l := ⟨h.1, fun i h1 h2 => (h.2 i h1 h2).keep hz hk⟩
theorem RVS.sub {w : World} {vs : List Value} {l : List (List UInt8)} (h : RVS S w vs l) (hs : ∀ b, S b → S' b) : RVS S' w vs l := ⟨h.1, fun i h1 h2 => (h.2 i h1 h2).sub hs⟩
theorem RVS.snoc {w : World} {vs : List Value} {l : List (List UInt8)} {u : Value} {b : List UInt8} (h : RVS S w vs l) (hu : RBs S w u b) : RVS S w (vs ++ [u]) (l ++ [b]) := by
  refine ⟨by simp [h.1], fun i h1 h2 => ?_⟩
  by_cases hi : i < l.length
  · rw [List.getElem_append_left hi, List.getElem_append_left (by rw [h.1]; exact hi)]
    exact h.2 i hi _
  · simp only [List.length_append, List.length_singleton] at h1
    have e : i = l.length := by omega
    subst e
    rw [List.getElem_append_right (Nat.le_refl _), List.getElem_append_right (by rw [h.1]; exact Nat.le_refl _)]
    simp only [h.1, Nat.sub_self, List.getElem_cons_zero]
    exact hu
theorem RVS.one {w : World} {vs : List Value} {l : List (List UInt8)} (h : RVS S w vs l) : ∀ u ∈ vs, u.oneCell' = true := fun u hu => by
  obtain ⟨i, hi, rfl⟩ := List.getElem_of_mem hu
  exact RBs.one (h.2 i (by rw [← h.1]; exact hi) hi)
theorem RVS.bss {base : Nat} {e : TypeId} {v : Value} {n : Nat} {w : World} {vs : List Value} {l : List (List UInt8)} (h : RVS S w vs l) (hr : w.ownsRow base e 1 v n vs) : RBss (fun b => S b ∨ base ≤ b) w v l := by
  have hl := hr.1
  refine RSl.own hr (fun b hb => .inr hb) (by have := h.1; omega) h.one fun i hi => ?_
  have hi' : i < vs.length := by rw [h.1]; exact hi
  rw [chunk_one hi']
  exact ⟨_, rfl, (h.2 i hi hi').sub fun b hb => .inl hb⟩
section
variable {N : Nat} {m : List (Nat × Value)} {a : Act} {P : Program} {ops : Array Oper} {Q : Exit → Act → World → Prop} {i : Nat} {w : World} {o : Oper} {K : Act → World → Prop} {d : Nat}
/-- one more behind a full slice -/
theorem o_appS {t e : TypeId} {z : Value} {bytes : Nat} (E : El P t e z 1 bytes) (hF : Sl N m a) (ho : ops[i]? = some o) (hw : Region.wanted o (yielded ops a.tmps) = true) (hd : o.dst = some d) (hN : Nat.blt d N = true) {s x : Operand}
    (hop : o.op = .call { callee := .builtin .append, args := #[s, x], argTypes := #[t, t] }) {A : Option Addr} {n : Nat} (hs : a.eval s = .slice A n n) {g : Nat} {u : Value} (hx : a.eval x = .slice (some ⟨g, 0, none⟩) 1 1)
    {l : List (List UInt8)} {b : List UInt8} (hl : RBss S w (.slice A n n) l) {te : TypeId} (hg : Blk w g te [u]) (hu : RBs S w u b) (h63 : n + 1 ≤ 9223372036854775807) (hbytes : (n + 1) * bytes ≤ 140737488355328)
    (h : ∀ A' c' w' a', Sl N ((d, .slice A' (n + 1) c') :: m) a' → RBss (fun k => S k ∨ w.heap.size ≤ k) w' (.slice A' (n + 1) c') (l ++ [b]) → Ext w w' → K a' w') : wpOp P ops Q i K a w := by
  obtain ⟨hn, vs, hc, hv⟩ := RVS.of hl
  have hcx := hg.cel (k := 1) (m := 1) rfl (by simp [hu.one])
  obtain ⟨v', w', hrun, h1, h2, h3⟩ := run_app_full (P := P) (ty := o.type) (c := 1) E hc hcx (by omega) h63 hbytes
  obtain ⟨A', c', rfl, h4, h5⟩ := own_any h1
  refine op_wp ho hw ?_
  unfold Oper.wp execOp
  simp only [hop, resolve, invoke, builtin, Sem.run_bind, Sem.run_pure, Result.andThen_ok, List.map_toArray, List.map_cons, List.map_nil, hs, hx, hrun]
  exact h A' c' w' _ (by rw [hd]; exact hF.put hN) (RVS.bss ((hv.snoc hu).keep h2.size fun k hk hlt => h2.below.block k hlt) h1) h2
end

/-- what an operation on a log returns -/
def LogRet (S : Nat → Prop) (w : World) (x : Lg × Int) (e : Ending) (w' : World) : Prop := ∃ A c, e = .returned (.tuple #[.agg #[.int .i64 x.1.many, .slice A x.1.recs.length c, .int .i64 x.1.synced], .int .i64 x.2]) ∧ RBss (Fr S w) w' (.slice A x.1.recs.length c) x.1.recs ∧ Ext w w'
theorem log_fin {w w' : World} {x : Lg × Int} {m s n : Int} {R : List (List UInt8)} {A : Option Addr} {k c : Nat} (he : x = (⟨m, R, s⟩, n)) (h : RBss S' w' (.slice A k c) R) (hS : ∀ b, S' b → Fr S w b) (hx : Ext w w') : LogRet S w x (.returned (.tuple #[.agg #[.int .i64 m, .slice A k c, .int .i64 s], .int .i64 n])) w' := by
  subst he
  obtain ⟨rfl, -⟩ := RBss.at h
  exact ⟨A, c, rfl, h.sub hS, hx⟩
theorem log_err {w w' : World} {x : Lg × Int} {n : Int} (he : x = (Lg.zero, n)) (hx : Ext w w') : LogRet S w x (.returned (.tuple #[.agg #[.int .i64 0, .slice none 0 0, .int .i64 0], .int .i64 n])) w' :=
  log_fin (R := []) (S' := fun _ => False) he (RSl.nil _) (fun _ h => h.elim) hx
theorem RBss.full0 {w : World} {A : Option Addr} {n c : Nat} {l : List (List UInt8)} (h : RBss S w (.slice A n c) l) : RBss S w (.slice A n n) l := by
  obtain ⟨A', cap, xs, hv, hc, hl, hr, hs⟩ := h
  cases hv
  exact ⟨A, l.length, xs, rfl, ⟨Nat.le_refl _, by omega⟩, hl, hr, hs⟩
section
variable {P : Program} {ρ : Operand → Value} {W : World} {d : Option Tmp} {t : TypeId} {p : String} {af : Array Edge} {g : Option (Nat × Bool)} {x y : Operand}
theorem rn_max2N {s : TypeId} {a b : Nat} {u : TypeDesc} (hu : P.underlying s = some u) (hx : ρ x = .int .i64 (a : Nat)) (hy : ρ y = .int .i64 (b : Nat)) : (execOp ρ ⟨d, .call { callee := .builtin .max, args := #[x, y], argTypes := #[s, s] }, t, p, af, g⟩).run P W = .ok (.value (.int .i64 ((max a b : Nat) : Int))) W := by
  rw [show ((max a b : Nat) : Int) = max (a : Int) b by omega]
  exact rn_max2 hu hx hy
theorem rn_min2N {s : TypeId} {a b : Nat} {u : TypeDesc} (hu : P.underlying s = some u) (hx : ρ x = .int .i64 (a : Nat)) (hy : ρ y = .int .i64 (b : Nat)) : (execOp ρ ⟨d, .call { callee := .builtin .min, args := #[x, y], argTypes := #[s, s] }, t, p, af, g⟩).run P W = .ok (.value (.int .i64 ((min a b : Nat) : Int))) W := by
  rw [show ((min a b : Nat) : Int) = min (a : Int) b by omega]
  exact rn_min2 hu hx hy
end

end Go.Proofs.Ytfmhnplkpohogaa

namespace Go.Proofs.Ytfmhnplkpohogaa
open Go.RowKit

variable {S S' S2 : Nat → Prop}

theorem retCC1 {N : Nat} {m : List (Nat × Value)} {a : Act} {P : Program} {fn : Func} {R : Ending → World → Prop} {w : World} {t t2 u b b2 : Nat} {ty tt ty2 tt2 : TypeId} {cs cs2 : List Value} {v2 : Value} {td td2 : TypeDesc} (hF : Sl N m a) (hr : fn.results = #[.cell t ty, .cell t2 ty2, .tmp u])
    (hv : look m t = some (.pointer (some ⟨b, 0, none⟩))) (hv2 : look m t2 = some (.pointer (some ⟨b2, 0, none⟩))) (hu : look m u = some v2)
    (hB : Blk w b tt cs) (hty : P.underlying ty = some td) (hd : aggTy td = true) (hi : (P.info? ty).map (·.size) = some cs.length)
    (hB2 : Blk w b2 tt2 cs2) (hty2 : P.underlying ty2 = some td2) (hd2 : aggTy td2 = true) (hi2 : (P.info? ty2).map (·.size) = some cs2.length) (h : R (.returned (.tuple #[.agg cs.toArray, .agg cs2.toArray, v2])) w) : bodyPost P fn R .ret a w := by
  have h1 := hF.get hv
  have h3 := hF.get hv2
  have h2 := hF.get hu
  simp only [Act.eval] at h1 h2 h3
  refine bodyPost_ret ?_ hF.2.1 h
  have := run_loadVar_row (P := P) w b tt ty cs.toArray (0, 0) td hB hty (by cases td <;> simp_all [aggTy]) (by simpa using hi)
  have this2 := run_loadVar_row (P := P) w b2 tt2 ty2 cs2.toArray (0, 0) td2 hB2 hty2 (by cases td2 <;> simp_all [aggTy]) (by simpa using hi2)
  rw [Array.getD_eq_getD_getElem?] at h1 h2 h3
  simp [results, hr, h1, h2, h3, asAddr, this, this2]

/-! lists that are equal so far -/
theorem take_eqR {R T : List (List UInt8)} {k : Nat} {x y : List UInt8} (h : R.take k = T.take k) (hx : R[k]? = some x) (hy : T[k]? = some y) (e : x = y) : R.take (k + 1) = T.take (k + 1) := by
  rw [List.take_add_one, List.take_add_one, hx, hy, e, h]
theorem ne_atR {R T : List (List UInt8)} {k : Nat} {x y : List UInt8} (hx : R[k]? = some x) (hy : T[k]? = some y) (e : x ≠ y) : decide (R = T) = false := decide_eq_false fun h => e (by
  subst h
  rw [hx] at hy
  exact Option.some.inj hy)
theorem ne_lenR {R T : List (List UInt8)} (e : R.length ≠ T.length) : decide (R = T) = false := decide_eq_false fun h => e (by rw [h])
theorem eq_allR {R T : List (List UInt8)} {k : Nat} (h : R.take k = T.take k) (h1 : k = R.length) (h2 : R.length = T.length) : decide (R = T) = true := decide_eq_true (by
  subst h1
  rw [List.take_length, h2, List.take_length] at h
  exact h)
def Lg.same (a b : Lg) : Bool := decide (a.many = b.many ∧ a.synced = b.synced ∧ a.recs = b.recs)
theorem same_ne {m s m2 s2 : Int} {R T : List (List UInt8)} (h : m ≠ m2 ∨ s ≠ s2) : (Lg.mk m R s).same (Lg.mk m2 T s2) = false := decide_eq_false fun e => by
  rcases h with h | h
  · exact h e.1
  · exact h e.2.1
theorem same_ok {m s m2 s2 : Int} {R T : List (List UInt8)} (h1 : m = m2) (h2 : s = s2) : (Lg.mk m R s).same (Lg.mk m2 T s2) = decide (R = T) := by simp [Lg.same, h1, h2]
section
variable {P : Program} {ρ : Operand → Value} {W : World} {d : Option Tmp} {t xt yt : TypeId} {p : String} {af : Array Edge} {g : Option (Nat × Bool)} {x y : Operand}
theorem b_or8 (a b : UInt8) : (binOp .or t (.int .u8 (a.toNat : Nat)) (.int .u8 (b.toNat : Nat))).run P W = .ok (.int .u8 ((a ||| b).toNat : Nat)) W := by
  show Sem.run P (pure (Value.int .u8 (IntKind.u8.wrap ((BitVec.ofInt IntKind.u8.bits ((a.toNat : Nat) : Int) ||| BitVec.ofInt IntKind.u8.bits ((b.toNat : Nat) : Int)).toNat : Nat)))) W = _
  rw [ofInt8, ofInt8, Sem.run_pure, wrap8n _ (BitVec.isLt _)]
  rfl
theorem rn_or8 {a b : UInt8} (hx : ρ x = .int .u8 (a.toNat : Nat)) (hy : ρ y = .int .u8 (b.toNat : Nat)) : (execOp ρ ⟨d, .binOp .or xt x y yt, t, p, af, g⟩).run P W = .ok (.value (.int .u8 ((a ||| b).toNat : Nat))) W := rn_bin hx hy guard_int (b_or8 a b)
end
theorem args0_2 {ρ : Operand → Value} {x0 x1 : Operand} {v0 v1 : Value} (h0 : ρ x0 = v0) (h1 : ρ x1 = v1) : #[] ++ #[x0, x1].map ρ = #[v0, v1] := by simp [h0, h1]

/-! what lies behind: x[l:], x[l:h] -/
def cutA (A : Option Addr) (c l sz : Nat) : Option Addr := if c = l then A else A.map (·.add (l * sz))
theorem cutA_eq {A : Option Addr} {b off c l sz : Nat} (hA : A = some ⟨b, off, none⟩) (h : c ≠ l) : cutA A c l sz = some ⟨b, off + l * sz, none⟩ := by
  rw [cutA, if_neg h, hA, Option.map_some, addr_add]
section
variable {P : Program} {ρ : Operand → Value} {W : World} {d : Option Tmp} {t : TypeId} {p : String} {af : Array Edge} {g : Option (Nat × Bool)}
theorem rn_cutLo {s e : TypeId} {x y : Operand} {A : Option Addr} {n c sz l : Nat} {k : IntKind} (hu : P.underlying s = some (.slice e)) (hi : (P.info? e).map (·.size) = some sz) (hx : ρ x = .slice A n c) (hy : ρ y = .int k (l : Int)) (h1 : l ≤ n) :
    (execOp ρ ⟨d, .slice s x (some y) none none, t, p, af, g⟩).run P W = .ok (.value (.slice (cutA A c l sz) (n - l) (c - l))) W := by
  have hb : (Instr.sliceBound (.int k (l : Int)) n .sliceB).run P W = .ok l W := by rw [bound_ok (by omega) (by omega)]; simp
  simp [execOp, Instr.sliceAt, Instr.slice, Instr.sliceBounds, run_underlying hu, hx, hy, hb, size_of hi, cutA]
theorem rn_cutLH {s e : TypeId} {x y z : Operand} {A : Option Addr} {n c sz l h : Nat} {k k2 : IntKind} (hu : P.underlying s = some (.slice e)) (hi : (P.info? e).map (·.size) = some sz) (hx : ρ x = .slice A n c) (hy : ρ y = .int k (l : Int)) (hz : ρ z = .int k2 (h : Int)) (h1 : l ≤ h) (h2 : h ≤ c) :
    (execOp ρ ⟨d, .slice s x (some y) (some z) none, t, p, af, g⟩).run P W = .ok (.value (.slice (cutA A c l sz) (h - l) (c - l))) W := by
  have hb : (Instr.sliceBound (.int k (l : Int)) h .sliceB).run P W = .ok l W := by rw [bound_ok (by omega) (by omega)]; simp
  have hb2 : (Instr.sliceBound (.int k2 (h : Int)) c .sliceAcap).run P W = .ok h W := by rw [bound_ok (by omega) (by omega)]; simp
  simp [execOp, Instr.sliceAt, Instr.slice, Instr.sliceBounds, run_underlying hu, hx, hy, hz, hb, hb2, size_of hi, cutA]
end
theorem Fl.cutmid {w : World} {A : Option Addr} {n c l h : Nat} {y : List UInt8} (hf : Fl S w 1 (.slice A n c) n (byteVals y)) (h1 : l ≤ h) (h2 : h ≤ n) : Fl S w 1 (.slice (cutA A c l 1) (h - l) (c - l)) (h - l) (byteVals ((y.drop l).take (h - l))) := by
  have hy := hf.blen
  obtain ⟨A', c', e, hc, hcel, hs⟩ := hf
  cases e
  refine ⟨_, _, rfl, ⟨by omega, by omega⟩, ⟨by rw [byteVals_len rfl, List.length_take, List.length_drop]; omega, byteVals_one _, fun h0 => ?_⟩, fun h0 => ?_⟩
  · obtain ⟨b, off, ha, hb, hx⟩ := hcel.2.2 (by omega)
    refine ⟨b, off + l * 1, cutA_eq ha (by omega), hb, fun j u hu => ?_⟩
    rw [← byteVals_take, ← byteVals_drop, List.getElem?_take] at hu
    split at hu
    · rw [List.getElem?_drop] at hu
      rw [Nat.mul_one, Nat.add_assoc]
      exact hx _ u hu
    · cases hu
  · obtain ⟨b, off, ha, hb⟩ := hs (by omega)
    exact ⟨b, off + l * 1, cutA_eq ha (by omega), hb⟩
theorem Fl.cut {w : World} {A : Option Addr} {n c l : Nat} {y : List UInt8} (hf : Fl S w 1 (.slice A n c) n (byteVals y)) (h1 : l ≤ n) : Fl S w 1 (.slice (cutA A c l 1) (n - l) (c - l)) (n - l) (byteVals (y.drop l)) := by
  have hy := hf.blen
  have := hf.cutmid h1 (Nat.le_refl n)
  rwa [List.take_of_length_le (by rw [List.length_drop]; omega)] at this
theorem RBss.cut {w : World} {A : Option Addr} {n c j : Nat} {l : List (List UInt8)} (h : RBss S w (.slice A n c) l) (hj : j ≤ n) : RBss S w (.slice (cutA A c j 1) (n - j) (c - j)) (l.drop j) := by
  obtain ⟨A', cap, xs, hv, hc, ⟨hl1, hl2, hl3⟩, hr, hs⟩ := h
  cases hv
  have e1 : xs.length = l.length := by omega
  have hn : l.length - j = (l.drop j).length := by rw [List.length_drop]
  rw [hn]
  refine ⟨_, c - j, xs.drop j, rfl, ⟨by rw [List.length_drop]; omega, by omega⟩, ⟨by rw [List.length_drop, List.length_drop]; omega, fun u hu => hl2 u (List.mem_of_mem_drop hu), fun h0 => ?_⟩, fun i hi => ?_, fun h0 => ?_⟩
  · rw [List.length_drop] at h0
    obtain ⟨b', off', ha, hb, hx⟩ := hl3 (by omega)
    exact ⟨b', off' + j * 1, cutA_eq ha (by omega), hb, fun i u hu => by rw [Nat.mul_one, Nat.add_assoc]; exact hx _ u (by rw [List.getElem?_drop] at hu; exact hu)⟩
  · rw [List.length_drop] at hi
    obtain ⟨v, e, hr2⟩ := hr (j + i) (by omega)
    rw [chunk_one (by omega)] at e
    rw [chunk_one (by rw [List.length_drop]; omega)]
    injection e with e
    refine ⟨v, by rw [List.getElem_drop, e], ?_⟩
    rw [List.getElem_drop]
    exact hr2
  · rw [List.length_drop] at h0
    obtain ⟨b', off', ha, hS⟩ := hs (by omega)
    exact ⟨b', off' + j * 1, cutA_eq ha (by omega), hS⟩
theorem calls_conv {P : Program} {f : FuncId} {args : Array Value} {w : World} {d d' : Dk} {n n' : Int} (h : Calls P f args w (RDE S w d n)) (e1 : d = d') (e2 : n = n') : Calls P f args w (RDE S w d' n') := by
  subst e1 e2; exact h
theorem take_min {l : List UInt8} {n : Nat} (h : l.length = n) : l.take (min n 112) = l.take 112 := by
  subst h
  by_cases hn : l.length ≤ 112
  · rw [Nat.min_eq_left hn, List.take_length, List.take_of_length_le hn]
  · rw [Nat.min_eq_right (by omega)]
theorem drop_min {l : List UInt8} {n : Nat} (h : l.length = n) : l.drop (min n 112) = l.drop 112 := by
  subst h
  by_cases hn : l.length ≤ 112
  · rw [Nat.min_eq_left hn, List.drop_length, List.drop_eq_nil_of_le hn]
  · rw [Nat.min_eq_right (by omega)]
/-- what Sync returns -/
def SyncRet (S : Nat → Prop) (w : World) (x : Lg × Dk × Int) (e : Ending) (w' : World) : Prop := ∃ A c v, e = .returned (.tuple #[.agg #[.int .i64 x.1.many, .slice A x.1.recs.length c, .int .i64 x.1.synced], v, .int .i64 x.2.2]) ∧ RBss (Fr S w) w' (.slice A x.1.recs.length c) x.1.recs ∧ RDk (Fr S w) w' v x.2.1 ∧ Ext w w'
theorem lsync_fin {w w' : World} {x : Lg × Dk × Int} {m s n : Int} {R : List (List UInt8)} {A : Option Addr} {c : Nat} {v : Value} {d : Dk} (he : x = (⟨m, R, s⟩, d, n)) (h : RBss S' w' (.slice A R.length c) R) (hS : ∀ b, S' b → Fr S w b) (hd : RDk S2 w' v d) (hS2 : ∀ b, S2 b → Fr S w b) (hx : Ext w w') :
    SyncRet S w x (.returned (.tuple #[.agg #[.int .i64 m, .slice A R.length c, .int .i64 s], v, .int .i64 n])) w' := by
  subst he
  exact ⟨A, c, v, rfl, h.sub hS, hd.sub hS2, hx⟩
theorem lsync_err {w w' : World} {x : Lg × Dk × Int} {n : Int} (he : x = (Lg.zero, Dk.zero, n)) (hx : Ext w w') : SyncRet S w x (.returned (.tuple #[.agg #[.int .i64 0, .slice none 0 0, .int .i64 0], .agg #[.slice none 0 0, .slice none 0 0, .int .i64 0, .bool false], .int .i64 n])) w' :=
  lsync_fin (R := []) (S' := fun _ => False) (S2 := fun _ => False) he (RSl.nil _) (fun _ h => h.elim) (RDk.zero _) (fun _ h => h.elim) hx
theorem lsync_bad {w w' : World} {x : Lg × Dk × Int} {n : Int} {d : Dk} {v : Value} (he : x = (Lg.zero, d, n)) (hd : RDk S2 w' v d) (hS2 : ∀ b, S2 b → Fr S w b) (hx : Ext w w') : SyncRet S w x (.returned (.tuple #[.agg #[.int .i64 0, .slice none 0 0, .int .i64 0], v, .int .i64 n])) w' :=
  lsync_fin (R := []) (S' := fun _ => False) he (RSl.nil _) (fun _ h => h.elim) hd hS2 hx
/-! kinds of pieces -/
theorem kind_last {q : UInt8} {j n : Nat} (hq : q = kindOf (j == 0) false) (h : n = j + 1) : q ||| 2 = kindOf (j == 0) (n == j + 1) := by
  subst h
  rw [hq]
  simp only [beq_self_eq_true]
  cases (j == 0) <;> rfl
theorem kind_mid {q : UInt8} {j n : Nat} (hq : q = kindOf (j == 0) false) (h : n ≠ j + 1) : q = kindOf (j == 0) (n == j + 1) := by
  rw [hq, show (n == j + 1) = false by simpa using h]
theorem kind_next (j : Nat) : (0 : UInt8) = kindOf (j + 1 == 0) false := rfl

/-! the writes of Sync, piece by piece -/
theorem Fl.piece {w : World} {A : Option Addr} {c j : Nat} {x : List UInt8} (hf : Fl S w 1 (.slice A (x.length - 112 * j) c) (x.length - 112 * j) (byteVals (x.drop (112 * j)))) :
    Fl S w 1 (.slice (cutA A c (min (x.length - 112 * j) 112) 1) (x.length - 112 * (j + 1)) (c - min (x.length - 112 * j) 112)) (x.length - 112 * (j + 1)) (byteVals (x.drop (112 * (j + 1)))) := by
  have h := hf.cut (l := min (x.length - 112 * j) 112) (Nat.min_le_left _ _)
  rw [drop_min (by rw [List.length_drop]), List.drop_drop, show x.length - 112 * j - min (x.length - 112 * j) 112 = x.length - 112 * (j + 1) by omega, show 112 * j + 112 = 112 * (j + 1) by omega] at h
  exact h
theorem Fl.start {w : World} {A : Option Addr} {c : Nat} {x : List UInt8} (hf : Fl S w 1 (.slice A x.length c) x.length (byteVals x)) : Fl S w 1 (.slice A (x.length - 112 * 0) c) (x.length - 112 * 0) (byteVals (x.drop (112 * 0))) := hf
theorem ts_next {g a0 : Nat} {ss ts : List (List UInt8)} {x : List UInt8} {j : Nat} {q : UInt8} (hts : ts = ss ++ (pieces g (secs x.length) (a0 + ss.length) true x).take j) (hj : j < secs x.length) (hl : ts.length = ss.length + j) (hq : q = kindOf (j == 0) (secs x.length == j + 1)) :
    ts ++ [encL g (a0 + ts.length) q ((x.drop (112 * j)).take (min (x.length - 112 * j) 112))] = ss ++ (pieces g (secs x.length) (a0 + ss.length) true x).take (j + 1) := by
  rw [pieces_take g hj, ← List.append_assoc, ← hts, take_min (by rw [List.length_drop]), hq, hl, Nat.add_assoc]
theorem ts_len {g a0 : Nat} {ss ts : List (List UInt8)} {x : List UInt8} {j : Nat} (hts : ts = ss ++ (pieces g (secs x.length) (a0 + ss.length) true x).take j) (hj : j ≤ secs x.length) : ts.length = ss.length + j := by
  rw [hts, List.length_append, List.length_take, pieces_len]; omega
theorem ts_128 {g a0 : Nat} {ss ts : List (List UInt8)} {x : List UInt8} {j : Nat} (hts : ts = ss ++ (pieces g (secs x.length) (a0 + ss.length) true x).take j) (hs : ∀ z ∈ ss, z.length = 128) : ∀ z ∈ ts, z.length = 128 := fun z hz => by
  rw [hts] at hz
  rcases List.mem_append.1 hz with h | h
  · exact hs z h
  · exact pieces_128 _ _ _ _ _ z (List.mem_of_mem_take h)
theorem ss_next {g a0 : Nat} {ns ss ts : List (List UInt8)} {x : List UInt8} {k j : Nat} (hss : ss = allSecs g a0 (ns.take k)) (hx : ns[k]? = some x) (hts : ts = ss ++ (pieces g (secs x.length) (a0 + ss.length) true x).take j) (hj : j = secs x.length) : ts = allSecs g a0 (ns.take (k + 1)) := by
  have hl : ss.length = usedL (ns.take k) := by rw [hss, allSecs_len]
  rw [hts, hj, List.take_of_length_le (by rw [pieces_len]; omega), allSecs_take g hx, ← hl, ← hss]
theorem ss_room {g a0 : Nat} {ns ss : List (List UInt8)} {x : List UInt8} {k : Nat} (hss : ss = allSecs g a0 (ns.take k)) (hx : ns[k]? = some x) : ss.length + secs x.length ≤ usedL ns := by
  have h := usedL_split ns (k + 1)
  rw [List.take_add_one, hx, usedL_app] at h
  have e : usedL (some x).toList = secs x.length := by show usedL [x] = _; rw [usedL_cons, usedL_nil]; omega
  rw [hss, allSecs_len]; omega
theorem get_drop {R ns : List (List UInt8)} {s : Int} {n0 k : Nat} {x : List UInt8} (hns : R.drop s.toNat = ns) (hn0 : s.toNat = n0) (hx : R[n0 + k]? = some x) : ns[k]? = some x := by
  rw [← hns, List.getElem?_drop, hn0]; exact hx
theorem secs_lt {n j : Nat} (h : j < secs n) : j * 112 ≤ n := by unfold secs at h; omega
theorem ts_nextR {g a0 : Nat} {ss ts : List (List UInt8)} {x : List UInt8} {j : Nat} (hts : ts = ss ++ (pieces g (secs x.length) (a0 + ss.length) true x).take j) (hj : j < secs x.length) (hl : ts.length = ss.length + j) :
    ts ++ [encL g (a0 + ts.length) (kindOf (decide (((j : Nat) : Int) = (0 : Int))) (decide (((j : Nat) : Int) = ((secs x.length - 1 : Nat) : Int)))) ((x.drop (j * 112)).take (min x.length ((j + 1) * 112) - j * 112))] = ss ++ (pieces g (secs x.length) (a0 + ss.length) true x).take (j + 1) := by
  have e1 : decide (((j : Nat) : Int) = (0 : Int)) = (j == 0) := by
    rw [Bool.eq_iff_iff]; simp
  have e2 : decide (((j : Nat) : Int) = ((secs x.length - 1 : Nat) : Int)) = (secs x.length == j + 1) := by
    rw [Bool.eq_iff_iff]; simp; omega
  have e3 : (x.drop (j * 112)).take (min x.length ((j + 1) * 112) - j * 112) = (x.drop (112 * j)).take 112 := by
    have hjj := secs_lt hj
    rw [show j * 112 = 112 * j by omega, show min x.length ((j + 1) * 112) - 112 * j = min (x.length - 112 * j) 112 by omega, take_min (by rw [List.length_drop])]
  rw [pieces_take g hj, ← List.append_assoc, ← hts, e1, e2, e3, hl, Nat.add_assoc]
theorem wr_all {m s : Int} {R : List (List UInt8)} {d xd : Dk} {g a0 k : Nat} {ns ss : List (List UInt8)} (ha0 : usedL (R.take s.toNat) = a0) (hns : R.drop s.toNat = ns) (hgg : g = maxG d.sectors + 1) (hss : ss = allSecs g a0 (ns.take k)) (hk : k = ns.length) (hxd : xd = d.wr a0 ss) :
    xd = d.wr (Lg.mk m R s).at ((Lg.mk m R s).secs d) := by
  subst ha0 hns hgg hk
  rw [hxd, hss, List.take_length]
  rfl

end Go.Proofs.Ytfmhnplkpohogaa

namespace Go.Proofs.Ytfmhnplkpohogaa
open Go.RowKit

variable {S S' : Nat → Prop}

theorem crc_ref_odd {x y : UInt32} {j : Nat} (h : y = crcTo x j) (ho : y.toNat % 2 = 1) : y >>> UInt32.ofNat 1 ^^^ (3988292384 : UInt32) = crcTo x (j + 1) := by rw [crcTo, ← h, crcBit_odd ho]; rfl
theorem crc_ref_even {x y : UInt32} {j : Nat} (h : y = crcTo x j) (ho : y.toNat % 2 = 0) : y >>> UInt32.ofNat 1 = crcTo x (j + 1) := by rw [crcTo, ← h, crcBit_even ho]; rfl
theorem xor_all (z : UInt32) : z ^^^ (4294967295 : UInt32) = ~~~ z := by
 rw [UInt32.xor_comm]; exact UInt32.toBitVec_inj.1 (BitVec.allOnes_xor (x := z.toBitVec))

set_option maxRecDepth 100000 in
set_option maxHeartbeats 1000000 in
theorem beq_any (A : Option Addr) (c : Nat) (a : List UInt8) (B : Option Addr) (e : Nat) (b : List UInt8) (w : World) (ha : Fl S w 1 (.slice A a.length c) a.length (byteVals a)) (hb : Fl S w 1 (.slice B b.length e) b.length (byteVals b)) :
  Calls Try.prog 43 #[.slice A a.length c, .slice B b.length e] w (fun e w' => e = .returned (.bool (decide (a = b))) ∧ Ext w w') := by
 have hca : Fl (Clip S w) w 1 (.slice A a.length c) a.length (byteVals a) := ha.clip
 have hcac := (Fl.cel hca).2.1
 have hcb : Fl (Clip S w) w 1 (.slice B b.length e) b.length (byteVals b) := hb.clip
 have hcbc := (Fl.cel hcb).2.1
 refine calls_enter (l := [(.slice A a.length c), (.slice B b.length e)]) Try.func43 rfl rfl rfl (fun aA hF => ?_)
 refine wp_seq_k (fun K1 hK1 => ?_)
 refine wp_region_lit ?_
 refine qv 0 (.bool false) hF rfl (rn_assign rfl) fun _ F3 => ?_; clear hF
 refine wpList_nil ?_
 refine hK1 _ _ ?_
 clear hK1
 refine wp_seq_k (fun K4 hK4 => ?_)
 refine wp_region_lit ?_
 refine qv 0 (.slice A a.length c) F3 rfl (rn_move (F3.get rfl)) fun _ F6 => ?_; clear F3
 refine qv 1 (strOf a) F6 rfl (rn_str (F6.get rfl) (Fl.rbs hca) Try.underlying35 Try.underlying5 Try.underlying9) fun _ F8 => ?_; clear F6
 refine qv 2 (.slice B b.length e) F8 rfl (rn_move (F8.get rfl)) fun _ F10 => ?_; clear F8
 refine qv 3 (strOf b) F10 rfl (rn_str (F10.get rfl) (Fl.rbs hcb) Try.underlying35 Try.underlying5 Try.underlying9) fun _ F12 => ?_; clear F10
 refine qv 4 (.bool (decide (a = b))) F12 rfl (rn_eqs (F12.get rfl) (F12.get rfl) rfl) fun _ F14 => ?_; clear F12
 refine qv 5 (.bool (decide (a = b))) F14 rfl (rn_assign (F14.get rfl)) fun _ F16 => ?_; clear F14
 refine wpList_nil ?_
 refine hK4 _ _ ?_
 clear hK4
 have F17 := (((F16.nil.c F16 4 rfl).c F16 1 rfl).c F16 0 rfl)
 clear F16
 refine wp_ret ?_
 refine ret1 F17 rfl rfl ?_
 exact ⟨rfl, (Ext.refl w)⟩

theorem beq_at {S2 : Nat → Prop} {v u : Value} {n m : Nat} (a b : List UInt8) (w : World) (ha : Fl S w 1 v n (byteVals a)) (hb : Fl S2 w 1 u m (byteVals b)) :
  Calls Try.prog 43 #[v, u] w (fun e w' => e = .returned (.bool (decide (a = b))) ∧ Ext w w') := by
 have h1 := ha.blen
 have h2 := hb.blen
 subst h1 h2
 obtain ⟨A, c, rfl, _⟩ := ha.form
 obtain ⟨B, e, rfl, _⟩ := hb.form
 exact beq_any (S := fun _ => True) A c a B e b w (ha.sub fun _ _ => trivial) (hb.sub fun _ _ => trivial)

set_option maxRecDepth 100000 in
set_option maxHeartbeats 1000000 in
theorem get_any (A : Option Addr) (c : Nat) (l : List UInt8) (w : World) (hf : Fl S w 1 (.slice A l.length c) l.length (byteVals l)) (h4 : l.length ≤ 4) :
  Calls Try.prog 41 #[.slice A l.length c] w (fun e w' => e = .returned (.int .u64 (num l : Nat)) ∧ Ext w w') := by
 have hc : Fl (Clip S w) w 1 (.slice A l.length c) l.length (byteVals l) := hf.clip
 have hcc := (Fl.cel hc).2.1
 refine calls_enter (l := [(.slice A l.length c)]) Try.func41 rfl rfl rfl (fun aA hF => ?_)
 refine wp_seq_k (fun K1 hK1 => ?_)
 refine wp_region_lit ?_
 refine qv 0 (.int .u64 0) hF rfl (rn_assign rfl) fun _ F3 => ?_; clear hF
 refine wpList_nil ?_
 refine hK1 _ _ ?_
 clear hK1
 refine wp_seq_k (fun K4 hK4 => ?_)
 refine wp_seq_k (fun K5 hK5 => ?_)
 refine wp_region_lit ?_
 refine qv 0 (.slice A l.length c) F3 rfl (rn_move (F3.get rfl)) fun _ F7 => ?_; clear F3
 refine qv 1 (.int .i64 (l.length : Nat)) F7 rfl (rn_len_slice Try.underlying35 (F7.get rfl)) fun _ F9 => ?_; clear F7
 refine qv 2 (.int .i64 0) F9 rfl (rn_move rfl) fun _ F11 => ?_; clear F9
 refine wpList_nil ?_
 refine hK5 _ _ ?_
 clear hK5
 refine wp_block ?_
 refine wp_loop (fun a' W => ∃ (k : Nat) (x : Nat), Sl 18 [(0, (.slice A l.length c)), (2, (.int .u64 (x : Nat))), (5, (.slice A l.length c)), (6, (.int .i64 (l.length : Nat))), (7, (.int .i64 (k : Nat)))] a' ∧ k ≤ l.length ∧ x = num (l.take k) ∧ Ext w W ∧ w.heap.size ≤ W.heap.size) (fun a' _ => l.length - (intOf (a'.eval (.tmp 7))).toNat) ⟨0, 0, (((((F11.nil.cons (q_get F11 (t := 7) rfl (by first | rfl | (congr 1; omega) | (congr 1; done)))).cons (q_get F11 (t := 6) rfl rfl)).cons (q_get F11 (t := 5) rfl rfl)).cons (q_get F11 (t := 2) rfl (by first | rfl | (congr 1; omega) | (congr 1; done)))).cons (q_get F11 (t := 0) rfl rfl)), (by omega), rfl, (Ext.refl w), (Nat.le_refl _)⟩ ?_
 clear F11
 rintro a12 w13 ⟨k, x, F14, hp16, hp17, hx15, hf18⟩
 have hL19 := F14
 have z20 := hx15.size
 have z21 := num_lt4 (l := l.take k) (by rw [List.length_take]; omega)
 have z22 := congrArg (256 * ·) hp17
 refine wp_seq_k (fun K23 hK23 => ?_)
 refine wp_region_lit ?_
 refine qv 0 (.bool (decide (((k : Nat) : Int) < ((l.length : Nat) : Int)))) F14 rfl (rn_lss (F14.get rfl) (F14.get rfl)) fun _ F25 => ?_; clear F14
 refine wpList_nil ?_
 refine hK23 _ _ ?_
 clear hK23
 refine wp_seq_k (fun K26 hK26 => ?_)
 by_cases hc27 : ((k : Nat) : Int) < ((l.length : Nat) : Int)
 ·skip
  refine wp_cond_true (c_true F25 rfl (decide_eq_true hc27)) ?_
  refine wp_skip ?_
  refine hK26 _ _ ?_
  clear hK26
  refine wp_seq_k (fun K28 hK28 => ?_)
  refine wp_block ?_
  refine wp_seq_k (fun K29 hK29 => ?_)
  refine wp_region_lit ?_
  have d33 := (hc.ext hx15)
  obtain ⟨b30, o31, hA32, -⟩ := Fl.at d33 (by omega)
  refine qv 0 (.pointer (some ⟨b30, o31 + k, none⟩)) F25 rfl (rn_index1 Try.underlying35 inf5 ((F25.get rfl).trans (by rw [hA32])) (F25.get rfl) (by omega : (0 : Int) ≤ (k : Nat)) (by omega : ((k : Nat) : Int) < ((l.length : Nat) : Int))) fun _ F35 => ?_; clear F25
  refine qv 1 (.int .u8 ((l.getD k 0).toNat : Nat)) F35 rfl (rn_load (isAgg_no Try.underlying5 rfl) (F35.get rfl) (Fl.cellAt d33 hA32 (byteVals_at (i := k) (by omega)))) fun _ F37 => ?_; clear F35
  refine qv 2 (.int .u8 ((l.getD k 0).toNat : Nat)) F37 rfl (rn_assign (F37.get rfl)) fun _ F39 => ?_; clear F37
  refine wpList_nil ?_
  refine hK29 _ _ ?_
  clear hK29
  refine wp_region_lit ?_
  refine qv 0 (.int .u64 (x : Nat)) F39 rfl (rn_move (F39.get rfl)) fun _ F41 => ?_; clear F39
  refine qv 1 (.int .u64 (x * 2 ^ 8 : Nat)) F41 rfl (rn_shlU (a := x) (n := 8) (F41.get rfl) rfl (by omega) (by omega)) fun _ F43 => ?_; clear F41
  refine qv 2 (.int .u8 ((l.getD k 0).toNat : Nat)) F43 rfl (rn_move (F43.get rfl)) fun _ F45 => ?_; clear F43
  have z46 := UInt8.toNat_lt (l.getD k 0)
  refine qv 3 (.int .u64 ((l.getD k 0).toNat : Nat)) F45 rfl (rn_convW Try.underlying5 Try.underlying68 (F45.get rfl) (cvn_64 ((l.getD k 0).toNat) (by omega))) fun _ F48 => ?_; clear F45
  refine qv 4 (.int .u64 ((x * 2 ^ 8) + ((l.getD k 0).toNat) : Nat)) F48 rfl (rn_orU (a := x * 2 ^ 8) (b := (l.getD k 0).toNat) (F48.get rfl) (F48.get rfl) (by omega) (by omega) (by omega)) fun _ F50 => ?_; clear F48
  refine qv 5 (.int .u64 ((x * 2 ^ 8) + ((l.getD k 0).toNat) : Nat)) F50 rfl (rn_assign (F50.get rfl)) fun _ F52 => ?_; clear F50
  refine wpList_nil ?_
  refine hK28 _ _ ?_
  clear hK28
  have F53 := (((((((F52.nil.c F52 4 rfl).c F52 8 rfl).c F52 7 rfl).c F52 6 rfl).c F52 5 rfl).c F52 2 rfl).c F52 0 rfl)
  clear F52
  refine wp_region_lit ?_
  refine qv 0 (.int .i64 (k + 1 : Nat)) F53 rfl (rn_addN (a := k) (b := 1) (F53.get rfl) rfl (by omega)) fun _ F55 => ?_; clear F53
  refine qv 1 (.int .i64 (k + 1 : Nat)) F55 rfl (rn_move (F55.get rfl)) fun _ F57 => ?_; clear F55
  refine wpList_nil ?_
  refine ⟨⟨(k + 1), (x * 2 ^ 8) + ((l.getD k 0).toNat), (((((F57.nil.cons (q_get F57 (t := 7) rfl (by first | rfl | (congr 1; omega) | (congr 1; done)))).cons (q_get F57 (t := 6) rfl rfl)).cons (q_get F57 (t := 5) rfl rfl)).cons (q_get F57 (t := 2) rfl (by first | rfl | (congr 1; omega) | (congr 1; done)))).cons (q_get F57 (t := 0) rfl rfl)), (by omega), (by rw [← take_snoc (by omega : k < l.length), num_app, ← hp17] <;> omega), ((Ext.refl w).trans hx15), (by omega)⟩, ?_⟩
  rw [F57.get (t := 7) rfl, hL19.get (t := 7) rfl]; simp [intOf] <;> omega
 ·skip
  refine wp_cond_false (c_false F25 rfl (decide_eq_false hc27)) ?_
  refine wp_exit ?_
  refine exit_then ?_
  refine exit_then ?_
  refine exit_here ?_
  refine hK4 _ _ ?_
  clear hK4
  refine wp_seq_k (fun K58 hK58 => ?_)
  refine wp_region_lit ?_
  refine qv 0 (.int .u64 (x : Nat)) F25 rfl (rn_move (F25.get rfl)) fun _ F60 => ?_; clear F25
  refine qv 1 (.int .u64 (x : Nat)) F60 rfl (rn_assign (F60.get rfl)) fun _ F62 => ?_; clear F60
  refine wpList_nil ?_
  refine hK58 _ _ ?_
  clear hK58
  refine wp_ret ?_
  refine ret1 F62 rfl rfl ?_
  have hk : k = l.length := by omega
  have hx := hp17
  rw [hk, List.take_length] at hx
  exact ⟨by rw [hx], ((Ext.refl w).trans hx15)⟩

theorem get_at {v : Value} {m : Nat} (l : List UInt8) (w : World) (hf : Fl S w 1 v m (byteVals l)) (h4 : m ≤ 4) :
  Calls Try.prog 41 #[v] w (fun e w' => e = .returned (.int .u64 (num l : Nat)) ∧ Ext w w') := by
 have hm := hf.blen
 subst hm
 obtain ⟨A, c, rfl, _⟩ := hf.form
 exact get_any A c l w hf h4

set_option maxRecDepth 100000 in
set_option maxHeartbeats 1000000 in
theorem number_any (A : Option Addr) (c : Nat) (l : List UInt8) (w : World) (hf : Fl S w 1 (.slice A l.length c) l.length (byteVals l)) (h4 : l.length ≤ 4) :
  Calls Try.prog 63 #[.slice A l.length c] w (fun e w' => e = .returned (.int .u64 (num l : Nat)) ∧ Ext w w') := by
 have hc : Fl (Clip S w) w 1 (.slice A l.length c) l.length (byteVals l) := hf.clip
 have hcc := (Fl.cel hc).2.1
 refine calls_enter (l := [(.slice A l.length c)]) Try.func63 rfl rfl rfl (fun aA hF => ?_)
 refine wp_seq_k (fun K1 hK1 => ?_)
 refine wp_region_lit ?_
 refine qv 0 (.int .u64 0) hF rfl (rn_assign rfl) fun _ F3 => ?_; clear hF
 refine wpList_nil ?_
 refine hK1 _ _ ?_
 clear hK1
 refine wp_seq_k (fun K4 hK4 => ?_)
 refine wp_region_lit ?_
 refine qv 0 (.int .u64 0) F3 rfl (rn_assign rfl) fun _ F6 => ?_; clear F3
 refine wpList_nil ?_
 refine hK4 _ _ ?_
 clear hK4
 refine wp_seq_k (fun K7 hK7 => ?_)
 refine wp_seq_k (fun K8 hK8 => ?_)
 refine wp_region_lit ?_
 refine qv 0 (.int .i64 0) F6 rfl (rn_assign rfl) fun _ F10 => ?_; clear F6
 refine wpList_nil ?_
 refine hK8 _ _ ?_
 clear hK8
 refine wp_block ?_
 refine wp_loop (fun a' W => ∃ (k : Nat) (x : Nat), Sl 20 [(0, (.slice A l.length c)), (2, (.int .u64 0)), (3, (.int .u64 (x : Nat))), (4, (.int .i64 (k : Nat)))] a' ∧ k ≤ l.length ∧ x = num (l.take k) ∧ Ext w W ∧ w.heap.size ≤ W.heap.size) (fun a' _ => l.length - (intOf (a'.eval (.tmp 4))).toNat) ⟨0, 0, ((((F10.nil.cons (q_get F10 (t := 4) rfl (by first | rfl | (congr 1; omega) | (congr 1; done)))).cons (q_get F10 (t := 3) rfl (by first | rfl | (congr 1; omega) | (congr 1; done)))).cons (q_get F10 (t := 2) rfl rfl)).cons (q_get F10 (t := 0) rfl rfl)), (by omega), rfl, (Ext.refl w), (Nat.le_refl _)⟩ ?_
 clear F10
 rintro a11 w12 ⟨k, x, F13, hp15, hp16, hx14, hf17⟩
 have hL18 := F13
 have z19 := hx14.size
 have z20 := num_lt4 (l := l.take k) (by rw [List.length_take]; omega)
 have z21 := congrArg (256 * ·) hp16
 refine wp_seq_k (fun K22 hK22 => ?_)
 refine wp_seq_k (fun K23 hK23 => ?_)
 refine wp_region_lit ?_
 refine qv 0 (.int .i64 (k : Nat)) F13 rfl (rn_move (F13.get rfl)) fun _ F25 => ?_; clear F13
 refine qv 1 (.slice A l.length c) F25 rfl (rn_move (F25.get rfl)) fun _ F27 => ?_; clear F25
 refine qv 2 (.int .i64 (l.length : Nat)) F27 rfl (rn_len_slice Try.underlying35 (F27.get rfl)) fun _ F29 => ?_; clear F27
 refine qv 3 (.bool (decide (((k : Nat) : Int) < ((l.length : Nat) : Int)))) F29 rfl (rn_lss (F29.get rfl) (F29.get rfl)) fun _ F31 => ?_; clear F29
 refine wpList_nil ?_
 refine hK23 _ _ ?_
 clear hK23
 by_cases hc32 : ((k : Nat) : Int) < ((l.length : Nat) : Int)
 ·skip
  refine wp_cond_true (c_true F31 rfl (decide_eq_true hc32)) ?_
  refine wp_skip ?_
  refine hK22 _ _ ?_
  clear hK22
  refine wp_seq_k (fun K33 hK33 => ?_)
  refine wp_block ?_
  refine wp_region_lit ?_
  refine qv 0 (.int .u64 (x : Nat)) F31 rfl (rn_move (F31.get rfl)) fun _ F35 => ?_; clear F31
  refine qv 1 (.int .u64 (256 * x : Nat)) F35 rfl (rn_mulU (a := 256) (b := x) rfl (F35.get rfl) (by omega)) fun _ F37 => ?_; clear F35
  refine qv 2 (.slice A l.length c) F37 rfl (rn_move (F37.get rfl)) fun _ F39 => ?_; clear F37
  refine qv 3 (.int .i64 (k : Nat)) F39 rfl (rn_move (F39.get rfl)) fun _ F41 => ?_; clear F39
  have d45 := (hc.ext hx14)
  obtain ⟨b42, o43, hA44, -⟩ := Fl.at d45 (by omega)
  refine qv 4 (.pointer (some ⟨b42, o43 + k, none⟩)) F41 rfl (rn_index1 Try.underlying35 inf5 ((F41.get rfl).trans (by rw [hA44])) (F41.get rfl) (by omega : (0 : Int) ≤ (k : Nat)) (by omega : ((k : Nat) : Int) < ((l.length : Nat) : Int))) fun _ F47 => ?_; clear F41
  refine qv 5 (.int .u8 ((l.getD k 0).toNat : Nat)) F47 rfl (rn_load (isAgg_no Try.underlying5 rfl) (F47.get rfl) (Fl.cellAt d45 hA44 (byteVals_at (i := k) (by omega)))) fun _ F49 => ?_; clear F47
  have z50 := UInt8.toNat_lt (l.getD k 0)
  refine qv 6 (.int .u64 ((l.getD k 0).toNat : Nat)) F49 rfl (rn_convW Try.underlying5 Try.underlying68 (F49.get rfl) (cvn_64 ((l.getD k 0).toNat) (by omega))) fun _ F52 => ?_; clear F49
  refine qv 7 (.int .u64 ((256 * x) + ((l.getD k 0).toNat) : Nat)) F52 rfl (rn_addU (a := 256 * x) (b := (l.getD k 0).toNat) (F52.get rfl) (F52.get rfl) (by omega)) fun _ F54 => ?_; clear F52
  refine qv 8 (.int .u64 ((256 * x) + ((l.getD k 0).toNat) : Nat)) F54 rfl (rn_assign (F54.get rfl)) fun _ F56 => ?_; clear F54
  refine wpList_nil ?_
  refine hK33 _ _ ?_
  clear hK33
  have F57 := (((((F56.nil.c F56 8 rfl).c F56 4 rfl).c F56 3 rfl).c F56 2 rfl).c F56 0 rfl)
  clear F56
  refine wp_region_lit ?_
  refine qv 0 (.int .i64 (k : Nat)) F57 rfl (rn_move (F57.get rfl)) fun _ F59 => ?_; clear F57
  refine qv 1 (.int .i64 (k + 1 : Nat)) F59 rfl (rn_addN (a := k) (b := 1) (F59.get rfl) rfl (by omega)) fun _ F61 => ?_; clear F59
  refine qv 2 (.int .i64 (k + 1 : Nat)) F61 rfl (rn_assign (F61.get rfl)) fun _ F63 => ?_; clear F61
  refine wpList_nil ?_
  refine ⟨⟨(k + 1), (256 * x) + ((l.getD k 0).toNat), ((((F63.nil.cons (q_get F63 (t := 4) rfl (by first | rfl | (congr 1; omega) | (congr 1; done)))).cons (q_get F63 (t := 3) rfl (by first | rfl | (congr 1; omega) | (congr 1; done)))).cons (q_get F63 (t := 2) rfl rfl)).cons (q_get F63 (t := 0) rfl rfl)), (by omega), (by rw [← take_snoc (by omega : k < l.length), num_app, ← hp16] <;> omega), ((Ext.refl w).trans hx14), (by omega)⟩, ?_⟩
  rw [F63.get (t := 4) rfl, hL18.get (t := 4) rfl]; simp [intOf] <;> omega
 ·skip
  refine wp_cond_false (c_false F31 rfl (decide_eq_false hc32)) ?_
  refine wp_exit ?_
  refine exit_then ?_
  refine exit_then ?_
  refine exit_here ?_
  refine hK7 _ _ ?_
  clear hK7
  refine wp_seq_k (fun K64 hK64 => ?_)
  refine wp_region_lit ?_
  refine qv 0 (.int .u64 (x : Nat)) F31 rfl (rn_move (F31.get rfl)) fun _ F66 => ?_; clear F31
  refine qv 1 (.int .u64 (x : Nat)) F66 rfl (rn_assign (F66.get rfl)) fun _ F68 => ?_; clear F66
  refine wpList_nil ?_
  refine hK64 _ _ ?_
  clear hK64
  have F69 := (((((F68.nil.c F68 8 rfl).c F68 4 rfl).c F68 3 rfl).c F68 2 rfl).c F68 0 rfl)
  clear F68
  refine wp_ret ?_
  refine ret1 F69 rfl rfl ?_
  have hk : k = l.length := by omega
  have hx := hp16
  rw [hk, List.take_length] at hx
  exact ⟨by rw [hx], ((Ext.refl w).trans hx14)⟩

theorem number_at {v : Value} {m : Nat} (l : List UInt8) (w : World) (hf : Fl S w 1 v m (byteVals l)) (h4 : m ≤ 4) :
  Calls Try.prog 63 #[v] w (fun e w' => e = .returned (.int .u64 (num l : Nat)) ∧ Ext w w') := by
 have hm := hf.blen
 subst hm
 obtain ⟨A, c, rfl, _⟩ := hf.form
 exact number_any A c l w hf h4

set_option maxRecDepth 100000 in
set_option maxHeartbeats 1000000 in
theorem sum9_any (A : Option Addr) (c : Nat) (l : List UInt8) (w : World) (hf : Fl S w 1 (.slice A l.length c) l.length (byteVals l)) :
  Calls Try.prog 65 #[.slice A l.length c] w (fun e w' => e = .returned (.int .u32 ((crc l).toNat : Nat)) ∧ Ext w w') := by
 have hc : Fl (Clip S w) w 1 (.slice A l.length c) l.length (byteVals l) := hf.clip
 have hcc := (Fl.cel hc).2.1
 refine calls_enter (l := [(.slice A l.length c)]) Try.func65 rfl rfl rfl (fun aA hF => ?_)
 refine wp_seq_k (fun K1 hK1 => ?_)
 refine wp_region_lit ?_
 refine qv 0 (.int .u32 0) hF rfl (rn_assign rfl) fun _ F3 => ?_; clear hF
 refine wpList_nil ?_
 refine hK1 _ _ ?_
 clear hK1
 refine wp_seq_k (fun K4 hK4 => ?_)
 refine wp_region_lit ?_
 refine qv 0 (.int .u32 4294967295) F3 rfl (rn_assign rfl) fun _ F6 => ?_; clear F3
 refine wpList_nil ?_
 refine hK4 _ _ ?_
 clear hK4
 refine wp_seq_k (fun K7 hK7 => ?_)
 refine wp_seq_k (fun K8 hK8 => ?_)
 refine wp_region_lit ?_
 refine qv 0 (.slice A l.length c) F6 rfl (rn_move (F6.get rfl)) fun _ F10 => ?_; clear F6
 refine qv 1 (.int .i64 (l.length : Nat)) F10 rfl (rn_len_slice Try.underlying35 (F10.get rfl)) fun _ F12 => ?_; clear F10
 refine qv 2 (.int .i64 0) F12 rfl (rn_move rfl) fun _ F14 => ?_; clear F12
 refine wpList_nil ?_
 refine hK8 _ _ ?_
 clear hK8
 refine wp_block ?_
 refine wp_loop (fun a' W => ∃ (k : Nat) (x : UInt32), Sl 28 [(0, (.slice A l.length c)), (2, (.int .u32 0)), (3, (.int .u32 (x.toNat : Nat))), (6, (.slice A l.length c)), (7, (.int .i64 (l.length : Nat))), (8, (.int .i64 (k : Nat)))] a' ∧ k ≤ l.length ∧ x = crcL (l.take k) ∧ Ext w W ∧ w.heap.size ≤ W.heap.size) (fun a' _ => l.length - (intOf (a'.eval (.tmp 8))).toNat) ⟨0, 4294967295, ((((((F14.nil.cons (q_get F14 (t := 8) rfl (by first | rfl | (congr 1; omega) | (congr 1; done)))).cons (q_get F14 (t := 7) rfl rfl)).cons (q_get F14 (t := 6) rfl rfl)).cons (q_get F14 (t := 3) rfl (by first | rfl | (congr 1; omega) | (congr 1; done)))).cons (q_get F14 (t := 2) rfl rfl)).cons (q_get F14 (t := 0) rfl rfl)), (by omega), rfl, (Ext.refl w), (Nat.le_refl _)⟩ ?_
 clear F14
 rintro a15 w16 ⟨k, x, F17, hp19, hp20, hx18, hf21⟩
 have hL22 := F17
 have z23 := hx18.size
 refine wp_seq_k (fun K24 hK24 => ?_)
 refine wp_region_lit ?_
 refine qv 0 (.bool (decide (((k : Nat) : Int) < ((l.length : Nat) : Int)))) F17 rfl (rn_lss (F17.get rfl) (F17.get rfl)) fun _ F26 => ?_; clear F17
 refine wpList_nil ?_
 refine hK24 _ _ ?_
 clear hK24
 refine wp_seq_k (fun K27 hK27 => ?_)
 by_cases hc28 : ((k : Nat) : Int) < ((l.length : Nat) : Int)
 ·skip
  refine wp_cond_true (c_true F26 rfl (decide_eq_true hc28)) ?_
  refine wp_skip ?_
  refine hK27 _ _ ?_
  clear hK27
  refine wp_seq_k (fun K29 hK29 => ?_)
  refine wp_block ?_
  refine wp_seq_k (fun K30 hK30 => ?_)
  refine wp_region_lit ?_
  have d34 := (hc.ext hx18)
  obtain ⟨b31, o32, hA33, -⟩ := Fl.at d34 (by omega)
  refine qv 0 (.pointer (some ⟨b31, o32 + k, none⟩)) F26 rfl (rn_index1 Try.underlying35 inf5 ((F26.get rfl).trans (by rw [hA33])) (F26.get rfl) (by omega : (0 : Int) ≤ (k : Nat)) (by omega : ((k : Nat) : Int) < ((l.length : Nat) : Int))) fun _ F36 => ?_; clear F26
  refine qv 1 (.int .u8 ((l.getD k 0).toNat : Nat)) F36 rfl (rn_load (isAgg_no Try.underlying5 rfl) (F36.get rfl) (Fl.cellAt d34 hA33 (byteVals_at (i := k) (by omega)))) fun _ F38 => ?_; clear F36
  refine qv 2 (.int .u8 ((l.getD k 0).toNat : Nat)) F38 rfl (rn_assign (F38.get rfl)) fun _ F40 => ?_; clear F38
  refine wpList_nil ?_
  refine hK30 _ _ ?_
  clear hK30
  refine wp_seq_k (fun K41 hK41 => ?_)
  refine wp_region_lit ?_
  refine qv 0 (.int .u32 (x.toNat : Nat)) F40 rfl (rn_move (F40.get rfl)) fun _ F43 => ?_; clear F40
  refine qv 1 (.int .u8 ((l.getD k 0).toNat : Nat)) F43 rfl (rn_move (F43.get rfl)) fun _ F45 => ?_; clear F43
  refine qv 2 (.int .u32 (((l.getD k 0).toUInt32).toNat : Nat)) F45 rfl (rn_convW Try.underlying5 Try.underlying91 (F45.get rfl) (cv8_32 (l.getD k 0))) fun _ F47 => ?_; clear F45
  refine qv 3 (.int .u32 ((x ^^^ ((l.getD k 0).toUInt32)).toNat : Nat)) F47 rfl (rn_xor32 (a := x) (b := ((l.getD k 0).toUInt32)) (F47.get rfl) (F47.get rfl)) fun _ F49 => ?_; clear F47
  refine qv 4 (.int .u32 ((x ^^^ ((l.getD k 0).toUInt32)).toNat : Nat)) F49 rfl (rn_assign (F49.get rfl)) fun _ F51 => ?_; clear F49
  refine wpList_nil ?_
  refine hK41 _ _ ?_
  clear hK41
  have F52 := ((((((((F51.nil.c F51 5 rfl).c F51 9 rfl).c F51 8 rfl).c F51 7 rfl).c F51 6 rfl).c F51 3 rfl).c F51 2 rfl).c F51 0 rfl)
  clear F51
  refine wp_seq_k (fun K53 hK53 => ?_)
  refine wp_region_lit ?_
  refine qv 0 (.int .i64 0) F52 rfl (rn_move rfl) fun _ F55 => ?_; clear F52
  refine wpList_nil ?_
  refine hK53 _ _ ?_
  clear hK53
  refine wp_block ?_
  refine wp_loop (fun a' W => ∃ (j : Nat) (y : UInt32), Sl 28 [(0, (.slice A l.length c)), (2, (.int .u32 0)), (3, (.int .u32 (y.toNat : Nat))), (6, (.slice A l.length c)), (7, (.int .i64 (l.length : Nat))), (8, (.int .i64 (k : Nat))), (9, (.bool (decide (((k : Nat) : Int) < ((l.length : Nat) : Int))))), (5, (.int .u8 ((l.getD k 0).toNat : Nat))), (16, (.int .i64 (j : Nat)))] a' ∧ j ≤ 8 ∧ y = crcTo ((x ^^^ ((l.getD k 0).toUInt32))) j ∧ Ext w W ∧ w16.heap.size ≤ W.heap.size) (fun a' _ => 8 - (intOf (a'.eval (.tmp 16))).toNat) ⟨0, (x ^^^ ((l.getD k 0).toUInt32)), (((((((((F55.nil.cons (q_get F55 (t := 16) rfl (by first | rfl | (congr 1; omega) | (congr 1; done)))).cons (q_get F55 (t := 5) rfl rfl)).cons (q_get F55 (t := 9) rfl rfl)).cons (q_get F55 (t := 8) rfl rfl)).cons (q_get F55 (t := 7) rfl rfl)).cons (q_get F55 (t := 6) rfl rfl)).cons (q_get F55 (t := 3) rfl (by first | rfl | (congr 1; omega) | (congr 1; done)))).cons (q_get F55 (t := 2) rfl rfl)).cons (q_get F55 (t := 0) rfl rfl)), (by omega), rfl, ((Ext.refl w).trans hx18), (Nat.le_refl _)⟩ ?_
  clear F55
  rintro a56 w57 ⟨j, y, F58, hp60, hp61, hx59, hf62⟩
  have hL63 := F58
  have z64 := hx59.size
  refine wp_seq_k (fun K65 hK65 => ?_)
  refine wp_region_lit ?_
  refine qv 0 (.bool (decide (((j : Nat) : Int) < (8 : Int)))) F58 rfl (rn_lss (F58.get rfl) rfl) fun _ F67 => ?_; clear F58
  refine wpList_nil ?_
  refine hK65 _ _ ?_
  clear hK65
  refine wp_seq_k (fun K68 hK68 => ?_)
  by_cases hc69 : ((j : Nat) : Int) < (8 : Int)
  ·skip
   refine wp_cond_true (c_true F67 rfl (decide_eq_true hc69)) ?_
   refine wp_skip ?_
   refine hK68 _ _ ?_
   clear hK68
   refine wp_seq_k (fun K70 hK70 => ?_)
   refine wp_block ?_
   refine wp_region_lit ?_
   refine qv 0 (.int .u32 (y.toNat : Nat)) F67 rfl (rn_move (F67.get rfl)) fun _ F72 => ?_; clear F67
   refine qv 1 (.int .u32 ((y >>> UInt32.ofNat 1).toNat : Nat)) F72 rfl (rn_shr32 (a := y) (n := 1) (F72.get rfl) rfl (by omega)) fun _ F74 => ?_; clear F72
   refine qv 2 (.int .u32 (y.toNat : Nat)) F74 rfl (rn_move (F74.get rfl)) fun _ F76 => ?_; clear F74
   refine qv 3 (.int .u32 ((y &&& (1 : UInt32)).toNat : Nat)) F76 rfl (rn_and32 (a := y) (b := (1 : UInt32)) (F76.get rfl) rfl) fun _ F78 => ?_; clear F76
   refine qv 4 (.int .u32 (((3988292384 : UInt32) * (y &&& (1 : UInt32))).toNat : Nat)) F78 rfl (rn_mul32 (a := (3988292384 : UInt32)) (b := (y &&& (1 : UInt32))) rfl (F78.get rfl)) fun _ F80 => ?_; clear F78
   refine qv 5 (.int .u32 (((y >>> UInt32.ofNat 1) ^^^ ((3988292384 : UInt32) * (y &&& (1 : UInt32)))).toNat : Nat)) F80 rfl (rn_xor32 (a := (y >>> UInt32.ofNat 1)) (b := ((3988292384 : UInt32) * (y &&& (1 : UInt32)))) (F80.get rfl) (F80.get rfl)) fun _ F82 => ?_; clear F80
   refine qv 6 (.int .u32 (((y >>> UInt32.ofNat 1) ^^^ ((3988292384 : UInt32) * (y &&& (1 : UInt32)))).toNat : Nat)) F82 rfl (rn_assign (F82.get rfl)) fun _ F84 => ?_; clear F82
   refine wpList_nil ?_
   refine hK70 _ _ ?_
   clear hK70
   have F85 := ((((((((((F84.nil.c F84 17 rfl).c F84 16 rfl).c F84 5 rfl).c F84 9 rfl).c F84 8 rfl).c F84 7 rfl).c F84 6 rfl).c F84 3 rfl).c F84 2 rfl).c F84 0 rfl)
   clear F84
   refine wp_region_lit ?_
   refine qv 0 (.int .i64 (j + 1 : Nat)) F85 rfl (rn_addN (a := j) (b := 1) (F85.get rfl) rfl (by omega)) fun _ F87 => ?_; clear F85
   refine qv 1 (.int .i64 (j + 1 : Nat)) F87 rfl (rn_move (F87.get rfl)) fun _ F89 => ?_; clear F87
   refine wpList_nil ?_
   refine ⟨⟨(j + 1), ((y >>> UInt32.ofNat 1) ^^^ ((3988292384 : UInt32) * (y &&& (1 : UInt32)))), (((((((((F89.nil.cons (q_get F89 (t := 16) rfl (by first | rfl | (congr 1; omega) | (congr 1; done)))).cons (q_get F89 (t := 5) rfl rfl)).cons (q_get F89 (t := 9) rfl rfl)).cons (q_get F89 (t := 8) rfl rfl)).cons (q_get F89 (t := 7) rfl rfl)).cons (q_get F89 (t := 6) rfl rfl)).cons (q_get F89 (t := 3) rfl (by first | rfl | (congr 1; omega) | (congr 1; done)))).cons (q_get F89 (t := 2) rfl rfl)).cons (q_get F89 (t := 0) rfl rfl)), (by omega), (by rw [hp61]; rfl), ((Ext.refl w).trans hx59), (by omega)⟩, ?_⟩
   rw [F89.get (t := 16) rfl, hL63.get (t := 16) rfl]; simp [intOf] <;> omega
  ·skip
   refine wp_cond_false (c_false F67 rfl (decide_eq_false hc69)) ?_
   refine wp_exit ?_
   refine exit_then ?_
   refine exit_then ?_
   refine exit_here ?_
   refine hK29 _ _ ?_
   clear hK29
   refine wp_region_lit ?_
   refine qv 0 (.int .i64 (k + 1 : Nat)) F67 rfl (rn_addN (a := k) (b := 1) (F67.get rfl) rfl (by omega)) fun _ F91 => ?_; clear F67
   refine qv 1 (.int .i64 (k + 1 : Nat)) F91 rfl (rn_move (F91.get rfl)) fun _ F93 => ?_; clear F91
   refine wpList_nil ?_
   refine ⟨⟨(k + 1), y, ((((((F93.nil.cons (q_get F93 (t := 8) rfl (by first | rfl | (congr 1; omega) | (congr 1; done)))).cons (q_get F93 (t := 7) rfl rfl)).cons (q_get F93 (t := 6) rfl rfl)).cons (q_get F93 (t := 3) rfl (by first | rfl | (congr 1; omega) | (congr 1; done)))).cons (q_get F93 (t := 2) rfl rfl)).cons (q_get F93 (t := 0) rfl rfl)), (by omega), (by rw [← take_snoc (by omega : k < l.length), crcL_app, ← hp20]; have := hp61; rwa [show j = 8 by omega] at this), ((Ext.refl w).trans hx59), (by omega)⟩, ?_⟩
   rw [F93.get (t := 8) rfl, hL22.get (t := 8) rfl]; simp [intOf] <;> omega
 ·skip
  refine wp_cond_false (c_false F26 rfl (decide_eq_false hc28)) ?_
  refine wp_exit ?_
  refine exit_then ?_
  refine exit_then ?_
  refine exit_here ?_
  refine hK7 _ _ ?_
  clear hK7
  refine wp_seq_k (fun K94 hK94 => ?_)
  refine wp_region_lit ?_
  refine qv 0 (.int .u32 (x.toNat : Nat)) F26 rfl (rn_move (F26.get rfl)) fun _ F96 => ?_; clear F26
  refine qv 1 (.int .u32 ((~~~ x).toNat : Nat)) F96 rfl (rn_not32 (a := x) (F96.get rfl)) fun _ F98 => ?_; clear F96
  refine qv 2 (.int .u32 ((~~~ x).toNat : Nat)) F98 rfl (rn_assign (F98.get rfl)) fun _ F100 => ?_; clear F98
  refine wpList_nil ?_
  refine hK94 _ _ ?_
  clear hK94
  refine wp_ret ?_
  refine ret1 F100 rfl rfl ?_
  have hk : k = l.length := by omega
  have hx := hp20
  rw [hk, List.take_length] at hx
  exact ⟨by rw [hx]; rfl, ((Ext.refl w).trans hx18)⟩

theorem sum_at9 {v : Value} {m : Nat} (l : List UInt8) (w : World) (hf : Fl S w 1 v m (byteVals l)) :
  Calls Try.prog 65 #[v] w (fun e w' => e = .returned (.int .u32 ((crc l).toNat : Nat)) ∧ Ext w w') := by
 have hm := hf.blen
 subst hm
 obtain ⟨A, c, rfl, _⟩ := hf.form
 exact sum9_any A c l w hf

set_option maxRecDepth 100000 in
set_option maxHeartbeats 1000000 in
theorem checksum_any (A : Option Addr) (c : Nat) (l : List UInt8) (w : World) (hf : Fl S w 1 (.slice A l.length c) l.length (byteVals l)) :
  Calls Try.prog 67 #[.slice A l.length c] w (fun e w' => e = .returned (.int .u32 ((crc l).toNat : Nat)) ∧ Ext w w') := by
 have hc : Fl (Clip S w) w 1 (.slice A l.length c) l.length (byteVals l) := hf.clip
 have hcc := (Fl.cel hc).2.1
 refine calls_enter (l := [(.slice A l.length c)]) Try.func67 rfl rfl rfl (fun aA hF => ?_)
 refine wp_seq_k (fun K1 hK1 => ?_)
 refine wp_region_lit ?_
 refine qv 0 (.int .u32 0) hF rfl (rn_assign rfl) fun _ F3 => ?_; clear hF
 refine wpList_nil ?_
 refine hK1 _ _ ?_
 clear hK1
 refine wp_seq_k (fun K4 hK4 => ?_)
 refine wp_region_lit ?_
 refine qv 0 (.int .u32 4294967295) F3 rfl (rn_assign rfl) fun _ F6 => ?_; clear F3
 refine wpList_nil ?_
 refine hK4 _ _ ?_
 clear hK4
 refine wp_seq_k (fun K7 hK7 => ?_)
 refine wp_seq_k (fun K8 hK8 => ?_)
 refine wp_region_lit ?_
 refine qv 0 (.int .i64 0) F6 rfl (rn_assign rfl) fun _ F10 => ?_; clear F6
 refine wpList_nil ?_
 refine hK8 _ _ ?_
 clear hK8
 refine wp_block ?_
 refine wp_loop (fun a' W => ∃ (k : Nat) (x : UInt32), Sl 33 [(0, (.slice A l.length c)), (2, (.int .u32 0)), (3, (.int .u32 (x.toNat : Nat))), (4, (.int .i64 (k : Nat)))] a' ∧ k ≤ l.length ∧ x = crcL (l.take k) ∧ Ext w W ∧ w.heap.size ≤ W.heap.size) (fun a' _ => l.length - (intOf (a'.eval (.tmp 4))).toNat) ⟨0, 4294967295, ((((F10.nil.cons (q_get F10 (t := 4) rfl (by first | rfl | (congr 1; omega) | (congr 1; done)))).cons (q_get F10 (t := 3) rfl (by first | rfl | (congr 1; omega) | (congr 1; done)))).cons (q_get F10 (t := 2) rfl rfl)).cons (q_get F10 (t := 0) rfl rfl)), (by omega), rfl, (Ext.refl w), (Nat.le_refl _)⟩ ?_
 clear F10
 rintro a11 w12 ⟨k, x, F13, hp15, hp16, hx14, hf17⟩
 have hL18 := F13
 have z19 := hx14.size
 refine wp_seq_k (fun K20 hK20 => ?_)
 refine wp_seq_k (fun K21 hK21 => ?_)
 refine wp_region_lit ?_
 refine qv 0 (.int .i64 (k : Nat)) F13 rfl (rn_move (F13.get rfl)) fun _ F23 => ?_; clear F13
 refine qv 1 (.slice A l.length c) F23 rfl (rn_move (F23.get rfl)) fun _ F25 => ?_; clear F23
 refine qv 2 (.int .i64 (l.length : Nat)) F25 rfl (rn_len_slice Try.underlying35 (F25.get rfl)) fun _ F27 => ?_; clear F25
 refine qv 3 (.bool (decide (((k : Nat) : Int) < ((l.length : Nat) : Int)))) F27 rfl (rn_lss (F27.get rfl) (F27.get rfl)) fun _ F29 => ?_; clear F27
 refine wpList_nil ?_
 refine hK21 _ _ ?_
 clear hK21
 by_cases hc30 : ((k : Nat) : Int) < ((l.length : Nat) : Int)
 ·skip
  refine wp_cond_true (c_true F29 rfl (decide_eq_true hc30)) ?_
  refine wp_skip ?_
  refine hK20 _ _ ?_
  clear hK20
  refine wp_seq_k (fun K31 hK31 => ?_)
  refine wp_block ?_
  refine wp_seq_k (fun K32 hK32 => ?_)
  refine wp_region_lit ?_
  refine qv 0 (.int .u32 (x.toNat : Nat)) F29 rfl (rn_move (F29.get rfl)) fun _ F34 => ?_; clear F29
  refine qv 1 (.slice A l.length c) F34 rfl (rn_move (F34.get rfl)) fun _ F36 => ?_; clear F34
  refine qv 2 (.int .i64 (k : Nat)) F36 rfl (rn_move (F36.get rfl)) fun _ F38 => ?_; clear F36
  have d42 := (hc.ext hx14)
  obtain ⟨b39, o40, hA41, -⟩ := Fl.at d42 (by omega)
  refine qv 3 (.pointer (some ⟨b39, o40 + k, none⟩)) F38 rfl (rn_index1 Try.underlying35 inf5 ((F38.get rfl).trans (by rw [hA41])) (F38.get rfl) (by omega : (0 : Int) ≤ (k : Nat)) (by omega : ((k : Nat) : Int) < ((l.length : Nat) : Int))) fun _ F44 => ?_; clear F38
  refine qv 4 (.int .u8 ((l.getD k 0).toNat : Nat)) F44 rfl (rn_load (isAgg_no Try.underlying5 rfl) (F44.get rfl) (Fl.cellAt d42 hA41 (byteVals_at (i := k) (by omega)))) fun _ F46 => ?_; clear F44
  refine qv 5 (.int .u32 (((l.getD k 0).toUInt32).toNat : Nat)) F46 rfl (rn_convW Try.underlying5 Try.underlying91 (F46.get rfl) (cv8_32 (l.getD k 0))) fun _ F48 => ?_; clear F46
  refine qv 6 (.int .u32 ((x ^^^ ((l.getD k 0).toUInt32)).toNat : Nat)) F48 rfl (rn_xor32 (a := x) (b := ((l.getD k 0).toUInt32)) (F48.get rfl) (F48.get rfl)) fun _ F50 => ?_; clear F48
  refine qv 7 (.int .u32 ((x ^^^ ((l.getD k 0).toUInt32)).toNat : Nat)) F50 rfl (rn_assign (F50.get rfl)) fun _ F52 => ?_; clear F50
  refine wpList_nil ?_
  refine hK32 _ _ ?_
  clear hK32
  have F53 := (((((F52.nil.c F52 9 rfl).c F52 4 rfl).c F52 3 rfl).c F52 2 rfl).c F52 0 rfl)
  clear F52
  refine wp_seq_k (fun K54 hK54 => ?_)
  refine wp_region_lit ?_
  refine qv 0 (.int .i64 0) F53 rfl (rn_assign rfl) fun _ F56 => ?_; clear F53
  refine wpList_nil ?_
  refine hK54 _ _ ?_
  clear hK54
  refine wp_block ?_
  refine wp_loop (fun a' W => ∃ (j : Nat) (y : UInt32), Sl 33 [(0, (.slice A l.length c)), (2, (.int .u32 0)), (3, (.int .u32 (y.toNat : Nat))), (4, (.int .i64 (k : Nat))), (9, (.bool (decide (((k : Nat) : Int) < ((l.length : Nat) : Int))))), (5, (.int .i64 (j : Nat)))] a' ∧ j ≤ 8 ∧ y = crcTo ((x ^^^ ((l.getD k 0).toUInt32))) j ∧ Ext w W ∧ w12.heap.size ≤ W.heap.size) (fun a' _ => 8 - (intOf (a'.eval (.tmp 5))).toNat) ⟨0, (x ^^^ ((l.getD k 0).toUInt32)), ((((((F56.nil.cons (q_get F56 (t := 5) rfl (by first | rfl | (congr 1; omega) | (congr 1; done)))).cons (q_get F56 (t := 9) rfl rfl)).cons (q_get F56 (t := 4) rfl rfl)).cons (q_get F56 (t := 3) rfl (by first | rfl | (congr 1; omega) | (congr 1; done)))).cons (q_get F56 (t := 2) rfl rfl)).cons (q_get F56 (t := 0) rfl rfl)), (by omega), rfl, ((Ext.refl w).trans hx14), (Nat.le_refl _)⟩ ?_
  clear F56
  rintro a57 w58 ⟨j, y, F59, hp61, hp62, hx60, hf63⟩
  have hL64 := F59
  have z65 := hx60.size
  refine wp_seq_k (fun K66 hK66 => ?_)
  refine wp_seq_k (fun K67 hK67 => ?_)
  refine wp_region_lit ?_
  refine qv 0 (.int .i64 (j : Nat)) F59 rfl (rn_move (F59.get rfl)) fun _ F69 => ?_; clear F59
  refine qv 1 (.bool (decide (((j : Nat) : Int) < (8 : Int)))) F69 rfl (rn_lss (F69.get rfl) rfl) fun _ F71 => ?_; clear F69
  refine wpList_nil ?_
  refine hK67 _ _ ?_
  clear hK67
  by_cases hc72 : ((j : Nat) : Int) < (8 : Int)
  ·skip
   refine wp_cond_true (c_true F71 rfl (decide_eq_true hc72)) ?_
   refine wp_skip ?_
   refine hK66 _ _ ?_
   clear hK66
   refine wp_seq_k (fun K73 hK73 => ?_)
   refine wp_block ?_
   refine wp_seq_k (fun K74 hK74 => ?_)
   refine wp_region_lit ?_
   refine qv 0 (.int .u32 (y.toNat : Nat)) F71 rfl (rn_move (F71.get rfl)) fun _ F76 => ?_; clear F71
   refine qv 1 (.int .u32 (((y.toNat : Nat) : Int) % (2 : Int))) F76 rfl (rn_rem (F76.get rfl) rfl (by omega : (0 : Int) ≤ (y.toNat : Nat)) (by omega : (0 : Int) < 2)) fun _ F78 => ?_; clear F76
   refine qv 2 (.bool (decide (((((y.toNat : Nat) : Int) % (2 : Int)) : Int) = (1 : Int)))) F78 rfl (rn_eql (F78.get rfl) rfl) fun _ F80 => ?_; clear F78
   refine wpList_nil ?_
   refine hK74 _ _ ?_
   clear hK74
   by_cases hc81 : ((((y.toNat : Nat) : Int) % (2 : Int)) : Int) = (1 : Int)
   ·skip
    refine wp_cond_true (c_true F80 rfl (decide_eq_true hc81)) ?_
    refine wp_region_lit ?_
    refine qv 0 (.int .u32 (y.toNat : Nat)) F80 rfl (rn_move (F80.get rfl)) fun _ F83 => ?_; clear F80
    refine qv 1 (.int .u32 ((y >>> UInt32.ofNat 1).toNat : Nat)) F83 rfl (rn_shr32 (a := y) (n := 1) (F83.get rfl) rfl (by omega)) fun _ F85 => ?_; clear F83
    refine qv 2 (.int .u32 (((y >>> UInt32.ofNat 1) ^^^ (3988292384 : UInt32)).toNat : Nat)) F85 rfl (rn_xor32 (a := (y >>> UInt32.ofNat 1)) (b := (3988292384 : UInt32)) (F85.get rfl) rfl) fun _ F87 => ?_; clear F85
    refine qv 3 (.int .u32 (((y >>> UInt32.ofNat 1) ^^^ (3988292384 : UInt32)).toNat : Nat)) F87 rfl (rn_assign (F87.get rfl)) fun _ F89 => ?_; clear F87
    refine wpList_nil ?_
    refine hK73 _ _ ?_
    clear hK73
    have F90 := ((((((((F89.nil.c F89 25 rfl).c F89 20 rfl).c F89 5 rfl).c F89 9 rfl).c F89 4 rfl).c F89 3 rfl).c F89 2 rfl).c F89 0 rfl)
    clear F89
    refine wp_region_lit ?_
    refine qv 0 (.int .i64 (j : Nat)) F90 rfl (rn_move (F90.get rfl)) fun _ F92 => ?_; clear F90
    refine qv 1 (.int .i64 (j + 1 : Nat)) F92 rfl (rn_addN (a := j) (b := 1) (F92.get rfl) rfl (by omega)) fun _ F94 => ?_; clear F92
    refine qv 2 (.int .i64 (j + 1 : Nat)) F94 rfl (rn_assign (F94.get rfl)) fun _ F96 => ?_; clear F94
    refine wpList_nil ?_
    refine ⟨⟨(j + 1), ((y >>> UInt32.ofNat 1) ^^^ (3988292384 : UInt32)), ((((((F96.nil.cons (q_get F96 (t := 5) rfl (by first | rfl | (congr 1; omega) | (congr 1; done)))).cons (q_get F96 (t := 9) rfl rfl)).cons (q_get F96 (t := 4) rfl rfl)).cons (q_get F96 (t := 3) rfl (by first | rfl | (congr 1; omega) | (congr 1; done)))).cons (q_get F96 (t := 2) rfl rfl)).cons (q_get F96 (t := 0) rfl rfl)), (by omega), (crc_ref_odd hp62 (by have := of_decide_eq_true (decide_eq_true hc81); omega)), ((Ext.refl w).trans hx60), (by omega)⟩, ?_⟩
    rw [F96.get (t := 5) rfl, hL64.get (t := 5) rfl]; simp [intOf] <;> omega
   ·skip
    refine wp_cond_false (c_false F80 rfl (decide_eq_false hc81)) ?_
    refine wp_region_lit ?_
    refine qv 0 (.int .u32 (y.toNat : Nat)) F80 rfl (rn_move (F80.get rfl)) fun _ F98 => ?_; clear F80
    refine qv 1 (.int .u32 ((y >>> UInt32.ofNat 1).toNat : Nat)) F98 rfl (rn_shr32 (a := y) (n := 1) (F98.get rfl) rfl (by omega)) fun _ F100 => ?_; clear F98
    refine qv 2 (.int .u32 ((y >>> UInt32.ofNat 1).toNat : Nat)) F100 rfl (rn_assign (F100.get rfl)) fun _ F102 => ?_; clear F100
    refine wpList_nil ?_
    refine hK73 _ _ ?_
    clear hK73
    have F103 := ((((((((F102.nil.c F102 25 rfl).c F102 20 rfl).c F102 5 rfl).c F102 9 rfl).c F102 4 rfl).c F102 3 rfl).c F102 2 rfl).c F102 0 rfl)
    clear F102
    refine wp_region_lit ?_
    refine qv 0 (.int .i64 (j : Nat)) F103 rfl (rn_move (F103.get rfl)) fun _ F105 => ?_; clear F103
    refine qv 1 (.int .i64 (j + 1 : Nat)) F105 rfl (rn_addN (a := j) (b := 1) (F105.get rfl) rfl (by omega)) fun _ F107 => ?_; clear F105
    refine qv 2 (.int .i64 (j + 1 : Nat)) F107 rfl (rn_assign (F107.get rfl)) fun _ F109 => ?_; clear F107
    refine wpList_nil ?_
    refine ⟨⟨(j + 1), (y >>> UInt32.ofNat 1), ((((((F109.nil.cons (q_get F109 (t := 5) rfl (by first | rfl | (congr 1; omega) | (congr 1; done)))).cons (q_get F109 (t := 9) rfl rfl)).cons (q_get F109 (t := 4) rfl rfl)).cons (q_get F109 (t := 3) rfl (by first | rfl | (congr 1; omega) | (congr 1; done)))).cons (q_get F109 (t := 2) rfl rfl)).cons (q_get F109 (t := 0) rfl rfl)), (by omega), (crc_ref_even hp62 (by have := of_decide_eq_false (decide_eq_false hc81); omega)), ((Ext.refl w).trans hx60), (by omega)⟩, ?_⟩
    rw [F109.get (t := 5) rfl, hL64.get (t := 5) rfl]; simp [intOf] <;> omega
  ·skip
   refine wp_cond_false (c_false F71 rfl (decide_eq_false hc72)) ?_
   refine wp_exit ?_
   refine exit_then ?_
   refine exit_then ?_
   refine exit_here ?_
   refine hK31 _ _ ?_
   clear hK31
   refine wp_region_lit ?_
   refine qv 0 (.int .i64 (k : Nat)) F71 rfl (rn_move (F71.get rfl)) fun _ F111 => ?_; clear F71
   refine qv 1 (.int .i64 (k + 1 : Nat)) F111 rfl (rn_addN (a := k) (b := 1) (F111.get rfl) rfl (by omega)) fun _ F113 => ?_; clear F111
   refine qv 2 (.int .i64 (k + 1 : Nat)) F113 rfl (rn_assign (F113.get rfl)) fun _ F115 => ?_; clear F113
   refine wpList_nil ?_
   refine ⟨⟨(k + 1), y, ((((F115.nil.cons (q_get F115 (t := 4) rfl (by first | rfl | (congr 1; omega) | (congr 1; done)))).cons (q_get F115 (t := 3) rfl (by first | rfl | (congr 1; omega) | (congr 1; done)))).cons (q_get F115 (t := 2) rfl rfl)).cons (q_get F115 (t := 0) rfl rfl)), (by omega), (by rw [← take_snoc (by omega : k < l.length), crcL_app, ← hp16]; have := hp62; rwa [show j = 8 by omega] at this), ((Ext.refl w).trans hx60), (by omega)⟩, ?_⟩
   rw [F115.get (t := 4) rfl, hL18.get (t := 4) rfl]; simp [intOf] <;> omega
 ·skip
  refine wp_cond_false (c_false F29 rfl (decide_eq_false hc30)) ?_
  refine wp_exit ?_
  refine exit_then ?_
  refine exit_then ?_
  refine exit_here ?_
  refine hK7 _ _ ?_
  clear hK7
  refine wp_seq_k (fun K116 hK116 => ?_)
  refine wp_region_lit ?_
  refine qv 0 (.int .u32 (x.toNat : Nat)) F29 rfl (rn_move (F29.get rfl)) fun _ F118 => ?_; clear F29
  refine qv 1 (.int .u32 ((x ^^^ (4294967295 : UInt32)).toNat : Nat)) F118 rfl (rn_xor32 (a := x) (b := (4294967295 : UInt32)) (F118.get rfl) rfl) fun _ F120 => ?_; clear F118
  refine qv 2 (.int .u32 ((x ^^^ (4294967295 : UInt32)).toNat : Nat)) F120 rfl (rn_assign (F120.get rfl)) fun _ F122 => ?_; clear F120
  refine wpList_nil ?_
  refine hK116 _ _ ?_
  clear hK116
  have F123 := (((((F122.nil.c F122 9 rfl).c F122 4 rfl).c F122 3 rfl).c F122 2 rfl).c F122 0 rfl)
  clear F122
  refine wp_ret ?_
  refine ret1 F123 rfl rfl ?_
  have hk : k = l.length := by omega
  have hx := hp16
  rw [hk, List.take_length] at hx
  exact ⟨by rw [hx]; exact congrArg (fun z : UInt32 => Ending.returned (.int .u32 (z.toNat : Nat))) (xor_all _), ((Ext.refl w).trans hx14)⟩

theorem checksum_at {v : Value} {m : Nat} (l : List UInt8) (w : World) (hf : Fl S w 1 v m (byteVals l)) :
  Calls Try.prog 67 #[v] w (fun e w' => e = .returned (.int .u32 ((crc l).toNat : Nat)) ∧ Ext w w') := by
 have hm := hf.blen
 subst hm
 obtain ⟨A, c, rfl, _⟩ := hf.form
 exact checksum_any A c l w hf

end Go.Proofs.Ytfmhnplkpohogaa
