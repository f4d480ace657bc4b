/- Contract of the reference's Write. -/
import Derived.Test.YtklhgghlkidfjaaDiskO
import Derived.Test.YtklhgghlkidfjaaLoc
namespace Go.Proofs.Ytklhgghlkidfjaa
open Go.RowKit

variable {S S' : Nat → Prop}

theorem own_base {w : World} {base base' : Nat} {e : TypeId} {k : Nat} {v : Value} {n : Nat} {xs : List Value} (h : w.ownsRow base e k v n xs) (hb : base' ≤ base) : w.ownsRow base' e k v n xs := by
  refine ⟨h.1, ?_⟩
  rcases h.2 with h0 | ⟨g, cap, cur, hv, hbb, rest⟩
  · exact .inl h0
  · exact .inr ⟨g, cap, cur, hv, Nat.le_trans hb hbb, rest⟩
def lenOf : Value → Nat | .slice _ n _ => n | _ => 0

theorem byteVals_length (l : List UInt8) : (byteVals l).length = l.length := by simp [byteVals]
theorem byteVals_snoc (l : List UInt8) (c : UInt8) : byteVals (l ++ [c]) = byteVals l ++ [.int .u8 c.toNat] := by simp [byteVals]
theorem byteVals_append (l m : List UInt8) : byteVals (l ++ m) = byteVals l ++ byteVals m := by simp [byteVals]

theorem rwrite_fin {w w' : World} {d : Dk} {A B : Option Addr} {c cap : Nat} {e e8 : TypeId} {xs : List Value} {at_ : Int} {b : List UInt8} {u : Value} {base base8 : Nat} (hx : Ext w w') (hs : RBss S w (.slice A d.sectors.length c) d.sectors)
    (pr : ∀ i (h : i < d.pending.length), RWr S w (chunk 2 xs i) d.pending[i]) (p0 : xs.length = d.pending.length * 2) (p1 : ∀ u ∈ xs, u.oneCell' = true)
    (ho : w'.ownsRow base e 2 (.slice B (d.pending.length + 1) cap) (d.pending.length + 1) (xs ++ [.int .i64 at_, u]))
    (hg : w'.ownsRow base8 e8 1 u 128 (byteVals (fill128 b))) (hgw : w.heap.size ≤ base8) (hbw : w.heap.size ≤ base) :
    RDE S w ⟨d.sectors, d.pending ++ [(at_, fill128 b)], d.left, d.stopped⟩ 0 (.returned (.tuple #[.agg #[.slice A d.sectors.length c, .slice B (d.pending.length + 1) cap, .int .i64 d.left, .bool d.stopped], .int .i64 0])) w' := by
  refine ⟨_, rfl, RDk.mk (hs.ext hx).up ?_, hx⟩
  have hdata : RBs (Fr S w) w' u (fill128 b) := RBs.own hg (fun b hb => .inr (Nat.le_trans hgw hb))
  obtain ⟨A8, c8, rfl, _, _⟩ := own_any hg
  refine RSl.own ho (fun b hb => .inr (Nat.le_trans hbw hb)) (by simp) (fun u hu => ?_) (fun i hi => ?_)
  · rcases List.mem_append.1 hu with h | h
    · exact p1 u h
    · simp at h
      rcases h with rfl | rfl <;> rfl
  · rcases Nat.lt_or_ge i d.pending.length with h | h
    · rw [chunk_append_left p0 h, List.getElem_append_left h]
      exact ((pr i h).ext hx).sub fun _ => .inl
    · have hi' : i = d.pending.length := by simp at hi; omega
      subst hi'
      rw [chunk_append_right p0 (Nat.le_refl _), Nat.sub_self, chunk_self (by rfl)]
      simp only [List.getElem_append_right (Nat.le_refl _), Nat.sub_self, List.getElem_cons_zero]
      exact ⟨_, rfl, hdata⟩

set_option maxRecDepth 100000 in
set_option maxHeartbeats 4000000 in
theorem rwrite_ok (v u : Value) (d : Dk) (n : Nat) (b : List UInt8) (w : World) (hd : RDk S w v d) (hu : RBs S w u b)
    (h1 : d.runs = true) (h2 : n < d.sectors.length) (h3 : b.length ≤ 128) (h4 : d.pending.length ≠ 4096) :
    Calls Try.prog 20 #[v, .int .i64 n, u] w (RDE S w ⟨d.sectors, d.pending ++ [((n : Int), fill128 b)], d.left, d.stopped⟩ 0) := by
  obtain ⟨A, c, B, e, rfl, q1, q2⟩ := hd.form
  obtain ⟨C, f, rfl, q3, q4⟩ := hu.form
  obtain ⟨f1, f2, f3, f4, f5, f6, f7, f8⟩ := runs_facts h1
  have hch : d.check = 0 := by rcases runs_cases d with ⟨_, h⟩ | ⟨_, _, h⟩ | ⟨h, _, _⟩ <;> simp_all
  have HCH := Lib.hid hch
  have HD := Lib.hid hd
  have HU := Lib.hid hu
  have HS := Lib.hid q1
  have HP := Lib.hid q2
  have H6 := Lib.hid f6
  have h4' : ((d.pending.length : Int) == 4096) = false := by simp; omega
  clear hd hu h1 q1 q2 f6 f7 f8 hch h4
  go_enter Try.func20, Try.ntmps20
  go_wp2_with fail
  (with_reducible refine (rcheck_any _ d _ (HD.out.ext (((Ext.refl _).alloc _).alloc _))).mono ?_)
  rintro e1 w1 ⟨rfl, hx1⟩
  have B0 := Lib.hid (((Blk.new w w.heap.size _ _ rfl).alloc _).ext hx1)
  have B1 := Lib.hid ((Blk.new _ (w.heap.size + 1) _ _ (by simp)).ext hx1)
  have HX1 := Lib.hid ((((Ext.refl w).alloc _).alloc _).trans hx1)
  clear hx1
  obtain ⟨k0, z0⟩ := B0.out.rule
  rw [H6.out] at k0
  rw [HCH.out]
  go_wp2_with (with_reducible refine stop_append ?_)
  obtain ⟨_, _, hcel⟩ := HU.out.vals
  have hl1 := B1.out.lt
  refine Lib.hid (wpList_app elBytes rfl rfl rfl rfl (World.ownsRow_lit w1 #[] 0 (Nat.le_refl _) (Nat.zero_le _) (by simp)) ((hcel.ext HX1.out).ext ((Ext.refl _).alloc _)) (by simp) (by omega) (by omega) ?_)
  intro v' w' hown hg hat
  simp only [Nat.zero_add, List.nil_append] at hown
  have HO := Lib.hid hown
  have D0 := Lib.hid ((B0.out.alloc (.cells #[] 5)).grown hg (fun e => by have e : some w.heap.size = some w1.heap.size := e; injection e; omega))
  have D1 := Lib.hid ((B1.out.alloc (.cells #[] 5)).grown hg (fun e => by have e : some (w.heap.size + 1) = some w1.heap.size := e; injection e; omega))
  have HX2 := Lib.hid ((HX1.out.alloc _).grown hg (fun k hk => by have hk : some w1.heap.size = some k := hk; injection hk; omega))
  clear hown hg hat k0 z0 B0 B1 HX1 hcel
  have hz1 : w.heap.size + 2 ≤ w1.heap.size := by omega
  go_wp2_with fail
  go_loopw [8] (fun v wr => ∃ (k : Nat), k ≤ 128 ∧ b.length ≤ k ∧ lenOf v = k ∧ Hid (Ext w wr) ∧ Hid (Blk wr w.heap.size 25 [.slice A d.sectors.length c, .slice B d.pending.length e, .int .i64 d.left, .bool d.stopped])
      ∧ Hid (Blk wr (w.heap.size + 1) 25 [.slice none 0 0, .slice none 0 0, .int .i64 0, .bool false]) ∧ Hid (wr.ownsRow (w.heap.size + 2) 5 1 v k (byteVals (b ++ List.replicate (k - b.length) 0)))) (fun v _ => 128 - lenOf v)
  case atStart =>
    refine ⟨b.length, h3, Nat.le_refl _, ?_, HX2, D0, D1, ?_⟩
    · obtain ⟨A8, c8, rfl, _, _⟩ := own_any HO.out; rfl
    · rw [Nat.sub_self, List.replicate_zero, List.append_nil]; exact Lib.hid (own_base HO.out hz1)
  case round =>
    obtain ⟨k, hk, hbk, hlen, HX, B0, B1, HO⟩ := hrel
    obtain ⟨A8, c8, rfl, hc1, hc2⟩ := own_any HO.out
    have HLEN := Lib.hid hlen
    clear hlen
    obtain ⟨k0, z0⟩ := B0.out.rule
    obtain ⟨k1, z1⟩ := B1.out.rule
    have hl0 := B0.out.lt
    have hl1 := B1.out.lt
    by_cases hlt : k < 128
    · go_wp2_with (with_reducible refine stop_append ?_)
      refine Lib.hid (wpList_app elBytes rfl rfl rfl rfl (own_ext HO.out ((Ext.refl _).alloc _)) (Blk.cel (cs := [.int .u8 0]) (Blk.new wr wr.heap.size _ _ rfl) rfl (fun u hu => by simp at hu; subst hu; rfl)) (by simp; omega) (by omega) (by omega) ?_)
      intro v' w' hown hg hat
      have hbb : byteVals (b ++ List.replicate (k - b.length) 0) ++ [Value.int .u8 0] = byteVals (b ++ List.replicate (k + 1 - b.length) 0) := by
        rw [show k + 1 - b.length = (k - b.length) + 1 from by omega, List.replicate_succ', ← List.append_assoc, byteVals_snoc]; rfl
      rw [hbb] at hown
      obtain ⟨A9, c9, rfl, hc3, hc4⟩ := own_any hown
      have HO' := Lib.hid hown
      have C0 := Lib.hid ((B0.out.alloc (.cells #[.int .u8 0] 5)).grown hg (own_ne HO.out (by omega)))
      have C1 := Lib.hid ((B1.out.alloc (.cells #[.int .u8 0] 5)).grown hg (own_ne HO.out (by omega)))
      have HX' := Lib.hid ((HX.out.alloc (.cells #[.int .u8 0] 5)).grown hg (fun k hk => by have := (HO.out.lt k hk).1; omega))
      clear hown hg hat hbb k0 z0 k1 z1
      go_wp2
      go_roundw
      case rel => exact ⟨k + 1, by omega, by omega, rfl, HX', C0, C1, HO'⟩
      case measure => simp [lenOf]; omega
    · obtain rfl : k = 128 := by omega
      go_wp2_with (with_reducible refine stop_append ?_)
      obtain ⟨_, _, xs, pcel, pr⟩ := RSl.cel HP.out
      have PR := Lib.hid pr
      have PC := Lib.hid pcel
      clear pr pcel
      refine Lib.hid (wpList_app elWs rfl rfl rfl rfl (World.ownsRow_lit wr #[] 0 (Nat.le_refl _) (Nat.zero_le _) (by simp)) ((PC.out.ext HX.out).ext ((Ext.refl _).alloc _)) (by simp) (by omega) (by omega) ?_)
      intro v' w' hown hg hat
      simp only [Nat.zero_add, List.nil_append] at hown
      obtain ⟨A9, c9, rfl, hc3, hc4⟩ := own_any hown
      have HO' := Lib.hid hown
      have C0 := Lib.hid ((B0.out.alloc (.cells #[] 54)).grown hg (fun e => by have e : some w.heap.size = some wr.heap.size := e; injection e; omega))
      have C1 := Lib.hid ((B1.out.alloc (.cells #[] 54)).grown hg (fun e => by have e : some (w.heap.size + 1) = some wr.heap.size := e; injection e; omega))
      have HX' := Lib.hid ((HX.out.alloc (.cells #[] 54)).grown hg (fun k hk => by have hk : some wr.heap.size = some k := hk; injection hk; omega))
      have HO8 := Lib.hid ((own_ext HO.out ((Ext.refl _).alloc (.cells #[] 54))).kept hg (by
        right
        intro e
        have e : (Value.slice A8 128 c8).ownBlock = some wr.heap.size := e
        have := (HO.out.lt _ e).2
        omega))
      have hz' := hg.size
      simp only [World.size_alloc] at hz'
      clear hown hg hat k0 z0 k1 z1 B0 B1 HO
      go_wp2_with (with_reducible refine stop_append ?_)
      refine Lib.hid (wpList_app elWs rfl rfl rfl rfl (own_ext HO'.out ((Ext.refl _).alloc _)) (Blk.cel (cs := [.int .i64 n, .slice A8 128 c8]) (m := 1) (Blk.new w' w'.heap.size _ _ rfl) rfl (fun u hu => by simp at hu; rcases hu with rfl | rfl <;> rfl)) (by simp; omega) (by omega) (by omega) ?_)
      intro v2 w2 hown2 hg2 hat2
      obtain ⟨A7, c7, rfl, hc5, hc6⟩ := own_any hown2
      have HO2 := Lib.hid hown2
      have E0 := Lib.hid ((C0.out.alloc (.cells #[.int .i64 n, .slice A8 128 c8] 54)).grown hg2 (own_ne HO'.out (by omega)))
      have E1 := Lib.hid ((C1.out.alloc (.cells #[.int .i64 n, .slice A8 128 c8] 54)).grown hg2 (own_ne HO'.out (by omega)))
      have HX2 := Lib.hid ((HX'.out.alloc (.cells #[.int .i64 n, .slice A8 128 c8] 54)).grown hg2 (fun k hk => by have := (HO'.out.lt k hk).1; omega))
      have HO82 := Lib.hid ((own_ext HO8.out ((Ext.refl _).alloc (.cells #[.int .i64 n, .slice A8 128 c8] 54))).kept hg2 (by
        cases h8 : (Value.slice A8 128 c8).ownBlock with
        | none => exact .inl rfl
        | some g8 =>
          right
          intro e
          have e : some g8 = (Value.slice A9 d.pending.length c9).ownBlock := e
          obtain ⟨cur, hcur⟩ := own_heap HO8.out h8
          obtain ⟨cur', hcur'⟩ := own_heap HO'.out e.symm
          rw [hcur] at hcur'
          injection hcur' with h
          injection h with _ h _
          exact absurd h (by decide)))
      clear hown2 hg2 hat2 C0 C1
      obtain ⟨k0, z0⟩ := E0.out.rule
      obtain ⟨k1, z1⟩ := E1.out.rule
      have hl0 := E0.out.lt
      have hl1 := E1.out.lt
      go_upto_region 11 with (fail)
      obtain ⟨w3, e3⟩ : ∃ w3, w2.setCell ⟨w.heap.size, 1, none⟩ (.slice A7 (d.pending.length + 1) c7) = w3 := ⟨_, rfl⟩
      rw [e3]
      have F0 : Hid (Blk w3 w.heap.size 25 [.slice A d.sectors.length c, .slice A7 (d.pending.length + 1) c7, .int .i64 d.left, .bool d.stopped]) := by rw [← e3]; exact Lib.hid (E0.out.setE rfl)
      have F1 : Hid (Blk w3 (w.heap.size + 1) 25 [.slice none 0 0, .slice none 0 0, .int .i64 0, .bool false]) := by rw [← e3]; exact Lib.hid (E1.out.farC (by omega))
      have hg3 : w2.grownBy w3 (some w.heap.size) := by rw [← e3]; exact grown_setC (grown_rfl _ _)
      have HX3 := Lib.hid (HX2.out.grownN hg3 (Nat.le_refl _))
      have HO3 := Lib.hid (own_grownN HO2.out hg3 (by omega))
      have HO83 := Lib.hid (own_grownN HO82.out hg3 (by omega))
      clear k0 z0 k1 z1 e3 hg3 E0 E1
      obtain ⟨k0, z0⟩ := F0.out.rule
      obtain ⟨k1, z1⟩ := F1.out.rule
      have hl0 := F0.out.lt
      have hl1 := F1.out.lt
      go_wp2
      obtain ⟨w4, e4, G1, hg4⟩ := set4 F1.out (.slice A d.sectors.length c) (.slice A7 (d.pending.length + 1) c7) (.int .i64 d.left) (.bool d.stopped)
      rw [e4]
      obtain ⟨k2, z2⟩ := G1.rule
      refine bodyPost_ret (v := .tuple #[.agg #[.slice A d.sectors.length c, .slice A7 (d.pending.length + 1) c7, .int .i64 d.left, .bool d.stopped], .int .i64 0]) (by simp [results, Try.f20, go_sem, k2, z2]) rfl ?_
      have hfill : b ++ List.replicate (128 - b.length) 0 = fill128 b := rfl
      have HOF := own_grownN HO83.out hg4 (by omega)
      rw [hfill] at HOF
      exact rwrite_fin (HX3.out.grownN hg4 (by omega)) HS.out PR.out PC.out.1 PC.out.2.1 (own_grownN HO3.out hg4 (by omega)) HOF (by omega) (by omega)

set_option maxHeartbeats 4000000 in
theorem rwrite_bad (v u : Value) (d : Dk) (at_ : Int) (b : List UInt8) (w : World) (hd : RDk S w v d) (hu : RBs S w u b) (n : Int)
    (hn : d.runs = false ∧ n = 380 ∨ d.runs = true ∧ d.has at_ = false ∧ n = 380 ∨ d.runs = true ∧ d.has at_ = true ∧ 128 < b.length ∧ n = 1 ∨ d.runs = true ∧ d.has at_ = true ∧ b.length ≤ 128 ∧ d.pending.length = 4096 ∧ n = 2) :
    Calls Try.prog 20 #[v, .int .i64 at_, u] w (RDE S w Dk.zero n) := by
  obtain ⟨A, c, B, e, rfl, q1, q2⟩ := hd.form
  obtain ⟨C, f, rfl, q3, q4⟩ := hu.form
  obtain ⟨f1, f1'⟩ := q1.at.2.1
  have HD := Lib.hid hd
  have HH : Hid ((d.check = 380 ∧ n = 380) ∨ (d.check = 0 ∧ d.stopped = true ∧ n = 380) ∨ (d.check = 0 ∧ d.stopped = false ∧ at_ < 0 ∧ n = 380) ∨ (d.check = 0 ∧ d.stopped = false ∧ 0 ≤ at_ ∧ d.sectors.length ≤ at_ ∧ n = 380)
      ∨ (d.check = 0 ∧ d.stopped = false ∧ 0 ≤ at_ ∧ at_ < d.sectors.length ∧ 128 < b.length ∧ n = 1) ∨ (d.check = 0 ∧ d.stopped = false ∧ 0 ≤ at_ ∧ at_ < d.sectors.length ∧ b.length ≤ 128 ∧ d.pending.length = 4096 ∧ n = 2)) := by
    show _ ∨ _
    rcases runs_cases d with ⟨h1, h2⟩ | ⟨h1, h2, h3⟩ | ⟨h1, h2, h3⟩
    · rw [h2] at hn
      simp at hn
      exact .inl ⟨h1, hn⟩
    · rw [h3] at hn
      simp at hn
      exact .inr (.inl ⟨h1, h2, hn⟩)
    · rw [h3] at hn
      simp only [Dk.has, Bool.and_eq_false_iff, Bool.and_eq_true, decide_eq_false_iff_not, decide_eq_true_eq, Bool.true_eq_false, false_and, true_and, false_or] at hn
      rcases hn with ⟨h, hn⟩ | ⟨⟨h, h'⟩, h4, hn⟩ | ⟨⟨h, h'⟩, h4, h5, hn⟩
      · by_cases h0 : at_ < 0
        · exact .inr (.inr (.inl ⟨h1, h2, h0, hn⟩))
        · exact .inr (.inr (.inr (.inl ⟨h1, h2, by omega, by omega, hn⟩)))
      · exact .inr (.inr (.inr (.inr (.inl ⟨h1, h2, h, h', h4, hn⟩))))
      · exact .inr (.inr (.inr (.inr (.inr ⟨h1, h2, h, h', h4, h5, hn⟩))))
  have r1 : w.heap.size ≤ w.heap.size + 1 := Nat.le_succ _
  clear hd hu q1 q2 hn
  go_enter Try.func20, Try.ntmps20
  go_wp2_with fail
  (with_reducible refine (rcheck_any _ d _ (HD.out.ext (((Ext.refl _).alloc _).alloc _))).mono ?_)
  rintro e1 w1 ⟨rfl, hx1⟩
  have B0 := Lib.hid (((Blk.new w w.heap.size _ _ rfl).alloc _).ext hx1)
  have B1 := Lib.hid ((Blk.new _ (w.heap.size + 1) _ _ (by simp)).ext hx1)
  have HX1 := Lib.hid ((((Ext.refl w).alloc _).alloc _).trans hx1)
  clear hx1
  obtain ⟨k0, z0⟩ := B0.out.rule
  obtain ⟨k1, z1⟩ := B1.out.rule
  rcases HH.out with ⟨h, rfl⟩ | ⟨h, hs, rfl⟩ | ⟨h, hs, h', rfl⟩ | ⟨h, hs, h', h'', rfl⟩ | ⟨h, hs, h', h'', h3, rfl⟩ | ⟨h, hs, h', h'', h3, h4, rfl⟩
  · rw [h]; clear h HH
    go_wp2
    obtain ⟨w4, e4, G1, hg4⟩ := set4 B1.out (.slice none 0 0) (.slice none 0 0) (.int .i64 0) (.bool false)
    rw [e4]
    obtain ⟨k2, z2⟩ := G1.rule
    refine bodyPost_ret (v := .tuple #[.agg #[.slice none 0 0, .slice none 0 0, .int .i64 0, .bool false], .int .i64 380]) (by simp [results, Try.f20, go_sem, k2, z2]) rfl ?_
    exact ⟨_, rfl, RDk.zero _, HX1.out.grownN hg4 r1⟩
  · rw [h]; rw [hs] at k0; clear h HH hs
    go_wp2
    obtain ⟨w4, e4, G1, hg4⟩ := set4 B1.out (.slice none 0 0) (.slice none 0 0) (.int .i64 0) (.bool false)
    rw [e4]
    obtain ⟨k2, z2⟩ := G1.rule
    refine bodyPost_ret (v := .tuple #[.agg #[.slice none 0 0, .slice none 0 0, .int .i64 0, .bool false], .int .i64 380]) (by simp [results, Try.f20, go_sem, k2, z2]) rfl ?_
    exact ⟨_, rfl, RDk.zero _, HX1.out.grownN hg4 r1⟩
  · rw [h]; rw [hs] at k0; clear h HH hs
    go_wp2
    obtain ⟨w4, e4, G1, hg4⟩ := set4 B1.out (.slice none 0 0) (.slice none 0 0) (.int .i64 0) (.bool false)
    rw [e4]
    obtain ⟨k2, z2⟩ := G1.rule
    refine bodyPost_ret (v := .tuple #[.agg #[.slice none 0 0, .slice none 0 0, .int .i64 0, .bool false], .int .i64 380]) (by simp [results, Try.f20, go_sem, k2, z2]) rfl ?_
    exact ⟨_, rfl, RDk.zero _, HX1.out.grownN hg4 r1⟩
  · rw [h]; rw [hs] at k0; clear h HH hs
    go_wp2
    obtain ⟨w4, e4, G1, hg4⟩ := set4 B1.out (.slice none 0 0) (.slice none 0 0) (.int .i64 0) (.bool false)
    rw [e4]
    obtain ⟨k2, z2⟩ := G1.rule
    refine bodyPost_ret (v := .tuple #[.agg #[.slice none 0 0, .slice none 0 0, .int .i64 0, .bool false], .int .i64 380]) (by simp [results, Try.f20, go_sem, k2, z2]) rfl ?_
    exact ⟨_, rfl, RDk.zero _, HX1.out.grownN hg4 r1⟩
  · rw [h]; rw [hs] at k0; clear h HH hs
    go_wp2
    obtain ⟨w4, e4, G1, hg4⟩ := set4 B1.out (.slice none 0 0) (.slice none 0 0) (.int .i64 0) (.bool false)
    rw [e4]
    obtain ⟨k2, z2⟩ := G1.rule
    refine bodyPost_ret (v := .tuple #[.agg #[.slice none 0 0, .slice none 0 0, .int .i64 0, .bool false], .int .i64 1]) (by simp [results, Try.f20, go_sem, k2, z2]) rfl ?_
    exact ⟨_, rfl, RDk.zero _, HX1.out.grownN hg4 r1⟩
  · rw [h]; rw [hs] at k0
    have h4' : ((d.pending.length : Int) == 4096) = true := by simp; omega
    clear h HH hs h4
    go_wp2
    obtain ⟨w4, e4, G1, hg4⟩ := set4 B1.out (.slice none 0 0) (.slice none 0 0) (.int .i64 0) (.bool false)
    rw [e4]
    obtain ⟨k2, z2⟩ := G1.rule
    refine bodyPost_ret (v := .tuple #[.agg #[.slice none 0 0, .slice none 0 0, .int .i64 0, .bool false], .int .i64 2]) (by simp [results, Try.f20, go_sem, k2, z2]) rfl ?_
    exact ⟨_, rfl, RDk.zero _, HX1.out.grownN hg4 r1⟩

theorem rwrite_any (v u : Value) (d : Dk) (at_ : Int) (b : List UInt8) (w : World) (hd : RDk S w v d) (hu : RBs S w u b) :
    Calls Try.prog 20 #[v, .int .i64 at_, u] w (RDE S w (d.write at_ b).1 (d.write at_ b).2) := by
  unfold Dk.write
  cases hr : d.runs
  · simp only [Bool.false_and, if_true]
    exact rwrite_bad v u d at_ b w hd hu 380 (.inl ⟨hr, rfl⟩)
  cases hh : d.has at_
  · simp only [Bool.and_false, if_true]
    exact rwrite_bad v u d at_ b w hd hu 380 (.inr (.inl ⟨hr, hh, rfl⟩))
  simp only [Bool.and_self, Bool.true_eq_false, if_false]
  by_cases hl : 128 < b.length
  · rw [if_pos hl]
    exact rwrite_bad v u d at_ b w hd hu 1 (.inr (.inr (.inl ⟨hr, hh, hl, rfl⟩)))
  rw [if_neg hl]
  by_cases hp : d.pending.length = 4096
  · rw [if_pos hp]
    exact rwrite_bad v u d at_ b w hd hu 2 (.inr (.inr (.inr ⟨hr, hh, by omega, hp, rfl⟩)))
  rw [if_neg hp]
  unfold Dk.has at hh
  simp only [Bool.and_eq_true, decide_eq_true_eq] at hh
  obtain ⟨n, rfl⟩ : ∃ n : Nat, at_ = n := ⟨at_.toNat, by omega⟩
  exact rwrite_ok v u d n b w hd hu hr (by omega) (by omega) hp

end Go.Proofs.Ytklhgghlkidfjaa
