/- Contract of disk.Write. -/
import Derived.Test.YtklhgghlkidfjaaDiskD
namespace Go.Proofs.Ytklhgghlkidfjaa
open Go.RowKit

variable {S S' : Nat → Prop}

/-- Bytes filled up with zeros to a sector. -/
def fill128 (b : List UInt8) : List UInt8 := b ++ List.replicate (128 - b.length) 0
def Dk.write (d : Dk) (at_ : Int) (b : List UInt8) : Dk × Int :=
  if (d.runs && d.has at_) = false then (Dk.zero, 380) else if 128 < b.length then (Dk.zero, 1) else if d.pending.length = 4096 then (Dk.zero, 2)
  else (⟨d.sectors, d.pending ++ [(at_, fill128 b)], d.left, d.stopped⟩, 0)

/-- The cells of 128 zero bytes. -/
def zeros128 : List Value := byteVals (List.replicate 128 0)
theorem make128 (w : World) : (Instr.makeSlice 35 (.int .i64 128) (.int .i64 128)).run Try.prog w = .ok (.slice (some ⟨w.heap.size, 0, none⟩) 128 128) (w.alloc (.cells zeros128.toArray 5)) := by
  kernel_rfl

attribute [local go_sem] make128

theorem fill_vals (b : List UInt8) (h : b.length ≤ 128) : splice zeros128 0 (List.take (min b.length 128) (byteVals b)) = byteVals (fill128 b) := by
  have hl : (byteVals b).length = b.length := by simp [byteVals]
  rw [Nat.min_eq_left h, ← hl, List.take_length]
  simp only [splice, zeros128, fill128, byteVals, List.take_zero, List.nil_append, List.map_append, Nat.zero_add, List.length_map, List.map_replicate, List.drop_replicate]

theorem write_fin {w w' : World} {d : Dk} {A B : Option Addr} {c n cap : Nat} {e : TypeId} {xs : List Value} {at_ : Int} {b : List UInt8} {g base : Nat} (hx : Ext w w') (hs : RBss S w (.slice A d.sectors.length c) d.sectors)
    (pr : ∀ i (h : i < d.pending.length), RWr S w (chunk 2 xs i) d.pending[i]) (p0 : xs.length = d.pending.length * 2) (p1 : ∀ u ∈ xs, u.oneCell' = true)
    (ho : w'.ownsRow base e 2 (.slice B (d.pending.length + 1) cap) (d.pending.length + 1) (xs ++ [.int .i64 at_, .slice (some ⟨g, 0, none⟩) 128 128]))
    (hg : Blk w' g n (splice zeros128 0 (List.take (min b.length 128) (byteVals b)))) (hb : b.length ≤ 128) (hgw : w.heap.size ≤ g) (hbw : w.heap.size ≤ base) :
    RDE S w ⟨d.sectors, d.pending ++ [(at_, fill128 b)], d.left, d.stopped⟩ 0 (.returned (.tuple #[.agg #[.slice A d.sectors.length c, .slice B (d.pending.length + 1) cap, .int .i64 d.left, .bool d.stopped], .int .i64 0])) w' := by
  refine ⟨_, rfl, RDk.mk (hs.ext hx).up ?_, hx⟩
  rw [fill_vals b hb] at hg
  have hfl : (fill128 b).length = 128 := by simp [fill128]; omega
  have hdata : RBs (Fr S w) w' (.slice (some ⟨g, 0, none⟩) 128 128) (fill128 b) := by
    have := own_of_blk (n := 128) (cap := 128) (k := 1) hg (Nat.le_refl _) (by omega) (by simp [byteVals, hfl]) (Nat.le_refl _)
    rw [List.take_of_length_le (by simp [byteVals, hfl])] at this
    exact RBs.own this (fun b hb => .inr (Nat.le_trans hgw hb))
  refine RSl.own ho (fun b hb => .inr (Nat.le_trans hbw hb)) (by simp) (fun u hu => ?_) (fun i hi => ?_)
  · rcases List.mem_append.1 hu with h | h
    · exact p1 u h
    · simp at h
      rcases h with rfl | rfl <;> rfl
  · rcases Nat.lt_or_ge i d.pending.length with h | h
    · rw [chunk_append_left p0 h, List.getElem_append_left h]
      exact ((pr i h).ext hx).sub fun _ => .inl
    · have hi' : i = d.pending.length := by simp at hi; omega
      subst hi'
      rw [chunk_append_right p0 (Nat.le_refl _), Nat.sub_self, chunk_self (by rfl)]
      simp only [List.getElem_append_right (Nat.le_refl _), Nat.sub_self, List.getElem_cons_zero]
      exact ⟨_, rfl, hdata⟩

set_option maxHeartbeats 2000000 in
theorem write_ok (v u : Value) (d : Dk) (at_ : Int) (b : List UInt8) (w : World) (hd : RDk S w v d) (hu : RBs S w u b)
    (h1 : d.runs = true) (h2 : d.has at_ = true) (h3 : b.length ≤ 128) (h4 : d.pending.length ≠ 4096) (h5 : d.pending.length ≤ 4096) :
    Calls Try.prog 19 #[v, .int .i64 at_, u] w (RDE S w ⟨d.sectors, d.pending ++ [(at_, fill128 b)], d.left, d.stopped⟩ 0) := by
  obtain ⟨A, c, B, e, rfl, q1, q2⟩ := hd.form
  obtain ⟨C, f, rfl, q3, q4⟩ := hu.form
  have HD := Lib.hid hd
  have HU := Lib.hid hu
  have H1 := Lib.hid h1
  have H2 := Lib.hid h2
  have HS := Lib.hid q1
  have HP := Lib.hid q2
  have h4' : ((d.pending.length : Int) == 4096) = false := by simp; omega
  clear hd hu h1 h2 q1 q2 h4
  go_enter Try.func19, Try.ntmps19
  go_wp2_with fail
  (with_reducible refine (runs_any _ d _ (HD.out.ext (((Ext.refl _).alloc _).alloc _))).mono ?_)
  rintro e1 w1 ⟨rfl, hx1⟩
  have B0 := Lib.hid (((Blk.new w w.heap.size _ _ rfl).alloc _).ext hx1)
  have B1 := Lib.hid ((Blk.new _ (w.heap.size + 1) _ _ (by simp)).ext hx1)
  have HX1 := Lib.hid ((((Ext.refl w).alloc _).alloc _).trans hx1)
  clear hx1
  obtain ⟨k0, z0⟩ := B0.out.rule
  rw [H1.out]
  go_wp2_with fail
  (with_reducible refine (has_any _ d _ _ (HD.out.ext HX1.out)).mono ?_)
  rintro e2 w2 ⟨rfl, hx2⟩
  have C0 := Lib.hid (B0.out.ext hx2)
  have C1 := Lib.hid (B1.out.ext hx2)
  have HX2 := Lib.hid (HX1.out.trans hx2)
  clear hx2 k0 z0 B0 B1 HX1
  obtain ⟨k0, z0⟩ := C0.out.rule
  rw [H2.out]
  go_wp2_with (with_reducible refine stop_copy ?_)
  obtain ⟨_, _, hcel⟩ := HU.out.vals
  have HM := Lib.hid ((hcel.ext HX2.out).ext ((Ext.refl _).alloc (.cells zeros128.toArray 5)))
  refine Lib.hid (wpList_cpy elBytes rfl rfl rfl rfl (heap_alloc_new w2 _) HM.out (by simp [zeros128, byteVals]; omega) ?_)
  intro w3 hg3 hgr
  have D0 := Lib.hid ((C0.out.alloc _).grown hgr (by have := C0.out.lt; simp; omega))
  have D1 := Lib.hid ((C1.out.alloc _).grown hgr (by have := C1.out.lt; simp; omega))
  have HX3 := Lib.hid (ext_of_grown (HX2.out.alloc _) hgr (by intro k hk; injection hk with hk; subst hk; exact HX2.out.size))
  have HG3 := Lib.hid hg3
  clear k0 z0 hg3 hgr hcel
  obtain ⟨k0, z0⟩ := D0.out.rule
  go_wp2_with fail
  obtain ⟨_, _, xs, pcel, pr⟩ := RSl.cel HP.out
  have PR := Lib.hid pr
  (with_reducible refine (cloneW_any _ _ _ xs _ (pcel.ext HX3.out) (by omega)).mono ?_)
  rintro e4 w4 ⟨v4, rfl, hown, hx4⟩
  obtain ⟨A4, cap4, rfl, hc4, hm4⟩ := own_any hown
  obtain ⟨_, _, hcel4⟩ := own_cel hown pcel.2.1
  have HC4 := Lib.hid hcel4
  have E0 := Lib.hid (D0.out.ext hx4)
  have E1 := Lib.hid (D1.out.ext hx4)
  have HX4 := Lib.hid (HX3.out.trans hx4)
  have HG4 := Lib.hid (Blk.ext HG3.out hx4)
  have P1 := Lib.hid pcel.2.1
  have P0 := Lib.hid pcel.1
  clear k0 z0 D0 D1 HX3 HG3 hown hx4 pcel pr hcel4
  go_wp2_with fail
  (with_reducible refine (clipW_any _ _ _ _ hc4).mono ?_)
  rintro e5 w5 ⟨rfl, rfl⟩
  obtain ⟨k0, z0⟩ := E0.out.rule
  go_wp2_with (with_reducible refine stop_append ?_)
  refine Lib.hid (wpList_app_full elWs rfl rfl rfl rfl (HC4.out.ext ((Ext.refl _).alloc _)) (ys := [.int .i64 at_, .slice (some ⟨w2.heap.size, 0, none⟩) 128 128]) ?_ (by omega) (by omega) (by omega) ?_)
  · refine ⟨rfl, ?_, fun _ => ⟨w4.heap.size, 0, rfl, by simp, fun j u hu => ?_⟩⟩
    · intro u hu
      simp at hu
      rcases hu with rfl | rfl <;> rfl
    · rw [Nat.zero_add, World.cell?_alloc_new]
      simpa using hu
  intro v6 w6 hown6 hx6 hat6
  obtain ⟨A6, cap6, rfl, hc6, hm6⟩ := own_any hown6
  have HO6 := Lib.hid hown6
  have F0 := Lib.hid ((E0.out.alloc _).ext hx6)
  have F1 := Lib.hid ((E1.out.alloc _).ext hx6)
  have HX6 := Lib.hid ((HX4.out.alloc _).trans hx6)
  have HG6 := Lib.hid ((Blk.alloc HG4.out _).ext hx6)
  have hb4 := E1.out.lt
  have hb2 := C1.out.lt
  clear k0 z0 E0 E1 HX4 HG4 hown6 hx6 hat6 HC4
  obtain ⟨k0, z0⟩ := F0.out.rule
  obtain ⟨k1, z1⟩ := F1.out.rule
  have hlt := F0.out.lt
  have hlt1 := F1.out.lt
  go_wp2
  refine bodyPost_ret (v := .tuple #[.agg #[.slice A d.sectors.length c, .slice A6 (d.pending.length + 1) cap6, .int .i64 d.left, .bool d.stopped], .int .i64 0]) (by simp [results, Try.results19, go_sem, k0, z0, k1, z1]) rfl ?_
  have g0 : w.heap.size < (w4.alloc (.cells #[.int .i64 at_, .slice (some ⟨w2.heap.size, 0, none⟩) 128 128] 54)).heap.size := by simp only [World.size_alloc]; omega
  have g1 : w.heap.size + 1 < (w4.alloc (.cells #[.int .i64 at_, .slice (some ⟨w2.heap.size, 0, none⟩) 128 128] 54)).heap.size := by simp only [World.size_alloc]; omega
  have r0 : w.heap.size ≤ w.heap.size := Nat.le_refl _
  have r1 : w.heap.size ≤ w.heap.size + 1 := Nat.le_succ _
  have n0 : w2.heap.size ≠ w.heap.size := by omega
  have n1 : w2.heap.size ≠ w.heap.size + 1 := by omega
  exact write_fin (((((HX6.out.setC r0).setC r1).setC r1).setC r1).setC r1) HS.out PR.out P0.out P1.out (own_setC (own_setC (own_setC (own_setC (own_setC HO6.out g0) g1) g1) g1) g1) (((((HG6.out.farC n0).farC n1).farC n1).farC n1).farC n1) h3 (by omega) (by simp only [World.size_alloc]; omega)

/-- What a disk that runs is like. -/
theorem runs_facts {d : Dk} (h : d.runs = true) : 1 ≤ d.sectors.length ∧ d.sectors.length ≤ 4096 ∧ d.pending.length ≤ 4096 ∧ -1 ≤ d.left ∧ d.left ≤ 65536 ∧ d.stopped = false ∧
    (∀ x ∈ d.pending, 0 ≤ x.1 ∧ x.1 < d.sectors.length ∧ x.2.length = 128) ∧ (∀ x ∈ d.sectors, x.length = 128) := by
  unfold Dk.runs at h
  simp only [Bool.and_eq_true, decide_eq_true_eq, Bool.not_eq_true'] at h
  obtain ⟨hc, hs⟩ := h
  unfold Dk.check at hc
  split at hc
  · cases hc
  · rename_i hb
    unfold Dk.bad at hb
    simp only [Bool.or_eq_true, decide_eq_true_eq, not_or, List.any_eq_true, not_exists, not_and, badWrite, badSector, Bool.not_eq_true', decide_eq_false_iff_not, Decidable.not_not] at hb
    obtain ⟨⟨⟨⟨⟨⟨b1, b2⟩, b3⟩, b4⟩, b5⟩, b6⟩, b7⟩ := hb
    refine ⟨by omega, by omega, by omega, by omega, by omega, hs, fun x hx => ?_, fun x hx => b7 x hx⟩
    have := b6 x hx
    exact ⟨by omega, by omega, this.2⟩

set_option maxHeartbeats 2000000 in
theorem write_bad (v u : Value) (d : Dk) (at_ : Int) (b : List UInt8) (w : World) (hd : RDk S w v d) (hu : RBs S w u b) (n : Int)
    (hn : d.runs = false ∧ n = 380 ∨ d.runs = true ∧ d.has at_ = false ∧ n = 380 ∨ d.runs = true ∧ d.has at_ = true ∧ 128 < b.length ∧ n = 1 ∨ d.runs = true ∧ d.has at_ = true ∧ b.length ≤ 128 ∧ d.pending.length = 4096 ∧ n = 2) :
    Calls Try.prog 19 #[v, .int .i64 at_, u] w (RDE S w Dk.zero n) := by
  obtain ⟨A, c, B, e, rfl, q1, q2⟩ := hd.form
  obtain ⟨C, f, rfl, q3, q4⟩ := hu.form
  have HD := Lib.hid hd
  have HN := Lib.hid hn
  clear hd hu q1 q2 hn
  go_enter Try.func19, Try.ntmps19
  go_wp2_with fail
  (with_reducible refine (runs_any _ d _ (HD.out.ext (((Ext.refl _).alloc _).alloc _))).mono ?_)
  rintro e1 w1 ⟨rfl, hx1⟩
  have B0 := Lib.hid (((Blk.new w w.heap.size _ _ rfl).alloc _).ext hx1)
  have B1 := Lib.hid ((Blk.new _ (w.heap.size + 1) _ _ (by simp)).ext hx1)
  have HX1 := Lib.hid ((((Ext.refl w).alloc _).alloc _).trans hx1)
  have r1 : w.heap.size ≤ w.heap.size + 1 := Nat.le_succ _
  clear hx1
  obtain ⟨k0, z0⟩ := B0.out.rule
  rcases HN.out with ⟨hr, rfl⟩ | hn
  · rw [hr]
    clear hr HN k0 z0
    obtain ⟨k1, z1⟩ := B1.out.rule
    go_wp2
    refine bodyPost_ret (v := .tuple #[.agg #[.slice none 0 0, .slice none 0 0, .int .i64 0, .bool false], .int .i64 380]) (by simp [results, Try.results19, go_sem, k1, z1]) rfl ?_
    exact ⟨_, rfl, RDk.zero _, (((HX1.out.setC r1).setC r1).setC r1).setC r1⟩
  have hr : d.runs = true := by rcases hn with h | h | h <;> exact h.1
  rw [hr]
  have HR := Lib.hid hr
  have HN' := Lib.hid hn
  clear hr hn HN
  go_wp2_with fail
  (with_reducible refine (has_any _ d _ _ (HD.out.ext HX1.out)).mono ?_)
  rintro e2 w2 ⟨rfl, hx2⟩
  have C0 := Lib.hid (B0.out.ext hx2)
  have C1 := Lib.hid (B1.out.ext hx2)
  have HX2 := Lib.hid (HX1.out.trans hx2)
  clear hx2 k0 z0 B0 B1 HX1
  obtain ⟨k0, z0⟩ := C0.out.rule
  obtain ⟨k1, z1⟩ := C1.out.rule
  rcases HN'.out with ⟨_, hh, rfl⟩ | ⟨_, hh, hl, rfl⟩ | ⟨_, hh, hl, hp, rfl⟩
  · rw [hh]
    clear hh HN'
    go_wp2
    refine bodyPost_ret (v := .tuple #[.agg #[.slice none 0 0, .slice none 0 0, .int .i64 0, .bool false], .int .i64 380]) (by simp [results, Try.results19, go_sem, k1, z1]) rfl ?_
    exact ⟨_, rfl, RDk.zero _, (((HX2.out.setC r1).setC r1).setC r1).setC r1⟩
  · rw [hh]
    clear hh HN'
    go_wp2
    refine bodyPost_ret (v := .tuple #[.agg #[.slice none 0 0, .slice none 0 0, .int .i64 0, .bool false], .int .i64 1]) (by simp [results, Try.results19, go_sem, k1, z1]) rfl ?_
    exact ⟨_, rfl, RDk.zero _, (((HX2.out.setC r1).setC r1).setC r1).setC r1⟩
  · rw [hh]
    have h4' : ((d.pending.length : Int) == 4096) = true := by simp; omega
    clear hh HN' hp
    go_wp2
    refine bodyPost_ret (v := .tuple #[.agg #[.slice none 0 0, .slice none 0 0, .int .i64 0, .bool false], .int .i64 2]) (by simp [results, Try.results19, go_sem, k1, z1]) rfl ?_
    exact ⟨_, rfl, RDk.zero _, (((HX2.out.setC r1).setC r1).setC r1).setC r1⟩

theorem write_any (v u : Value) (d : Dk) (at_ : Int) (b : List UInt8) (w : World) (hd : RDk S w v d) (hu : RBs S w u b) :
    Calls Try.prog 19 #[v, .int .i64 at_, u] w (RDE S w (d.write at_ b).1 (d.write at_ b).2) := by
  unfold Dk.write
  cases hr : d.runs
  · simp only [Bool.false_and, if_true]
    exact write_bad v u d at_ b w hd hu 380 (.inl ⟨hr, rfl⟩)
  cases hh : d.has at_
  · simp only [Bool.and_false, if_true]
    exact write_bad v u d at_ b w hd hu 380 (.inr (.inl ⟨hr, hh, rfl⟩))
  simp only [Bool.and_self, Bool.true_eq_false, if_false]
  by_cases hl : 128 < b.length
  · rw [if_pos hl]
    exact write_bad v u d at_ b w hd hu 1 (.inr (.inr (.inl ⟨hr, hh, hl, rfl⟩)))
  rw [if_neg hl]
  by_cases hp : d.pending.length = 4096
  · rw [if_pos hp]
    exact write_bad v u d at_ b w hd hu 2 (.inr (.inr (.inr ⟨hr, hh, by omega, hp, rfl⟩)))
  rw [if_neg hp]
  exact write_ok v u d at_ b w hd hu hr hh (by omega) hp (runs_facts hr).2.2.1

end Go.Proofs.Ytklhgghlkidfjaa
