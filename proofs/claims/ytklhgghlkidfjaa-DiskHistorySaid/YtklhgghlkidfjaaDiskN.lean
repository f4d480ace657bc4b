/- A slice of bytes turned into a string; the contract of the reference's Same. -/
import Derived.Test.YtklhgghlkidfjaaDiskM
import Derived.Deep.QuietTactic
import Derived.BigQuiet
namespace Go.Proofs.Ytklhgghlkidfjaa
open Go.RowKit

variable {S S' : Nat → Prop}

theorem foldl_push (l : List UInt8) : ∀ s : ByteArray, (l.map fun c => (c.toNat : Int)).foldl (fun r n => r.push (UInt8.ofNat n.toNat)) s = ⟨s.data ++ l.toArray⟩ := by
  induction l with
  | nil => intro s; simp
  | cons c l ih =>
    intro s
    simp only [List.map_cons, List.foldl_cons]
    rw [ih]
    simp [ByteArray.push]

theorem Ext.drewN {a w : World} (h : Ext a w) (n : Nat) : Ext a (w.drewN n) := ⟨h.below.os, h.below.tape, h.below.output, h.below.size, h.below.block⟩

/-- The string of some bytes. -/
abbrev strOf (l : List UInt8) : Value := .string ⟨l.toArray⟩

theorem conv_str {P : Program} {w : World} {src dst e : TypeId} {A : Option Addr} {n c : Nat} {l : List UInt8} (h : RBs S w (.slice A n c) l)
    (hs : P.underlying src = some (.slice e)) (he : P.underlying e = some (.int .u8)) (hd : P.underlying dst = some .string) :
    (convert src dst (.slice A n c)).run P w = .ok (strOf l) w := by
  rw [run_convert_bytes_string w src dst e A n c hs he hd]
  obtain ⟨hn, _, h1, h2, h3⟩ := h.vals
  rcases A with _ | ad
  · have h0 : n = 0 := by
      rcases Nat.eq_zero_or_pos n with h | h
      · exact h
      · obtain ⟨b, off, h, _⟩ := h3 h; cases h
    have hl : l = [] := List.eq_nil_of_length_eq_zero (by omega)
    subst hl
    simp [Conv.bytesToString, strOf]
    rfl
  · have hc : (loadCells ad n).run P w = .ok ((l.map fun c => (c.toNat : Int)).map (Value.int .u8)).toArray w := by
      have hbl : (byteVals l).length = n := by rw [h1]; omega
      have := run_loadCells_list (P := P) w ad (byteVals l) (fun j v hv => by
        rcases Nat.eq_zero_or_pos n with h0 | h0
        · rw [List.getElem?_eq_none (by omega)] at hv; cases hv
        · obtain ⟨b, off, ha, _, hx⟩ := h3 h0
          injection ha with ha
          subst ha
          rw [addr_add]
          exact hx j v hv)
      rw [hbl] at this
      rw [this]
      simp [byteVals]
    rw [run_bytesToString w ad n c _ hc, foldl_push]
    simp [strOf]

theorem neq_str (w : World) (a b : List UInt8) : (binOp .neq 9 (strOf a) (strOf b)).run Try.prog w = .ok (.bool (!decide (a = b))) w := by
  have h : (binOp .neq 9 (.string ⟨a.toArray⟩) (.string ⟨b.toArray⟩)).run Try.prog w = .ok (.bool (!(a == b))) w := by simp [go_sem]
  unfold strOf
  rw [h]
  congr 2
  rw [Bool.eq_iff_iff]
  simp
theorem eql_str (w : World) (a b : List UInt8) : (binOp .eql 9 (strOf a) (strOf b)).run Try.prog w = .ok (.bool (decide (a = b))) w := by
  have h : (binOp .eql 9 (.string ⟨a.toArray⟩) (.string ⟨b.toArray⟩)).run Try.prog w = .ok (.bool (a == b)) w := by simp [go_sem]
  unfold strOf
  rw [h]
  congr 2
  rw [Bool.eq_iff_iff]
  simp

def Dk.same (a b : Dk) : Bool := decide (a.sectors = b.sectors ∧ a.pending = b.pending ∧ a.left = b.left ∧ a.stopped = b.stopped)

theorem conv_at (w : World) {A : Option Addr} {n c : Nat} {l : List UInt8} (h : RBs S w (.slice A n c) l) (k : Nat) : (convert 35 9 (.slice A n c)).run Try.prog (w.drewN k) = .ok (strOf l) (w.drewN k) :=
  conv_str (w := w.drewN k) h Try.underlying35 Try.underlying5 Try.underlying9

theorem same_not {a b : Dk} (h : a.sectors.length ≠ b.sectors.length ∨ a.pending.length ≠ b.pending.length ∨ a.left ≠ b.left ∨ a.stopped ≠ b.stopped) : false = a.same b := by
  unfold Dk.same
  symm
  rw [decide_eq_false_iff_not]
  rintro ⟨h1, h2, h3, h4⟩
  rw [h1, h2] at h
  simp_all

theorem same_not_sec {a b : Dk} {k : Nat} {x y : List UInt8} (hx : a.sectors[k]? = some x) (hy : b.sectors[k]? = some y) (h : x ≠ y) : false = a.same b := by
  unfold Dk.same
  symm
  rw [decide_eq_false_iff_not]
  rintro ⟨h1, _⟩
  rw [h1, hy] at hx
  injection hx with hx
  exact h hx.symm
theorem same_not_pen {a b : Dk} {k : Nat} {x y : Int × List UInt8} (hx : a.pending[k]? = some x) (hy : b.pending[k]? = some y) (h : x.1 ≠ y.1 ∨ x.2 ≠ y.2) : false = a.same b := by
  unfold Dk.same
  symm
  rw [decide_eq_false_iff_not]
  rintro ⟨_, h1, _⟩
  rw [h1, hy] at hx
  injection hx with hx
  subst hx
  simp at h

theorem take_succ_eq {α : Type} {a b : List α} {k : Nat} {x : α} (h : a.take k = b.take k) (hx : a[k]? = some x) (hy : b[k]? = some x) : a.take (k + 1) = b.take (k + 1) := by
  obtain ⟨h1, rfl⟩ := List.getElem?_eq_some_iff.1 hx
  obtain ⟨h2, h3⟩ := List.getElem?_eq_some_iff.1 hy
  rw [List.take_succ_eq_append_getElem h1, List.take_succ_eq_append_getElem h2, h, h3]

set_option maxRecDepth 100000 in
set_option maxHeartbeats 2000000 in
theorem same_any (v u : Value) (a b : Dk) (w : World) (ha : RDk S w v a) (hb : RDk S w u b) : Calls Try.prog 14 #[v, u] w (RB w (a.same b)) := by
  obtain ⟨A, c, B, e, rfl, q1, q2⟩ := ha.form
  obtain ⟨A', c', B', e', rfl, q3, q4⟩ := hb.form
  obtain ⟨f1, f1'⟩ := q1.at.2.1
  obtain ⟨f2, f2'⟩ := q2.at.2.1
  obtain ⟨f3, f3'⟩ := q3.at.2.1
  obtain ⟨f4, f4'⟩ := q4.at.2.1
  have HS := Lib.hid q1
  have HP := Lib.hid q2
  have HS' := Lib.hid q3
  have HP' := Lib.hid q4
  clear ha hb q1 q2 q3 q4
  have HW : Hid (Ext w ((w.alloc (.cells #[.slice A a.sectors.length c, .slice B a.pending.length e, .int .i64 a.left, .bool a.stopped] 25)).alloc (.cells #[.slice A' b.sectors.length c', .slice B' b.pending.length e', .int .i64 b.left, .bool b.stopped] 25))) := ((Ext.refl _).alloc _).alloc _
  by_cases n1 : a.sectors.length = b.sectors.length
  rotate_left
  · have HN := Lib.hid (same_not (a := a) (b := b) (.inl n1))
    have t1 : ((a.sectors.length : Int) != (b.sectors.length : Int)) = true := by simp; omega
    have t2 : (a.sectors.length != b.sectors.length) = true := by simp; omega
    clear n1
    go_enter Try.func14, Try.ntmps14
    go_wp2
    go_ret
    exact ⟨ret_bool HN.out, HW.out⟩
  have t1 : ((a.sectors.length : Int) != (b.sectors.length : Int)) = false := by simp; omega
  by_cases n2 : a.pending.length = b.pending.length
  rotate_left
  · have HN := Lib.hid (same_not (a := a) (b := b) (.inr (.inl n2)))
    have t3 : ((a.pending.length : Int) != (b.pending.length : Int)) = true := by simp; omega
    clear n2 n1
    go_enter Try.func14, Try.ntmps14
    go_wp2
    go_ret
    exact ⟨ret_bool HN.out, HW.out⟩
  have t3 : ((a.pending.length : Int) != (b.pending.length : Int)) = false := by simp; omega
  by_cases n3 : a.left = b.left
  rotate_left
  · have HN := Lib.hid (same_not (a := a) (b := b) (.inr (.inr (.inl n3))))
    have t4 : (a.left != b.left) = true := by simpa using n3
    clear n2 n1 n3
    go_enter Try.func14, Try.ntmps14
    go_wp2
    go_ret
    exact ⟨ret_bool HN.out, HW.out⟩
  have t4 : (a.left != b.left) = false := by simpa using n3
  have N3 := Lib.hid n3
  clear n3
  by_cases n4 : a.stopped = b.stopped
  rotate_left
  · have HN := Lib.hid (same_not (a := a) (b := b) (.inr (.inr (.inr n4))))
    have t5 : (a.stopped == b.stopped) = false := by simpa using n4
    clear n2 n1 n4
    go_enter Try.func14, Try.ntmps14
    go_wp2
    go_ret
    exact ⟨ret_bool HN.out, HW.out⟩
  have t5 : (a.stopped == b.stopped) = true := by simpa using n4
  have N4 := Lib.hid n4
  have N1 := Lib.hid n1
  have N2 := Lib.hid n2
  have l1 : a.sectors.length ≤ b.sectors.length := by omega
  have l2 : a.pending.length ≤ b.pending.length := by omega
  clear n1 n2 n4
  go_enter Try.func14, Try.ntmps14
  go_wp2
  have B0 := Lib.hid ((Blk.new w w.heap.size 25 [.slice A a.sectors.length c, .slice B a.pending.length e, .int .i64 a.left, .bool a.stopped] rfl).alloc (.cells #[.slice A' b.sectors.length c', .slice B' b.pending.length e', .int .i64 b.left, .bool b.stopped] 25))
  have B1 := Lib.hid (Blk.new (w.alloc (.cells #[.slice A a.sectors.length c, .slice B a.pending.length e, .int .i64 a.left, .bool a.stopped] 25)) (w.heap.size + 1) 25 [.slice A' b.sectors.length c', .slice B' b.pending.length e', .int .i64 b.left, .bool b.stopped] (by simp))
  obtain ⟨W0, hW0⟩ : ∃ W0, (w.alloc (.cells #[.slice A a.sectors.length c, .slice B a.pending.length e, .int .i64 a.left, .bool a.stopped] 25)).alloc (.cells #[.slice A' b.sectors.length c', .slice B' b.pending.length e', .int .i64 b.left, .bool b.stopped] 25) = W0 := ⟨_, rfl⟩
  rw [hW0] at HW B0 ⊢
  have B1 : Hid (Blk W0 (w.heap.size + 1) 25 [.slice A' b.sectors.length c', .slice B' b.pending.length e', .int .i64 b.left, .bool b.stopped]) := by rw [← hW0]; exact B1
  obtain ⟨k0, z0⟩ := B0.out.rule
  obtain ⟨k1, z1⟩ := B1.out.rule
  clear hW0 t1 t3 t4 t5
  go_loopw [5] (fun i wr => ∃ k m : Nat, k ≤ a.sectors.length ∧ i = .int .i64 k ∧ wr = W0.drewN m ∧ Hid (a.sectors.take k = b.sectors.take k)) (fun i _ => a.sectors.length - (intOf i).toNat)
  case atStart => exact ⟨0, 0, Nat.zero_le _, rfl, rfl, rfl⟩
  case round =>
    obtain ⟨k, m, hk, rfl, rfl, heq⟩ := hrel
    by_cases hlt : k < a.sectors.length
    · obtain ⟨x, hx, -⟩ := get_of_lt _ _ hlt
      obtain ⟨y, hy, -⟩ := get_of_lt b.sectors k (by omega)
      obtain ⟨b1, o1, A1, c1, rfl, hb1, p1, r1, -, -⟩ := HS.out.get hx
      obtain ⟨b2, o2, A2, c2, rfl, hb2, p2, r2, -, -⟩ := HS'.out.get hy
      have p1 := HW.out.keep p1
      have p2 := HW.out.keep p2
      have v1 := conv_at W0 (r1.ext HW.out)
      have v2 := conv_at W0 (r2.ext HW.out)
      have HX := Lib.hid hx
      have HY := Lib.hid hy
      have i1 : (0 : Int) ≤ (k : Int) := Int.natCast_nonneg _
      have i2 : (k : Int) < (a.sectors.length : Int) := by omega
      have i3 : (k : Int) < (b.sectors.length : Int) := by omega
      clear hx hy r1 r2
      cases hq : (x == y)
      · have HQ := Lib.hid hq
        go_wp2
        go_quiet (fail)
        go_wp2
        go_ret
        exact ⟨ret_bool (same_not_sec HX.out HY.out (by have := HQ.out; simpa using this)), (HW.out.drewN _).drewN _⟩
      · have HQ := Lib.hid hq
        go_wp2
        go_quiet (fail)
        go_wp2
        go_roundw
        case rel =>
          have hxy : x = y := by have := HQ.out; simpa using this
          refine ⟨k + 1, m + nq, by omega, by go_num, by first | rfl | rw [World.drewN_drewN], take_succ_eq heq.out HX.out ?_⟩
          rw [hxy]; exact HY.out
        case measure => simp [intOf]; omega
    · have HSS : Hid (a.sectors = b.sectors) := by
        have := heq.out
        rw [List.take_of_length_le (by omega), List.take_of_length_le (by have := N1.out; omega)] at this
        exact this
      clear heq
      go_wp2
      go_loopw [6] (fun i wr => ∃ k m : Nat, k ≤ a.pending.length ∧ i = .int .i64 k ∧ wr = W0.drewN m ∧ Hid (a.pending.take k = b.pending.take k)) (fun i _ => a.pending.length - (intOf i).toNat)
      case atStart => exact ⟨0, m, Nat.zero_le _, rfl, rfl, rfl⟩
      case round =>
        obtain ⟨j, m2, hj, rfl, rfl, heq⟩ := hrel
        by_cases hlt2 : j < a.pending.length
        · obtain ⟨x, hx, -⟩ := get_of_lt _ _ hlt2
          obtain ⟨y, hy, -⟩ := get_of_lt b.pending j (by omega)
          obtain ⟨b1, o1, A1, c1, rfl, hb1, p0, p1, r1, -, -⟩ := HP.out.get hx
          obtain ⟨b2, o2, A2, c2, rfl, hb2, s0, s1, r2, -, -⟩ := HP'.out.get hy
          have p0 := HW.out.keep p0
          have p1 := HW.out.keep p1
          have s0 := HW.out.keep s0
          have s1 := HW.out.keep s1
          have v1 := conv_at W0 (r1.ext HW.out)
          have v2 := conv_at W0 (r2.ext HW.out)
          have HX := Lib.hid hx
          have HY := Lib.hid hy
          have i1 : (0 : Int) ≤ (j : Int) := Int.natCast_nonneg _
          have i2 : (j : Int) < (a.pending.length : Int) := by omega
          have i3 : (j : Int) < (b.pending.length : Int) := by omega
          clear hx hy r1 r2
          cases ha : (x.1 != y.1)
          · have HA := Lib.hid ha
            cases hq : (x.2 == y.2)
            · have HQ := Lib.hid hq
              go_wp2
              go_quiet (fail)
              go_wp2
              go_ret
              exact ⟨ret_bool (same_not_pen HX.out HY.out (.inr (by have := HQ.out; simpa using this))), (HW.out.drewN _).drewN _⟩
            · have HQ := Lib.hid hq
              go_wp2
              go_quiet (fail)
              go_wp2
              go_roundw
              case rel =>
                have hxy : x = y := by
                  have h1 := HQ.out
                  have h2 := HA.out
                  simp at h1 h2
                  exact Prod.ext h2 h1
                refine ⟨j + 1, m2 + nq, by omega, by go_num, by first | rfl | rw [World.drewN_drewN], take_succ_eq heq.out HX.out ?_⟩
                rw [hxy]; exact HY.out
              case measure => simp [intOf]; omega
          · have HA := Lib.hid ha
            go_wp2
            go_quiet (fail)
            go_wp2
            go_ret
            exact ⟨ret_bool (same_not_pen HX.out HY.out (.inl (by have := HA.out; simpa using this))), (HW.out.drewN _).drewN _⟩
        · go_wp2
          go_ret
          refine ⟨ret_bool ?_, HW.out.drewN _⟩
          have h2 := heq.out
          rw [List.take_of_length_le (by omega), List.take_of_length_le (by have := N2.out; omega)] at h2
          unfold Dk.same
          symm
          rw [decide_eq_true_eq]
          exact ⟨HSS.out, h2, N3.out, N4.out⟩

end Go.Proofs.Ytklhgghlkidfjaa
