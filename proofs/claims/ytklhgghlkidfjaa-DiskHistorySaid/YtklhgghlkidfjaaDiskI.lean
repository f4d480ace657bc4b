/- The iterator slices.Backward over writes: its contract. -/
import Derived.RangeFuncNested
import Derived.RangeFuncBound
import Derived.RangeFuncCalls
import Derived.RangeFuncLeaves
import Derived.Shelf.Abstract
import Derived.Shelf.RegionOpen
import Derived.OwnWalkIn
import Derived.TacticsInMore
import Derived.LoopNIn
import Derived.LoopIn
import Derived.Test.YtklhgghlkidfjaaDiskH
namespace Go.Proofs.Ytklhgghlkidfjaa
open Go.RowKit Go.Shelf

variable {S S' : Nat → Prop}

attribute [local go_sem] Oper.semAt_some

/-- An element that the iterator hands out: the index, where, and the slice's header. -/
structure It where
  i : Int
  at_ : Int
  a : Option Addr
  n : Nat
  c : Nat

abbrev It.enc (x : It) : Array Value := #[.int .i64 x.i, .agg #[.int .i64 x.at_, .slice x.a x.n x.c]]

/-- What has come after k rounds. -/
def bwd (f : Nat → It) (len k : Nat) : List It := (List.range k).map fun j => f (len - 1 - j)
theorem bwd_succ (f : Nat → It) (len k : Nat) : bwd f len (k + 1) = bwd f len k ++ [f (len - 1 - k)] := by simp [bwd, List.range_succ]
theorem bwd_length (f : Nat → It) (len k : Nat) : (bwd f len k).length = k := by simp [bwd]

set_option maxRecDepth 100000 in
set_option maxHeartbeats 2000000 in
theorem back1_in (F : Fence) (n : Nat) (h7 : F.fn 45) (hro : F.round = none) (hn : 1 ≤ n) (l Bs n₀ len cap : Nat) (A : Option Addr) (f : Nat → It) (hfi : ∀ j, (f j).i = j) (hlen : len ≤ 65536) (J Jx : List It → World → Prop)
    (hY : ∀ pre x W, J pre W → pre.length < len → YieldAt F (n - 1) Try.prog l x.enc W fun e W' =>
      (e = .returned (.bool true) ∧ J (pre ++ [x]) W' ∧ Below n₀ W W') ∨ (e = .returned (.bool false) ∧ Jx (pre ++ [x]) W'))
    (W : World) (hBs : W.cell? ⟨Bs, 0, none⟩ = some (.slice A len cap)) (hBn : Bs < n₀)
    (hc : 0 < len → ∃ b off, A = some ⟨b, off, none⟩ ∧ b < n₀ ∧ ∀ j, j < len → W.cell? ⟨b, off + j * 2, none⟩ = some (.int .i64 (f j).at_) ∧ W.cell? ⟨b, off + j * 2 + 1, none⟩ = some (.slice (f j).a (f j).n (f j).c)) (h0 : J [] W) :
    CallsIn F n Try.prog 45 #[.func (.yield l) #[] #[], .pointer (some ⟨Bs, 0, none⟩)] W fun e W' => (∃ v, e = .returned v) ∧
      ((∃ ys, ys = bwd f len len ∧ J ys W') ∨ (∃ pre, (∃ k, k ≤ len ∧ pre = bwd f len k) ∧ Jx pre W')) := by
  have HC := Lib.hid hc
  have HF := Lib.hid hfi
  have HY := Lib.hid hY
  clear hc hfi hY
  refine callsIn_of_wp Try.func45 rfl h7 ?_ hro
  simp only [Try.ntmps45, List.size_toArray, List.length_cons, List.length_nil, Nat.reduceAdd, Nat.reduceSub, Array.replicate_succ, Array.replicate_zero, List.push_toArray, List.append_toArray, List.nil_append, List.cons_append]
  gi_wp2
  gi_loopw [3] (fun i wr => ∃ k : Nat, k ≤ len ∧ i = .int .i64 ((len : Int) - 1 - k) ∧ J (bwd f len k) wr ∧ Below n₀ W wr)
    (fun i _ => ((intOf i) + 1).toNat)
  case atStart => exact ⟨0, Nat.zero_le _, by simp, h0, Below.refl _ _⟩
  case round =>
    obtain ⟨k, hk, rfl, hJs, hnx⟩ := hrel
    have hbs : wr.cell? ⟨Bs, 0, none⟩ = some (.slice A len cap) := (hnx.cell (p := ⟨Bs, 0, none⟩) hBn).trans hBs
    by_cases hlt : k < len
    · obtain ⟨b, off, rfl, hb, hcc⟩ := HC.out (by omega)
      obtain ⟨c1, c2⟩ := hcc (len - 1 - k) (by omega)
      obtain ⟨j, hj⟩ : ∃ j, len - 1 - k = j := ⟨_, rfl⟩
      have hij : (len : Int) - 1 - k = (j : Int) := by omega
      rw [hj] at c1 c2
      rw [hij]
      have e1 := (hnx.cell (p := ⟨b, off + j * 2, none⟩) hb).trans c1
      have e2 := (hnx.cell (p := ⟨b, off + j * 2 + 1, none⟩) hb).trans c2
      obtain ⟨fn, tmps, assign, body, hy, hR⟩ := HY.out _ (f j) wr hJs (by rw [bwd_length]; exact hlt)
      have hji := HF.out j
      dsimp only [It.enc] at hy
      rw [hji] at hy
      have HR := Lib.hid hR
      have HJ := Lib.hid hj
      have HIJ := Lib.hid hij
      have hjl : j < len := by omega
      clear hcc c1 c2 hj hij hR hji
      gi_wp2
      refine HR.out.mono ?_
      rintro e W3 (⟨rfl, hJ3, hk3⟩ | ⟨rfl, hJx3⟩)
      · gi_wp2
        go_roundw
        case rel => exact ⟨k + 1, by omega, by rw [show (len : Int) - 1 - ((k + 1 : Nat) : Int) = (j : Int) - 1 from by have := HIJ.out; omega], by rw [bwd_succ, HJ.out]; exact hJ3, hnx.trans hk3⟩
        case measure => first | (simp [intOf]; done) | (simp [intOf]; omega)
      · gi_wp2
        refine bodyPost_ret (results_none rfl _ _ _) rfl ?_
        exact ⟨⟨_, rfl⟩, .inr ⟨_, ⟨k + 1, by omega, by rw [bwd_succ, HJ.out]⟩, hJx3⟩⟩
    · obtain rfl : k = len := by omega
      rw [show (k : Int) - 1 - k = -1 from by omega]
      gi_wp2
      go_end0
      exact ⟨⟨_, rfl⟩, .inl ⟨_, rfl, hJs⟩⟩

set_option maxHeartbeats 1000000 in
theorem back_in (F : Fence) (n : Nat) (h5 : F.fn 39) (hro : F.round = none) (v : Value) (A : Option Addr) (len cap : Nat) (hv : v = .slice A len cap) (w : World) :
    CallsIn F n Try.prog 39 #[v] w fun e w' => e = .returned (.func (.func 45) #[] #[.pointer (some ⟨w.heap.size, 0, none⟩)]) ∧ w' = w.alloc (.cells #[v] 23) := by
  subst hv
  refine callsIn_of_wp Try.func39 rfl h5 ?_ hro
  simp only [Try.ntmps39, List.size_toArray, List.length_cons, List.length_nil, Nat.reduceAdd, Nat.reduceSub, Array.replicate_succ, Array.replicate_zero, List.push_toArray, List.append_toArray, List.nil_append, List.cons_append]
  gi_wp2
  go_ret
  exact ⟨rfl, rfl⟩

theorem back_stops (F : Fence) (n : Nat) (h6 : F.fn 45) (hro : F.round = none) (hn : 1 ≤ n) (Bs n₀ len cap : Nat) (A : Option Addr) (f : Nat → It) (hfi : ∀ j, (f j).i = j) (hlen : len ≤ 65536) (w : World) (hBs : Bs < n₀) (hn₀ : n₀ ≤ w.heap.size)
    (hc : w.cell? ⟨Bs, 0, none⟩ = some (.slice A len cap))
    (hL : 0 < len → ∃ b off, A = some ⟨b, off, none⟩ ∧ b < n₀ ∧ ∀ j, j < len → w.cell? ⟨b, off + j * 2, none⟩ = some (.int .i64 (f j).at_) ∧ w.cell? ⟨b, off + j * 2 + 1, none⟩ = some (.slice (f j).a (f j).n (f j).c)) :
    SeqStopsK F n Try.prog 45 #[.pointer (some ⟨Bs, 0, none⟩)] It.enc (Below n₀) (fun ys => ys = bwd f len len) (fun pre => ∃ k, k ≤ len ∧ pre = bwd f len k) len w := fun l J Jx W hW _ _ hY h0 =>
  back1_in F n h6 hro hn l Bs n₀ len cap A f hfi hlen J Jx hY W ((hW.cell (p := ⟨Bs, 0, none⟩) (by show Bs < _; omega)).trans hc) hBs (fun h => by
    obtain ⟨b, off, ha, hb, hx⟩ := hL h
    exact ⟨b, off, ha, hb, fun j hj => ⟨(hW.cell (p := ⟨b, off + j * 2, none⟩) (by show b < _; omega)).trans (hx j hj).1, (hW.cell (p := ⟨b, off + j * 2 + 1, none⟩) (by show b < _; omega)).trans (hx j hj).2⟩⟩) h0

end Go.Proofs.Ytklhgghlkidfjaa
