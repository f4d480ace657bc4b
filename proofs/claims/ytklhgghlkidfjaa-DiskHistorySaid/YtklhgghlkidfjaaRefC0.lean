/- Contract of the reference's Sync. -/
import Derived.Test.YtklhgghlkidfjaaRefB
import Derived.Test.YtklhgghlkidfjaaSeq
namespace Go.Proofs.Ytklhgghlkidfjaa
open Go.RowKit

variable {S S' : Nat → Prop}

set_option maxHeartbeats 2000000 in
theorem rsync_bad (v : Value) (d : Dk) (w : World) (hd : RDk S w v d) (h1 : d.runs = false) :
    Calls Try.prog 24 #[v] w (RDE S w Dk.zero 380) := by
  obtain ⟨A, c, B, e, rfl, q1, q2⟩ := hd.form
  have HD := Lib.hid hd
  have HC : Hid ((d.check = 380) ∨ (d.check = 0 ∧ d.stopped = true)) := by
    show _ ∨ _
    rcases runs_cases d with ⟨h, _⟩ | ⟨h, h', _⟩ | ⟨_, _, h⟩
    · exact .inl h
    · exact .inr ⟨h, h'⟩
    · rw [h1] at h; cases h
  clear hd q1 q2
  go_enter Try.func24, Try.ntmps24
  go_wp2_with fail
  (with_reducible refine (rcheck_any _ d _ (HD.out.ext (((Ext.refl _).alloc _).alloc _))).mono ?_)
  rintro e1 w1 ⟨rfl, hx1⟩
  have B0 := Lib.hid (((Blk.new w w.heap.size _ _ rfl).alloc _).ext hx1)
  have B1 := Lib.hid ((Blk.new _ (w.heap.size + 1) _ _ (by simp)).ext hx1)
  have HX1 := Lib.hid ((((Ext.refl w).alloc _).alloc _).trans hx1)
  have r1 : w.heap.size ≤ w.heap.size + 1 := Nat.le_succ _
  clear hx1
  obtain ⟨k0, z0⟩ := B0.out.rule
  obtain ⟨k1, z1⟩ := B1.out.rule
  rcases HC.out with h | ⟨h, hs⟩
  · rw [h]; clear h HC
    go_wp2
    obtain ⟨w4, e4, G1, hg4⟩ := set4 B1.out (.slice none 0 0) (.slice none 0 0) (.int .i64 0) (.bool false)
    rw [e4]
    obtain ⟨k2, z2⟩ := G1.rule
    refine bodyPost_ret (v := .tuple #[.agg #[.slice none 0 0, .slice none 0 0, .int .i64 0, .bool false], .int .i64 380]) (by simp [results, Try.f24, go_sem, k2, z2]) rfl ?_
    exact ⟨_, rfl, RDk.zero _, HX1.out.grownN hg4 r1⟩
  · rw [h]; rw [hs] at k0; clear h HC hs
    go_wp2
    obtain ⟨w4, e4, G1, hg4⟩ := set4 B1.out (.slice none 0 0) (.slice none 0 0) (.int .i64 0) (.bool false)
    rw [e4]
    obtain ⟨k2, z2⟩ := G1.rule
    refine bodyPost_ret (v := .tuple #[.agg #[.slice none 0 0, .slice none 0 0, .int .i64 0, .bool false], .int .i64 380]) (by simp [results, Try.f24, go_sem, k2, z2]) rfl ?_
    exact ⟨_, rfl, RDk.zero _, HX1.out.grownN hg4 r1⟩

end Go.Proofs.Ytklhgghlkidfjaa
