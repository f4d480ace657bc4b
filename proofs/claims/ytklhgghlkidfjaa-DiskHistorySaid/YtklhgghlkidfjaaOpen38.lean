/- How the arguments of chapter 38's laws open. -/
import Derived.Test.YtklhgghlkidfjaaFrame
import Derived.Test.YtklhgghlkidfjaaLawA
import Derived.Lib.SmallJoins
namespace Go.Proofs.Ytklhgghlkidfjaa
open Go.RowKit Go.ChangeShapes Go.WideShapes Go.ChangeAt Go.Deep Go.Joins

section
variable {H : Type} {enc : TypeId × Value → H} {W : World}

theorem open_bs1 (n : Nat) (cs' : List Value) (y : DataW H × List MemPlace) (h : DataW.trod enc Try.prog W 0 (fun _ => true) true n 35 cs' = some y) (hr : Reach Try.prog 35 y.1) :
    ∃ l : List UInt8, RB1 (Old W) W cs' l ∧ l.length ≤ 140737488355328 ∧ OneC cs' := by
  obtain ⟨v, l, rfl, h1, h2, h3⟩ := open_bytes Try.underlying35 Try.underlying5 (by kernel_rfl) (by kernel_rfl) h hr
  exact ⟨l, ⟨v, rfl, h1⟩, by omega, fun u hu => by simp at hu; subst hu; exact h3⟩

theorem open_wr (n : Nat) (cs' : List Value) (y : DataW H × List MemPlace) (h : DataW.trod enc Try.prog W 0 (fun _ => true) true n 54 cs' = some y) (hr : Reach Try.prog 54 y.1) :
    ∃ x : Int × List UInt8, RWr (Old W) W cs' x ∧ x.2.length ≤ 140737488355328 ∧ OneC cs' := by
  obtain ⟨xs, m, _, hx, hlen, hl, hg⟩ := DataW.trod_struct Try.underlying54 h
  have hC : Try.prog.cellsOf 54 = 2 := by kernel_rfl
  rw [hC] at hlen
  match cs', hlen with
  | [c0, c1], _ =>
    match xs, hl with
    | [y0, y1], _ =>
      have g0 : DataW.trod enc Try.prog W 0 (fun _ => true) true m 3 [c0] = some y0 := hg 0 _ rfl
      have g1 : DataW.trod enc Try.prog W 0 (fun _ => true) true m 35 [c1] = some y1 := hg 1 _ rfl
      obtain ⟨k, hk, _, _⟩ := DataW.trod_int Try.underlying3 g0
      injection hk with hk
      subst hk
      have hy : y.1 = DataW.agg [y0.1, y1.1] := congrArg Prod.fst hx
      rw [hy] at hr
      obtain ⟨l, ⟨v, hv, h1⟩, h2, h3⟩ := open_bs1 m [c1] y1 g1 (hr.field (j := 1) Try.underlying54 rfl rfl)
      injection hv with hv
      subst hv
      refine ⟨(k, l), ⟨c1, rfl, h1⟩, h2, fun u hu => ?_⟩
      simp at hu
      rcases hu with rfl | rfl
      · rfl
      · exact h3 _ (by simp)

theorem open_disk {b0 : Nat} {v : Value} {dd : DataW H} {p : List MemPlace} (hv : Value.okWide Try.prog W .any b0 25 v) (h : DataW.Trod enc Try.prog W 0 (fun _ => true) true 25 v dd p) (hr : Reach Try.prog 25 dd) :
    ∃ A c B e d, v = .agg #[.slice A d.sectors.length c, .slice B d.pending.length e, .int .i64 d.left, .bool d.stopped] ∧ RDk (Old W) W (.agg #[.slice A d.sectors.length c, .slice B d.pending.length e, .int .i64 d.left, .bool d.stopped]) d
      ∧ (∀ x ∈ d.sectors, x.length ≤ 140737488355328) ∧ (∀ x ∈ d.pending, x.2.length ≤ 140737488355328) := by
  obtain ⟨v0, v1, v2, v3, y0, y1, y2, y3, n, rfl, rfl, _, g0, g1, g2, g3⟩ := open_agg4 Try.underlying25 (by kernel_rfl) (by kernel_rfl) hv h
  obtain ⟨u0, ss, hu0, h0, hs, _, _⟩ := open_rsl (k := 1) (R := RB1 (Old W)) (B := fun l => l.length ≤ 140737488355328) Try.underlying22 (by kernel_rfl) (by omega) g0 (hr.field (j := 0) Try.underlying25 rfl rfl) open_bs1
  obtain ⟨u1, pp, hu1, h1, hp, _, _⟩ := open_rsl (k := 2) (R := RWr (Old W)) (B := fun x => x.2.length ≤ 140737488355328) Try.underlying23 (by kernel_rfl) (by omega) g1 (hr.field (j := 1) Try.underlying25 rfl rfl) open_wr
  obtain ⟨k, hk, _, _⟩ := DataW.trod_int Try.underlying3 g2
  obtain ⟨b, hb, _⟩ := DataW.trod_bool Try.underlying4 g3
  injection hu0 with hu0
  injection hu1 with hu1
  injection hk with hk
  injection hb with hb
  subst hu0
  subst hu1
  subst hk
  subst hb
  have hss : RBss (Old W) W v0 ss := h0
  have hpp : RWs (Old W) W v1 pp := h1
  obtain ⟨A, c, rfl, _, _⟩ := hss.form
  obtain ⟨B, e, rfl, _, _⟩ := hpp.form
  exact ⟨A, c, B, e, ⟨ss, pp, k, b⟩, rfl, RDk.mk hss hpp, hs, hp⟩

theorem open_barg {b0 : Nat} {v : Value} {dd : DataW H} {p : List MemPlace} (hv : Value.okWide Try.prog W .any b0 35 v) (h : DataW.Trod enc Try.prog W 0 (fun _ => true) true 35 v dd p) (hr : Reach Try.prog 35 dd) :
    ∃ C f l, v = .slice C l.length f ∧ RBs (Old W) W (.slice C l.length f) l ∧ l.length ≤ 140737488355328 := by
  obtain ⟨C, n, c, rfl⟩ := okWide_slice Try.underlying35 hv
  obtain ⟨fuel, hf⟩ := h
  obtain ⟨v, l, hv, h1, h2, h3⟩ := open_bytes Try.underlying35 Try.underlying5 (by kernel_rfl) (by kernel_rfl) hf hr
  simp [Value.cells] at hv
  subst hv
  obtain ⟨A, cap, hf, _, _⟩ := h1.form
  rw [hf] at h1
  exact ⟨A, cap, l, hf, h1, by omega⟩

end
end Go.Proofs.Ytklhgghlkidfjaa
