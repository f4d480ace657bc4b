/- How a script of crashes opens. -/
import Derived.Test.YtfmhnplkpohogaaBvnJ
import Derived.Test.YtfmhnplkpohogaaBvnN
set_option linter.unusedVariables false
set_option linter.unusedSimpArgs false
namespace Go.Proofs.Ytfmhnplkpohogaa
open Go.RowKit Go.ChangeShapes Go.WideShapes Go.ChangeAt Go.Deep Go.Joins
set_option maxRecDepth 100000

section
variable {H : Type} {enc : TypeId × Value → H} {W : World}
theorem u8_inK {n : Int} (h : (Lit.int .u8 n).wf = true) : ∃ x : UInt8, n = (x.toNat : Nat) := by
  simp only [Lit.wf, Bool.and_eq_true, decide_eq_true_eq] at h
  have h1 : 0 ≤ n ∧ n ≤ 255 := h
  exact ⟨UInt8.ofNat n.toNat, by rw [UInt8.toNat_ofNat_of_lt' (by simp; omega)]; omega⟩
theorem open_crash (n : Nat) (cs' : List Value) (y : DataW H × List MemPlace) (h : DataW.trod enc Try.prog W 0 (fun _ => true) true n 55 cs' = some y) (hr : Reach Try.prog 55 y.1) :
    ∃ x : Cr, RCr (Old W) W cs' x ∧ (∀ b ∈ x.recs, b.length ≤ 140737488355328) ∧ OneC cs' := by
  obtain ⟨xs, m, _, hx, hlen, hl, hg⟩ := DataW.trod_struct Try.underlying55 h
  have hC : Try.prog.cellsOf 55 = 3 := by kernel_rfl
  rw [hC] at hlen
  match cs', hlen with
  | [c0, c1, c2], _ =>
    match xs, hl with
    | [y0, y1, y2], _ =>
      have g0 : DataW.trod enc Try.prog W 0 (fun _ => true) true m 22 [c0] = some y0 := hg 0 _ rfl
      have g1 : DataW.trod enc Try.prog W 0 (fun _ => true) true m 4 [c1] = some y1 := hg 1 _ rfl
      have g2 : DataW.trod enc Try.prog W 0 (fun _ => true) true m 5 [c2] = some y2 := hg 2 _ rfl
      obtain ⟨b, hb, _⟩ := DataW.trod_bool Try.underlying4 g1
      obtain ⟨k2, hk2, _, w2⟩ := DataW.trod_int Try.underlying5 g2
      injection hb with hb
      injection hk2 with hk2
      subst hb
      subst hk2
      have hy : y.1 = DataW.agg [y0.1, y1.1, y2.1] := congrArg Prod.fst hx
      rw [hy] at hr
      obtain ⟨A, c, R, rfl, h1, h2, h3, _⟩ := open_lst m g0 (hr.field (j := 0) Try.underlying55 rfl rfl)
      obtain ⟨x2, rfl⟩ := u8_inK w2
      refine ⟨⟨R, b, x2⟩, ⟨_, rfl, h1⟩, h2, fun u hu => ?_⟩
      simp at hu
      rcases hu with rfl | rfl | rfl <;> rfl
theorem open_crashes {b0 : Nat} {v : Value} {dd : DataW H} {p : List MemPlace} (hv : Value.okWide Try.prog W .any b0 53 v) (h : DataW.Trod enc Try.prog W 0 (fun _ => true) true 53 v dd p) (hr : Reach Try.prog 53 dd) :
    ∃ A c l, v = .slice A (List.length l) c ∧ RCrs (Old W) W (.slice A (List.length l) c) l ∧ (∀ x ∈ l, ∀ b ∈ x.recs, b.length ≤ 140737488355328) := by
  obtain ⟨C, n, c, rfl⟩ := okWide_slice Try.underlying53 hv
  obtain ⟨fuel, hf⟩ := h
  obtain ⟨u, l, hu, h1, h2, _, _⟩ := open_rsl (k := 3) (R := RCr (Old W)) (B := fun x => ∀ b ∈ x.recs, b.length ≤ 140737488355328) Try.underlying53 (by kernel_rfl) (by omega) hf hr open_crash
  simp [Value.cells] at hu
  subst hu
  have h1' : RCrs (Old W) W _ l := h1
  obtain ⟨A, cap, hf, _, _⟩ := RSl.form h1'
  rw [hf] at h1'
  exact ⟨A, cap, l, hf, h1', h2⟩
end

end Go.Proofs.Ytfmhnplkpohogaa
