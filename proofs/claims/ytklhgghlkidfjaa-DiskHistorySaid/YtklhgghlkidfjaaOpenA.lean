/- How a script opens. -/
import Derived.Test.YtklhgghlkidfjaaOpen38
import Derived.Test.YtklhgghlkidfjaaWk3
namespace Go.Proofs.Ytklhgghlkidfjaa
open Go.RowKit Go.ChangeShapes Go.WideShapes Go.ChangeAt Go.Deep Go.Joins

section
variable {H : Type} {enc : TypeId × Value → H} {W : World}

theorem u8_in {n : Int} (h : (Lit.int .u8 n).wf = true) : 0 ≤ n ∧ n ≤ 255 := by
  simp only [Lit.wf, Bool.and_eq_true, decide_eq_true_eq] at h
  exact h
theorem open_u8 {n : Int} (h : (Lit.int .u8 n).wf = true) : ∃ x : UInt8, n = (x.toNat : Nat) := by
  have h1 := u8_in h
  exact ⟨UInt8.ofNat n.toNat, by rw [UInt8.toNat_ofNat_of_lt' (by simp; omega)]; omega⟩

theorem open_act (n : Nat) (cs' : List Value) (y : DataW H × List MemPlace) (h : DataW.trod enc Try.prog W 0 (fun _ => true) true n 46 cs' = some y) (_ : Reach Try.prog 46 y.1) :
    ∃ x : Ac, RAc W cs' x ∧ True ∧ OneC cs' := by
  obtain ⟨xs, m, _, hx, hlen, hl, hg⟩ := DataW.trod_struct Try.underlying46 h
  have hC : Try.prog.cellsOf 46 = 3 := by kernel_rfl
  rw [hC] at hlen
  match cs', hlen with
  | [c0, c1, c2], _ =>
    match xs, hl with
    | [y0, y1, y2], _ =>
      have g0 : DataW.trod enc Try.prog W 0 (fun _ => true) true m 4 [c0] = some y0 := hg 0 _ rfl
      have g1 : DataW.trod enc Try.prog W 0 (fun _ => true) true m 5 [c1] = some y1 := hg 1 _ rfl
      have g2 : DataW.trod enc Try.prog W 0 (fun _ => true) true m 5 [c2] = some y2 := hg 2 _ rfl
      obtain ⟨b, hb, _⟩ := DataW.trod_bool Try.underlying4 g0
      obtain ⟨k1, hk1, _, w1⟩ := DataW.trod_int Try.underlying5 g1
      obtain ⟨k2, hk2, _, w2⟩ := DataW.trod_int Try.underlying5 g2
      injection hb with hb
      injection hk1 with hk1
      injection hk2 with hk2
      subst hb
      subst hk1
      subst hk2
      obtain ⟨x1, rfl⟩ := open_u8 w1
      obtain ⟨x2, rfl⟩ := open_u8 w2
      refine ⟨⟨b, x1, x2⟩, rfl, trivial, fun u hu => ?_⟩
      simp at hu
      rcases hu with rfl | rfl | rfl <;> rfl

theorem open_script {b0 : Nat} {v : Value} {dd : DataW H} {p : List MemPlace} (hv : Value.okWide Try.prog W .any b0 43 v) (h : DataW.Trod enc Try.prog W 0 (fun _ => true) true 43 v dd p) (hr : Reach Try.prog 43 dd) :
    ∃ C f l, v = .slice C l.length f ∧ RAcs (Old W) W (.slice C l.length f) l := by
  obtain ⟨C, n, c, rfl⟩ := okWide_slice Try.underlying43 hv
  obtain ⟨fuel, hf⟩ := h
  obtain ⟨u, l, hu, h1, _, _, _⟩ := open_rsl (k := 3) (R := RAc) (B := fun _ => True) Try.underlying43 (by kernel_rfl) (by omega) hf hr open_act
  simp [Value.cells] at hu
  subst hu
  have h1' : RAcs (Old W) W _ l := h1
  obtain ⟨A, cap, hf, _, _⟩ := RSl.form h1'
  rw [hf] at h1'
  exact ⟨A, cap, l, hf, h1'⟩

end
end Go.Proofs.Ytklhgghlkidfjaa
