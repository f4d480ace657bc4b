/- How the arguments of chapter 15's laws open. -/
import Derived.Test.YtjmdodgmoehfkaaFrame
import Derived.Test.YtjmdodgmoehfkaaRecOpen
import Derived.Test.YtjmdodgmoehfkaaBndA
import Derived.Lib.SmallJoins
namespace Go.Proofs.Ytjmdodgmoehfkaa
open Go.RowKit Go.ChangeShapes Go.WideShapes Go.ChangeAt Go.Deep Go.Joins

section
variable {H : Type} {enc : TypeId × Value → H} {W : World}
theorem open_edge (n : Nat) (cs' : List Value) (y : DataW H × List MemPlace) (h : DataW.trod enc Try.prog W 0 (fun _ => true) true n 41 cs' = some y) (_ : Reach Try.prog 41 y.1) :
    ∃ x : E3, (fun (_ : World) cs x => cs = edCells x) W cs' x ∧ True ∧ OneC cs' := by
  obtain ⟨xs, m, _, hx, hlen, hl, hg⟩ := DataW.trod_struct Try.underlying41 h
  have hC : Try.prog.cellsOf 41 = 3 := by kernel_rfl
  rw [hC] at hlen
  match cs', hlen with
  | [c0, c1, c2], _ =>
    match xs, hl with
    | [y0, y1, y2], _ =>
      have g0 : DataW.trod enc Try.prog W 0 (fun _ => true) true m 3 [c0] = some y0 := hg 0 _ rfl
      have g1 : DataW.trod enc Try.prog W 0 (fun _ => true) true m 3 [c1] = some y1 := hg 1 _ rfl
      have g2 : DataW.trod enc Try.prog W 0 (fun _ => true) true m 3 [c2] = some y2 := hg 2 _ rfl
      obtain ⟨k0, hk0, _, _⟩ := DataW.trod_int Try.underlying3 g0
      obtain ⟨k1, hk1, _, _⟩ := DataW.trod_int Try.underlying3 g1
      obtain ⟨k2, hk2, _, _⟩ := DataW.trod_int Try.underlying3 g2
      injection hk0 with hk0
      injection hk1 with hk1
      injection hk2 with hk2
      subst hk0 hk1 hk2
      refine ⟨⟨k0, k1, k2⟩, rfl, trivial, fun u hu => ?_⟩
      simp at hu
      rcases hu with rfl | rfl | rfl <;> rfl
theorem open_int1 (n : Nat) (cs' : List Value) (y : DataW H × List MemPlace) (h : DataW.trod enc Try.prog W 0 (fun _ => true) true n 3 cs' = some y) (_ : Reach Try.prog 3 y.1) :
    ∃ x : Int, (fun (_ : World) cs x => cs = [Value.int .i64 x]) W cs' x ∧ True ∧ OneC cs' := by
  obtain ⟨k0, hk0, _, _⟩ := DataW.trod_int Try.underlying3 h
  subst hk0
  exact ⟨k0, rfl, trivial, fun u hu => by simp at hu; subst hu; rfl⟩
theorem rec_ints (l : List Int) : recVals (fun x => [Value.int .i64 x]) l = intVals l := by
  induction l with
  | nil => rfl
  | cons x l ih => rw [recVals_cons, ih]; rfl
theorem open_ints {b0 : Nat} {v : Value} {dd : DataW H} {p : List MemPlace} (hv : Value.okWide Try.prog W .any b0 25 v) (h : DataW.Trod enc Try.prog W 0 (fun _ => true) true 25 v dd p) (hr : Reach Try.prog 25 dd) :
    ∃ C f l, v = .slice C l.length f ∧ Fl (Old W) W 1 (.slice C l.length f) l.length (intVals l) := by
  obtain ⟨C, n, c, rfl⟩ := okWide_slice Try.underlying25 hv
  obtain ⟨fuel, hf⟩ := h
  obtain ⟨u, l, hu, h1, _, _, _⟩ := open_rsl (k := 1) (R := fun (_ : World) cs x => cs = [Value.int .i64 x]) (B := fun _ => True) Try.underlying25 (by kernel_rfl) (by omega) hf hr open_int1
  simp [Value.cells] at hu
  subst hu
  have h2 := RSl.recFl (f := fun x => [Value.int .i64 x]) (k := 1) (fun _ => rfl) h1
  rw [rec_ints] at h2
  obtain ⟨A, cap, hf, _⟩ := h2.form
  rw [hf] at h2
  exact ⟨A, cap, l, hf, h2⟩
theorem open_sys {b0 : Nat} {v : Value} {dd : DataW H} {p : List MemPlace} (hv : Value.okWide Try.prog W .any b0 24 v) (h : DataW.Trod enc Try.prog W 0 (fun _ => true) true 24 v dd p) (hr : Reach Try.prog 24 dd) :
    ∃ A c n l, v = .agg #[.int .i64 n, .slice A l.length c] ∧ Fl (Old W) W 3 (.slice A l.length c) l.length (edVals l) := by
  obtain ⟨v0, v1, y0, y1, n, rfl, rfl, _, g0, g1⟩ := open_agg2 Try.underlying24 (by kernel_rfl) (by kernel_rfl) hv h
  obtain ⟨k, hk, _, _⟩ := DataW.trod_int Try.underlying3 g0
  injection hk with hk
  subst hk
  obtain ⟨u, l, hu, h1, _, _, _⟩ := open_rsl (k := 3) (R := fun (_ : World) cs x => cs = edCells x) (B := fun _ => True) Try.underlying22 (by kernel_rfl) (by omega) g1 (hr.field (j := 1) Try.underlying24 rfl rfl) open_edge
  injection hu with hu
  subst hu
  have h2 := RSl.recFl (f := edCells) (k := 3) edCells_k h1
  obtain ⟨A, c, rfl, _⟩ := h2.form
  exact ⟨A, c, k, l, rfl, h2⟩
theorem open_edarg {b0 : Nat} {v : Value} {dd : DataW H} {p : List MemPlace} (hv : Value.okWide Try.prog W .any b0 41 v) (h : DataW.Trod enc Try.prog W 0 (fun _ => true) true 41 v dd p) :
    ∃ a b w : Int, v = .agg #[.int .i64 a, .int .i64 b, .int .i64 w] := by
  obtain ⟨v0, v1, v2, y0, y1, y2, n, rfl, rfl, _, g0, g1, g2⟩ := open_agg3 Try.underlying41 (by kernel_rfl) (by kernel_rfl) hv h
  obtain ⟨k0, hk0, _, _⟩ := DataW.trod_int Try.underlying3 g0
  obtain ⟨k1, hk1, _, _⟩ := DataW.trod_int Try.underlying3 g1
  obtain ⟨k2, hk2, _, _⟩ := DataW.trod_int Try.underlying3 g2
  injection hk0 with hk0
  injection hk1 with hk1
  injection hk2 with hk2
  subst hk0 hk1 hk2
  exact ⟨_, _, _, rfl⟩
end
end Go.Proofs.Ytjmdodgmoehfkaa
