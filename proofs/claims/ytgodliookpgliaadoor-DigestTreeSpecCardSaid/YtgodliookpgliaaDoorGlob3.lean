/- The package variables of digest, as the rows list them. -/
import Derived.Test.YtgodliookpgliaaDoorRows
import Derived.Test.YtgodliookpgliaaDoorDigP
import Derived.Test.YtgodliookpgliaaDoorLaidA
import Derived.LaidMore
import Derived.MakeChecks
import Derived.LaidLaws
import Derived.LaidHandle
import Derived.KernelRfl
namespace Go.Proofs.YtgodliookpgliaaDoor
open Go.RowKit Go.ChangeShapes Go.WideShapes

def laid3 : List (String × DataW Unit) := [("stopwatch/digest.start", Rows.laid_stopwatch_digest_start), ("stopwatch/digest.permutations", Rows.laid_stopwatch_digest_permutations)]
theorem cells_of {W : World} {g : Nat} {cs : List Value} (h : ∀ j, W.cell? ⟨g, j, none⟩ = cs[j]?) (hlt : 0 < cs.length) (h1 : ∀ u ∈ cs, u.oneCell' = true) : Cel W 1 (some ⟨g, 0, none⟩) cs.length cs := by
  refine ⟨by omega, h1, fun _ => ⟨g, 0, rfl, ?_, fun j u hu => by rw [Nat.zero_add, h j]; exact hu⟩⟩
  have h0 := h 0
  rw [List.getElem?_eq_getElem hlt] at h0
  exact World.block_lt_of_cell? W ⟨g, 0, none⟩ h0
theorem glob_of_laid {W : World} (h : laidMetH Tryd.prog laid3 W) : Glob W := by
  rw [MakeChecks.laidMetH_plain _ _ _ (by kernel_rfl)] at h
  obtain ⟨ps, ⟨g0, t0, cs0, f0, p0, q0, hg0, ht0, hv0, hd0, ⟨g1, t1, cs1, f1, p1, q1, hg1, ht1, hv1, hd1, _, _⟩, _⟩, _, _⟩ := h
  obtain rfl := Option.some.inj ((show Tryd.prog.globalNamed "stopwatch/digest.start" = some 0 by kernel_rfl).symm.trans hg0)
  obtain rfl := Option.some.inj ((show Tryd.prog.globalNamed "stopwatch/digest.permutations" = some 1 by kernel_rfl).symm.trans hg1)
  obtain rfl := Option.some.inj ((show (Tryd.prog.globals[0]?).map (·.type) = some 48 by kernel_rfl).symm.trans ht0)
  obtain rfl := Option.some.inj ((show (Tryd.prog.globals[1]?).map (·.type) = some 68 by kernel_rfl).symm.trans ht1)
  have e0 : cs0.toList = u32Vals iv := (trod_nums (k := .u32) (n := 8) (l := iv.map fun c => ((c.toNat : Nat) : Int)) Tryd.underlying48 Tryd.underlying47 (by kernel_rfl) (by kernel_rfl) hd0).trans rfl
  have e1 : cs1.toList = byteVals permB := (trod_rows (k := .u8) (n := 10) (m := 16) (l := perms.map fun r => r.map fun (c : Nat) => (c : Int)) Tryd.underlying68 Tryd.underlying67 Tryd.underlying5 (by kernel_rfl) (by kernel_rfl) (by kernel_rfl) hd1).trans (by kernel_rfl)
  constructor
  · have h0 := cells_of (W := W) (g := 0) (cs := cs0.toList) (fun j => by rw [World.var?_cell hg0 hv0 j]; simp) (by rw [e0]; decide) (by rw [e0]; exact u32Vals_one _)
    rw [e0] at h0
    exact h0
  · have h1 := cells_of (W := W) (g := 1) (cs := cs1.toList) (fun j => by rw [World.var?_cell hg1 hv1 j]; simp) (by rw [e1, byteVals_len permB_len]; decide) (by rw [e1]; exact byteVals_one _)
    rw [e1, byteVals_len permB_len] at h1
    exact h1
/-- The door's own heap meets the condition. -/
theorem door_met (os : Os) (args : Array Value) : laidMetH Tryd.prog laid3 ((World.doorLaid Tryd.prog 400 os).forCall (fun _ _ => 0) ⟨#[], args, []⟩).memory :=
  laidMetH_of_parts (laidMet_of_run' 8 (by kernel_rfl) (by kernel_rfl)) (by kernel_rfl)
theorem own3 : ownKnob Tryd.prog.godebug = none := by kernel_rfl

end Go.Proofs.YtgodliookpgliaaDoor
