/- What a package variable that is an array of numbers, or an array of such arrays, holds, if it reads as a datum. No program in sight. -/
import Derived.OpenShut
import Derived.Test.YtgodliookpgliaaDoorBase
namespace Go.Proofs.YtgodliookpgliaaDoor
open Go.RowKit Go.ChangeShapes Go.WideShapes

section
variable {H : Type} {enc : TypeId × Value → H} {P : Program} {w : World} {base : Nat} {spare : Nat → Bool} {held : Bool}
theorem trod_nums {k : IntKind} {t e : TypeId} {n fuel : Nat} {cs : List Value} {l : List Int} {q : List MemPlace} (ht : P.underlying t = some (.array n e)) (he : P.underlying e = some (.int k)) (hc1 : P.cellsOf e = 1) (hct : P.cellsOf t = n)
    (h : DataW.trod enc P w base spare held fuel t cs = some (.agg (l.map fun x => .lit (.int k x)), q)) : cs = l.map (.int k) := by
  obtain ⟨xs, m, _, hx, hlen, hn, hel⟩ := DataW.trod_array ht h
  injection hx with hx1 hx2
  injection hx1 with hx1
  have hl : l.length = n := by have := congrArg List.length hx1; simp at this; omega
  rw [hct] at hlen
  apply List.ext_getElem (by simp; omega)
  intro i h1 h2
  have hi : i < n := by omega
  have h3 := hel i hi
  rw [hc1, Nat.mul_one, List.drop_eq_getElem_cons h1, List.take_succ_cons, List.take_zero, List.getElem?_eq_getElem (by omega)] at h3
  obtain ⟨z, e1, e2, _⟩ := DataW.trod_int he h3
  have h4 := congrArg (fun l => l[i]?) hx1
  simp only [List.getElem?_map, List.getElem?_eq_getElem (show i < l.length by omega), List.getElem?_eq_getElem (show i < xs.length by omega), Option.map_some, Option.some.injEq, e2] at h4
  injection h4 with h4
  injection h4 with h4 h5
  injection e1 with e1
  rw [e1, List.getElem_map, h5]
theorem chunks_eq {α : Type} : ∀ (rows : List (List α)) (m : Nat) (cs : List α), cs.length = rows.length * m → (∀ i (h : i < rows.length), (cs.drop (i * m)).take m = rows[i]) → cs = rows.flatten
  | [], m, cs, hl, _ => by simpa using hl
  | r :: rows, m, cs, hl, h => by
    have h0 := h 0 (by simp)
    simp only [Nat.zero_mul, List.drop_zero, List.getElem_cons_zero] at h0
    have ih := chunks_eq rows m (cs.drop m) (by rw [List.length_drop, hl, List.length_cons, Nat.add_mul]; omega) (fun i hi => by
      have := h (i + 1) (by simpa using hi)
      rw [List.getElem_cons_succ] at this
      rw [List.drop_drop, show m + i * m = (i + 1) * m by rw [Nat.add_mul]; omega]
      exact this)
    rw [List.flatten_cons, ← ih, ← h0, List.take_append_drop]
theorem trod_rows {k : IntKind} {t e e2 : TypeId} {n m fuel : Nat} {cs : List Value} {l : List (List Int)} {q : List MemPlace} (ht : P.underlying t = some (.array n e)) (he : P.underlying e = some (.array m e2)) (he2 : P.underlying e2 = some (.int k)) (hc1 : P.cellsOf e2 = 1) (hce : P.cellsOf e = m) (hct : P.cellsOf t = n * m)
    (h : DataW.trod enc P w base spare held fuel t cs = some (.agg (l.map fun r => .agg (r.map fun x => .lit (.int k x))), q)) : cs = (l.map fun r => r.map (.int k)).flatten := by
  obtain ⟨xs, f, _, hx, hlen, hn, hel⟩ := DataW.trod_array ht h
  injection hx with hx1 hx2
  injection hx1 with hx1
  have hl : l.length = n := by have := congrArg List.length hx1; simp at this; omega
  refine chunks_eq _ m cs (by rw [hlen, hct, List.length_map, hl]) (fun i hi => ?_)
  have hi' : i < n := by simpa [hl] using hi
  have h3 := hel i hi'
  rw [hce, List.getElem?_eq_getElem (by omega)] at h3
  have h4 := congrArg (fun l => l[i]?) hx1
  simp only [List.getElem?_map, List.getElem?_eq_getElem (show i < l.length by omega), List.getElem?_eq_getElem (show i < xs.length by omega), Option.map_some, Option.some.injEq] at h4
  have h5 : DataW.trod enc P w base spare held f e ((cs.drop (i * m)).take m) = some (.agg ((l[i]'(by omega)).map fun x => .lit (.int k x)), (xs[i]'(by omega)).2) := by rw [h3, h4]
  rw [List.getElem_map]
  exact trod_nums he he2 hc1 hce h5
end
end Go.Proofs.YtgodliookpgliaaDoor
