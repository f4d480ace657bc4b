/- More laws of single operations: conversions of numbers, remainders, indices into arrays, loads of three cells. -/
import Derived.Test.YtjmdodgmoehfkaaStr
namespace Go.Proofs.Ytjmdodgmoehfkaa
open Go.RowKit

variable {S S' : Nat → Prop}

section
variable {P : Program} {W : World} {ρ : Operand → Value} {d : Option Nat} {t : TypeId} {p : String} {af : Array Edge} {g : Option (Nat × Bool)}
theorem rn_conv {src dst : TypeId} {x : Operand} {k k2 : IntKind} {n : Int} {td : TypeDesc} (hs : P.underlying src = some td) (hu : P.underlying dst = some (.int k2)) (hx : ρ x = .int k n) (hw : k2.wrap n = n) :
    (execOp ρ ⟨d, .convert src dst x, t, p, af, g⟩).run P W = .ok (.value (.int k2 n)) W := by
  simp [execOp, hx, convert, run_underlying hs, run_underlying hu, Conv.intToInt, hw]
theorem rn_rem {x y : Operand} {xt yt : TypeId} {k : IntKind} {n1 n2 : Int} (hx : ρ x = .int k n1) (hy : ρ y = .int k n2) (h1 : 0 ≤ n1) (h2 : 0 < n2) : (execOp ρ ⟨d, .binOp .rem xt x y yt, t, p, af, g⟩).run P W = .ok (.value (.int k (n1 % n2))) W :=
  rn_bin hx hy guard_int (by simp only [binOp, Op.intDiv, if_neg (by omega : ¬ n2 = 0), Int.tmod_eq_emod_of_nonneg h1, ne_eq, not_true_eq_false, if_false, Sem.run_pure])
theorem rn_indexArr {s e : TypeId} {x y : Operand} {b off L : Nat} {kd : IntKind} {n : Int} (hu : P.underlying s = some (.array L e)) (hi : (P.info? e).map (·.size) = some 1) (hx : ρ x = .pointer (some ⟨b, off, none⟩)) (hy : ρ y = .int kd n) (h0 : 0 ≤ n) (h1 : n < L) :
    (execOp ρ ⟨d, .indexAddr s x y, t, p, af, g⟩).run P W = .ok (.value (.pointer (some ⟨b, off + n.toNat, none⟩))) W := by
  cases hq : P.info? e with
  | none => simp [hq] at hi
  | some i =>
    have hs : i.size = 1 := by simpa [hq] using hi
    simp [execOp, Instr.indexAt, Instr.sureAddr, hx, hy, asIntOf, run_underlying hu, sizeOf, typeInfo, hq, hs, h0, h1, addr_add]
theorem rn_load3 {s : TypeId} {x : Operand} {b o : Nat} {u0 u1 u2 : Value} {td : TypeDesc} (hx : ρ x = .pointer (some ⟨b, o, none⟩)) (hu : P.underlying s = some td) (hd : aggTy td = true) (hi : (P.info? s).map (·.size) = some 3)
    (h0 : W.cell? ⟨b, o, none⟩ = some u0) (h1 : W.cell? ⟨b, o + 1, none⟩ = some u1) (h2 : W.cell? ⟨b, o + 2, none⟩ = some u2) : (execOp ρ ⟨d, .load s x, t, p, af, g⟩).run P W = .ok (.value (.agg #[u0, u1, u2])) W := by
  have ha : (isAgg s).run P W = .ok true W := by cases td <;> simp_all [isAgg, run_underlying hu, aggTy]
  have hl := run_loadCells_list (P := P) W ⟨b, o, none⟩ [u0, u1, u2] (fun j v hv => by
    rw [addr_add]
    match j, hv with
    | 0, hv => simp at hv; rw [← hv]; exact h0
    | 1, hv => simp at hv; rw [← hv]; exact h1
    | 2, hv => simp at hv; rw [← hv]; exact h2)
  simp at hl
  simp [execOp, Instr.loadAt, Instr.sureAddr, loadVar, hx, ha, size_of hi, hl]
end
/-! arrays of bytes -/
theorem box_arr {P : Program} {W : World} {s : TypeId} (cs : List Value) : (Instr.box s (.agg cs.toArray)).run P W = .ok (.pointer (some ⟨W.heap.size, 0, none⟩)) (W.alloc (.cells cs.toArray s)) := by
  simp [Instr.box, newVar, Value.cells, go_sem]
theorem byteVals_len {la : List UInt8} {n : Nat} (h : la.length = n) : (byteVals la).length = n := by simp [byteVals, h]
theorem blk_byte {W : World} {g : Nat} {t : TypeId} {la : List UInt8} (h : Blk W g t (byteVals la)) {j i : Nat} (hj : j = i) (hi : i < la.length) : W.cell? ⟨g, j, none⟩ = some (.int .u8 ((la.getD i 0).toNat : Nat)) := by
  subst hj
  rw [h.rule.1]
  simp [byteVals, List.getD_eq_getElem?_getD, List.getElem?_eq_getElem hi]
theorem byteVals_set {la : List UInt8} {j i : Nat} {x : UInt8} (hj : j = i) : (byteVals la).set j (.int .u8 (x.toNat : Nat)) = byteVals (la.set i x) := by
  subst hj; simp [byteVals, List.map_set]
theorem i64_nat (n : Nat) (h : n < 9223372036854775808) : IntKind.i64.wrap (n : Int) = n := IntWalk.i64_in _ ⟨by omega, by omega⟩

end Go.Proofs.Ytjmdodgmoehfkaa
