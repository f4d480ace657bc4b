/- More laws of single operations: conversions of numbers, remainders, indices into arrays, loads of three cells; the rows of acts. -/
import Derived.Test.YtklhgghlkidfjaaLawA
namespace Go.Proofs.Ytklhgghlkidfjaa
open Go.RowKit

variable {S S' : Nat → Prop}

section
variable {P : Program} {W : World} {ρ : Operand → Value} {d : Option Nat} {t : TypeId} {p : String} {af : Array Edge} {g : Option (Nat × Bool)}
theorem rn_conv {src dst : TypeId} {x : Operand} {k k2 : IntKind} {n : Int} {td : TypeDesc} (hs : P.underlying src = some td) (hu : P.underlying dst = some (.int k2)) (hx : ρ x = .int k n) (hw : k2.wrap n = n) :
    (execOp ρ ⟨d, .convert src dst x, t, p, af, g⟩).run P W = .ok (.value (.int k2 n)) W := by
  simp [execOp, hx, convert, run_underlying hs, run_underlying hu, Conv.intToInt, hw]
theorem rn_rem {x y : Operand} {xt yt : TypeId} {k : IntKind} {n1 n2 : Int} (hx : ρ x = .int k n1) (hy : ρ y = .int k n2) (h1 : 0 ≤ n1) (h2 : 0 < n2) : (execOp ρ ⟨d, .binOp .rem xt x y yt, t, p, af, g⟩).run P W = .ok (.value (.int k (n1 % n2))) W :=
  rn_bin hx hy guard_int (by simp only [binOp, Op.intDiv, if_neg (by omega : ¬ n2 = 0), Int.tmod_eq_emod_of_nonneg h1, ne_eq, not_true_eq_false, if_false, Sem.run_pure])
theorem rn_indexArr {s e : TypeId} {x y : Operand} {b off L : Nat} {kd : IntKind} {n : Int} (hu : P.underlying s = some (.array L e)) (hi : (P.info? e).map (·.size) = some 1) (hx : ρ x = .pointer (some ⟨b, off, none⟩)) (hy : ρ y = .int kd n) (h0 : 0 ≤ n) (h1 : n < L) :
    (execOp ρ ⟨d, .indexAddr s x y, t, p, af, g⟩).run P W = .ok (.value (.pointer (some ⟨b, off + n.toNat, none⟩))) W := by
  cases hq : P.info? e with
  | none => simp [hq] at hi
  | some i =>
    have hs : i.size = 1 := by simpa [hq] using hi
    simp [execOp, Instr.indexAt, Instr.sureAddr, hx, hy, asIntOf, run_underlying hu, sizeOf, typeInfo, hq, hs, h0, h1, addr_add]
theorem rn_load3 {s : TypeId} {x : Operand} {b o : Nat} {u0 u1 u2 : Value} {td : TypeDesc} (hx : ρ x = .pointer (some ⟨b, o, none⟩)) (hu : P.underlying s = some td) (hd : aggTy td = true) (hi : (P.info? s).map (·.size) = some 3)
    (h0 : W.cell? ⟨b, o, none⟩ = some u0) (h1 : W.cell? ⟨b, o + 1, none⟩ = some u1) (h2 : W.cell? ⟨b, o + 2, none⟩ = some u2) : (execOp ρ ⟨d, .load s x, t, p, af, g⟩).run P W = .ok (.value (.agg #[u0, u1, u2])) W := by
  have ha : (isAgg s).run P W = .ok true W := by cases td <;> simp_all [isAgg, run_underlying hu, aggTy]
  have hl := run_loadCells_list (P := P) W ⟨b, o, none⟩ [u0, u1, u2] (fun j v hv => by
    rw [addr_add]
    match j, hv with
    | 0, hv => simp at hv; rw [← hv]; exact h0
    | 1, hv => simp at hv; rw [← hv]; exact h1
    | 2, hv => simp at hv; rw [← hv]; exact h2)
  simp at hl
  simp [execOp, Instr.loadAt, Instr.sureAddr, loadVar, hx, ha, size_of hi, hl]
end
/-! arrays of bytes -/
theorem box_arr {P : Program} {W : World} {s : TypeId} (cs : List Value) : (Instr.box s (.agg cs.toArray)).run P W = .ok (.pointer (some ⟨W.heap.size, 0, none⟩)) (W.alloc (.cells cs.toArray s)) := by
  simp [Instr.box, newVar, Value.cells, go_sem]
theorem byteVals_len {la : List UInt8} {n : Nat} (h : la.length = n) : (byteVals la).length = n := by simp [byteVals, h]
theorem blk_byte {W : World} {g : Nat} {t : TypeId} {la : List UInt8} (h : Blk W g t (byteVals la)) {j i : Nat} (hj : j = i) (hi : i < la.length) : W.cell? ⟨g, j, none⟩ = some (.int .u8 ((la.getD i 0).toNat : Nat)) := by
  subst hj
  rw [h.rule.1]
  simp [byteVals, List.getD_eq_getElem?_getD, List.getElem?_eq_getElem hi]
theorem byteVals_set {la : List UInt8} {j i : Nat} {x : UInt8} (hj : j = i) : (byteVals la).set j (.int .u8 (x.toNat : Nat)) = byteVals (la.set i x) := by
  subst hj; simp [byteVals, List.map_set]
theorem i64_nat (n : Nat) (h : n < 9223372036854775808) : IntKind.i64.wrap (n : Int) = n := IntWalk.i64_in _ ⟨by omega, by omega⟩

/-- An act: a sync, where, which byte. -/
structure Ac where
  sync : Bool
  at_ : UInt8
  byte : UInt8
def acCells (x : Ac) : List Value := [.bool x.sync, .int .u8 (x.at_.toNat : Nat), .int .u8 (x.byte.toNat : Nat)]
def RAc (_ : World) (cs : List Value) (x : Ac) : Prop := cs = acCells x
def RAcs (S : Nat → Prop) (w : World) (v : Value) (l : List Ac) : Prop := RSl S 3 RAc w v l
theorem RAcs.ext {w w' : World} {v : Value} {l : List Ac} (h : RAcs S w v l) (he : Ext w w') : RAcs S w' v l := RSl.ext h he fun _ _ h => h
theorem RAcs.pres {w w' : World} {v : Value} {l : List Ac} (h : RAcs S w v l) (hp : Pres S w w') : RAcs S w' v l := RSl.keep h hp.1 hp.2 fun _ _ h => h
theorem RAcs.get {w : World} {A : Option Addr} {n cap : Nat} {l : List Ac} (h : RAcs S w (.slice A n cap) l) {i : Nat} {x : Ac} (hi : l[i]? = some x) :
    ∃ b off, A = some ⟨b, off, none⟩ ∧ b < w.heap.size ∧ w.cell? ⟨b, off + i * 3, none⟩ = some (.bool x.sync) ∧ w.cell? ⟨b, off + i * 3 + 1, none⟩ = some (.int .u8 (x.at_.toNat : Nat)) ∧ w.cell? ⟨b, off + i * 3 + 2, none⟩ = some (.int .u8 (x.byte.toNat : Nat)) := by
  obtain ⟨hl, rfl⟩ := List.getElem?_eq_some_iff.1 hi
  obtain ⟨hn, _, hx⟩ := RSl.elem h
  obtain ⟨b, off, ha, hb, hc⟩ := hx (by omega)
  obtain ⟨cs, _, hcs, hr⟩ := hc i hl
  unfold RAc acCells at hr
  subst hr
  exact ⟨b, off, ha, hb, by simpa using hcs 0 _ rfl, by simpa using hcs 1 _ rfl, by simpa using hcs 2 _ rfl⟩

def acsCells (l : List Ac) : List Value := l.flatMap acCells
theorem acs_snoc (l : List Ac) (x : Ac) : acsCells (l ++ [x]) = acsCells l ++ acCells x := by simp [acsCells]
theorem acs_chunk (l : List Ac) : ∀ (i : Nat) (h : i < l.length), chunk 3 (acsCells l) i = acCells l[i] := by
  induction l with
  | nil => intro i h; simp at h
  | cons a l ih =>
    intro i h
    cases i with
    | zero => rfl
    | succ i =>
      have := ih i (by simpa using h)
      unfold chunk at this ⊢
      rw [show acsCells (a :: l) = acCells a ++ acsCells l from rfl, show (i + 1) * 3 = (acCells a).length + i * 3 by simp [acCells]; omega, ← List.drop_drop, List.drop_left]
      simpa using this
theorem acs_own {W : World} {base : Nat} {e : TypeId} {v : Value} {l : List Ac} (h : W.ownsRow base e 3 v l.length (acsCells l)) : RAcs (fun b => base ≤ b) W v l := by
  refine RSl.own h (fun b hb => hb) rfl (fun u hu => ?_) (fun i hi => acs_chunk l i hi)
  simp only [acsCells, List.mem_flatMap, acCells, List.mem_cons, List.not_mem_nil, or_false] at hu
  obtain ⟨a, _, rfl | rfl | rfl⟩ := hu <;> rfl
theorem elActs : El Try.prog 43 46 (.agg #[.bool false, .int .u8 0, .int .u8 0]) 3 3 := ⟨Try.underlying43, by kernel_rfl, rfl, by omega⟩

end Go.Proofs.Ytklhgghlkidfjaa
