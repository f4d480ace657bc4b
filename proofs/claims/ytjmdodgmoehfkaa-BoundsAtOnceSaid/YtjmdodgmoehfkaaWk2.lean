/- More laws for single operations: parts of slices, structs of two cells in the middle of a row. No program in sight. -/
import Derived.Test.YtjmdodgmoehfkaaWk
namespace Go.Proofs.Ytjmdodgmoehfkaa
open Go.RowKit

theorem exit_then {K : Act → World → Prop} {Q : Exit → Act → World → Prop} {a : Act} {w : World} {id : Nat} (h : Q (.exit id) a w) : Exit.then K Q (.exit id) a w := h

theorem own_lt {w : World} {base : Nat} {e : TypeId} {k g n cap : Nat} {xs : List Value} (h : w.ownsRow base e k (.slice (some ⟨g, 0, none⟩) n cap) n xs) : base ≤ g ∧ g < w.heap.size ∧ n ≤ cap ∧ cap ≤ 9223372036854775807 := by
  rcases h.2 with ⟨h', _⟩ | ⟨g', cap', cur, h', hb, hg, hnc, hcm, _⟩
  · cases h'
  · cases h'
    exact ⟨hb, (Array.getElem?_eq_some_iff.1 hg).1, hnc, by simpa [maxLen] using hcm⟩
theorem own_grownE {w w' : World} {base : Nat} {e : TypeId} {k g m cap : Nat} {xs : List Value} {n : Nat} (h : w.ownsRow base e k (.slice (some ⟨g, 0, none⟩) m cap) m xs) (hg : w.grownBy w' (some n)) (hn : g ≠ n) : w'.ownsRow base e k (.slice (some ⟨g, 0, none⟩) m cap) m xs :=
  h.kept hg (.inr (fun e => hn (Option.some.inj e)))
/-- append, with where its row lies. -/
theorem o_appE {N : Nat} {m : List (Nat × Value)} {a : Act} {P : Program} {ops : Array Oper} {Q : Exit → Act → World → Prop} {i : Nat} {w : World} {o : Oper} {v : Value} {K : Act → World → Prop} {d : Nat} {t e : TypeId} {z : Value} {k bytes : Nat} (E : El P t e z k bytes) (hF : Sl N m a) (ho : ops[i]? = some o) (hw : Region.wanted o (yielded ops a.tmps) = true) (hd : o.dst = some d) (hN : Nat.blt d N = true) {s x : Operand}
    (hop : o.op = .call { callee := .builtin .append, args := #[s, x], argTypes := #[t, t] }) (hs : a.eval s = v) {A : Option Addr} {n2 c : Nat} (hx : a.eval x = .slice A n2 c)
    {base n : Nat} {xs ys : List Value} (hown : w.ownsRow base e k v n xs) (hr : Cel w k A n2 ys) (hbase : base ≤ w.heap.size)
    (h63 : n + n2 ≤ 9223372036854775807) (hbytes : (n + n2) * bytes ≤ 140737488355328)
    (h : ∀ v' w' a', Sl N ((d, v') :: m) a' → w'.ownsRow base e k v' (n + n2) (xs ++ ys) → w.grownBy w' v.ownBlock → (v'.ownBlock = v.ownBlock ∨ v'.ownBlock = some w.heap.size) → K a' w') : wpOp P ops Q i K a w :=
  op_app E ho hw hop hs hx hown hr hbase h63 hbytes fun v' w' h1 h2 h3 => h v' w' _ (by rw [hd]; exact hF.put hN) h1 h2 h3

section
variable {P : Program} {ρ : Operand → Value} {W : World} {d : Option Tmp} {t : TypeId} {p : String} {af : Array Edge} {g : Option (Nat × Bool)} {v : Value}

theorem add_zero_addr (A : Option Addr) : A.map (fun a => a.add 0) = A := by cases A <;> simp [Addr.add]
theorem size_of {e : TypeId} {k : Nat} (hi : (P.info? e).map (·.size) = some k) : (sizeOf e).run P W = .ok k W := by
  cases hq : P.info? e with
  | none => simp [hq] at hi
  | some i => simp [hq] at hi; simp [sizeOf, typeInfo, hq, hi]
theorem bound_ok {k : IntKind} {n : Int} {y : Nat} {code : BoundsCode} (h0 : 0 ≤ n) (h1 : n ≤ y) : (Instr.sliceBound (.int k n) y code).run P W = .ok n.toNat W := by
  simp [Instr.sliceBound, asIntOf, h0, h1]
/-- x[:hi] -/
theorem rn_sliceHi {s e : TypeId} {x y : Operand} {A : Option Addr} {n c sz : Nat} {k : IntKind} {h : Int} (hu : P.underlying s = some (.slice e)) (hi : (P.info? e).map (·.size) = some sz) (hx : ρ x = .slice A n c) (hy : ρ y = .int k h) (h0 : 0 ≤ h) (h1 : h ≤ c) :
    (execOp ρ ⟨d, .slice s x none (some y) none, t, p, af, g⟩).run P W = .ok (.value (.slice A h.toNat c)) W := by
  have hz := add_zero_addr A
  simp [execOp, Instr.sliceAt, Instr.slice, Instr.sliceBounds, run_underlying hu, hx, hy, bound_ok h0 h1, size_of hi, hz]
/-- x[lo:] -/
theorem rn_sliceLo {s e : TypeId} {x y : Operand} {b off n c sz l : Nat} {k : IntKind} (hu : P.underlying s = some (.slice e)) (hi : (P.info? e).map (·.size) = some sz) (hx : ρ x = .slice (some ⟨b, off, none⟩) n c) (hy : ρ y = .int k (l : Int)) (h1 : l ≤ n) (h2 : l < c) :
    (execOp ρ ⟨d, .slice s x (some y) none none, t, p, af, g⟩).run P W = .ok (.value (.slice (some ⟨b, off + l * sz, none⟩) (n - l) (c - l))) W := by
  have hb : (Instr.sliceBound (.int k (l : Int)) n .sliceB).run P W = .ok l W := by rw [bound_ok (by omega) (by omega)]; simp
  have hne : c ≠ l := by omega
  simp [execOp, Instr.sliceAt, Instr.slice, Instr.sliceBounds, run_underlying hu, hx, hy, hb, size_of hi, hne, addr_add]
/-- A struct of two cells is loaded. -/
theorem rn_load2 {s : TypeId} {x : Operand} {b o : Nat} {u0 u1 : Value} {td : TypeDesc} (hx : ρ x = .pointer (some ⟨b, o, none⟩)) (hu : P.underlying s = some td) (hd : aggTy td = true) (hi : (P.info? s).map (·.size) = some 2)
    (h0 : W.cell? ⟨b, o, none⟩ = some u0) (h1 : W.cell? ⟨b, o + 1, none⟩ = some u1) : (execOp ρ ⟨d, .load s x, t, p, af, g⟩).run P W = .ok (.value (.agg #[u0, u1])) W := by
  have ha : (isAgg s).run P W = .ok true W := by cases td <;> simp_all [isAgg, run_underlying hu, aggTy]
  have hl := run_loadCells_list (P := P) W ⟨b, o, none⟩ [u0, u1] (fun j v hv => by
    rw [addr_add]
    match j, hv with
    | 0, hv => simp at hv; rw [← hv]; exact h0
    | 1, hv => simp at hv; rw [← hv]; exact h1)
  simp at hl
  simp [execOp, Instr.loadAt, Instr.sureAddr, loadVar, hx, ha, size_of hi, hl]
end
end Go.Proofs.Ytjmdodgmoehfkaa
