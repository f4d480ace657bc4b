/- Single operations of a region that draws its order, each with what it leaves: new memory, an append, a store. -/
import Derived.Test.YtjmdodgmoehfkaaSeq
import Derived.Test.YtjmdodgmoehfkaaLoc
namespace Go.Proofs.Ytjmdodgmoehfkaa
open Go.RowKit

section
variable {P : Program} {ops : Array Oper} {Q : Exit → Act → World → Prop} {i : Nat} {a : Act} {w : World} {o : Oper} {K : Act → World → Prop}

/-- New memory: a variable, a literal, a made slice. -/
theorem op_new (f : Nat → Value) (cs : List Value) (T : TypeId) (ho : ops[i]? = some o) (hw : Region.wanted o (yielded ops a.tmps) = true)
    (hr : (execOp a.eval o).run P w = .ok (.value (f w.heap.size)) (w.alloc (.cells cs.toArray T)))
    (h : ∀ g w', w.heap.size = g → w'.heap.size = g + 1 → Blk w' g T cs → Ext w w' → K (a.put o.dst (f g)) w') : wpOp P ops Q i K a w :=
  op_run ho hw hr (h _ _ rfl (by simp) (Blk.new w _ _ _ rfl) ((Ext.refl _).alloc _))

theorem op_app {t e : TypeId} {z : Value} {k bytes : Nat} (E : El P t e z k bytes) (ho : ops[i]? = some o) (hw : Region.wanted o (yielded ops a.tmps) = true) {s x : Operand}
    (hop : o.op = .call { callee := .builtin .append, args := #[s, x], argTypes := #[t, t] })
    {v : Value} (hs : a.eval s = v) {A : Option Addr} {m c : Nat} (hx : a.eval x = .slice A m c)
    {base n : Nat} {xs ys : List Value} (hown : w.ownsRow base e k v n xs) (hr : Cel w k A m ys) (hbase : base ≤ w.heap.size)
    (h63 : n + m ≤ 9223372036854775807) (hbytes : (n + m) * bytes ≤ 140737488355328)
    (h : ∀ v' w', w'.ownsRow base e k v' (n + m) (xs ++ ys) → w.grownBy w' v.ownBlock → (v'.ownBlock = v.ownBlock ∨ v'.ownBlock = some w.heap.size) → K (a.put o.dst v') w') : wpOp P ops Q i K a w := by
  obtain ⟨v', w', hrun, h2, h3, h4⟩ := run_app (P := P) (ty := o.type) (c := c) E hown hr h63 hbytes hbase
  refine op_wp ho hw ?_
  unfold Oper.wp execOp
  simp only [hop, resolve, invoke, builtin, Sem.run_bind, Sem.run_pure, Result.andThen_ok, List.map_toArray, List.map_cons, List.map_nil, hs, hx, hrun]
  exact h v' w' h2 h3 h4

/-- A whole variable is stored. -/
theorem op_store {ty : TypeId} {x y : Operand} (ho : ops[i]? = some o) (hw : Region.wanted o (yielded ops a.tmps) = true) (hop : o.op = .store ty x y) {g : Nat} {t : TypeId} {old cells : List Value}
    (hx : a.eval x = .pointer (some ⟨g, 0, none⟩)) (hy : a.eval y = .agg cells.toArray) (hg : Blk w g t old) (hi : (P.info? ty).map (·.size) = some cells.length) (hl : old.length = cells.length) (h1 : ∀ u ∈ cells, u.oneCell' = true)
    (h : ∀ w', Blk w' g t cells → w.grownBy w' (some g) → K (a.put o.dst undef) w') : wpOp P ops Q i K a w := by
  have hr := run_storeVar_row (P := P) w g t ty old.toArray cells.toArray hg (by simpa using hi) (by simpa using hl) (by simpa using h1)
  refine op_do (w' := w.setRow g cells.toArray) ho hw ?_ (h _ (setRow_heap w g old.toArray cells.toArray t _ hg) ⟨rfl, rfl, rfl, by simp, fun k _ hk => setRow_other w g k _ (fun e => hk (by rw [e]))⟩)
  unfold execOp
  simp only [hop, hx, hy, Instr.storeAt, Instr.sureAddr, Sem.run_bind, Sem.run_pure, Result.andThen_ok, hr]

/-- One cell of a variable is stored. -/
theorem op_store1 {ty : TypeId} {x y : Operand} (ho : ops[i]? = some o) (hw : Region.wanted o (yielded ops a.tmps) = true) (hop : o.op = .store ty x y) {g j : Nat} {t : TypeId} {old : List Value} {u : Value}
    (hx : a.eval x = .pointer (some ⟨g, j, none⟩)) (hy : a.eval y = u) (hg : Blk w g t old) (hi : (P.info? ty).map (·.size) = some 1) (hj : j < old.length) (h1 : u.oneCell' = true)
    (h : ∀ w', Blk w' g t (old.set j u) → w.grownBy w' (some g) → K (a.put o.dst undef) w') : wpOp P ops Q i K a w := by
  have hr : (storeVar ty ⟨g, j, none⟩ u).run P w = .ok () (w.setCell ⟨g, j, none⟩ u) := run_storeVar_cell hi h1 (by rw [hg.rule.1]; exact List.getElem?_eq_getElem hj) (hg.rule.2 j)
  refine op_do (w' := w.setCell ⟨g, j, none⟩ u) ho hw ?_ (h _ (hg.set j u) (grown_setC (grown_rfl _ _)))
  unfold execOp
  simp only [hop, hx, hy, Instr.storeAt, Instr.sureAddr, Sem.run_bind, Sem.run_pure, Result.andThen_ok, hr]
end
end Go.Proofs.Ytjmdodgmoehfkaa
