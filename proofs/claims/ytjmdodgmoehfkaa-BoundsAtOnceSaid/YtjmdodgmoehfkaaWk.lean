/- A walk by laws: the slots of a frame as a list, one law for each kind of operation. No program in sight. -/
import Derived.Test.YtjmdodgmoehfkaaOps
import Derived.IntWalk
namespace Go.Proofs.Ytjmdodgmoehfkaa
open Go.RowKit

/-- What a slot holds, by a list (the newest first). -/
def look : List (Nat × Value) → Nat → Option Value
  | [], _ => none
  | (k, v) :: r, t => cond (Nat.beq k t) (some v) (look r t)

/-- The frame has N slots, nothing is deferred, and the slots of m hold what m says. -/
def Sl (N : Nat) (m : List (Nat × Value)) (a : Act) : Prop := a.tmps.size = N ∧ a.defers = [] ∧ ∀ t v, look m t = some v → a.eval (.tmp t) = v

def aggTy : TypeDesc → Bool | .struct _ => true | .array _ _ => true | _ => false

variable {N : Nat} {m : List (Nat × Value)} {a : Act}

theorem Sl.get (h : Sl N m a) {t : Nat} {v : Value} (e : look m t = some v) : a.eval (.tmp t) = v := h.2.2 t v e
theorem Sl.put (h : Sl N m a) {d : Nat} {v : Value} (hd : Nat.blt d N = true) : Sl N ((d, v) :: m) (a.put (some d) v) := by
  obtain ⟨h1, h2, h3⟩ := h
  have hd : d < a.tmps.size := by rw [h1]; simpa [Nat.blt_eq] using hd
  refine ⟨by simp [Act.put, h1], by simp [Act.put, h2], fun t u ht => ?_⟩
  simp only [look] at ht
  simp only [Act.eval, Act.put, Array.getD_eq_getD_getElem?, Array.getElem?_setIfInBounds]
  by_cases hdt : d = t
  · subst hdt
    rw [Nat.beq_refl] at ht
    injection ht with ht
    subst ht
    simp [hd]
  · have : Nat.beq d t = false := by rw [← Bool.not_eq_true]; simpa [Nat.beq_eq] using hdt
    rw [this] at ht
    rw [if_neg hdt]
    have := h3 t u ht
    simpa [Act.eval, Array.getD_eq_getD_getElem?] using this
theorem Sl.none (h : Sl N m a) {v : Value} : Sl N m (a.put Option.none v) := h
theorem Sl.nil (h : Sl N m a) : Sl N [] a := ⟨h.1, h.2.1, fun _ _ e => by cases e⟩
theorem Sl.cons {m' : List (Nat × Value)} (h : Sl N m' a) {t : Nat} {v : Value} (e : a.eval (.tmp t) = v) : Sl N ((t, v) :: m') a := by
  refine ⟨h.1, h.2.1, fun s u hs => ?_⟩
  simp only [look] at hs
  by_cases hst : t = s
  · subst hst
    rw [Nat.beq_refl] at hs
    injection hs with hs
    rw [← hs]; exact e
  · have : Nat.beq t s = false := by rw [← Bool.not_eq_true]; simpa [Nat.beq_eq] using hst
    rw [this] at hs
    exact h.2.2 s u hs
/-- The frame in which a call begins. -/
theorem Sl.start (args : Array Value) (n : Nat) : Sl (args.size + n) [] { tmps := args ++ Array.replicate n undef, defers := [] } := ⟨by simp, rfl, fun _ _ e => by cases e⟩
def argList : Nat → List Value → List (Nat × Value)
  | _, [] => []
  | k, v :: r => (k, v) :: argList (k + 1) r
theorem look_args : ∀ (l : List Value) (k t : Nat) (v : Value), look (argList k l) t = some v → k ≤ t ∧ l[t - k]? = some v
  | [], _, _, _, h => by cases h
  | u :: l, k, t, v, h => by
    simp only [argList, look] at h
    by_cases hk : k = t
    · subst hk
      rw [Nat.beq_refl] at h
      simpa using h
    · have : Nat.beq k t = false := by rw [← Bool.not_eq_true]; simpa [Nat.beq_eq] using hk
      rw [this] at h
      obtain ⟨h1, h2⟩ := look_args l (k + 1) t v h
      exact ⟨by omega, by rw [show t - k = (t - (k + 1)) + 1 from by omega]; simpa using h2⟩
theorem Sl.args (l : List Value) (n N : Nat) (hN : l.length + n = N) : Sl N (argList 0 l) { tmps := l.toArray ++ Array.replicate n undef, defers := [] } := by
  refine ⟨by simp [hN], rfl, fun t v e => ?_⟩
  obtain ⟨_, h⟩ := look_args l 0 t v e
  rw [Nat.sub_zero] at h
  have hl := (List.getElem?_eq_some_iff.1 h).1
  simp only [Act.eval, Array.getD_eq_getD_getElem?]
  rw [Array.getElem?_append_left (by simpa using hl)]
  simp [h]

theorem calls_enter {P : Program} {f : FuncId} {fn : Func} {c : Code} {l : List Value} {w : World} {R : Ending → World → Prop} (hf : P.funcs[f]? = some fn) (hb : fn.body = some c) (hn : fn.ntmps = N) (hl : Nat.ble l.length N = true)
    (h : ∀ a, Sl N (argList 0 l) a → c.wp P (bodyPost P fn R) a w) : Calls P f l.toArray w R := by
  refine calls_of_wp hf hb (h _ ?_)
  rw [hn]
  refine Sl.args l _ N ?_
  have : l.length ≤ N := by simpa using hl
  simp; omega

section
variable {P : Program} {ops : Array Oper} {Q : Exit → Act → World → Prop} {S : World → Prop} {F : Nat → Bool} {i : Nat} {w w' : World} {o : Oper} {v : Value} {K : Act → World → Prop} {d : Nat}

theorem wanted_guard {j dj : Nat} {b x : Bool} {oj : Oper} (hg : o.guard = some (j, b)) (hj : ops[j]? = some oj) (hd : oj.dst = some dj) (hF : Sl N m a) {y : Bool} (hv : look m dj = some (.bool y)) (hy : y = x) (hb : (x == b) = true) : Region.wanted o (yielded ops a.tmps) = true := by
  subst hy
  have h := hF.get hv
  simp only [Act.eval, Array.getD_eq_getD_getElem?] at h
  have h2 : a.tmps[dj]? = some (.bool y) := by
    cases hc : a.tmps[dj]? with
    | none => rw [hc] at h; cases h
    | some u => rw [hc] at h; rw [← h]; rfl
  have hb : y = b := by simpa using hb
  simp [Region.wanted, hg, yielded, hj, hd, h2, hb]
theorem unwanted_guard {j dj : Nat} {b x : Bool} {oj : Oper} (hg : o.guard = some (j, b)) (hj : ops[j]? = some oj) (hd : oj.dst = some dj) (hF : Sl N m a) {y : Bool} (hv : look m dj = some (.bool y)) (hy : y = x) (hb : (x == b) = false) : Region.wanted o (yielded ops a.tmps) = false := by
  subst hy
  have h := hF.get hv
  simp only [Act.eval, Array.getD_eq_getD_getElem?] at h
  have h2 : a.tmps[dj]? = some (.bool y) := by
    cases hc : a.tmps[dj]? with
    | none => rw [hc] at h; cases h
    | some u => rw [hc] at h; rw [← h]; rfl
  have hb : y ≠ b := by simpa using hb
  simp [Region.wanted, hg, yielded, hj, hd, h2, hb]

theorem wpl_op {rest : List Oper} (ho : ops[i]? = some o) (h : wpOp P ops Q i (wpList P ops Q rest) a w) : wpList P ops Q (o :: rest) a w := by
  unfold wpOp at h
  rw [ho] at h
  exact h

/-- A value, the world as it was. -/
theorem o_val (hF : Sl N m a) (ho : ops[i]? = some o) (hw : Region.wanted o (yielded ops a.tmps) = true) (hd : o.dst = some d) (hN : Nat.blt d N = true)
    (hr : (execOp a.eval o).run P w = .ok (.value v) w) (h : ∀ a', Sl N ((d, v) :: m) a' → K a' w) : wpOp P ops Q i K a w :=
  op_run ho hw hr (h _ (by rw [hd]; exact hF.put hN))
theorem o_skip (hF : Sl N m a) (ho : ops[i]? = some o) (hw : Region.wanted o (yielded ops a.tmps) = false) (hd : o.dst = some d) (hN : Nat.blt d N = true)
    (h : ∀ a', Sl N ((d, undef) :: m) a' → K a' w) : wpOp P ops Q i K a w := by
  unfold wpOp
  rw [ho]
  simp only [hw]
  exact h _ (by rw [hd]; exact hF.put hN)
/-- New memory. -/
theorem o_new (f : Nat → Value) (cs : List Value) (T : TypeId) (hF : Sl N m a) (ho : ops[i]? = some o) (hw : Region.wanted o (yielded ops a.tmps) = true) (hd : o.dst = some d) (hN : Nat.blt d N = true)
    (hr : (execOp a.eval o).run P w = .ok (.value (f w.heap.size)) (w.alloc (.cells cs.toArray T)))
    (h : ∀ g w' a', Sl N ((d, f g) :: m) a' → w.heap.size = g → w'.heap.size = g + 1 → Blk w' g T cs → Ext w w' → K a' w') : wpOp P ops Q i K a w :=
  op_new f cs T ho hw hr fun g w' h1 h2 h3 h4 => h g w' _ (by rw [hd]; exact hF.put hN) h1 h2 h3 h4
theorem o_app {t e : TypeId} {z : Value} {k bytes : Nat} (E : El P t e z k bytes) (hF : Sl N m a) (ho : ops[i]? = some o) (hw : Region.wanted o (yielded ops a.tmps) = true) (hd : o.dst = some d) (hN : Nat.blt d N = true) {s x : Operand}
    (hop : o.op = .call { callee := .builtin .append, args := #[s, x], argTypes := #[t, t] }) (hs : a.eval s = v) {A : Option Addr} {n2 c : Nat} (hx : a.eval x = .slice A n2 c)
    {base n : Nat} {xs ys : List Value} (hown : w.ownsRow base e k v n xs) (hr : Cel w k A n2 ys) (hbase : base ≤ w.heap.size)
    (h63 : n + n2 ≤ 9223372036854775807) (hbytes : (n + n2) * bytes ≤ 140737488355328)
    (h : ∀ v' w' a', Sl N ((d, v') :: m) a' → w'.ownsRow base e k v' (n + n2) (xs ++ ys) → w.grownBy w' v.ownBlock → K a' w') : wpOp P ops Q i K a w :=
  op_app E ho hw hop hs hx hown hr hbase h63 hbytes fun v' w' h1 h2 _ => h v' w' _ (by rw [hd]; exact hF.put hN) h1 h2
theorem o_store {ty : TypeId} {x y : Operand} (_hF : Sl N m a) (ho : ops[i]? = some o) (hw : Region.wanted o (yielded ops a.tmps) = true) (hd : o.dst = none) (hop : o.op = .store ty x y) {g : Nat} {t : TypeId} {old cells : List Value}
    (hx : a.eval x = .pointer (some ⟨g, 0, none⟩)) (hy : a.eval y = .agg cells.toArray) (hg : Blk w g t old) (hi : (P.info? ty).map (·.size) = some cells.length) (hl : old.length = cells.length) (h1 : ∀ u ∈ cells, u.oneCell' = true)
    (h : ∀ w', Blk w' g t cells → w.grownBy w' (some g) → K a w') : wpOp P ops Q i K a w :=
  op_store ho hw hop hx hy hg hi hl h1 fun w' h1 h2 => by rw [hd]; exact h w' h1 h2
theorem o_store1 {ty : TypeId} {x y : Operand} (_hF : Sl N m a) (ho : ops[i]? = some o) (hw : Region.wanted o (yielded ops a.tmps) = true) (hd : o.dst = none) (hop : o.op = .store ty x y) {g j : Nat} {t : TypeId} {old : List Value} {u : Value}
    (hx : a.eval x = .pointer (some ⟨g, j, none⟩)) (hy : a.eval y = u) (hg : Blk w g t old) (hi : (P.info? ty).map (·.size) = some 1) (hj : j < old.length) (h1 : u.oneCell' = true) {new : List Value} (hn : old.set j u = new)
    (h : ∀ w', Blk w' g t new → w.grownBy w' (some g) → K a w') : wpOp P ops Q i K a w :=
  op_store1 ho hw hop hx hy hg hi hj h1 fun w' h1 h2 => by rw [hd]; exact h w' (hn ▸ h1) h2
/-- A store into a row of the call's own. -/
theorem o_storeRow {ty : TypeId} {x y : Operand} (_hF : Sl N m a) (ho : ops[i]? = some o) (hw : Region.wanted o (yielded ops a.tmps) = true) (hd : o.dst = none) (hop : o.op = .store ty x y) {g j : Nat} {u : Value} {base n cap : Nat} {e : TypeId} {xs : List Value}
    (hx : a.eval x = .pointer (some ⟨g, j, none⟩)) (hy : a.eval y = u) (hown : w.ownsRow base e 1 (.slice (some ⟨g, 0, none⟩) n cap) n xs) (hi : (P.info? ty).map (·.size) = some 1) (hj : j < n) (h1 : u.oneCell' = true)
    (h : ∀ w', w'.ownsRow base e 1 (.slice (some ⟨g, 0, none⟩) n cap) n (xs.set j u) → w.grownBy w' (some g) → K a w') : wpOp P ops Q i K a w := by
  have hl : xs.length = n := by have := hown.1; omega
  have hr : (storeVar ty ⟨g, j, none⟩ u).run P w = .ok () (w.setCell ⟨g, j, none⟩ u) := run_storeVar_cell hi h1 (by rw [hown.cellAt j (by omega)]; exact List.getElem?_eq_getElem (by omega)) (hown.frozenAt j)
  refine op_do (w' := w.setCell ⟨g, j, none⟩ u) ho hw ?_ (by rw [hd]; exact h _ (hown.stored j u).1 (hown.stored j u).2)
  unfold execOp
  simp only [hop, hx, hy, Instr.storeAt, Instr.sureAddr, Sem.run_bind, Sem.run_pure, Result.andThen_ok, hr]
theorem o_call (hF : Sl N m a) (ho : ops[i]? = some o) (hw : Region.wanted o (yielded ops a.tmps) = true) (hd : o.dst = some d) (hN : Nat.blt d N = true) {f : FuncId} {args : Array Value} (hr : (execOp a.eval o).run P w = .ok (.enter f args) w)
    {R : Ending → World → Prop} (hc : Calls P f args w R) (h : ∀ e w', R e w' → ∃ v, e = .returned v ∧ ∀ a', Sl N ((d, v) :: m) a' → K a' w') : wpOp P ops Q i K a w :=
  op_call ho hw hr hc fun e w' hR => by
    obtain ⟨v, he, hk⟩ := h e w' hR
    exact ⟨v, he, hk _ (by rw [hd]; exact hF.put hN)⟩

/-- A light one of a region that draws its order. -/
theorem any_val {n : Nat} {L L' : Array Bool} (hF : Sl N m a) (hs : Region.noSelect ops = true) (hb : lightB ops F L i = true) (hL : L.setIfInBounds i true = L') (ho : ops[i]? = some o) (hd : o.dst = some d) (hN : Nat.blt d N = true)
    (hQ : ∀ c a w v, Q (.panic c) (a.put (some d) v) w → Q (.panic c) a w) (hw : Region.wanted o (yielded ops a.tmps) = true) (hS : S w)
    (hr : ∀ W, S W → (execOp a.eval o).run P W = .ok (.value v) W) (h : ∀ a', Sl N ((d, v) :: m) a' → wpAnyF P ops Q S F n L' a' w) : wpAnyF P ops Q S F (n + 1) L a w :=
  any_light hs hb hL ho (by rw [hd]; exact fun c a w => hQ c a w _) hw hS hr (h _ (by rw [hd]; exact hF.put hN))
theorem any_pure {n : Nat} {L L' : Array Bool} (hF : Sl N m a) (hs : Region.noSelect ops = true) (hb : freeB ops L i = true) (hL : L.setIfInBounds i true = L') (ho : ops[i]? = some o) (hd : o.dst = some d) (hN : Nat.blt d N = true)
    (hQ : ∀ c a w v, Q (.panic c) (a.put (some d) v) w → Q (.panic c) a w) (hw : Region.wanted o (yielded ops a.tmps) = true)
    (hr : ∀ W, (execOp a.eval o).run P W = .ok (.value v) W) (h : ∀ a', Sl N ((d, v) :: m) a' → wpAnyF P ops Q S F n L' a' w) : wpAnyF P ops Q S F (n + 1) L a w :=
  any_pureY hs hb hL ho (by rw [hd]; exact fun c a w => hQ c a w _) (.inl ⟨hw, hr⟩) (h _ (by rw [hd]; exact hF.put hN))
theorem any_pass {n : Nat} {L L' : Array Bool} (hF : Sl N m a) (hs : Region.noSelect ops = true) (hb : freeB ops L i = true) (hL : L.setIfInBounds i true = L') (ho : ops[i]? = some o) (hd : o.dst = some d) (hN : Nat.blt d N = true)
    (hQ : ∀ c a w v, Q (.panic c) (a.put (some d) v) w → Q (.panic c) a w) (hw : Region.wanted o (yielded ops a.tmps) = false)
    (h : ∀ a', Sl N ((d, undef) :: m) a' → wpAnyF P ops Q S F n L' a' w) : wpAnyF P ops Q S F (n + 1) L a w :=
  any_pureY hs hb hL ho (by rw [hd]; exact fun c a w => hQ c a w _) (.inr ⟨hw, rfl⟩) (h _ (by rw [hd]; exact hF.put hN))
end

section
variable {P : Program} {ρ : Operand → Value} {W : World} {d : Option Tmp} {t : TypeId} {p : String} {af : Array Edge} {g : Option (Nat × Bool)} {v : Value}
theorem rn_move {x : Operand} (hx : ρ x = v) : (execOp ρ ⟨d, .move x, t, p, af, g⟩).run P W = .ok (.value v) W := by simp [execOp, hx]
theorem rn_assign {x : Operand} (hx : ρ x = v) : (execOp ρ ⟨d, .assign x, t, p, af, g⟩).run P W = .ok (.value v) W := by simp [execOp, hx]
theorem rn_pickT {c x y : Operand} (hc : ρ c = .bool true) (hx : ρ x = v) : (execOp ρ ⟨d, .pick c x y, t, p, af, g⟩).run P W = .ok (.value v) W := by simp [execOp, hc, hx, asBool]
theorem rn_pickF {c x y : Operand} (hc : ρ c = .bool false) (hy : ρ y = v) : (execOp ρ ⟨d, .pick c x y, t, p, af, g⟩).run P W = .ok (.value v) W := by simp [execOp, hc, hy, asBool]
theorem rn_extract {x : Operand} {n : Nat} {vs : Array Value} (hx : ρ x = .tuple vs) (hv : vs[n]? = some v) : (execOp ρ ⟨d, .extract x n, t, p, af, g⟩).run P W = .ok (.value v) W := by
  simp [execOp, hx, Instr.extract, hv]
theorem rn_not {x : Operand} {s : TypeId} {b : Bool} (hx : ρ x = .bool b) : (execOp ρ ⟨d, .unOp .not s x, t, p, af, g⟩).run P W = .ok (.value (.bool (!b))) W := by simp [execOp, hx, Op.unary]
theorem rn_not' {x : Operand} {s : TypeId} {b r : Bool} (hx : ρ x = .bool b) (hr : (!b) = r) : (execOp ρ ⟨d, .unOp .not s x, t, p, af, g⟩).run P W = .ok (.value (.bool r)) W := by subst hr; simp [execOp, hx, Op.unary]
/-- An operation on two values, by its run. -/
theorem rn_bin {b : BinOp} {xt yt : TypeId} {x y : Operand} {u1 u2 : Value} (hx : ρ x = u1) (hy : ρ y = u2) (hg : (eqGuard b xt x y u1 u2).run P W = .ok () W) (hr : (binOp b xt u1 u2).run P W = .ok v W) : (execOp ρ ⟨d, .binOp b xt x y yt, t, p, af, g⟩).run P W = .ok (.value v) W := by
  simp [execOp, hx, hy, hg, hr]
theorem guard_int {b : BinOp} {xt : TypeId} {x y : Operand} {k1 k2 : IntKind} {n1 n2 : Int} : (eqGuard b xt x y (.int k1 n1) (.int k2 n2)).run P W = .ok () W := by
  unfold eqGuard; cases b <;> simp <;> rfl
theorem guard_bool {b : BinOp} {xt : TypeId} {x y : Operand} {b1 b2 : Bool} : (eqGuard b xt x y (.bool b1) (.bool b2)).run P W = .ok () W := by
  unfold eqGuard; cases b <;> simp <;> rfl
theorem guard_str {b : BinOp} {xt : TypeId} {x y : Operand} {b1 b2 : ByteArray} : (eqGuard b xt x y (.string b1) (.string b2)).run P W = .ok () W := by
  unfold eqGuard; cases b <;> simp <;> rfl
section
variable {xt yt : TypeId} {x y : Operand} {k : IntKind} {n1 n2 n3 : Int}
theorem rn_lss (hx : ρ x = .int k n1) (hy : ρ y = .int k n2) : (execOp ρ ⟨d, .binOp .lss xt x y yt, t, p, af, g⟩).run P W = .ok (.value (.bool (decide (n1 < n2)))) W := rn_bin hx hy guard_int (by simp [binOp, Op.intCmp])
theorem rn_leq (hx : ρ x = .int k n1) (hy : ρ y = .int k n2) : (execOp ρ ⟨d, .binOp .leq xt x y yt, t, p, af, g⟩).run P W = .ok (.value (.bool (decide (n1 ≤ n2)))) W := rn_bin hx hy guard_int (by simp [binOp, Op.intCmp])
theorem rn_gtr (hx : ρ x = .int k n1) (hy : ρ y = .int k n2) : (execOp ρ ⟨d, .binOp .gtr xt x y yt, t, p, af, g⟩).run P W = .ok (.value (.bool (decide (n2 < n1)))) W := rn_bin hx hy guard_int (by simp [binOp, Op.intCmp])
theorem rn_geq (hx : ρ x = .int k n1) (hy : ρ y = .int k n2) : (execOp ρ ⟨d, .binOp .geq xt x y yt, t, p, af, g⟩).run P W = .ok (.value (.bool (decide (n2 ≤ n1)))) W := rn_bin hx hy guard_int (by simp [binOp, Op.intCmp])
theorem rn_eql (hx : ρ x = .int k n1) (hy : ρ y = .int k n2) : (execOp ρ ⟨d, .binOp .eql xt x y yt, t, p, af, g⟩).run P W = .ok (.value (.bool (decide (n1 = n2)))) W := rn_bin hx hy guard_int (by simp [binOp, Op.intCmp]; rw [Bool.eq_iff_iff]; simp)
theorem rn_neq (hx : ρ x = .int k n1) (hy : ρ y = .int k n2) : (execOp ρ ⟨d, .binOp .neq xt x y yt, t, p, af, g⟩).run P W = .ok (.value (.bool (decide (n1 ≠ n2)))) W := rn_bin hx hy guard_int (by simp [binOp, Op.intCmp]; rw [Bool.eq_iff_iff]; simp)
theorem rn_lss' {r : Bool} (hx : ρ x = .int k n1) (hy : ρ y = .int k n2) (hr : decide (n1 < n2) = r) : (execOp ρ ⟨d, .binOp .lss xt x y yt, t, p, af, g⟩).run P W = .ok (.value (.bool r)) W := hr ▸ rn_lss hx hy
theorem rn_leq' {r : Bool} (hx : ρ x = .int k n1) (hy : ρ y = .int k n2) (hr : decide (n1 ≤ n2) = r) : (execOp ρ ⟨d, .binOp .leq xt x y yt, t, p, af, g⟩).run P W = .ok (.value (.bool r)) W := hr ▸ rn_leq hx hy
theorem rn_gtr' {r : Bool} (hx : ρ x = .int k n1) (hy : ρ y = .int k n2) (hr : decide (n2 < n1) = r) : (execOp ρ ⟨d, .binOp .gtr xt x y yt, t, p, af, g⟩).run P W = .ok (.value (.bool r)) W := hr ▸ rn_gtr hx hy
theorem rn_geq' {r : Bool} (hx : ρ x = .int k n1) (hy : ρ y = .int k n2) (hr : decide (n2 ≤ n1) = r) : (execOp ρ ⟨d, .binOp .geq xt x y yt, t, p, af, g⟩).run P W = .ok (.value (.bool r)) W := hr ▸ rn_geq hx hy
theorem rn_eql' {r : Bool} (hx : ρ x = .int k n1) (hy : ρ y = .int k n2) (hr : decide (n1 = n2) = r) : (execOp ρ ⟨d, .binOp .eql xt x y yt, t, p, af, g⟩).run P W = .ok (.value (.bool r)) W := hr ▸ rn_eql hx hy
theorem rn_neq' {r : Bool} (hx : ρ x = .int k n1) (hy : ρ y = .int k n2) (hr : decide (n1 ≠ n2) = r) : (execOp ρ ⟨d, .binOp .neq xt x y yt, t, p, af, g⟩).run P W = .ok (.value (.bool r)) W := hr ▸ rn_neq hx hy
theorem rn_add (hx : ρ x = .int .i64 n1) (hy : ρ y = .int .i64 n2) (hb : -9223372036854775808 ≤ n1 + n2 ∧ n1 + n2 ≤ 9223372036854775807) (he : n1 + n2 = n3) : (execOp ρ ⟨d, .binOp .add xt x y yt, t, p, af, g⟩).run P W = .ok (.value (.int .i64 n3)) W :=
  rn_bin hx hy guard_int (by subst he; simp [binOp, Op.intArith, IntWalk.i64_in _ hb])
theorem rn_sub (hx : ρ x = .int .i64 n1) (hy : ρ y = .int .i64 n2) (hb : -9223372036854775808 ≤ n1 - n2 ∧ n1 - n2 ≤ 9223372036854775807) (he : n1 - n2 = n3) : (execOp ρ ⟨d, .binOp .sub xt x y yt, t, p, af, g⟩).run P W = .ok (.value (.int .i64 n3)) W :=
  rn_bin hx hy guard_int (by subst he; simp [binOp, Op.intArith, IntWalk.i64_in _ hb])
theorem rn_mul (hx : ρ x = .int .i64 n1) (hy : ρ y = .int .i64 n2) (hb : -9223372036854775808 ≤ n1 * n2 ∧ n1 * n2 ≤ 9223372036854775807) (he : n1 * n2 = n3) : (execOp ρ ⟨d, .binOp .mul xt x y yt, t, p, af, g⟩).run P W = .ok (.value (.int .i64 n3)) W :=
  rn_bin hx hy guard_int (by subst he; simp [binOp, Op.intArith, IntWalk.i64_in _ hb])
end
theorem rn_index1 {s e : TypeId} {x y : Operand} {b off len cap : Nat} {kd : IntKind} {n : Int} (hu : P.underlying s = some (.slice e)) (hi : (P.info? e).map (·.size) = some 1) (hx : ρ x = .slice (some ⟨b, off, none⟩) len cap) (hy : ρ y = .int kd n) (h0 : 0 ≤ n) (h1 : n < len) :
    (execOp ρ ⟨d, .indexAddr s x y, t, p, af, g⟩).run P W = .ok (.value (.pointer (some ⟨b, off + n.toNat, none⟩))) W := by
  cases hq : P.info? e with
  | none => simp [hq] at hi
  | some i =>
    have hs : i.size = 1 := by simpa [hq] using hi
    simp [execOp, Instr.indexAt, hx, hy, asIntOf, run_underlying hu, sizeOf, typeInfo, hq, hs, h0, h1, addr_add]
/-- A call of a function of the program. -/
theorem rn_call {f : FuncId} {xs : Array Operand} {ts : Array TypeId} {vs : Array Value} (ha : xs.map ρ = vs) (hf : ρ (.func f) = .func (.func f) #[] #[]) (hc : (callFunc f vs).run P W = .ok (.enter f vs) W) :
    (execOp ρ ⟨d, .call { callee := .value (.func f), args := xs, argTypes := ts }, t, p, af, g⟩).run P W = .ok (.enter f vs) W := by
  simp [execOp, resolve, hf, ha, Deferred.ofValue, invoke, hc]
theorem rn_len_slice {x : Operand} {s e : TypeId} {A : Option Addr} {n c : Nat} (hu : P.underlying s = some (.slice e)) (hx : ρ x = .slice A n c) : (execOp ρ ⟨d, .call { callee := .builtin .len, args := #[x], argTypes := #[s] }, t, p, af, g⟩).run P W = .ok (.value (.int .i64 n)) W := by
  simp [execOp, resolve, invoke, builtin, hx, Builtin.len_, goInt, run_underlying hu]
theorem rn_len_str {x : Operand} {st : TypeId} {s : ByteArray} (hu : P.underlying st = some .string) (hx : ρ x = .string s) : (execOp ρ ⟨d, .call { callee := .builtin .len, args := #[x], argTypes := #[st] }, t, p, af, g⟩).run P W = .ok (.value (.int .i64 s.size)) W := by
  simp [execOp, resolve, invoke, builtin, hx, Builtin.len_, goInt, run_underlying hu]
/-- A struct is built of its parts. -/
theorem rn_build {s : TypeId} {ps : Array (Nat × Operand)} {vs : Array (Nat × Value)} (hp : ps.map (fun x => (x.1, ρ x.2)) = vs) (hb : (Instr.build s vs).run P W = .ok v W) : (execOp ρ ⟨d, .build s ps, t, p, af, g⟩).run P W = .ok (.value v) W := by
  have : (ps.map fun (i, x) => (i, ρ x)) = vs := hp
  simp [execOp, this, hb]
theorem rn_buildSlice {s : TypeId} {n : Nat} {ps : Array (Nat × Operand)} {vs : Array (Nat × Value)} {W' : World} (hp : ps.map (fun x => (x.1, ρ x.2)) = vs) (hb : (Instr.buildSlice s n vs).run P W = .ok v W') : (execOp ρ ⟨d, .buildSlice s n ps, t, p, af, g⟩).run P W = .ok (.value v) W' := by
  have : (ps.map fun (i, x) => (i, ρ x)) = vs := hp
  simp [execOp, this, hb]
theorem rn_box {s : TypeId} {x : Operand} {u : Value} {W' : World} (hx : ρ x = u) (hb : (Instr.box s u).run P W = .ok v W') : (execOp ρ ⟨d, .box s x, t, p, af, g⟩).run P W = .ok (.value v) W' := by
  simp [execOp, hx, hb]
/-- A whole variable is loaded. -/
theorem rn_loadBlk {s tt : TypeId} {x : Operand} {b : Nat} {cs : List Value} {td : TypeDesc} (hx : ρ x = .pointer (some ⟨b, 0, none⟩)) (hB : Blk W b tt cs) (hu : P.underlying s = some td) (hd : aggTy td = true) (hi : (P.info? s).map (·.size) = some cs.length) :
    (execOp ρ ⟨d, .load s x, t, p, af, g⟩).run P W = .ok (.value (.agg cs.toArray)) W := by
  have := run_loadVar_row (P := P) W b tt s cs.toArray (0, 0) td hB hu (by cases td <;> simp_all [aggTy]) (by simpa using hi)
  simp [execOp, Instr.loadAt, Instr.sureAddr, hx, this]
/-- An index into a slice. -/
theorem rn_index {s e : TypeId} {x y : Operand} {b off len cap k : Nat} {kd : IntKind} {n : Int} (hu : P.underlying s = some (.slice e)) (hi : (P.info? e).map (·.size) = some k) (hx : ρ x = .slice (some ⟨b, off, none⟩) len cap) (hy : ρ y = .int kd n) (h0 : 0 ≤ n) (h1 : n < len) :
    (execOp ρ ⟨d, .indexAddr s x y, t, p, af, g⟩).run P W = .ok (.value (.pointer (some ⟨b, off + n.toNat * k, none⟩))) W := by
  cases hq : P.info? e with
  | none => simp [hq] at hi
  | some i =>
    have hs : i.size = k := by simpa [hq] using hi
    simp [execOp, Instr.indexAt, hx, hy, asIntOf, run_underlying hu, sizeOf, typeInfo, hq, hs, h0, h1, addr_add]
end


theorem ret1 {P : Program} {fn : Func} {R : Ending → World → Prop} {w : World} {t : Nat} {v : Value} (hF : Sl N m a) (hr : fn.results = #[.tmp t]) (hv : look m t = some v) (h : R (.returned v) w) : bodyPost P fn R .ret a w :=
  bodyPost_ret (results_tmp hr _ _ _) hF.2.1 (by have := hF.get hv; simp only [Act.eval] at this; rw [this]; exact h)
theorem ret2 {P : Program} {fn : Func} {R : Ending → World → Prop} {w : World} {t u : Nat} {v1 v2 : Value} (hF : Sl N m a) (hr : fn.results = #[.tmp t, .tmp u]) (hv : look m t = some v1) (hu : look m u = some v2) (h : R (.returned (.tuple #[v1, v2])) w) : bodyPost P fn R .ret a w :=
  bodyPost_ret (results_tmp2 hr _ _ _) hF.2.1 (by have h1 := hF.get hv; have h2 := hF.get hu; simp only [Act.eval] at h1 h2; rw [h1, h2]; exact h)
/-- A struct in a block, and a slot. -/
theorem retC1 {P : Program} {fn : Func} {R : Ending → World → Prop} {w : World} {t u b : Nat} {ty tt : TypeId} {cs : List Value} {v2 : Value} {td : TypeDesc} (hF : Sl N m a) (hr : fn.results = #[.cell t ty, .tmp u]) (hv : look m t = some (.pointer (some ⟨b, 0, none⟩))) (hu : look m u = some v2)
    (hB : Blk w b tt cs) (hty : P.underlying ty = some td) (hd : aggTy td = true) (hi : (P.info? ty).map (·.size) = some cs.length) (h : R (.returned (.tuple #[.agg cs.toArray, v2])) w) : bodyPost P fn R .ret a w := by
  have h1 := hF.get hv
  have h2 := hF.get hu
  simp only [Act.eval] at h1 h2
  refine bodyPost_ret ?_ hF.2.1 h
  have := run_loadVar_row (P := P) w b tt ty cs.toArray (0, 0) td hB hty (by cases td <;> simp_all [aggTy]) (by simpa using hi)
  rw [Array.getD_eq_getD_getElem?] at h1 h2
  simp [results, hr, h1, h2, asAddr, this]
theorem retC {P : Program} {fn : Func} {R : Ending → World → Prop} {w : World} {t b : Nat} {ty tt : TypeId} {cs : List Value} {td : TypeDesc} (hF : Sl N m a) (hr : fn.results = #[.cell t ty]) (hv : look m t = some (.pointer (some ⟨b, 0, none⟩)))
    (hB : Blk w b tt cs) (hty : P.underlying ty = some td) (hd : aggTy td = true) (hi : (P.info? ty).map (·.size) = some cs.length) (h : R (.returned (.agg cs.toArray)) w) : bodyPost P fn R .ret a w := by
  have h1 := hF.get hv
  simp only [Act.eval] at h1
  refine bodyPost_ret ?_ hF.2.1 h
  have := run_loadVar_row (P := P) w b tt ty cs.toArray (0, 0) td hB hty (by cases td <;> simp_all [aggTy]) (by simpa using hi)
  rw [Array.getD_eq_getD_getElem?] at h1
  simp [results, hr, h1, asAddr, this]

theorem q_get {t : Nat} {u v : Value} (hF : Sl N m a) (e : look m t = some u) (h : u = v) : a.eval (.tmp t) = v := (hF.get e).trans h
theorem not_t {b : Bool} (h : b = true) : (!b) = false := by rw [h]; rfl
theorem not_f {b : Bool} (h : b = false) : (!b) = true := by rw [h]; rfl
section
variable {P : Program} {ρ : Operand → Value} {W : World} {d : Option Tmp} {t : TypeId} {p : String} {af : Array Edge} {g : Option (Nat × Bool)} {v : Value}
theorem rn_make {s : TypeId} {x y : Operand} {u1 u2 : Value} {W' : World} (hx : ρ x = u1) (hy : ρ y = u2) (hb : (Instr.makeSlice s u1 u2).run P W = .ok v W') : (execOp ρ ⟨d, .makeSlice s x y, t, p, af, g⟩).run P W = .ok (.value v) W' := by
  simp [execOp, hx, hy, hb]
/-- A field of a struct value. -/
theorem rn_fieldv {s : TypeId} {x : Operand} {f : Nat} {u : Value} (hx : ρ x = u) (hb : (Instr.field s u f).run P W = .ok v W) : (execOp ρ ⟨d, .field s x f, t, p, af, g⟩).run P W = .ok (.value v) W := by
  simp [execOp, hx, hb]
end
section
variable {ρ : Operand → Value} {x0 x1 x2 x3 x4 x5 : Operand} {v0 v1 v2 v3 v4 v5 : Value}
theorem args0 : (#[] : Array Operand).map ρ = #[] := by simp
theorem args1 (h0 : ρ x0 = v0) : #[x0].map ρ = #[v0] := by simp [h0]
theorem args2 (h0 : ρ x0 = v0) (h1 : ρ x1 = v1) : #[x0, x1].map ρ = #[v0, v1] := by simp [h0, h1]
theorem args3 (h0 : ρ x0 = v0) (h1 : ρ x1 = v1) (h2 : ρ x2 = v2) : #[x0, x1, x2].map ρ = #[v0, v1, v2] := by simp [h0, h1, h2]
theorem args4 (h0 : ρ x0 = v0) (h1 : ρ x1 = v1) (h2 : ρ x2 = v2) (h3 : ρ x3 = v3) : #[x0, x1, x2, x3].map ρ = #[v0, v1, v2, v3] := by simp [h0, h1, h2, h3]
theorem args5 (h0 : ρ x0 = v0) (h1 : ρ x1 = v1) (h2 : ρ x2 = v2) (h3 : ρ x3 = v3) (h4 : ρ x4 = v4) : #[x0, x1, x2, x3, x4].map ρ = #[v0, v1, v2, v3, v4] := by simp [h0, h1, h2, h3, h4]
theorem args6 (h0 : ρ x0 = v0) (h1 : ρ x1 = v1) (h2 : ρ x2 = v2) (h3 : ρ x3 = v3) (h4 : ρ x4 = v4) (h5 : ρ x5 = v5) : #[x0, x1, x2, x3, x4, x5].map ρ = #[v0, v1, v2, v3, v4, v5] := by simp [h0, h1, h2, h3, h4, h5]
variable {i0 i1 i2 i3 : Nat}
theorem parts0 : (#[] : Array (Nat × Operand)).map (fun x => (x.1, ρ x.2)) = #[] := by simp
theorem parts1 (h0 : ρ x0 = v0) : #[(i0, x0)].map (fun x => (x.1, ρ x.2)) = #[(i0, v0)] := by simp [h0]
theorem parts2 (h0 : ρ x0 = v0) (h1 : ρ x1 = v1) : #[(i0, x0), (i1, x1)].map (fun x => (x.1, ρ x.2)) = #[(i0, v0), (i1, v1)] := by simp [h0, h1]
theorem parts3 (h0 : ρ x0 = v0) (h1 : ρ x1 = v1) (h2 : ρ x2 = v2) : #[(i0, x0), (i1, x1), (i2, x2)].map (fun x => (x.1, ρ x.2)) = #[(i0, v0), (i1, v1), (i2, v2)] := by simp [h0, h1, h2]
theorem parts4 (h0 : ρ x0 = v0) (h1 : ρ x1 = v1) (h2 : ρ x2 = v2) (h3 : ρ x3 = v3) : #[(i0, x0), (i1, x1), (i2, x2), (i3, x3)].map (fun x => (x.1, ρ x.2)) = #[(i0, v0), (i1, v1), (i2, v2), (i3, v3)] := by simp [h0, h1, h2, h3]
end

section
variable {P : Program} {Q : Exit → Act → World → Prop} {w : World} {id id' : Nat}
theorem exit_here (h : Q .normal a w) : Exit.inBlock id Q (.exit id) a w := by simp only [Exit.inBlock, if_true]; exact h
theorem exit_past (hn : id' ≠ id) (h : Q (.exit id') a w) : Exit.inBlock id Q (.exit id') a w := by simp only [Exit.inBlock, if_neg hn]; exact h
theorem c_true {t : Nat} {b : Bool} (hF : Sl N m a) (hv : look m t = some (.bool b)) (hb : b = true) : a.eval (.tmp t) = .bool true := by subst hb; exact hF.get hv
theorem c_false {t : Nat} {b : Bool} (hF : Sl N m a) (hv : look m t = some (.bool b)) (hb : b = false) : a.eval (.tmp t) = .bool false := by subst hb; exact hF.get hv
/-- What a statement leaves, and what follows, once. -/
theorem wp_meet {x y : Code} (R : Act → World → Prop) (h1 : x.wp P (Exit.then R Q) a w) (h2 : ∀ a w, R a w → y.wp P Q a w) : (Code.seq x y).wp P Q a w :=
  wp_seq (Go.wp_mono h1 (fun e a w hq => by cases e <;> first | exact h2 _ _ hq | exact hq))
end

end Go.Proofs.Ytjmdodgmoehfkaa
