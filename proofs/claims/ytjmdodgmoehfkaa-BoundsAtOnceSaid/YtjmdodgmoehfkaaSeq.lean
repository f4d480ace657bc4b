/- A region that draws its order, walked once in one order: what only looks (at cells that stay) is taken as soon as it may come; the rest comes in one order alone. Stores of F come last and need not keep the cells. -/
import Derived.Test.YtjmdodgmoehfkaaBase
import Derived.OrdersHeld
namespace Go.Proofs.Ytjmdodgmoehfkaa
open Go.RowKit

section
variable {P : Program} {ops : Array Oper} {Q : Exit → Act → World → Prop} {S : World → Prop} {F : Nat → Bool} {light : Nat → Bool}

/-- Whatever order is picked; S holds behind every operation that is not of F. -/
def wpAnyF (P : Program) (ops : Array Oper) (Q : Exit → Act → World → Prop) (S : World → Prop) (F : Nat → Bool) : Nat → Array Bool → Act → World → Prop
  | 0, listed, a, w => Region.ready .any ops listed = [] ∧ Q .normal a w
  | fuel + 1, listed, a, w =>
    (Region.ready .any ops listed = [] → Q .normal a w) ∧
    ∀ i ∈ Region.ready .any ops listed, wpOp P ops Q i (fun a' w' => (F i = false → S w → S w') ∧ wpAnyF P ops Q S F fuel (listed.setIfInBounds i true) a' w') a w

theorem wpAny_of_F : ∀ (fuel : Nat) (listed : Array Bool) (a : Act) (w : World), wpAnyF P ops Q S F fuel listed a w → wpAny P .any ops Q fuel listed a w
  | 0, _, _, _, h => h
  | fuel + 1, _, _, _, h => ⟨h.1, fun i hi => wpOp_mono (fun a' w' h' => wpAny_of_F fuel _ a' w' h'.2) (h.2 i hi)⟩

theorem wpAnyF_first {i : Nat} {oi : Oper} {v : Value} (hi : ops[i]? = some oi) (hsel : ∀ (j : Nat) (o : Oper) cs b, ops[j]? = some o → o.op ≠ .select cs b)
    (hQ : ∀ c a w, Q (.panic c) (a.put oi.dst v) w → Q (.panic c) a w) (hFi : F i = false) :
    ∀ (fuel : Nat) (listed : Array Bool) (a : Act) (w : World),
      (∀ j oj, ops[j]? = some oj → j ≠ i → listed.getD j true = false → (∀ e ∈ oj.after, Region.binds .any e = true → e.on ≠ i) → oi.apart ops oj = true) →
      (∀ j oj, ops[j]? = some oj → F j = true → ∃ e ∈ oj.after, Region.binds .any e = true ∧ e.on = i) →
      i ∈ Region.ready .any ops listed → YieldsIf P ops S oi v a → S w →
      wpAnyF P ops Q S F fuel (listed.setIfInBounds i true) (a.put oi.dst v) w → wpAnyF P ops Q S F (fuel + 1) listed a w := by
  intro fuel
  induction fuel with
  | zero =>
    intro listed a w _ _ hr hy hS H
    refine ⟨fun h => (by rw [h] at hr; cases hr), fun j hj => ?_⟩
    by_cases hji : j = i
    · subst hji; exact hy.wpOp hi hS ⟨fun _ h => h, H⟩
    · have := ready_mono hj hji
      rw [H.1] at this
      cases this
  | succ fuel ih =>
    intro listed a w hfree hwait hr hy hS H
    refine ⟨fun h => (by rw [h] at hr; cases hr), fun j hj => ?_⟩
    by_cases hji : j = i
    · subst hji; exact hy.wpOp hi hS ⟨fun _ h => h, H⟩
    · have h1 := H.2 j (ready_mono hj hji)
      obtain ⟨hjun, oj, hoj, hall⟩ := mem_ready.1 hj
      have hnot : ∀ e ∈ oj.after, Region.binds .any e = true → e.on ≠ i := fun e he hb heq => by
        have h1 := hall e he hb
        have h0 := (mem_ready.1 hr).1
        rw [heq] at h1
        rcases Nat.lt_or_ge i listed.size with h' | h'
        · simp [h'] at h0 h1; rw [h0] at h1; cases h1
        · simp [Array.getElem?_eq_none h'] at h1
      have hFj : F j = false := by
        cases hF : F j with
        | false => rfl
        | true =>
          obtain ⟨e, he, hb, heq⟩ := hwait j oj hoj hF
          exact absurd heq (hnot e he hb)
      have h2 := wpOp_putIf hoj (hfree j oj hoj hji hjun hnot) (fun cs b => hsel i oi cs b hi) (fun cs b => hsel j oj cs b hoj) hQ hy h1
      have hfree' : ∀ k ok, ops[k]? = some ok → k ≠ i → (listed.setIfInBounds j true).getD k true = false →
          (∀ e ∈ ok.after, Region.binds .any e = true → e.on ≠ i) → oi.apart ops ok = true := fun k ok hk hki hun hno => by
        refine hfree k ok hk hki ?_ hno
        by_cases hjk : j = k
        · subst hjk; exact hjun
        · rw [getD_set_ne true hjk] at hun; exact hun
      refine wpOp_mono (fun a' w' h3 => ⟨h3.2.1, ih (listed.setIfInBounds j true) a' w' hfree' hwait (ready_mono hr (Ne.symm hji)) h3.1 (h3.2.1 hFj hS) ?_⟩) h2
      rw [Array.setIfInBounds_comm _ _ hji]
      exact h3.2.2

/-- The same for an operation that looks at no memory: nothing need wait for it. -/
theorem wpAnyF_firstP {i : Nat} {oi : Oper} {v : Value} (hi : ops[i]? = some oi) (hsel : ∀ (j : Nat) (o : Oper) cs b, ops[j]? = some o → o.op ≠ .select cs b)
    (hQ : ∀ c a w, Q (.panic c) (a.put oi.dst v) w → Q (.panic c) a w) :
    ∀ (fuel : Nat) (listed : Array Bool) (a : Act) (w : World),
      (∀ j oj, ops[j]? = some oj → j ≠ i → listed.getD j true = false → (∀ e ∈ oj.after, Region.binds .any e = true → e.on ≠ i) → oi.apart ops oj = true) →
      i ∈ Region.ready .any ops listed → Yields P ops oi v a →
      wpAnyF P ops Q S F fuel (listed.setIfInBounds i true) (a.put oi.dst v) w → wpAnyF P ops Q S F (fuel + 1) listed a w := by
  intro fuel
  induction fuel with
  | zero =>
    intro listed a w _ hr hy H
    refine ⟨fun h => (by rw [h] at hr; cases hr), fun j hj => ?_⟩
    by_cases hji : j = i
    · subst hji; exact hy.wpOp hi ⟨fun _ h => h, H⟩
    · have := ready_mono hj hji
      rw [H.1] at this
      cases this
  | succ fuel ih =>
    intro listed a w hfree hr hy H
    refine ⟨fun h => (by rw [h] at hr; cases hr), fun j hj => ?_⟩
    by_cases hji : j = i
    · subst hji; exact hy.wpOp hi ⟨fun _ h => h, H⟩
    · have h1 := H.2 j (ready_mono hj hji)
      obtain ⟨hjun, oj, hoj, hall⟩ := mem_ready.1 hj
      have hnot : ∀ e ∈ oj.after, Region.binds .any e = true → e.on ≠ i := fun e he hb heq => by
        have h1 := hall e he hb
        have h0 := (mem_ready.1 hr).1
        rw [heq] at h1
        rcases Nat.lt_or_ge i listed.size with h' | h'
        · simp [h'] at h0 h1; rw [h0] at h1; cases h1
        · simp [Array.getElem?_eq_none h'] at h1
      have h2 := wpOp_put hoj (hfree j oj hoj hji hjun hnot) (fun cs b => hsel i oi cs b hi) (fun cs b => hsel j oj cs b hoj) hQ hy h1
      have hfree' : ∀ k ok, ops[k]? = some ok → k ≠ i → (listed.setIfInBounds j true).getD k true = false →
          (∀ e ∈ ok.after, Region.binds .any e = true → e.on ≠ i) → oi.apart ops ok = true := fun k ok hk hki hun hno => by
        refine hfree k ok hk hki ?_ hno
        by_cases hjk : j = k
        · subst hjk; exact hjun
        · rw [getD_set_ne true hjk] at hun; exact hun
      refine wpOp_mono (fun a' w' h3 => ⟨h3.2.1, ih (listed.setIfInBounds j true) a' w' hfree' (ready_mono hr (Ne.symm hji)) h3.1 ?_⟩) h2
      rw [Array.setIfInBounds_comm _ _ hji]
      exact h3.2.2

/-- Every operation of F waits for number i. -/
def waitsB (ops : Array Oper) (F : Nat → Bool) (i : Nat) : Bool :=
  (List.range ops.size).all fun j => !F j || ((ops[j]?).map fun o => o.after.any fun e => Region.binds .any e && e.on == i).getD true

theorem waitsB_spec {i : Nat} (h : waitsB ops F i = true) (j : Nat) (oj : Oper) (hj : ops[j]? = some oj) (hF : F j = true) : ∃ e ∈ oj.after, Region.binds .any e = true ∧ e.on = i := by
  have hl : j < ops.size := (Array.getElem?_eq_some_iff.1 hj).1
  have := List.all_eq_true.1 h j (List.mem_range.2 hl)
  rw [hF, hj] at this
  simp only [Bool.not_true, Option.map_some, Option.getD_some, Bool.false_or] at this
  obtain ⟨e, he, h2⟩ := Array.any_eq_true'.1 this
  simp only [Bool.and_eq_true, beq_iff_eq] at h2
  exact ⟨e, he, h2⟩

/-- Number i is light: it may come up, is free, F waits for it. -/
def lightB (ops : Array Oper) (F : Nat → Bool) (listed : Array Bool) (i : Nat) : Bool :=
  !F i && Region.free .any ops listed i && (Region.ready .any ops listed).contains i && waitsB ops F i

theorem any_start {id : Nat} {a : Act} {w : World} (S : World → Prop) (F : Nat → Bool) (n : Nat) (L : Array Bool) (hm : P.follows .mixedOrders = true) (hn : n = ops.size) (hL : L = Array.replicate ops.size false)
    (h : wpAnyF P ops Q S F n L a w.drew) : (Code.region id ops true).wp P Q a w :=
  wp_region_any hm (wpAny_of_F _ _ _ _ (hL ▸ hn ▸ h))

theorem any_nil {a : Act} {w : World} {L : Array Bool} (hr : Region.ready .any ops L = []) (h : Q .normal a w) : wpAnyF P ops Q S F 0 L a w := ⟨hr, h⟩

theorem any_light {i n : Nat} {L L' : Array Bool} {a : Act} {w : World} {o : Oper} {v : Value} (hs : Region.noSelect ops = true) (hb : lightB ops F L i = true) (hL : L.setIfInBounds i true = L') (ho : ops[i]? = some o) (hQ : ∀ c a w, Q (.panic c) (a.put o.dst v) w → Q (.panic c) a w) (hw : Region.wanted o (yielded ops a.tmps) = true) (hS : S w)
    (hr : ∀ W, S W → (execOp a.eval o).run P W = .ok (.value v) W) (h : wpAnyF P ops Q S F n L' (a.put o.dst v) w) : wpAnyF P ops Q S F (n + 1) L a w := by
  subst hL
  simp only [lightB, Bool.and_eq_true, Bool.not_eq_true'] at hb
  obtain ⟨⟨⟨h2, h3⟩, h4⟩, h5⟩ := hb
  exact wpAnyF_first ho (Region.noSelect_spec hs) hQ h2 n L a w (Region.free_spec ho h3) (fun j oj hj hF => waitsB_spec h5 j oj hj hF) (by simpa using h4) (.inl ⟨hw, hr⟩) hS h
theorem any_skip {i n : Nat} {L L' : Array Bool} {a : Act} {w : World} {o : Oper} (hs : Region.noSelect ops = true) (hb : lightB ops F L i = true) (hL : L.setIfInBounds i true = L') (ho : ops[i]? = some o) (hQ : ∀ c a w, Q (.panic c) (a.put o.dst undef) w → Q (.panic c) a w) (hw : Region.wanted o (yielded ops a.tmps) = false) (hS : S w)
    (h : wpAnyF P ops Q S F n L' (a.put o.dst undef) w) : wpAnyF P ops Q S F (n + 1) L a w := by
  subst hL
  simp only [lightB, Bool.and_eq_true, Bool.not_eq_true'] at hb
  obtain ⟨⟨⟨h2, h3⟩, h4⟩, h5⟩ := hb
  exact wpAnyF_first ho (Region.noSelect_spec hs) hQ h2 n L a w (Region.free_spec ho h3) (fun j oj hj hF => waitsB_spec h5 j oj hj hF) (by simpa using h4) (.inr ⟨hw, rfl⟩) hS h

def freeB (ops : Array Oper) (listed : Array Bool) (i : Nat) : Bool := Region.free .any ops listed i && (Region.ready .any ops listed).contains i
theorem any_pureY {i n : Nat} {L L' : Array Bool} {a : Act} {w : World} {o : Oper} {v : Value} (hs : Region.noSelect ops = true) (hb : freeB ops L i = true) (hL : L.setIfInBounds i true = L') (ho : ops[i]? = some o) (hQ : ∀ c a w, Q (.panic c) (a.put o.dst v) w → Q (.panic c) a w)
    (hy : Yields P ops o v a) (h : wpAnyF P ops Q S F n L' (a.put o.dst v) w) : wpAnyF P ops Q S F (n + 1) L a w := by
  subst hL
  simp only [freeB, Bool.and_eq_true] at hb
  exact wpAnyF_firstP ho (Region.noSelect_spec hs) hQ n L a w (Region.free_spec ho hb.1) (by simpa using hb.2) hy h

theorem any_one {i n : Nat} {L L' : Array Bool} {a : Act} {w : World} (hr : Region.ready .any ops L = [i]) (hL : L.setIfInBounds i true = L')
    (h : wpOp P ops Q i (fun a' w' => (F i = false → S w → S w') ∧ wpAnyF P ops Q S F n L' a' w') a w) : wpAnyF P ops Q S F (n + 1) L a w := by
  subst hL
  refine ⟨fun h0 => (by rw [hr] at h0; cases h0), fun j hj => ?_⟩
  rw [hr] at hj
  simp only [List.mem_singleton] at hj
  subst hj
  exact h
theorem any_two {i k n : Nat} {L L1 L2 : Array Bool} {a : Act} {w : World} (hr : Region.ready .any ops L = [i, k]) (hL : L.setIfInBounds i true = L1) (hL2 : L.setIfInBounds k true = L2)
    (h : wpOp P ops Q i (fun a' w' => (F i = false → S w → S w') ∧ wpAnyF P ops Q S F n L1 a' w') a w)
    (h2 : wpOp P ops Q k (fun a' w' => (F k = false → S w → S w') ∧ wpAnyF P ops Q S F n L2 a' w') a w) : wpAnyF P ops Q S F (n + 1) L a w := by
  subst hL
  subst hL2
  refine ⟨fun h0 => (by rw [hr] at h0; cases h0), fun j hj => ?_⟩
  rw [hr] at hj
  simp only [List.mem_cons, List.not_mem_nil, or_false] at hj
  rcases hj with rfl | rfl
  · exact h
  · exact h2

section
variable {i : Nat} {a : Act} {w w' : World} {o : Oper} {v : Value} {K : Act → World → Prop}
theorem op_run (ho : ops[i]? = some o) (hw : Region.wanted o (yielded ops a.tmps) = true) (hr : (execOp a.eval o).run P w = .ok (.value v) w') (h : K (a.put o.dst v) w') : wpOp P ops Q i K a w := by
  unfold wpOp
  rw [ho]
  simp only [hw, if_true]
  exact .inl (by unfold Oper.wp; rw [hr]; exact h)
theorem op_do (ho : ops[i]? = some o) (hw : Region.wanted o (yielded ops a.tmps) = true) (hr : (execOp a.eval o).run P w = .ok .skip w') (h : K (a.put o.dst undef) w') : wpOp P ops Q i K a w := by
  unfold wpOp
  rw [ho]
  simp only [hw, if_true]
  exact .inl (by unfold Oper.wp; rw [hr]; exact h)
theorem op_wp (ho : ops[i]? = some o) (hw : Region.wanted o (yielded ops a.tmps) = true) (h : o.wp P a w K Q) : wpOp P ops Q i K a w := by
  unfold wpOp
  rw [ho]
  simp only [hw, if_true]
  exact .inl h
theorem op_call (ho : ops[i]? = some o) (hw : Region.wanted o (yielded ops a.tmps) = true) {f : FuncId} {args : Array Value} (hr : (execOp a.eval o).run P w = .ok (.enter f args) w') {R : Ending → World → Prop} (hc : Calls P f args w' R)
    (h : ∀ e w'', R e w'' → ∃ v, e = .returned v ∧ K (a.put o.dst v) w'') : wpOp P ops Q i K a w := by
  unfold wpOp
  rw [ho]
  simp only [hw, if_true]
  refine .inl ?_
  unfold Oper.wp
  rw [hr]
  refine hc.mono fun e w'' hR => ?_
  obtain ⟨v, rfl, hk⟩ := h e w'' hR
  exact hk
end

section
variable {ρ : Operand → Value} {W : World} {d : Option Tmp} {t : TypeId} {p : String} {af : Array Edge} {g : Option (Nat × Bool)}
def fieldOk (P : Program) (fl : Field) : Bool := match P.info? fl.type with | some i => i.size != 0 | none => false
theorem rn_field {s : TypeId} {x : Operand} {f b o k : Nat} {fs : Array Field} {fl : Field} (hu : P.underlying s = some (.struct fs)) (hf : fs[f]? = some fl) (hsz : fieldOk P fl = true) (hx : ρ x = .pointer (some ⟨b, o, none⟩)) (hk : o + fl.offset = k) :
    (execOp ρ ⟨d, .fieldAddr s x f, t, p, af, g⟩).run P W = .ok (.value (.pointer (some ⟨b, k, none⟩))) W := by
  subst hk
  have ha : (⟨b, o, none⟩ : Addr).add fl.offset = ⟨b, o + fl.offset, none⟩ := by unfold Addr.add; split <;> simp_all
  unfold fieldOk at hsz
  cases hi : P.info? fl.type with
  | none => rw [hi] at hsz; cases hsz
  | some i =>
    rw [hi] at hsz
    have hsz : i.size ≠ 0 := by simpa using hsz
    simp [execOp, Instr.fieldAt, run_underlying hu, hf, Instr.sureAddr, fieldPlace, sizeOf, typeInfo, hi, hsz, hx, ha]
theorem rn_load {s : TypeId} {x : Operand} {b o : Nat} {v : Value} (hagg : (isAgg s).run P W = .ok false W) (hx : ρ x = .pointer (some ⟨b, o, none⟩)) (hc : W.cell? ⟨b, o, none⟩ = some v) :
    (execOp ρ ⟨d, .load s x, t, p, af, g⟩).run P W = .ok (.value v) W := by
  simp [execOp, Instr.loadAt, Instr.sureAddr, loadVar, hagg, hx, go_sem, hc]
theorem run_storeVar_cell {ty : TypeId} {q : Addr} {u v : Value} (hi : (P.info? ty).map (·.size) = some 1) (h1 : u.oneCell' = true) (hc : W.cell? q = some v) (hf : W.frozen? q = false) :
    (storeVar ty q u).run P W = .ok () (W.setCell q u) := by
  have hcs : u.cells = #[u] := by cases u <;> simp_all [Value.cells, Value.oneCell']
  have ha : q.add 0 = q := by simp [Addr.add]
  cases hq : P.info? ty with
  | none => simp [hq] at hi
  | some i =>
    have hs : i.size = 1 := by simp [hq] at hi; exact hi
    simp [storeVar, sizeOf, typeInfo, hq, hcs, hs, storeCells, ha, run_store P W q u .plain h1, hc, hf]
theorem isAgg_no {s : TypeId} {td : TypeDesc} (hu : P.underlying s = some td) (h : (match td with | .struct _ | .array _ _ => true | _ => false) = false) : (isAgg s).run P W = .ok false W := by
  cases td <;> simp_all [isAgg, run_underlying hu]
end

end
end Go.Proofs.Ytjmdodgmoehfkaa
