/- Several texts in one: Wk8, Seq2, Sq, Frame, LaidA, Wk9, Wk10, Open03, Open04, Blake, DigA, Grow, DigB, DigC, DigP, Glob3. -/
import Derived.Test.YtmjgjopbeokajaaDoorBunA
import Derived.Laws.CopyRow
import Derived.OrdersHeld
import Derived.ProofKit
import Derived.SizedLaws
import Derived.Deep.Slices
import Derived.OpenShut
import Derived.Laws.MakeOwn
import Derived.Test.YtmjgjopbeokajaaDoorProg
import Derived.KernelRfl
import Derived.ChangeMaps5
import Derived.Lib.SmallJoins
import Derived.Test.YtmjgjopbeokajaaDoorRows
import Derived.LaidMore
import Derived.MakeChecks
import Derived.LaidLaws
import Derived.LaidHandle
namespace Go.Proofs.YtmjgjopbeokajaaDoor
open Go.RowKit

variable {S S' : Nat → Prop}
theorem splice_take {α : Type} {L : List α} {off m : Nat} {cs : List α} (h : off + cs.length ≤ m) (hm : m ≤ L.length) : (splice L off cs).take m = splice (L.take m) off cs := by
  have h1 : (L.take off).length = off := by rw [List.length_take]; omega
  unfold splice
  rw [List.take_append, List.take_of_length_le (l := L.take off) (by omega), h1, List.take_append, List.take_of_length_le (l := cs) (by omega), List.take_take, List.drop_take, Nat.min_eq_left (by omega : off ≤ m)]
  rw [show m - off - cs.length = m - (off + cs.length) by omega]
theorem splice_len {α : Type} {L : List α} {off : Nat} {cs : List α} (h : off + cs.length ≤ L.length) : (splice L off cs).length = L.length := by
  unfold splice
  simp only [List.length_append, List.length_take, List.length_drop]
  omega
section
variable {N : Nat} {m : List (Nat × Value)} {a : Act} {P : Program} {ops : Array Oper} {Q : Exit → Act → World → Prop} {i : Nat} {w : World} {o : Oper} {K : Act → World → Prop}
theorem run_storeVar_at {ty t : TypeId} {g off : Nat} {cur cells : List Value} (hg : Blk w g t cur) (hi : (P.info? ty).map (·.size) = some cells.length) (hl : off + cells.length ≤ cur.length) (h1 : ∀ u ∈ cells, u.oneCell' = true) :
    ∃ w', (storeVar ty ⟨g, off, none⟩ (.agg cells.toArray)).run P w = .ok () w' ∧ Blk w' g t (splice cur off cells) ∧ w.grownBy w' (some g) := by
  have hr := run_storeCells_at (P := P) g off t cells 0 cur.toArray w hg (by simpa using hl) h1
  refine ⟨_, ?_, setRow_heap w g cur.toArray _ t _ hg, ⟨rfl, rfl, rfl, by simp, fun k _ hk => setRow_other w g k _ (fun e => hk (by rw [e]))⟩⟩
  cases hq : P.info? ty with
  | none => simp [hq] at hi
  | some ii =>
    have hs : cells.length = ii.size := by simp [hq] at hi; omega
    simp only [Nat.add_zero] at hr
    simp [storeVar, sizeOf, typeInfo, hq, Value.cells, hs, hr, splice]
/-- an aggregate is stored in a row of the call's own -/
theorem o_storeRowK {ty : TypeId} {x y : Operand} (_hF : Sl N m a) (ho : ops[i]? = some o) (hw : Region.wanted o (yielded ops a.tmps) = true) (hd : o.dst = none) (hop : o.op = .store ty x y) {g off : Nat} {base n cap k j : Nat} {e : TypeId} {xs cells zs : List Value}
    (hx : a.eval x = .pointer (some ⟨g, off, none⟩)) (hy : a.eval y = .agg cells.toArray) (hown : w.ownsRow base e k (.slice (some ⟨g, 0, none⟩) n cap) n xs) (hi : (P.info? ty).map (·.size) = some cells.length) (ho2 : off = j * k) (hj : j < n) (hk : cells.length = k) (h1 : ∀ u ∈ cells, u.oneCell' = true) (hz : splice xs (j * k) cells = zs)
    (h : ∀ w', w'.ownsRow base e k (.slice (some ⟨g, 0, none⟩) n cap) n zs → w.grownBy w' (some g) → K a w') : wpOp P ops Q i K a w := by
  subst ho2
  subst hz
  have hjn : (j + 1) * k ≤ n * k := Nat.mul_le_mul_right _ hj
  rw [Nat.add_mul, Nat.one_mul] at hjn
  rcases hown.2 with ⟨h', _⟩ | ⟨g', cap', cur, h', hb, hg, hnc, hcm, hcs, ht⟩
  · cases h'
  · cases h'
    have hnk : n * k ≤ cap * k := Nat.mul_le_mul_right _ hnc
    have hB : Blk w g e cur.toList := by unfold Blk; rw [Array.toArray_toList]; exact hg
    obtain ⟨w', hr, h2, h3⟩ := run_storeVar_at (P := P) (ty := ty) (off := j * k) (cells := cells) hB hi (by simp; omega) h1
    refine op_do (w' := w') ho hw ?_ (by
      rw [hd]
      refine h w' ⟨?_, .inr ⟨g, cap, (splice cur.toList (j * k) cells).toArray, rfl, hb, h2, hnc, hcm, ?_, ?_⟩⟩ h3
      · rw [splice_len (by rw [hown.1]; omega)]; exact hown.1
      · rw [List.size_toArray, splice_len (by simp; omega)]; simpa using hcs
      · rw [← ht, List.toList_toArray, splice_take (by omega) (by simp; omega)])
    unfold execOp
    simp only [hop, hx, hy, Instr.storeAt, Instr.sureAddr, Sem.run_bind, Sem.run_pure, Result.andThen_ok, hr]
end
theorem digVals_set : ∀ {l : List (List UInt8)}, All32 l → ∀ {i : Nat} {x : List UInt8}, i < l.length → x.length = 32 → splice (digVals l) (i * 32) (byteVals x) = digVals (l.set i x)
  | [], _, i, x, h, _ => absurd h (by simp)
  | y :: l, h, 0, x, _, hx => by
    have hy : (byteVals y).length = 32 := byteVals_len (h y List.mem_cons_self)
    have hx' : (byteVals x).length = 32 := byteVals_len hx
    rw [List.set_cons_zero, digVals, digVals, List.flatMap_cons, List.flatMap_cons, splice, Nat.zero_mul, List.take_zero, List.nil_append, Nat.zero_add, hx', List.drop_append, hy, List.drop_eq_nil_of_le (by omega), List.nil_append, Nat.sub_self, List.drop_zero]
  | y :: l, h, i + 1, x, hi, hx => by
    have ih := digVals_set (l := l) (fun z hz => h z (List.mem_cons_of_mem _ hz)) (i := i) (x := x) (by simpa using hi) hx
    have hy : (byteVals y).length = 32 := byteVals_len (h y List.mem_cons_self)
    have hx' : (byteVals x).length = 32 := byteVals_len hx
    rw [List.set_cons_succ, digVals, digVals, List.flatMap_cons, List.flatMap_cons, ← digVals, ← digVals, ← ih, splice, splice, List.take_append, List.drop_append, hy, hx', List.take_of_length_le (by omega), List.drop_eq_nil_of_le (by omega), List.nil_append, List.append_assoc]
    rw [show (i + 1) * 32 - 32 = i * 32 by omega, show (i + 1) * 32 + 32 - 32 = i * 32 + 32 by omega]
theorem All32.set {l : List (List UInt8)} (h : All32 l) {i : Nat} {x : List UInt8} (hx : x.length = 32) : All32 (l.set i x) := fun y hy => by
  rcases List.mem_or_eq_of_mem_set hy with h1 | h1
  · exact h y h1
  · rw [h1]; exact hx

/-! turning a list around in place -/
def RevInv (l lk : List (List UInt8)) (i : Nat) : Prop := lk.length = l.length ∧ ∀ k, k < l.length → lk.getD k [] = if k < i ∨ l.length - i ≤ k then l.getD (l.length - 1 - k) [] else l.getD k []
theorem RevInv.start (l : List (List UInt8)) : RevInv l l 0 := ⟨rfl, fun k hk => by rw [if_neg (by omega)]⟩
theorem getD_set {l : List (List UInt8)} {i k : Nat} {x : List UInt8} (hi : i < l.length) : (l.set i x).getD k [] = if i = k then x else l.getD k [] := by
  rw [List.getD_eq_getElem?_getD, List.getD_eq_getElem?_getD, List.getElem?_set]
  by_cases h : i = k
  · subst h; simp [hi]
  · simp [h]
theorem RevInv.step {l lk : List (List UInt8)} {i j : Nat} (h : RevInv l lk i) (hij : i < j) (hj : i + j + 1 = l.length) : RevInv l ((lk.set i (lk.getD j [])).set j (lk.getD i [])) (i + 1) := by
  obtain ⟨h1, h2⟩ := h
  refine ⟨by simp [h1], fun k hk => ?_⟩
  rw [getD_set (by rw [List.length_set]; omega), getD_set (by omega)]
  have ha := h2 i (by omega)
  have hb := h2 j (by omega)
  have hc := h2 k hk
  rw [if_neg (by omega)] at ha
  rw [if_neg (by omega)] at hb
  by_cases e1 : j = k
  · subst e1
    rw [if_pos rfl, if_pos (by omega), ha]
    congr 1; omega
  · rw [if_neg e1]
    by_cases e2 : i = k
    · subst e2
      rw [if_pos rfl, if_pos (by omega), hb]
      congr 1; omega
    · rw [if_neg e2, hc]
      by_cases e3 : k < i ∨ l.length - i ≤ k
      · rw [if_pos e3, if_pos (by omega)]
      · rw [if_neg e3, if_neg (by omega)]
theorem RevInv.done {l lk : List (List UInt8)} {i : Nat} (h : RevInv l lk i) (hi : l.length ≤ 2 * i + 1) : lk = l.reverse := by
  obtain ⟨h1, h2⟩ := h
  apply List.ext_getElem (by simp [h1])
  intro k hk1 hk2
  have hk : k < l.length := by omega
  have h3 := h2 k hk
  rw [List.getElem_reverse]
  rw [List.getD_eq_getElem?_getD, List.getElem?_eq_getElem hk1, Option.getD_some] at h3
  rw [h3]
  split
  · rw [List.getD_eq_getElem?_getD, List.getElem?_eq_getElem (by omega), Option.getD_some]
  · rw [List.getD_eq_getElem?_getD, List.getElem?_eq_getElem hk, Option.getD_some]
    congr 1; omega
theorem RevInv.all32 {l lk : List (List UInt8)} {i : Nat} (h : RevInv l lk i) (h32 : All32 l) : All32 lk := by
  obtain ⟨h1, h2⟩ := h
  intro x hx
  obtain ⟨k, hk, rfl⟩ := List.getElem_of_mem hx
  have h3 := h2 k (by omega)
  rw [List.getD_eq_getElem?_getD, List.getElem?_eq_getElem hk, Option.getD_some] at h3
  rw [h3]
  split
  · exact dig_len h32 _ (by omega)
  · exact dig_len h32 _ (by omega)

theorem ret4 {N : Nat} {m : List (Nat × Value)} {a : Act} {P : Program} {fn : Func} {R : Ending → World → Prop} {w : World} {t1 t2 t3 t4 : Nat} {v1 v2 v3 v4 : Value} (hF : Sl N m a) (hr : fn.results = #[.tmp t1, .tmp t2, .tmp t3, .tmp t4]) (h1 : look m t1 = some v1) (h2 : look m t2 = some v2) (h3 : look m t3 = some v3) (h4 : look m t4 = some v4) (h : R (.returned (.tuple #[v1, v2, v3, v4])) w) : bodyPost P fn R .ret a w := by
  have e1 := hF.get h1; have e2 := hF.get h2; have e3 := hF.get h3; have e4 := hF.get h4
  simp only [Act.eval, Array.getD_eq_getD_getElem?] at e1 e2 e3 e4
  refine bodyPost_ret ?_ hF.2.1 h
  simp [results, hr, e1, e2, e3, e4]

end Go.Proofs.YtmjgjopbeokajaaDoor

namespace Go.Proofs.YtmjgjopbeokajaaDoor
open Go.RowKit

section
variable {P : Program} {ops : Array Oper} {Q : Exit → Act → World → Prop} {S S2 : World → Prop} {F : Nat → Bool} {light : Nat → Bool}

/-- Whatever order is picked; S holds behind every operation that is not of F. -/
def wpAnyG (P : Program) (ops : Array Oper) (Q : Exit → Act → World → Prop) (S : World → Prop) (F : Nat → Bool) (S2 : World → Prop) : Nat → Array Bool → Act → World → Prop
  | 0, listed, a, w => Region.ready .any ops listed = [] ∧ Q .normal a w
  | fuel + 1, listed, a, w =>
    (Region.ready .any ops listed = [] → Q .normal a w) ∧
    ∀ i ∈ Region.ready .any ops listed, wpOp P ops Q i (fun a' w' => ((F i = false → S w → S w') ∧ (S2 w → S2 w')) ∧ wpAnyG P ops Q S F S2 fuel (listed.setIfInBounds i true) a' w') a w

theorem wpAny_of_G : ∀ (fuel : Nat) (listed : Array Bool) (a : Act) (w : World), wpAnyG P ops Q S F S2 fuel listed a w → wpAny P .any ops Q fuel listed a w
  | 0, _, _, _, h => h
  | fuel + 1, _, _, _, h => ⟨h.1, fun i hi => wpOp_mono (fun a' w' h' => wpAny_of_G fuel _ a' w' h'.2) (h.2 i hi)⟩

theorem wpAnyG_first {i : Nat} {oi : Oper} {v : Value} (hi : ops[i]? = some oi) (hsel : ∀ (j : Nat) (o : Oper) cs b, ops[j]? = some o → o.op ≠ .select cs b)
    (hQ : ∀ c a w, Q (.panic c) (a.put oi.dst v) w → Q (.panic c) a w) (hFi : F i = false) :
    ∀ (fuel : Nat) (listed : Array Bool) (a : Act) (w : World),
      (∀ j oj, ops[j]? = some oj → j ≠ i → listed.getD j true = false → (∀ e ∈ oj.after, Region.binds .any e = true → e.on ≠ i) → oi.apart ops oj = true) →
      (∀ j oj, ops[j]? = some oj → F j = true → ∃ e ∈ oj.after, Region.binds .any e = true ∧ e.on = i) →
      i ∈ Region.ready .any ops listed → YieldsIf P ops S oi v a → S w →
      wpAnyG P ops Q S F S2 fuel (listed.setIfInBounds i true) (a.put oi.dst v) w → wpAnyG P ops Q S F S2 (fuel + 1) listed a w := by
  intro fuel
  induction fuel with
  | zero =>
    intro listed a w _ _ hr hy hS H
    refine ⟨fun h => (by rw [h] at hr; cases hr), fun j hj => ?_⟩
    by_cases hji : j = i
    · subst hji; exact hy.wpOp hi hS ⟨⟨fun _ h => h, fun h => h⟩, H⟩
    · have := ready_mono hj hji
      rw [H.1] at this
      cases this
  | succ fuel ih =>
    intro listed a w hfree hwait hr hy hS H
    refine ⟨fun h => (by rw [h] at hr; cases hr), fun j hj => ?_⟩
    by_cases hji : j = i
    · subst hji; exact hy.wpOp hi hS ⟨⟨fun _ h => h, fun h => h⟩, H⟩
    · have h1 := H.2 j (ready_mono hj hji)
      obtain ⟨hjun, oj, hoj, hall⟩ := mem_ready.1 hj
      have hnot : ∀ e ∈ oj.after, Region.binds .any e = true → e.on ≠ i := fun e he hb heq => by
        have h1 := hall e he hb
        have h0 := (mem_ready.1 hr).1
        rw [heq] at h1
        rcases Nat.lt_or_ge i listed.size with h' | h'
        · simp [h'] at h0 h1; rw [h0] at h1; cases h1
        · simp [Array.getElem?_eq_none h'] at h1
      have hFj : F j = false := by
        cases hF : F j with
        | false => rfl
        | true =>
          obtain ⟨e, he, hb, heq⟩ := hwait j oj hoj hF
          exact absurd heq (hnot e he hb)
      have h2 := wpOp_putIf hoj (hfree j oj hoj hji hjun hnot) (fun cs b => hsel i oi cs b hi) (fun cs b => hsel j oj cs b hoj) hQ hy h1
      have hfree' : ∀ k ok, ops[k]? = some ok → k ≠ i → (listed.setIfInBounds j true).getD k true = false →
          (∀ e ∈ ok.after, Region.binds .any e = true → e.on ≠ i) → oi.apart ops ok = true := fun k ok hk hki hun hno => by
        refine hfree k ok hk hki ?_ hno
        by_cases hjk : j = k
        · subst hjk; exact hjun
        · rw [getD_set_ne true hjk] at hun; exact hun
      refine wpOp_mono (fun a' w' h3 => ⟨h3.2.1, ih (listed.setIfInBounds j true) a' w' hfree' hwait (ready_mono hr (Ne.symm hji)) h3.1 (h3.2.1.1 hFj hS) ?_⟩) h2
      rw [Array.setIfInBounds_comm _ _ hji]
      exact h3.2.2

theorem wpAnyG_first2 {i : Nat} {oi : Oper} {v : Value} (hi : ops[i]? = some oi) (hsel : ∀ (j : Nat) (o : Oper) cs b, ops[j]? = some o → o.op ≠ .select cs b)
    (hQ : ∀ c a w, Q (.panic c) (a.put oi.dst v) w → Q (.panic c) a w) :
    ∀ (fuel : Nat) (listed : Array Bool) (a : Act) (w : World),
      (∀ j oj, ops[j]? = some oj → j ≠ i → listed.getD j true = false → (∀ e ∈ oj.after, Region.binds .any e = true → e.on ≠ i) → oi.apart ops oj = true) →
      i ∈ Region.ready .any ops listed → YieldsIf P ops S2 oi v a → S2 w →
      wpAnyG P ops Q S F S2 fuel (listed.setIfInBounds i true) (a.put oi.dst v) w → wpAnyG P ops Q S F S2 (fuel + 1) listed a w := by
  intro fuel
  induction fuel with
  | zero =>
    intro listed a w _ hr hy hS H
    refine ⟨fun h => (by rw [h] at hr; cases hr), fun j hj => ?_⟩
    by_cases hji : j = i
    · subst hji; exact hy.wpOp hi hS ⟨⟨fun _ h => h, fun h => h⟩, H⟩
    · have := ready_mono hj hji
      rw [H.1] at this
      cases this
  | succ fuel ih =>
    intro listed a w hfree hr hy hS H
    refine ⟨fun h => (by rw [h] at hr; cases hr), fun j hj => ?_⟩
    by_cases hji : j = i
    · subst hji; exact hy.wpOp hi hS ⟨⟨fun _ h => h, fun h => h⟩, H⟩
    · have h1 := H.2 j (ready_mono hj hji)
      obtain ⟨hjun, oj, hoj, hall⟩ := mem_ready.1 hj
      have hnot : ∀ e ∈ oj.after, Region.binds .any e = true → e.on ≠ i := fun e he hb heq => by
        have h1 := hall e he hb
        have h0 := (mem_ready.1 hr).1
        rw [heq] at h1
        rcases Nat.lt_or_ge i listed.size with h' | h'
        · simp [h'] at h0 h1; rw [h0] at h1; cases h1
        · simp [Array.getElem?_eq_none h'] at h1
      have h2 := wpOp_putIf hoj (hfree j oj hoj hji hjun hnot) (fun cs b => hsel i oi cs b hi) (fun cs b => hsel j oj cs b hoj) hQ hy h1
      have hfree' : ∀ k ok, ops[k]? = some ok → k ≠ i → (listed.setIfInBounds j true).getD k true = false →
          (∀ e ∈ ok.after, Region.binds .any e = true → e.on ≠ i) → oi.apart ops ok = true := fun k ok hk hki hun hno => by
        refine hfree k ok hk hki ?_ hno
        by_cases hjk : j = k
        · subst hjk; exact hjun
        · rw [getD_set_ne true hjk] at hun; exact hun
      refine wpOp_mono (fun a' w' h3 => ⟨h3.2.1, ih (listed.setIfInBounds j true) a' w' hfree' (ready_mono hr (Ne.symm hji)) h3.1 (h3.2.1.2 hS) ?_⟩) h2
      rw [Array.setIfInBounds_comm _ _ hji]
      exact h3.2.2

/-- The same for an operation that looks at no memory: nothing need wait for it. -/
theorem wpAnyG_firstP {i : Nat} {oi : Oper} {v : Value} (hi : ops[i]? = some oi) (hsel : ∀ (j : Nat) (o : Oper) cs b, ops[j]? = some o → o.op ≠ .select cs b)
    (hQ : ∀ c a w, Q (.panic c) (a.put oi.dst v) w → Q (.panic c) a w) :
    ∀ (fuel : Nat) (listed : Array Bool) (a : Act) (w : World),
      (∀ j oj, ops[j]? = some oj → j ≠ i → listed.getD j true = false → (∀ e ∈ oj.after, Region.binds .any e = true → e.on ≠ i) → oi.apart ops oj = true) →
      i ∈ Region.ready .any ops listed → Yields P ops oi v a →
      wpAnyG P ops Q S F S2 fuel (listed.setIfInBounds i true) (a.put oi.dst v) w → wpAnyG P ops Q S F S2 (fuel + 1) listed a w := by
  intro fuel
  induction fuel with
  | zero =>
    intro listed a w _ hr hy H
    refine ⟨fun h => (by rw [h] at hr; cases hr), fun j hj => ?_⟩
    by_cases hji : j = i
    · subst hji; exact hy.wpOp hi ⟨⟨fun _ h => h, fun h => h⟩, H⟩
    · have := ready_mono hj hji
      rw [H.1] at this
      cases this
  | succ fuel ih =>
    intro listed a w hfree hr hy H
    refine ⟨fun h => (by rw [h] at hr; cases hr), fun j hj => ?_⟩
    by_cases hji : j = i
    · subst hji; exact hy.wpOp hi ⟨⟨fun _ h => h, fun h => h⟩, H⟩
    · have h1 := H.2 j (ready_mono hj hji)
      obtain ⟨hjun, oj, hoj, hall⟩ := mem_ready.1 hj
      have hnot : ∀ e ∈ oj.after, Region.binds .any e = true → e.on ≠ i := fun e he hb heq => by
        have h1 := hall e he hb
        have h0 := (mem_ready.1 hr).1
        rw [heq] at h1
        rcases Nat.lt_or_ge i listed.size with h' | h'
        · simp [h'] at h0 h1; rw [h0] at h1; cases h1
        · simp [Array.getElem?_eq_none h'] at h1
      have h2 := wpOp_put hoj (hfree j oj hoj hji hjun hnot) (fun cs b => hsel i oi cs b hi) (fun cs b => hsel j oj cs b hoj) hQ hy h1
      have hfree' : ∀ k ok, ops[k]? = some ok → k ≠ i → (listed.setIfInBounds j true).getD k true = false →
          (∀ e ∈ ok.after, Region.binds .any e = true → e.on ≠ i) → oi.apart ops ok = true := fun k ok hk hki hun hno => by
        refine hfree k ok hk hki ?_ hno
        by_cases hjk : j = k
        · subst hjk; exact hjun
        · rw [getD_set_ne true hjk] at hun; exact hun
      refine wpOp_mono (fun a' w' h3 => ⟨h3.2.1, ih (listed.setIfInBounds j true) a' w' hfree' (ready_mono hr (Ne.symm hji)) h3.1 ?_⟩) h2
      rw [Array.setIfInBounds_comm _ _ hji]
      exact h3.2.2

theorem anyg_start {id : Nat} {a : Act} {w : World} (S : World → Prop) (F : Nat → Bool) (S2 : World → Prop) (n : Nat) (L : Array Bool) (hm : P.follows .mixedOrders = true) (hn : n = ops.size) (hL : L = Array.replicate ops.size false)
    (h : wpAnyG P ops Q S F S2 n L a w.drew) : (Code.region id ops true).wp P Q a w :=
  wp_region_any hm (wpAny_of_G _ _ _ _ (hL ▸ hn ▸ h))

theorem anyg_nil {a : Act} {w : World} {L : Array Bool} (hr : Region.ready .any ops L = []) (h : Q .normal a w) : wpAnyG P ops Q S F S2 0 L a w := ⟨hr, h⟩

theorem anyg_light {i n : Nat} {L L' : Array Bool} {a : Act} {w : World} {o : Oper} {v : Value} (hs : Region.noSelect ops = true) (hb : lightB ops F L i = true) (hL : L.setIfInBounds i true = L') (ho : ops[i]? = some o) (hQ : ∀ c a w, Q (.panic c) (a.put o.dst v) w → Q (.panic c) a w) (hw : Region.wanted o (yielded ops a.tmps) = true) (hS : S w)
    (hr : ∀ W, S W → (execOp a.eval o).run P W = .ok (.value v) W) (h : wpAnyG P ops Q S F S2 n L' (a.put o.dst v) w) : wpAnyG P ops Q S F S2 (n + 1) L a w := by
  subst hL
  simp only [lightB, Bool.and_eq_true, Bool.not_eq_true'] at hb
  obtain ⟨⟨⟨h2, h3⟩, h4⟩, h5⟩ := hb
  exact wpAnyG_first ho (Region.noSelect_spec hs) hQ h2 n L a w (Region.free_spec ho h3) (fun j oj hj hF => waitsB_spec h5 j oj hj hF) (by simpa using h4) (.inl ⟨hw, hr⟩) hS h
theorem anyg_pureY {i n : Nat} {L L' : Array Bool} {a : Act} {w : World} {o : Oper} {v : Value} (hs : Region.noSelect ops = true) (hb : freeB ops L i = true) (hL : L.setIfInBounds i true = L') (ho : ops[i]? = some o) (hQ : ∀ c a w, Q (.panic c) (a.put o.dst v) w → Q (.panic c) a w)
    (hy : Yields P ops o v a) (h : wpAnyG P ops Q S F S2 n L' (a.put o.dst v) w) : wpAnyG P ops Q S F S2 (n + 1) L a w := by
  subst hL
  simp only [freeB, Bool.and_eq_true] at hb
  exact wpAnyG_firstP ho (Region.noSelect_spec hs) hQ n L a w (Region.free_spec ho hb.1) (by simpa using hb.2) hy h

theorem anyg_one {i n : Nat} {L L' : Array Bool} {a : Act} {w : World} (hr : Region.ready .any ops L = [i]) (hL : L.setIfInBounds i true = L')
    (h : wpOp P ops Q i (fun a' w' => ((F i = false → S w → S w') ∧ (S2 w → S2 w')) ∧ wpAnyG P ops Q S F S2 n L' a' w') a w) : wpAnyG P ops Q S F S2 (n + 1) L a w := by
  subst hL
  refine ⟨fun h0 => (by rw [hr] at h0; cases h0), fun j hj => ?_⟩
  rw [hr] at hj
  simp only [List.mem_singleton] at hj
  subst hj
  exact h
def light2B (ops : Array Oper) (listed : Array Bool) (i : Nat) : Bool := Region.free .any ops listed i && (Region.ready .any ops listed).contains i
theorem anyg_light2 {i n : Nat} {L L' : Array Bool} {a : Act} {w : World} {o : Oper} {v : Value} (hs : Region.noSelect ops = true) (hb : light2B ops L i = true) (hL : L.setIfInBounds i true = L') (ho : ops[i]? = some o) (hQ : ∀ c a w, Q (.panic c) (a.put o.dst v) w → Q (.panic c) a w) (hw : Region.wanted o (yielded ops a.tmps) = true) (hS : S2 w)
    (hr : ∀ W, S2 W → (execOp a.eval o).run P W = .ok (.value v) W) (h : wpAnyG P ops Q S F S2 n L' (a.put o.dst v) w) : wpAnyG P ops Q S F S2 (n + 1) L a w := by
  subst hL
  simp only [light2B, Bool.and_eq_true] at hb
  exact wpAnyG_first2 ho (Region.noSelect_spec hs) hQ n L a w (Region.free_spec ho hb.1) (by simpa using hb.2) (.inl ⟨hw, hr⟩) hS h
variable {N d : Nat} {m : List (Nat × Value)} {a : Act} {w : World} {o : Oper} {v : Value} {i : Nat}
theorem anyg_val {n : Nat} {L L' : Array Bool} (hF : Sl N m a) (hs : Region.noSelect ops = true) (hb : lightB ops F L i = true) (hL : L.setIfInBounds i true = L') (ho : ops[i]? = some o) (hd : o.dst = some d) (hN : Nat.blt d N = true)
    (hQ : ∀ c a w v, Q (.panic c) (a.put (some d) v) w → Q (.panic c) a w) (hw : Region.wanted o (yielded ops a.tmps) = true) (hS : S w)
    (hr : ∀ W, S W → (execOp a.eval o).run P W = .ok (.value v) W) (h : ∀ a', Sl N ((d, v) :: m) a' → wpAnyG P ops Q S F S2 n L' a' w) : wpAnyG P ops Q S F S2 (n + 1) L a w :=
  anyg_light hs hb hL ho (by rw [hd]; exact fun c a w => hQ c a w _) hw hS hr (h _ (by rw [hd]; exact hF.put hN))
theorem anyg_val2 {n : Nat} {L L' : Array Bool} (hF : Sl N m a) (hs : Region.noSelect ops = true) (hb : light2B ops L i = true) (hL : L.setIfInBounds i true = L') (ho : ops[i]? = some o) (hd : o.dst = some d) (hN : Nat.blt d N = true)
    (hQ : ∀ c a w v, Q (.panic c) (a.put (some d) v) w → Q (.panic c) a w) (hw : Region.wanted o (yielded ops a.tmps) = true) (hS : S2 w)
    (hr : ∀ W, S2 W → (execOp a.eval o).run P W = .ok (.value v) W) (h : ∀ a', Sl N ((d, v) :: m) a' → wpAnyG P ops Q S F S2 n L' a' w) : wpAnyG P ops Q S F S2 (n + 1) L a w :=
  anyg_light2 hs hb hL ho (by rw [hd]; exact fun c a w => hQ c a w _) hw hS hr (h _ (by rw [hd]; exact hF.put hN))
theorem anyg_pure {n : Nat} {L L' : Array Bool} (hF : Sl N m a) (hs : Region.noSelect ops = true) (hb : freeB ops L i = true) (hL : L.setIfInBounds i true = L') (ho : ops[i]? = some o) (hd : o.dst = some d) (hN : Nat.blt d N = true)
    (hQ : ∀ c a w v, Q (.panic c) (a.put (some d) v) w → Q (.panic c) a w) (hw : Region.wanted o (yielded ops a.tmps) = true)
    (hr : ∀ W, (execOp a.eval o).run P W = .ok (.value v) W) (h : ∀ a', Sl N ((d, v) :: m) a' → wpAnyG P ops Q S F S2 n L' a' w) : wpAnyG P ops Q S F S2 (n + 1) L a w :=
  anyg_pureY hs hb hL ho (by rw [hd]; exact fun c a w => hQ c a w _) (.inl ⟨hw, hr⟩) (h _ (by rw [hd]; exact hF.put hN))
end

end Go.Proofs.YtmjgjopbeokajaaDoor

namespace Go.Proofs.YtmjgjopbeokajaaDoor
open Go.RowKit

section
variable {P : Program} {ops : Array Oper} {Q : Exit → Act → World → Prop} {S S2 : World → Prop} {F : Nat → Bool} {w : World} {o : Oper} {d N n : Nat} {m : List (Nat × Value)} {a : Act} {L L' : Array Bool}
theorem qv {rest : List Oper} (i : Nat) (v : Value) (hF : Sl N m a) (hw : Region.wanted o (yielded ops a.tmps) = true) (hr : (execOp a.eval o).run P w = .ok (.value v) w) (h : ∀ a', Sl N ((d, v) :: m) a' → wpList P ops Q rest a' w)
    (ho : ops[i]? = some o := by rfl) (hd : o.dst = some d := by rfl) (hN : Nat.blt d N = true := by rfl) : wpList P ops Q (o :: rest) a w := wpl_op ho (o_val hF ho hw hd hN hr h)
theorem qp (i : Nat) (v : Value) (hF : Sl N m a) (ho : ops[i]? = some o) (hw : Region.wanted o (yielded ops a.tmps) = true) (hr : ∀ W, (execOp a.eval o).run P W = .ok (.value v) W) (h : ∀ a', Sl N ((d, v) :: m) a' → wpAnyF P ops Q S F n L' a' w)
    (hd : o.dst = some d := by rfl) (hL : L.setIfInBounds i true = L' := by rfl) (hs : Region.noSelect ops = true := by decide +kernel) (hb : freeB ops L i = true := by decide +kernel) (hN : Nat.blt d N = true := by rfl)
    (hQ : ∀ c a w v, Q (.panic c) (a.put (some d) v) w → Q (.panic c) a w := by exact fun _ _ _ _ h => h) : wpAnyF P ops Q S F (n + 1) L a w := any_pure hF hs hb hL ho hd hN hQ hw hr h
theorem qs (i : Nat) (v : Value) (hF : Sl N m a) (ho : ops[i]? = some o) (hw : Region.wanted o (yielded ops a.tmps) = true) (hS : S w) (hr : ∀ W, S W → (execOp a.eval o).run P W = .ok (.value v) W) (h : ∀ a', Sl N ((d, v) :: m) a' → wpAnyF P ops Q S F n L' a' w)
    (hd : o.dst = some d := by rfl) (hL : L.setIfInBounds i true = L' := by rfl) (hs : Region.noSelect ops = true := by decide +kernel) (hb : lightB ops F L i = true := by decide +kernel) (hN : Nat.blt d N = true := by rfl)
    (hQ : ∀ c a w v, Q (.panic c) (a.put (some d) v) w → Q (.panic c) a w := by exact fun _ _ _ _ h => h) : wpAnyF P ops Q S F (n + 1) L a w := any_val hF hs hb hL ho hd hN hQ hw hS hr h
theorem gp (i : Nat) (v : Value) (hF : Sl N m a) (ho : ops[i]? = some o) (hw : Region.wanted o (yielded ops a.tmps) = true) (hr : ∀ W, (execOp a.eval o).run P W = .ok (.value v) W) (h : ∀ a', Sl N ((d, v) :: m) a' → wpAnyG P ops Q S F S2 n L' a' w)
    (hd : o.dst = some d := by rfl) (hL : L.setIfInBounds i true = L' := by rfl) (hs : Region.noSelect ops = true := by decide +kernel) (hb : freeB ops L i = true := by decide +kernel) (hN : Nat.blt d N = true := by rfl)
    (hQ : ∀ c a w v, Q (.panic c) (a.put (some d) v) w → Q (.panic c) a w := by exact fun _ _ _ _ h => h) : wpAnyG P ops Q S F S2 (n + 1) L a w := anyg_pure hF hs hb hL ho hd hN hQ hw hr h
theorem gs (i : Nat) (v : Value) (hF : Sl N m a) (ho : ops[i]? = some o) (hw : Region.wanted o (yielded ops a.tmps) = true) (hS : S w) (hr : ∀ W, S W → (execOp a.eval o).run P W = .ok (.value v) W) (h : ∀ a', Sl N ((d, v) :: m) a' → wpAnyG P ops Q S F S2 n L' a' w)
    (hd : o.dst = some d := by rfl) (hL : L.setIfInBounds i true = L' := by rfl) (hs : Region.noSelect ops = true := by decide +kernel) (hb : lightB ops F L i = true := by decide +kernel) (hN : Nat.blt d N = true := by rfl)
    (hQ : ∀ c a w v, Q (.panic c) (a.put (some d) v) w → Q (.panic c) a w := by exact fun _ _ _ _ h => h) : wpAnyG P ops Q S F S2 (n + 1) L a w := anyg_val hF hs hb hL ho hd hN hQ hw hS hr h
variable {j dj : Nat} {b x y : Bool} {oj : Oper}
theorem qg {rest : List Oper} (i : Nat) (v : Value) (hF : Sl N m a) (hy : y = x) (hr : (execOp a.eval o).run P w = .ok (.value v) w) (h : ∀ a', Sl N ((d, v) :: m) a' → wpList P ops Q rest a' w)
    (hg : o.guard = some (j, b) := by rfl) (hj : ops[j]? = some oj := by rfl) (hdj : oj.dst = some dj := by rfl) (hv : look m dj = some (.bool y) := by rfl) (hb : (x == b) = true := by rfl)
    (ho : ops[i]? = some o := by rfl) (hd : o.dst = some d := by rfl) (hN : Nat.blt d N = true := by rfl) : wpList P ops Q (o :: rest) a w := wpl_op ho (o_val hF ho (wanted_guard hg hj hdj hF hv hy hb) hd hN hr h)
theorem qu {rest : List Oper} (i : Nat) (hF : Sl N m a) (hy : y = x) (h : ∀ a', Sl N ((d, undef) :: m) a' → wpList P ops Q rest a' w)
    (hg : o.guard = some (j, b) := by rfl) (hj : ops[j]? = some oj := by rfl) (hdj : oj.dst = some dj := by rfl) (hv : look m dj = some (.bool y) := by rfl) (hb : (x == b) = false := by rfl)
    (ho : ops[i]? = some o := by rfl) (hd : o.dst = some d := by rfl) (hN : Nat.blt d N = true := by rfl) : wpList P ops Q (o :: rest) a w := wpl_op ho (o_skip hF ho (unwanted_guard hg hj hdj hF hv hy hb) hd hN h)
theorem Sl.c {m' : List (Nat × Value)} {v : Value} (h0 : Sl N m' a) (hF : Sl N m a) (t : Nat) (h : look m t = some v) : Sl N ((t, v) :: m') a := h0.cons (hF.get h)
end

end Go.Proofs.YtmjgjopbeokajaaDoor

namespace Go.Proofs.YtmjgjopbeokajaaDoor
open Go.RowKit Go.ChangeShapes Go.WideShapes Go.ChangeAt Go.Deep

section
variable {H : Type} {enc : TypeId × Value → H} {P : Program}

/-- The blocks that were there. -/
def Old (w : World) (b : Nat) : Prop := b < w.heap.size

theorem sameAt_of_ext {W W' : World} (hb : Ext W W') {p : MemPlace} (hp : p.block < W.heap.size) : W.sameAt W' p := by
  cases p with
  | cell b off => exact hb.cell hp
  | map b => exact hb.below.block b hp

theorem trodAll_ext {W W' : World} (hb : Ext W W') {sp : Nat → Bool} : ∀ {ts : List TypeId} {vs : List Value} {ds : List (DataW H)} {ps : List MemPlace},
    DataW.TrodAll enc P W 0 sp true ts vs ds ps → (∀ p ∈ ps, p.block < W.heap.size) → DataW.TrodAll enc P W' 0 sp true ts vs ds ps
  | [], [], [], _, h, _ => h
  | _ :: _, _ :: _, _ :: _, _, ⟨p, q, ⟨n, h1⟩, h2, e⟩, hs =>
    ⟨p, q, ⟨n, DataW.trod_carry n _ _ _ h1 (fun x hx => sameAt_of_ext hb (hs x (by rw [e]; exact List.mem_append_left _ hx)))⟩,
      trodAll_ext hb h2 (fun x hx => hs x (by rw [e]; exact List.mem_append_right _ hx)), e⟩

/-- What a law owes behind its call: it has returned true, and nothing that was there has changed. -/
theorem law_post {f : Func} {s : ChangeSpec} {W W' : World} {args : Array Value} {ds : List (DataW H)} {before : List MemPlace}
    (hl : laidOutB P = true) (hm : mapsRowed P = true) (hf : ((List.range P.types.size).all fun t => match P.underlying t with | some (.slice e) => decide (0 < P.cellsOf e) | _ => true) = true)
    (hts : ∀ t ∈ f.params.toList, t < P.types.size) (hv : s.vars = []) {tb : TypeId} (hr : f.resultTypes = #[tb]) (hb : P.underlying tb = some .bool)
    (hs : s.fn H ds = { results := [.lit (.bool true)], args := ds })
    (hW : DataW.Whole enc P f.params.toList s.vars false W args.toList ds [] before) (hx : Ext W W') :
    s.post enc P f false true false false W args (.bool true) W' := by
  have hlt : ∀ p ∈ before, p.block < W.heap.size := fun p hp => hW.lt p hp
  obtain ⟨p, q, hA, hV, rfl, hz, hn⟩ := id hW
  rw [hv] at hV
  have hq : q = [] := hV
  subst hq
  rw [List.append_nil] at hW hlt hz
  have again : ∀ sp : Nat → Bool, (∀ x ∈ p, sp x.block = true) → DataW.TrodAll enc P W' 0 sp true f.params.toList args.toList ds p := fun sp hsp =>
    trodAll_ext hx (DataW.TrodAll.respare (kids_rows hl hm) (fun t e ht hu => slices_full_of P hf t e ht hu) hts hA hsp) hlt
  have hold : ∀ x ∈ p, (fun b => decide (b < W.heap.size)) x.block = true := fun x hx => by simpa using hlt x hx
  have hres : ∀ (b : Nat) (sp : Nat → Bool) (hd : Bool), DataW.TrodAll enc P W' b sp hd f.resultTypes.toList ((Value.bool true).resultList f.resultTypes.size) [.lit (.bool true)] [] := fun b sp hd => by
    rw [hr]; exact trodAll_mk1 (shut_bool hb _)
  refine ⟨ds, [], p, [], p, [], hW, ?_, ?_, ?_, ?_, fun _ => ?_⟩
  · rw [List.append_nil, hs]; exact hres _ _ _
  · rw [List.append_nil, hs]; exact again _ hold
  · rw [List.append_nil, hs, hv]; rfl
  · refine World.keptBut_mono (fun x hx => ⟨hx, ?_⟩) (hx.below.frame (· ∈ p))
    exact Or.inr (by simpa using hx)
  · refine ⟨?_, [.lit (.bool true)] ++ ds, [], ([] ++ p) ++ [], ⟨[] ++ p, [], ?_, ?_, rfl, ?_, ?_⟩, ?_⟩
    · exact ok_one hr rfl (okWide_bool_mk hb _)
    · exact trodAll_append (again _ (fun _ _ => rfl)) (hres _ _ _)
    · rw [hv]; rfl
    · intro b off hp
      have hin : MemPlace.cell b off ∈ p := by simpa using hp
      rw [hx.frz b off (hlt _ hin)]
      exact hz b off hin
    · intro ha; cases ha
    · intro x hx _
      simpa using hx

/-- The weights of a datum are within reach. -/
def Reach (P : Program) (t : TypeId) (d : DataW H) : Prop := ∀ n ∈ d.weights P t, n ≤ reachBytes

theorem reach_of {ts : List TypeId} {ds : List (DataW H)} (h : (DataW.weightsEach P ts ds).all (· ≤ reachBytes) = true) {j : Nat} {t : TypeId} {d : DataW H} (ht : ts[j]? = some t) (hd : ds[j]? = some d) : Reach P t d := fun n hn => by
  have := List.all_eq_true.1 h n (DataW.weights_mem_each ht hd n hn)
  simpa using this

theorem weightsAll_mem {e : TypeId} {x : DataW H} {n : Nat} (hn : n ∈ x.weights P e) : ∀ {l : List (DataW H)}, x ∈ l → n ∈ DataW.weightsAll P e l
  | y :: l, h => by
    simp only [DataW.weightsAll, List.mem_append]
    cases h with
    | head => exact .inl hn
    | tail _ h => exact .inr (weightsAll_mem hn h)

theorem Reach.elem {t e : TypeId} {l s : List (DataW H)} (h : Reach P t (.slice l s)) (ht : P.underlying t = some (.slice e)) {x : DataW H} (hx : x ∈ l) : Reach P e x := fun n hn => h n (by
  simp only [DataW.weights, ht, List.mem_cons, List.mem_append]
  exact .inr (.inl (weightsAll_mem hn hx)))
theorem Reach.len {t e : TypeId} {l s : List (DataW H)} (h : Reach P t (.slice l s)) (ht : P.underlying t = some (.slice e)) : (l.length + s.length) * P.bytesOf e ≤ reachBytes := h _ (by
  simp [DataW.weights, ht])
theorem Reach.field {t : TypeId} {fs : Array Field} {l : List (DataW H)} (h : Reach P t (.agg l)) (ht : P.underlying t = some (.struct fs)) {j : Nat} {f : Field} {x : DataW H} (hf : fs[j]? = some f) (hx : l[j]? = some x) : Reach P f.type x := fun n hn => h n (by
  simp only [DataW.weights, ht]
  refine DataW.weights_mem_each (j := j) (t := f.type) (d := x) ?_ hx n hn
  rw [List.getElem?_map, Array.getElem?_toList, hf]; rfl)

end

/-- A choice for every index, as_ a list. -/
theorem list_of_lt {α : Type} {n : Nat} {p : Nat → α → Prop} (h : ∀ i, i < n → ∃ x, p i x) : ∃ l : List α, l.length = n ∧ ∀ i (hi : i < l.length), p i l[i] := by
  induction n with
  | zero => exact ⟨[], rfl, fun i hi => absurd hi (Nat.not_lt_zero _)⟩
  | succ n ih =>
    obtain ⟨l, hl, hp⟩ := ih (fun i hi => h i (Nat.lt_succ_of_lt hi))
    obtain ⟨x, hx⟩ := h n (Nat.lt_succ_self n)
    refine ⟨l ++ [x], by simp [hl], fun i hi => ?_⟩
    by_cases hlt : i < l.length
    · rw [List.getElem_append_left hlt]; exact hp i hlt
    · have : i = l.length := by simp at hi; omega
      subst this
      simp only [List.getElem_append_right (Nat.le_refl _), Nat.sub_self, List.getElem_cons_zero]
      rw [hl]; exact hx

section
variable {H : Type} {enc : TypeId × Value → H} {P : Program} {W : World}

theorem flat_length {α : Type} {l : List (List α)} {k : Nat} (h : ∀ x ∈ l, x.length = k) : l.flatten.length = l.length * k := by
  induction l with
  | nil => simp
  | cons x l ih =>
    rw [List.flatten_cons, List.length_append, ih (fun y hy => h y (List.mem_cons_of_mem _ hy)), h x (List.mem_cons_self ..), List.length_cons, Nat.add_mul, Nat.one_mul, Nat.add_comm]

theorem chunk_flat {l : List (List Value)} {k : Nat} (h : ∀ x ∈ l, x.length = k) : ∀ i (hi : i < l.length), chunk k l.flatten i = l[i] := by
  induction l with
  | nil => intro i hi; exact absurd hi (Nat.not_lt_zero _)
  | cons x l ih =>
    intro i hi
    have hx := h x (List.mem_cons_self ..)
    unfold chunk
    cases i with
    | zero => simp [hx]
    | succ i =>
      rw [List.flatten_cons, Nat.add_mul, Nat.one_mul, List.drop_append, List.drop_eq_nil_of_le (by omega), List.nil_append, hx, Nat.add_sub_cancel]
      exact ih (fun y hy => h y (List.mem_cons_of_mem _ hy)) i (by simpa using hi)

theorem flat_get {l : List (List Value)} {k : Nat} (h : ∀ x ∈ l, x.length = k) {j : Nat} {u : Value} (hu : l.flatten[j]? = some u) (hk : 0 < k) : ∃ x, l[j / k]? = some x ∧ x[j % k]? = some u := by
  induction l generalizing j with
  | nil => simp at hu
  | cons x l ih =>
    have hx := h x (List.mem_cons_self ..)
    rw [List.flatten_cons] at hu
    by_cases hj : j < k
    · rw [List.getElem?_append_left (by omega)] at hu
      exact ⟨x, by simp [Nat.div_eq_of_lt hj], by rw [Nat.mod_eq_of_lt hj]; exact hu⟩
    · rw [List.getElem?_append_right (by omega), hx] at hu
      obtain ⟨y, h1, h2⟩ := ih (fun y hy => h y (List.mem_cons_of_mem _ hy)) hu
      have hd : j / k = (j - k) / k + 1 := by rw [← Nat.sub_add_cancel (by omega : k ≤ j), Nat.add_div_right _ hk, Nat.add_sub_cancel]
      refine ⟨y, by rw [hd]; simpa using h1, ?_⟩
      rwa [Nat.mod_eq_sub_mod (by omega)]

/-- Elements that are formed: one cell each. -/
def OneC (cs : List Value) : Prop := ∀ u ∈ cs, u.oneCell' = true

/-- A slice opens: each element by what its own reading gives. -/
theorem open_rsl {α : Type} {k : Nat} {R : World → List Value → α → Prop} {B : α → Prop} {t e : TypeId} {fuel : Nat} {cs : List Value} {x : DataW H × List MemPlace}
    (ht : P.underlying t = some (.slice e)) (hk : P.cellsOf e = k) (hk0 : 0 < k) (h : DataW.trod enc P W 0 (fun _ => true) true fuel t cs = some x) (hreach : Reach P t x.1)
    (hR : ∀ n cs' y, DataW.trod enc P W 0 (fun _ => true) true n e cs' = some y → Reach P e y.1 → ∃ a, R W cs' a ∧ B a ∧ OneC cs') :
    ∃ v l, cs = [v] ∧ RSl (Old W) k R W v l ∧ (∀ a ∈ l, B a) ∧ l.length * P.bytesOf e ≤ reachBytes ∧ v.oneCell' = true := by
  rcases open_slice ht h with ⟨rfl, rfl⟩ | ⟨a, len, cap, m, n, D, Pl, rfl, hb, hlc, hcm, hm, rfl, hi⟩
  · exact ⟨_, [], rfl, RSl.nil _, (fun a ha => by cases ha), (by simp), rfl⟩
  · simp only [if_true] at hm
    subst hm
    rw [hk] at hi
    have hsome : ∀ i, i < len → ∃ ya : List Value × α, (W.cells? 0 (a.add (i * k)) k = some ya.1 ∧ R W ya.1 ya.2) ∧ B ya.2 ∧ OneC ya.1 := fun i hil => by
      obtain ⟨cs', hc, htr⟩ := hi i (by omega)
      obtain ⟨y, h1, h2, h3⟩ := hR n cs' _ htr (hreach.elem ht (by simp only [List.mem_map]; exact ⟨i, List.mem_range.2 hil, rfl⟩))
      exact ⟨(cs', y), ⟨hc, h1⟩, h2, h3⟩
    obtain ⟨L, hL, hp⟩ := list_of_lt hsome
    have hlen : ∀ y ∈ L.map (·.1), y.length = k := fun y hy => by
      obtain ⟨z, hz, rfl⟩ := List.mem_map.1 hy
      obtain ⟨i, hil, rfl⟩ := List.getElem_of_mem hz
      exact (World.cells?_some (hp i hil).1.1).2.1
    have hcell : ∀ i (hil : i < L.length) (j : Nat) (u : Value), (L[i].1)[j]? = some u → W.cell? (a.add (i * k + j)) = some u := fun i hil j u hu => by
      obtain ⟨_, hl2, hat⟩ := World.cells?_some (hp i hil).1.1
      have hjk : j < k := by rw [← hl2]; exact (List.getElem?_eq_some_iff.1 hu).1
      have := hat j hjk
      rw [hu, add_add] at this
      exact this
    have hLl : (L.map (·.1)).length = L.length := List.length_map ..
    refine ⟨_, L.map (·.2), rfl, ⟨some a, m, (L.map (·.1)).flatten, by rw [List.length_map, hL], ⟨by rw [List.length_map]; omega, by simpa [maxLen] using hcm⟩, ⟨?_, ?_, fun h0 => ?_⟩, fun i hil => ?_, fun h0 => ?_⟩, fun y hy => ?_, ?_, rfl⟩
    · rw [flat_length hlen, hLl, List.length_map]
    · intro u hu
      obtain ⟨y, hy, hu⟩ := List.mem_flatten.1 hu
      obtain ⟨z, hz, rfl⟩ := List.mem_map.1 hy
      obtain ⟨i, hil, rfl⟩ := List.getElem_of_mem hz
      exact (hp i hil).2.2 u hu
    · rw [List.length_map] at h0
      have hc0 : ∃ u, W.cell? (a.add 0) = some u := by
        have h1 : (L[0].1)[0]? = some ((L[0].1)[0]'(by rw [hlen _ (List.mem_map.2 ⟨_, List.getElem_mem h0, rfl⟩)]; exact hk0)) := List.getElem?_eq_getElem _
        have := hcell 0 h0 0 _ h1
        rw [Nat.zero_mul, Nat.zero_add] at this
        exact ⟨_, this⟩
      obtain ⟨u0, hu0⟩ := hc0
      have ha0 : a.add 0 = a := by simp [Addr.add]
      rw [ha0] at hu0
      obtain ⟨b, off, spot⟩ := a
      have hspot : spot = none := World.cell?_spot hu0
      subst hspot
      refine ⟨b, off, rfl, World.block_lt_of_cell? W _ hu0, fun j u hu => ?_⟩
      obtain ⟨y, h1, h2⟩ := flat_get hlen hu hk0
      rw [List.getElem?_map] at h1
      obtain ⟨z, h3, rfl⟩ := Option.map_eq_some_iff.1 h1
      obtain ⟨hil, rfl⟩ := List.getElem?_eq_some_iff.1 h3
      have := hcell _ hil _ _ h2
      rw [Nat.mul_comm, Nat.div_add_mod] at this
      rw [← this]
      congr 1
      unfold Addr.add
      split <;> simp_all
    · rw [List.length_map] at hil
      rw [chunk_flat hlen i (by simpa using hil)]
      simp only [List.getElem_map]
      exact (hp i hil).1.2
    · rw [List.length_map] at h0
      have h1 : (L[0].1)[0]? = some ((L[0].1)[0]'(by rw [hlen _ (List.mem_map.2 ⟨_, List.getElem_mem h0, rfl⟩)]; exact hk0)) := List.getElem?_eq_getElem _
      have hu0 := hcell 0 h0 0 _ h1
      rw [Nat.zero_mul, Nat.zero_add] at hu0
      have ha0 : a.add 0 = a := by simp [Addr.add]
      rw [ha0] at hu0
      obtain ⟨b, off, spot⟩ := a
      have hspot : spot = none := World.cell?_spot hu0
      subst hspot
      exact ⟨b, off, rfl, World.block_lt_of_cell? W _ hu0⟩
    · obtain ⟨z, hz, rfl⟩ := List.mem_map.1 hy
      obtain ⟨i, hil, rfl⟩ := List.getElem_of_mem hz
      exact (hp i hil).2.1
    · have := hreach.len ht
      simp only [List.length_map, List.length_range] at this
      rw [List.length_map, hL]
      exact Nat.le_trans (Nat.mul_le_mul_right _ (Nat.le_add_right _ _)) this

/-- Bytes open. -/
theorem open_byte {e : TypeId} (he : P.underlying e = some (.int .u8)) (n : Nat) (cs' : List Value) (y : DataW H × List MemPlace) (h : DataW.trod enc P W 0 (fun _ => true) true n e cs' = some y) : ∃ c : UInt8, RByte W cs' c ∧ True ∧ OneC cs' := by
  obtain ⟨m, rfl, _, hw⟩ := DataW.trod_int he h
  have hb : 0 ≤ m ∧ m ≤ 255 := by simpa [Lit.wf, IntKind.min, IntKind.max, IntKind.signed, IntKind.bits] using hw
  refine ⟨UInt8.ofNat m.toNat, ?_, trivial, fun u hu => ?_⟩
  · unfold RByte
    have : (UInt8.ofNat m.toNat).toNat = m.toNat := by rw [UInt8.toNat_ofNat']; omega
    rw [this, Int.toNat_of_nonneg hb.1]
  · simp at hu; subst hu; rfl

theorem open_bytes {t e : TypeId} (ht : P.underlying t = some (.slice e)) (he : P.underlying e = some (.int .u8)) (hc : P.cellsOf e = 1) (hby : P.bytesOf e = 1) {n : Nat} {cs : List Value} {y : DataW H × List MemPlace}
    (h : DataW.trod enc P W 0 (fun _ => true) true n t cs = some y) (hr : Reach P t y.1) : ∃ v l, cs = [v] ∧ RBs (Old W) W v l ∧ l.length ≤ 140737488351232 ∧ v.oneCell' = true := by
  obtain ⟨v, l, h1, h2, _, h4, h5⟩ := open_rsl (k := 1) (R := RByte) (B := fun _ => True) ht hc (by omega) h hr (fun n cs' y hy _ => open_byte he n cs' y hy)
  refine ⟨v, l, h1, h2, ?_, h5⟩
  rw [hby, Nat.mul_one] at h4
  exact h4

end

end Go.Proofs.YtmjgjopbeokajaaDoor

namespace Go.Proofs.YtmjgjopbeokajaaDoor
open Go.RowKit Go.ChangeShapes Go.WideShapes

section
variable {H : Type} {enc : TypeId × Value → H} {P : Program} {w : World} {base : Nat} {spare : Nat → Bool} {held : Bool}
theorem trod_nums {k : IntKind} {t e : TypeId} {n fuel : Nat} {cs : List Value} {l : List Int} {q : List MemPlace} (ht : P.underlying t = some (.array n e)) (he : P.underlying e = some (.int k)) (hc1 : P.cellsOf e = 1) (hct : P.cellsOf t = n)
    (h : DataW.trod enc P w base spare held fuel t cs = some (.agg (l.map fun x => .lit (.int k x)), q)) : cs = l.map (.int k) := by
  obtain ⟨xs, m, _, hx, hlen, hn, hel⟩ := DataW.trod_array ht h
  injection hx with hx1 hx2
  injection hx1 with hx1
  have hl : l.length = n := by have := congrArg List.length hx1; simp at this; omega
  rw [hct] at hlen
  apply List.ext_getElem (by simp; omega)
  intro i h1 h2
  have hi : i < n := by omega
  have h3 := hel i hi
  rw [hc1, Nat.mul_one, List.drop_eq_getElem_cons h1, List.take_succ_cons, List.take_zero, List.getElem?_eq_getElem (by omega)] at h3
  obtain ⟨z, e1, e2, _⟩ := DataW.trod_int he h3
  have h4 := congrArg (fun l => l[i]?) hx1
  simp only [List.getElem?_map, List.getElem?_eq_getElem (show i < l.length by omega), List.getElem?_eq_getElem (show i < xs.length by omega), Option.map_some, Option.some.injEq, e2] at h4
  injection h4 with h4
  injection h4 with h4 h5
  injection e1 with e1
  rw [e1, List.getElem_map, h5]
theorem chunks_eq {α : Type} : ∀ (rows : List (List α)) (m : Nat) (cs : List α), cs.length = rows.length * m → (∀ i (h : i < rows.length), (cs.drop (i * m)).take m = rows[i]) → cs = rows.flatten
  | [], m, cs, hl, _ => by simpa using hl
  | r :: rows, m, cs, hl, h => by
    have h0 := h 0 (by simp)
    simp only [Nat.zero_mul, List.drop_zero, List.getElem_cons_zero] at h0
    have ih := chunks_eq rows m (cs.drop m) (by rw [List.length_drop, hl, List.length_cons, Nat.add_mul]; omega) (fun i hi => by
      have := h (i + 1) (by simpa using hi)
      rw [List.getElem_cons_succ] at this
      rw [List.drop_drop, show m + i * m = (i + 1) * m by rw [Nat.add_mul]; omega]
      exact this)
    rw [List.flatten_cons, ← ih, ← h0, List.take_append_drop]
theorem trod_rows {k : IntKind} {t e e2 : TypeId} {n m fuel : Nat} {cs : List Value} {l : List (List Int)} {q : List MemPlace} (ht : P.underlying t = some (.array n e)) (he : P.underlying e = some (.array m e2)) (he2 : P.underlying e2 = some (.int k)) (hc1 : P.cellsOf e2 = 1) (hce : P.cellsOf e = m) (hct : P.cellsOf t = n * m)
    (h : DataW.trod enc P w base spare held fuel t cs = some (.agg (l.map fun r => .agg (r.map fun x => .lit (.int k x))), q)) : cs = (l.map fun r => r.map (.int k)).flatten := by
  obtain ⟨xs, f, _, hx, hlen, hn, hel⟩ := DataW.trod_array ht h
  injection hx with hx1 hx2
  injection hx1 with hx1
  have hl : l.length = n := by have := congrArg List.length hx1; simp at this; omega
  refine chunks_eq _ m cs (by rw [hlen, hct, List.length_map, hl]) (fun i hi => ?_)
  have hi' : i < n := by simpa [hl] using hi
  have h3 := hel i hi'
  rw [hce, List.getElem?_eq_getElem (by omega)] at h3
  have h4 := congrArg (fun l => l[i]?) hx1
  simp only [List.getElem?_map, List.getElem?_eq_getElem (show i < l.length by omega), List.getElem?_eq_getElem (show i < xs.length by omega), Option.map_some, Option.some.injEq] at h4
  have h5 : DataW.trod enc P w base spare held f e ((cs.drop (i * m)).take m) = some (.agg ((l[i]'(by omega)).map fun x => .lit (.int k x)), (xs[i]'(by omega)).2) := by rw [h3, h4]
  rw [List.getElem_map]
  exact trod_nums he he2 hc1 hce h5
end
end Go.Proofs.YtmjgjopbeokajaaDoor

namespace Go.Proofs.YtmjgjopbeokajaaDoor
open Go.RowKit

variable {S S' : Nat → Prop}
/-- the bytes of one digest of a list -/
theorem Fl.digPart {w : World} {n m c b off r : Nat} {A : Option Addr} {l : List (List UInt8)} (h : Fl S w 32 (.slice A m c) n (digVals l)) (hA : A = some ⟨b, off, none⟩) (h32 : All32 l) {i : Nat} (hi : i < n) (hr : off + i * 32 = r) : Fl S w 1 (.slice (some ⟨b, r, none⟩) 32 32) 32 (byteVals (l.getD i [])) := by
  subst hr
  have hl := Fl.dlen h h32
  obtain ⟨b', off', hA', hb, hS, hx⟩ := h.at (by omega)
  rw [hA] at hA'
  cases hA'
  have hlen := dig_len h32 i (by omega)
  refine ⟨_, _, rfl, ⟨Nat.le_refl _, by omega⟩, ⟨by rw [byteVals_len hlen], byteVals_one _, fun _ => ⟨b, _, rfl, hb, fun j u hu => ?_⟩⟩, fun _ => ⟨b, _, rfl, hS⟩⟩
  exact Fl.digAt h hA h32 (by omega) j u hu
end Go.Proofs.YtmjgjopbeokajaaDoor

namespace Go.Proofs.YtmjgjopbeokajaaDoor
open Go.RowKit

variable {S S' : Nat → Prop}
section
variable {N : Nat} {m : List (Nat × Value)} {a : Act} {P : Program} {ops : Array Oper} {Q : Exit → Act → World → Prop} {i : Nat} {w : World} {o : Oper} {K : Act → World → Prop} {d : Nat}
end
section
variable {P : Program} {ρ : Operand → Value} {W : World} {d : Option Tmp} {t xt yt : TypeId} {p : String} {af : Array Edge} {g : Option (Nat × Bool)} {x y : Operand}
end
theorem cvi_8 (n : Nat) : IntKind.u8.wrap (n : Int) = (((UInt8.ofNat n).toNat : Nat) : Int) := by
  rw [wrap8m, UInt8.toNat_ofNat']; omega
theorem made_one (z : Value) (n : Nat) : madeCells #[z] (n * 1) = (List.replicate n z).toArray := by
  rw [Nat.mul_one]
  apply Array.ext
  · simp [madeCells]
  · intro i h1 h2
    simp [madeCells, Nat.mod_one]
/-- make of a number of elements of one cell -/
theorem rn_makeN {P : Program} {ρ : Operand → Value} {W : World} {d : Option Tmp} {t : TypeId} {p : String} {af : Array Edge} {g : Option (Nat × Bool)} {s e : TypeId} {z : Value} {bytes : Nat} (E : El P s e z 1 bytes) (hz : z.cells = #[z]) {x y : Operand} {kx ky : IntKind} {n : Nat} {cs : List Value} (hx : ρ x = .int kx n) (hy : ρ y = .int ky n) (h : n * bytes ≤ 140737488355328) (h2 : n ≤ 9223372036854775807) (hc : List.replicate n z = cs) :
    (execOp ρ ⟨d, .makeSlice s x y, t, p, af, g⟩).run P W = .ok (.value (.slice (some ⟨W.heap.size, 0, none⟩) n n)) (W.alloc (.cells cs.toArray e)) := by
  obtain ⟨ii, hi, hz0, hz1, hz2⟩ := info_parts E.hi
  have hb : (ii.bytes : Int) * (n : Int) ≤ 281474976710656 := by
    rw [← Int.natCast_mul, hz2, Nat.mul_comm]; omega
  have hr := run_make (P := P) W s e ii z E.ht hi hz0 kx ky n n (by omega) (Int.le_refl _) hb (by omega)
  refine rn_make hx hy (hr.trans ?_)
  rw [Int.toNat_natCast, hz1, hz, made_one, hc]

end Go.Proofs.YtmjgjopbeokajaaDoor

namespace Go.Proofs.YtmjgjopbeokajaaDoor
open Go.RowKit Go.ChangeShapes Go.WideShapes Go.ChangeAt Go.Deep Go.ChangeMaps

set_option maxRecDepth 100000
section
variable {H : Type} {enc : TypeId × Value → H} {W : World}
theorem open_barg {b0 : Nat} {v : Value} {dd : DataW H} {p : List MemPlace} (hv : Value.okWide Tryd.prog W .any b0 22 v) (h : DataW.Trod enc Tryd.prog W 0 (fun _ => true) true 22 v dd p) (hr : Reach Tryd.prog 22 dd) :
    ∃ C f l, v = .slice C l.length f ∧ Fl (Old W) W 1 (.slice C l.length f) l.length (byteVals l) ∧ l.length ≤ 140737488355328 := by
  obtain ⟨C, n, c, rfl⟩ := okWide_slice Tryd.underlying22 hv
  obtain ⟨fuel, hf⟩ := h
  obtain ⟨v, l, hv, h1, h2, h3⟩ := open_bytes Tryd.underlying22 Tryd.underlying5 (by kernel_rfl) (by kernel_rfl) hf hr
  simp [Value.cells] at hv
  subst hv
  obtain ⟨A, cap, hf, _, _⟩ := h1.form
  rw [hf] at h1
  exact ⟨A, cap, l, hf, h1.fl, by omega⟩
theorem agg_of_cells {v : Value} {cs : List Value} (h : v.cells.toList = cs) (hl : cs.length ≠ 1) : v = .agg cs.toArray := by
  subst h
  cases v <;> simp_all [Value.cells]
theorem trod_bytes {P : Program} {t e : TypeId} {n fuel : Nat} {cs : List Value} {x : DataW H × List MemPlace} {base : Nat} {spare : Nat → Bool} {held : Bool} (ht : P.underlying t = some (.array n e)) (he : P.underlying e = some (.int .u8)) (hc1 : P.cellsOf e = 1) (hct : P.cellsOf t = n)
    (h : DataW.trod enc P W base spare held fuel t cs = some x) : ∃ l : List UInt8, l.length = n ∧ cs = byteVals l := by
  obtain ⟨xs, m, _, hx, hlen, hn, hel⟩ := DataW.trod_array ht h
  rw [hct] at hlen
  have key : ∀ i (h1 : i < cs.length), ∃ c : UInt8, cs[i] = .int .u8 (c.toNat : Nat) := by
    intro i h1
    have h3 := hel i (by omega)
    rw [hc1, Nat.mul_one, List.drop_eq_getElem_cons h1, List.take_succ_cons, List.take_zero, List.getElem?_eq_getElem (by omega)] at h3
    obtain ⟨z, e1, _, hw⟩ := DataW.trod_int he h3
    injection e1 with e1
    have hb : 0 ≤ z ∧ z ≤ 255 := by simpa [Lit.wf, IntKind.min, IntKind.max, IntKind.signed, IntKind.bits] using hw
    refine ⟨UInt8.ofNat z.toNat, ?_⟩
    have : (UInt8.ofNat z.toNat).toNat = z.toNat := by rw [UInt8.toNat_ofNat']; omega
    rw [e1, this, Int.toNat_of_nonneg hb.1]
  clear hel hx h
  revert n
  induction cs with
  | nil => intro n _ _ hlen _; exact ⟨[], by simpa using hlen, rfl⟩
  | cons c cs ih =>
    intro n ht hct hlen hn
    obtain ⟨b, hb⟩ := key 0 (by simp)
    have : ∃ l : List UInt8, l.length = cs.length ∧ cs = byteVals l := by
      have h2 : ∀ (l : List Value), (∀ i (h1 : i < l.length), ∃ c : UInt8, l[i] = .int .u8 (c.toNat : Nat)) → ∃ m : List UInt8, m.length = l.length ∧ l = byteVals m := by
        intro l
        induction l with
        | nil => intro _; exact ⟨[], rfl, rfl⟩
        | cons a l ih2 =>
          intro hk
          obtain ⟨a', ha⟩ := hk 0 (by simp)
          obtain ⟨m', h1, h2⟩ := ih2 (fun i hi => by have := hk (i + 1) (by simpa using hi); rwa [List.getElem_cons_succ] at this)
          exact ⟨a' :: m', by simp [h1], by rw [h2] ; simp only [List.getElem_cons_zero] at ha; rw [ha]; rfl⟩
      exact h2 cs (fun i hi => by have := key (i + 1) (by simpa using hi); rwa [List.getElem_cons_succ] at this)
    obtain ⟨l, h1, h2⟩ := this
    exact ⟨b :: l, by simp [h1] ; simpa using hlen, by simp only [List.getElem_cons_zero] at hb; rw [hb, h2]; rfl⟩
theorem open_dig {v : Value} {dd : DataW H} {p : List MemPlace} (h : DataW.Trod enc Tryd.prog W 0 (fun _ => true) true 37 v dd p) : ∃ d : List UInt8, v = .agg (byteVals d).toArray ∧ d.length = 32 := by
  obtain ⟨fuel, hf⟩ := h
  obtain ⟨l, hl, hc⟩ := trod_bytes Tryd.underlying37 Tryd.underlying5 (by kernel_rfl) (by kernel_rfl) hf
  exact ⟨l, agg_of_cells hc (by rw [byteVals_len hl]; decide), hl⟩
end
end Go.Proofs.YtmjgjopbeokajaaDoor

namespace Go.Proofs.YtmjgjopbeokajaaDoor
open Go.RowKit Go.ChangeShapes Go.WideShapes Go.ChangeAt Go.Deep Go.Joins

theorem dig_of_chunks : ∀ (l : List (List UInt8)) (xs : List Value), All32 l → xs.length = l.length * 32 → (∀ i (h : i < l.length), chunk 32 xs i = byteVals l[i]) → xs = digVals l
  | [], xs, _, hl, _ => by
    have : xs = [] := List.eq_nil_of_length_eq_zero (by simpa using hl)
    rw [this]; rfl
  | x :: l, xs, h32, hl, h => by
    have h0 := h 0 (by simp)
    simp only [chunk, Nat.zero_mul, List.drop_zero, List.getElem_cons_zero] at h0
    rw [show digVals (x :: l) = byteVals x ++ digVals l from List.flatMap_cons, ← h0, ← dig_of_chunks l (xs.drop 32) (fun y hy => h32 y (List.mem_cons_of_mem _ hy)) (by rw [List.length_drop, hl, List.length_cons]; omega) (fun i hi => by
      have := h (i + 1) (by simpa using hi)
      simp only [chunk, List.getElem_cons_succ, List.drop_drop] at this ⊢
      rw [← this, Nat.add_mul, Nat.one_mul, Nat.add_comm]), List.take_append_drop]
set_option maxRecDepth 100000
section
variable {H : Type} {enc : TypeId × Value → H} {W : World}
theorem open_dig1 (n : Nat) (cs' : List Value) (y : DataW H × List MemPlace) (h : DataW.trod enc Tryd.prog W 0 (fun _ => true) true n 37 cs' = some y) (_ : Reach Tryd.prog 37 y.1) :
    ∃ x : List UInt8, (fun (_ : World) cs x => cs = byteVals x) W cs' x ∧ x.length = 32 ∧ OneC cs' := by
  obtain ⟨l, hl, hc⟩ := trod_bytes Tryd.underlying37 Tryd.underlying5 (by kernel_rfl) (by kernel_rfl) h
  subst hc
  exact ⟨l, rfl, hl, byteVals_one l⟩
theorem open_digs {fuel : Nat} {v : Value} {x : DataW H × List MemPlace} (h : DataW.trod enc Tryd.prog W 0 (fun _ => true) true fuel 28 [v] = some x) (hr : Reach Tryd.prog 28 x.1) :
    ∃ C f l, v = .slice C l.length f ∧ Fl (Old W) W 32 (.slice C l.length f) l.length (digVals l) ∧ All32 l := by
  obtain ⟨u, l, hu, h1, h2, _, _⟩ := open_rsl (k := 32) (R := fun (_ : World) cs x => cs = byteVals x) (B := fun x : List UInt8 => x.length = 32) Tryd.underlying28 (by kernel_rfl) (by omega) h hr open_dig1
  injection hu with hu
  subst hu
  have h32 : All32 l := h2
  obtain ⟨A, cap, xs, hv, hc, hl, hr, hs⟩ := h1
  have := dig_of_chunks l xs h32 hl.1 hr
  subst this
  subst hv
  exact ⟨A, cap, l, rfl, ⟨A, cap, rfl, hc, hl, hs⟩, h32⟩
theorem open_sig {b0 : Nat} {v : Value} {dd : DataW H} {p : List MemPlace} (hv : Value.okWide Tryd.prog W .any b0 30 v) (h : DataW.Trod enc Tryd.prog W 0 (fun _ => true) true 30 v dd p) (hr : Reach Tryd.prog 30 dd) :
    ∃ idx O oc op C ec cl P pc pa, v = .agg #[.int .i64 idx, .slice O (List.length (α := List UInt8) op) oc, .slice C (List.length (α := List UInt8) cl) ec, .slice P (List.length (α := List UInt8) pa) pc]
      ∧ Fl (Old W) W 32 (.slice O op.length oc) op.length (digVals op) ∧ Fl (Old W) W 32 (.slice C cl.length ec) cl.length (digVals cl) ∧ Fl (Old W) W 32 (.slice P pa.length pc) pa.length (digVals pa) ∧ All32 op ∧ All32 cl ∧ All32 pa := by
  obtain ⟨v0, v1, v2, v3, y0, y1, y2, y3, n, rfl, rfl, _, g0, g1, g2, g3⟩ := open_agg4 Tryd.underlying30 (by kernel_rfl) (by kernel_rfl) hv h
  obtain ⟨k0, hk0, _, _⟩ := DataW.trod_int Tryd.underlying3 g0
  injection hk0 with hk0
  subst hk0
  obtain ⟨O, oc, op, rfl, h1, a1⟩ := open_digs g1 (hr.field (j := 1) Tryd.underlying30 rfl rfl)
  obtain ⟨C, ec, cl, rfl, h2, a2⟩ := open_digs g2 (hr.field (j := 2) Tryd.underlying30 rfl rfl)
  obtain ⟨P, pc, pa, rfl, h3, a3⟩ := open_digs g3 (hr.field (j := 3) Tryd.underlying30 rfl rfl)
  exact ⟨k0, O, oc, op, C, ec, cl, P, pc, pa, rfl, h1, h2, h3, a1, a2, a3⟩
end
end Go.Proofs.YtmjgjopbeokajaaDoor

namespace Go.Proofs.YtmjgjopbeokajaaDoor

/-! BLAKE2s, plain. -/
def iv : List UInt32 := [0x6a09e667, 0xbb67ae85, 0x3c6ef372, 0xa54ff53a, 0x510e527f, 0x9b05688c, 0x1f83d9ab, 0x5be0cd19]
def perms : List (List Nat) := [
  [0, 1, 2, 3, 4, 5, 6, 7, 8, 9, 10, 11, 12, 13, 14, 15],
  [14, 10, 4, 8, 9, 15, 13, 6, 1, 12, 0, 2, 11, 7, 5, 3],
  [11, 8, 12, 0, 5, 2, 15, 13, 10, 14, 3, 6, 7, 1, 9, 4],
  [7, 9, 3, 1, 13, 12, 11, 14, 2, 6, 5, 10, 4, 0, 15, 8],
  [9, 0, 5, 7, 2, 4, 10, 15, 14, 1, 11, 12, 6, 8, 3, 13],
  [2, 12, 6, 10, 0, 11, 8, 3, 4, 13, 7, 5, 15, 14, 1, 9],
  [12, 5, 1, 15, 14, 13, 4, 10, 0, 7, 6, 3, 9, 2, 8, 11],
  [13, 11, 7, 14, 12, 1, 3, 9, 5, 0, 15, 4, 8, 6, 2, 10],
  [6, 15, 14, 9, 11, 3, 0, 8, 12, 2, 13, 7, 1, 4, 10, 5],
  [10, 2, 8, 4, 7, 6, 1, 5, 15, 11, 9, 14, 3, 12, 13, 0]]
/-- rotation to the right -/
def ror (v : UInt32) (n : Nat) : UInt32 := v >>> UInt32.ofNat n ||| v <<< UInt32.ofNat (32 - n)
structure Four where (a b c d : UInt32)
def mix4 (a b c d x y : UInt32) : Four :=
  let a := a + b + x
  let d := ror (d ^^^ a) 16
  let c := c + d
  let b := ror (b ^^^ c) 12
  let a := a + b + y
  let d := ror (d ^^^ a) 8
  let c := c + d
  let b := ror (b ^^^ c) 7
  ⟨a, b, c, d⟩
def put4 (v : List UInt32) (i j k l : Nat) (r : Four) : List UInt32 := (((v.set i r.a).set j r.b).set k r.c).set l r.d
def at_ (v : List UInt32) (i : Nat) : UInt32 := v.getD i 0
def mixv (v : List UInt32) (i j k l : Nat) (x y : UInt32) : List UInt32 := put4 v i j k l (mix4 (at_ v i) (at_ v j) (at_ v k) (at_ v l) x y)
/-- the i-th of the eight mixings of a round -/
def mixAt (m : List UInt32) (s : List Nat) (v : List UInt32) (i : Nat) : List UInt32 :=
  let x := at_ m (s.getD (2 * i) 0)
  let y := at_ m (s.getD (2 * i + 1) 0)
  if i < 4 then mixv v i (4 + i) (8 + i) (12 + i) x y
  else let j := i % 4; mixv v j (4 + (j + 1) % 4) (8 + (j + 2) % 4) (12 + (j + 3) % 4) x y
def round (m : List UInt32) (v : List UInt32) (s : List Nat) : List UInt32 := (List.range 8).foldl (mixAt m s) v
def word (b : List UInt8) (m : List UInt32) (i : Nat) : List UInt32 := m.set (i / 4) (at_ m (i / 4) ||| (b.getD i 0).toUInt32 <<< UInt32.ofNat (8 * (i % 4)))
def words (b : List UInt8) : List UInt32 := (List.range b.length).foldl (word b) (List.replicate 16 0)
def begin_ (h : List UInt32) (n : UInt64) (last : Bool) : List UInt32 :=
  let v := h ++ iv
  let v := v.set 12 (at_ v 12 ^^^ n.toUInt32)
  let v := v.set 13 (at_ v 13 ^^^ (n >>> 32).toUInt32)
  if last then v.set 14 (~~~ (at_ v 14)) else v
def close_ (v : List UInt32) (h : List UInt32) (i : Nat) : List UInt32 := h.set i (at_ h i ^^^ at_ v i ^^^ at_ v (8 + i))
def absorb (h : List UInt32) (b : List UInt8) (n : UInt64) (last : Bool) : List UInt32 :=
  let v := perms.foldl (round (words b)) (begin_ h n last)
  (List.range 8).foldl (close_ v) h
def first : List UInt32 := iv.set 0 (0x6a09e667 ^^^ 0x01010020)
def outByte (h : List UInt32) (i : Nat) : UInt8 := (at_ h (i / 4) >>> UInt32.ofNat (8 * (i % 4))).toUInt8
def out (h : List UInt32) : List UInt8 := (List.range 32).map (outByte h)
def feed (h : List UInt32) (n : Nat) (b : List UInt8) : List UInt32 :=
  if b.length ≤ 64 then absorb h b (UInt64.ofNat (n + b.length)) true
  else feed (absorb h (b.take 64) (UInt64.ofNat (n + 64)) false) (n + 64) (b.drop 64)
termination_by b.length
decreasing_by simp; omega
def bsum (b : List UInt8) : List UInt8 := out (feed first 0 b)

end Go.Proofs.YtmjgjopbeokajaaDoor

namespace Go.Proofs.YtmjgjopbeokajaaDoor
open Go.RowKit

variable {S S' : Nat → Prop}

set_option maxRecDepth 100000 in
set_option maxHeartbeats 1000000 in
theorem rot16_any (x : UInt32) (w : World) :
    Calls Tryd.prog 74 #[.int .u32 (x.toNat : Nat), .int .i64 (-16)] w (fun e w' => e = .returned (.int .u32 ((ror x 16).toNat : Nat)) ∧ Ext w w') := by
  refine calls_enter (l := [(.int .u32 (x.toNat : Nat)), (.int .i64 (-16))]) Tryd.func74 rfl rfl rfl (fun a hF => ?_)
  refine wp_seq_k (fun K1 hK1 => ?_)
  refine wp_region_lit ?_
  refine qv 0 (.int .u32 0) hF rfl (rn_assign rfl) fun _ F3 => ?_; clear hF
  refine wpList_nil ?_
  refine hK1 _ _ ?_
  clear hK1
  refine wp_seq_k (fun K4 hK4 => ?_)
  refine wp_region_lit ?_
  refine qv 0 (.int .i64 (-16)) F3 rfl (rn_move (F3.get rfl)) fun _ F6 => ?_; clear F3
  refine qv 1 (.int .u64 18446744073709551600) F6 rfl (rn_convW Tryd.underlying3 Tryd.underlying78 (F6.get rfl) (by decide +kernel : IntKind.wrap .u64 (-16) = 18446744073709551600)) fun _ F8 => ?_; clear F6
  refine qv 2 (.int .u64 16) F8 rfl (rn_bin (v := .int .u64 16) (F8.get rfl) rfl guard_int (by kernel_rfl)) fun _ F10 => ?_; clear F8
  refine qv 3 (.int .u64 16) F10 rfl (rn_assign (F10.get rfl)) fun _ F12 => ?_; clear F10
  refine wpList_nil ?_
  refine hK4 _ _ ?_
  clear hK4
  refine wp_seq_k (fun K13 hK13 => ?_)
  refine wp_region_lit ?_
  refine qv 0 (.int .u32 (x.toNat : Nat)) F12 rfl (rn_move (F12.get rfl)) fun _ F15 => ?_; clear F12
  refine qv 1 (.int .u64 16) F15 rfl (rn_move (F15.get rfl)) fun _ F17 => ?_; clear F15
  refine qv 2 (.int .u32 ((x <<< UInt32.ofNat 16).toNat : Nat)) F17 rfl (rn_shl32 (a := x) (n := 16) (F17.get rfl) (F17.get rfl) (by omega)) fun _ F19 => ?_; clear F17
  refine qv 3 (.int .u32 (x.toNat : Nat)) F19 rfl (rn_move (F19.get rfl)) fun _ F21 => ?_; clear F19
  refine qv 4 (.int .u64 16) F21 rfl (rn_move (F21.get rfl)) fun _ F23 => ?_; clear F21
  refine qv 5 (.int .u64 16) F23 rfl (rn_bin (v := .int .u64 16) rfl (F23.get rfl) guard_int (by kernel_rfl)) fun _ F25 => ?_; clear F23
  refine qv 6 (.int .u32 ((x >>> UInt32.ofNat 16).toNat : Nat)) F25 rfl (rn_shr32 (a := x) (n := 16) (F25.get rfl) (F25.get rfl) (by omega)) fun _ F27 => ?_; clear F25
  refine qv 7 (.int .u32 (((x <<< UInt32.ofNat 16) ||| (x >>> UInt32.ofNat 16)).toNat : Nat)) F27 rfl (rn_or32 (a := (x <<< UInt32.ofNat 16)) (b := (x >>> UInt32.ofNat 16)) (F27.get rfl) (F27.get rfl)) fun _ F29 => ?_; clear F27
  refine qv 8 (.int .u32 (((x <<< UInt32.ofNat 16) ||| (x >>> UInt32.ofNat 16)).toNat : Nat)) F29 rfl (rn_assign (F29.get rfl)) fun _ F31 => ?_; clear F29
  refine wpList_nil ?_
  refine hK13 _ _ ?_
  clear hK13
  have F32 := ((((F31.nil.c F31 5 rfl).c F31 4 rfl).c F31 1 rfl).c F31 0 rfl)
  clear F31
  refine wp_ret ?_
  refine ret1 F32 rfl rfl ?_
  exact ⟨congrArg (fun (z : UInt32) => Ending.returned (.int .u32 (z.toNat : Nat))) (UInt32.or_comm _ _), Ext.refl _⟩

set_option maxRecDepth 100000 in
set_option maxHeartbeats 1000000 in
theorem rot12_any (x : UInt32) (w : World) :
    Calls Tryd.prog 74 #[.int .u32 (x.toNat : Nat), .int .i64 (-12)] w (fun e w' => e = .returned (.int .u32 ((ror x 12).toNat : Nat)) ∧ Ext w w') := by
  refine calls_enter (l := [(.int .u32 (x.toNat : Nat)), (.int .i64 (-12))]) Tryd.func74 rfl rfl rfl (fun a hF => ?_)
  refine wp_seq_k (fun K1 hK1 => ?_)
  refine wp_region_lit ?_
  refine qv 0 (.int .u32 0) hF rfl (rn_assign rfl) fun _ F3 => ?_; clear hF
  refine wpList_nil ?_
  refine hK1 _ _ ?_
  clear hK1
  refine wp_seq_k (fun K4 hK4 => ?_)
  refine wp_region_lit ?_
  refine qv 0 (.int .i64 (-12)) F3 rfl (rn_move (F3.get rfl)) fun _ F6 => ?_; clear F3
  refine qv 1 (.int .u64 18446744073709551604) F6 rfl (rn_convW Tryd.underlying3 Tryd.underlying78 (F6.get rfl) (by decide +kernel : IntKind.wrap .u64 (-12) = 18446744073709551604)) fun _ F8 => ?_; clear F6
  refine qv 2 (.int .u64 20) F8 rfl (rn_bin (v := .int .u64 20) (F8.get rfl) rfl guard_int (by kernel_rfl)) fun _ F10 => ?_; clear F8
  refine qv 3 (.int .u64 20) F10 rfl (rn_assign (F10.get rfl)) fun _ F12 => ?_; clear F10
  refine wpList_nil ?_
  refine hK4 _ _ ?_
  clear hK4
  refine wp_seq_k (fun K13 hK13 => ?_)
  refine wp_region_lit ?_
  refine qv 0 (.int .u32 (x.toNat : Nat)) F12 rfl (rn_move (F12.get rfl)) fun _ F15 => ?_; clear F12
  refine qv 1 (.int .u64 20) F15 rfl (rn_move (F15.get rfl)) fun _ F17 => ?_; clear F15
  refine qv 2 (.int .u32 ((x <<< UInt32.ofNat 20).toNat : Nat)) F17 rfl (rn_shl32 (a := x) (n := 20) (F17.get rfl) (F17.get rfl) (by omega)) fun _ F19 => ?_; clear F17
  refine qv 3 (.int .u32 (x.toNat : Nat)) F19 rfl (rn_move (F19.get rfl)) fun _ F21 => ?_; clear F19
  refine qv 4 (.int .u64 20) F21 rfl (rn_move (F21.get rfl)) fun _ F23 => ?_; clear F21
  refine qv 5 (.int .u64 12) F23 rfl (rn_bin (v := .int .u64 12) rfl (F23.get rfl) guard_int (by kernel_rfl)) fun _ F25 => ?_; clear F23
  refine qv 6 (.int .u32 ((x >>> UInt32.ofNat 12).toNat : Nat)) F25 rfl (rn_shr32 (a := x) (n := 12) (F25.get rfl) (F25.get rfl) (by omega)) fun _ F27 => ?_; clear F25
  refine qv 7 (.int .u32 (((x <<< UInt32.ofNat 20) ||| (x >>> UInt32.ofNat 12)).toNat : Nat)) F27 rfl (rn_or32 (a := (x <<< UInt32.ofNat 20)) (b := (x >>> UInt32.ofNat 12)) (F27.get rfl) (F27.get rfl)) fun _ F29 => ?_; clear F27
  refine qv 8 (.int .u32 (((x <<< UInt32.ofNat 20) ||| (x >>> UInt32.ofNat 12)).toNat : Nat)) F29 rfl (rn_assign (F29.get rfl)) fun _ F31 => ?_; clear F29
  refine wpList_nil ?_
  refine hK13 _ _ ?_
  clear hK13
  have F32 := ((((F31.nil.c F31 5 rfl).c F31 4 rfl).c F31 1 rfl).c F31 0 rfl)
  clear F31
  refine wp_ret ?_
  refine ret1 F32 rfl rfl ?_
  exact ⟨congrArg (fun (z : UInt32) => Ending.returned (.int .u32 (z.toNat : Nat))) (UInt32.or_comm _ _), Ext.refl _⟩

set_option maxRecDepth 100000 in
set_option maxHeartbeats 1000000 in
theorem rot8_any (x : UInt32) (w : World) :
    Calls Tryd.prog 74 #[.int .u32 (x.toNat : Nat), .int .i64 (-8)] w (fun e w' => e = .returned (.int .u32 ((ror x 8).toNat : Nat)) ∧ Ext w w') := by
  refine calls_enter (l := [(.int .u32 (x.toNat : Nat)), (.int .i64 (-8))]) Tryd.func74 rfl rfl rfl (fun a hF => ?_)
  refine wp_seq_k (fun K1 hK1 => ?_)
  refine wp_region_lit ?_
  refine qv 0 (.int .u32 0) hF rfl (rn_assign rfl) fun _ F3 => ?_; clear hF
  refine wpList_nil ?_
  refine hK1 _ _ ?_
  clear hK1
  refine wp_seq_k (fun K4 hK4 => ?_)
  refine wp_region_lit ?_
  refine qv 0 (.int .i64 (-8)) F3 rfl (rn_move (F3.get rfl)) fun _ F6 => ?_; clear F3
  refine qv 1 (.int .u64 18446744073709551608) F6 rfl (rn_convW Tryd.underlying3 Tryd.underlying78 (F6.get rfl) (by decide +kernel : IntKind.wrap .u64 (-8) = 18446744073709551608)) fun _ F8 => ?_; clear F6
  refine qv 2 (.int .u64 24) F8 rfl (rn_bin (v := .int .u64 24) (F8.get rfl) rfl guard_int (by kernel_rfl)) fun _ F10 => ?_; clear F8
  refine qv 3 (.int .u64 24) F10 rfl (rn_assign (F10.get rfl)) fun _ F12 => ?_; clear F10
  refine wpList_nil ?_
  refine hK4 _ _ ?_
  clear hK4
  refine wp_seq_k (fun K13 hK13 => ?_)
  refine wp_region_lit ?_
  refine qv 0 (.int .u32 (x.toNat : Nat)) F12 rfl (rn_move (F12.get rfl)) fun _ F15 => ?_; clear F12
  refine qv 1 (.int .u64 24) F15 rfl (rn_move (F15.get rfl)) fun _ F17 => ?_; clear F15
  refine qv 2 (.int .u32 ((x <<< UInt32.ofNat 24).toNat : Nat)) F17 rfl (rn_shl32 (a := x) (n := 24) (F17.get rfl) (F17.get rfl) (by omega)) fun _ F19 => ?_; clear F17
  refine qv 3 (.int .u32 (x.toNat : Nat)) F19 rfl (rn_move (F19.get rfl)) fun _ F21 => ?_; clear F19
  refine qv 4 (.int .u64 24) F21 rfl (rn_move (F21.get rfl)) fun _ F23 => ?_; clear F21
  refine qv 5 (.int .u64 8) F23 rfl (rn_bin (v := .int .u64 8) rfl (F23.get rfl) guard_int (by kernel_rfl)) fun _ F25 => ?_; clear F23
  refine qv 6 (.int .u32 ((x >>> UInt32.ofNat 8).toNat : Nat)) F25 rfl (rn_shr32 (a := x) (n := 8) (F25.get rfl) (F25.get rfl) (by omega)) fun _ F27 => ?_; clear F25
  refine qv 7 (.int .u32 (((x <<< UInt32.ofNat 24) ||| (x >>> UInt32.ofNat 8)).toNat : Nat)) F27 rfl (rn_or32 (a := (x <<< UInt32.ofNat 24)) (b := (x >>> UInt32.ofNat 8)) (F27.get rfl) (F27.get rfl)) fun _ F29 => ?_; clear F27
  refine qv 8 (.int .u32 (((x <<< UInt32.ofNat 24) ||| (x >>> UInt32.ofNat 8)).toNat : Nat)) F29 rfl (rn_assign (F29.get rfl)) fun _ F31 => ?_; clear F29
  refine wpList_nil ?_
  refine hK13 _ _ ?_
  clear hK13
  have F32 := ((((F31.nil.c F31 5 rfl).c F31 4 rfl).c F31 1 rfl).c F31 0 rfl)
  clear F31
  refine wp_ret ?_
  refine ret1 F32 rfl rfl ?_
  exact ⟨congrArg (fun (z : UInt32) => Ending.returned (.int .u32 (z.toNat : Nat))) (UInt32.or_comm _ _), Ext.refl _⟩

set_option maxRecDepth 100000 in
set_option maxHeartbeats 1000000 in
theorem rot7_any (x : UInt32) (w : World) :
    Calls Tryd.prog 74 #[.int .u32 (x.toNat : Nat), .int .i64 (-7)] w (fun e w' => e = .returned (.int .u32 ((ror x 7).toNat : Nat)) ∧ Ext w w') := by
  refine calls_enter (l := [(.int .u32 (x.toNat : Nat)), (.int .i64 (-7))]) Tryd.func74 rfl rfl rfl (fun a hF => ?_)
  refine wp_seq_k (fun K1 hK1 => ?_)
  refine wp_region_lit ?_
  refine qv 0 (.int .u32 0) hF rfl (rn_assign rfl) fun _ F3 => ?_; clear hF
  refine wpList_nil ?_
  refine hK1 _ _ ?_
  clear hK1
  refine wp_seq_k (fun K4 hK4 => ?_)
  refine wp_region_lit ?_
  refine qv 0 (.int .i64 (-7)) F3 rfl (rn_move (F3.get rfl)) fun _ F6 => ?_; clear F3
  refine qv 1 (.int .u64 18446744073709551609) F6 rfl (rn_convW Tryd.underlying3 Tryd.underlying78 (F6.get rfl) (by decide +kernel : IntKind.wrap .u64 (-7) = 18446744073709551609)) fun _ F8 => ?_; clear F6
  refine qv 2 (.int .u64 25) F8 rfl (rn_bin (v := .int .u64 25) (F8.get rfl) rfl guard_int (by kernel_rfl)) fun _ F10 => ?_; clear F8
  refine qv 3 (.int .u64 25) F10 rfl (rn_assign (F10.get rfl)) fun _ F12 => ?_; clear F10
  refine wpList_nil ?_
  refine hK4 _ _ ?_
  clear hK4
  refine wp_seq_k (fun K13 hK13 => ?_)
  refine wp_region_lit ?_
  refine qv 0 (.int .u32 (x.toNat : Nat)) F12 rfl (rn_move (F12.get rfl)) fun _ F15 => ?_; clear F12
  refine qv 1 (.int .u64 25) F15 rfl (rn_move (F15.get rfl)) fun _ F17 => ?_; clear F15
  refine qv 2 (.int .u32 ((x <<< UInt32.ofNat 25).toNat : Nat)) F17 rfl (rn_shl32 (a := x) (n := 25) (F17.get rfl) (F17.get rfl) (by omega)) fun _ F19 => ?_; clear F17
  refine qv 3 (.int .u32 (x.toNat : Nat)) F19 rfl (rn_move (F19.get rfl)) fun _ F21 => ?_; clear F19
  refine qv 4 (.int .u64 25) F21 rfl (rn_move (F21.get rfl)) fun _ F23 => ?_; clear F21
  refine qv 5 (.int .u64 7) F23 rfl (rn_bin (v := .int .u64 7) rfl (F23.get rfl) guard_int (by kernel_rfl)) fun _ F25 => ?_; clear F23
  refine qv 6 (.int .u32 ((x >>> UInt32.ofNat 7).toNat : Nat)) F25 rfl (rn_shr32 (a := x) (n := 7) (F25.get rfl) (F25.get rfl) (by omega)) fun _ F27 => ?_; clear F25
  refine qv 7 (.int .u32 (((x <<< UInt32.ofNat 25) ||| (x >>> UInt32.ofNat 7)).toNat : Nat)) F27 rfl (rn_or32 (a := (x <<< UInt32.ofNat 25)) (b := (x >>> UInt32.ofNat 7)) (F27.get rfl) (F27.get rfl)) fun _ F29 => ?_; clear F27
  refine qv 8 (.int .u32 (((x <<< UInt32.ofNat 25) ||| (x >>> UInt32.ofNat 7)).toNat : Nat)) F29 rfl (rn_assign (F29.get rfl)) fun _ F31 => ?_; clear F29
  refine wpList_nil ?_
  refine hK13 _ _ ?_
  clear hK13
  have F32 := ((((F31.nil.c F31 5 rfl).c F31 4 rfl).c F31 1 rfl).c F31 0 rfl)
  clear F31
  refine wp_ret ?_
  refine ret1 F32 rfl rfl ?_
  exact ⟨congrArg (fun (z : UInt32) => Ending.returned (.int .u32 (z.toNat : Nat))) (UInt32.or_comm _ _), Ext.refl _⟩

end Go.Proofs.YtmjgjopbeokajaaDoor

namespace Go.Proofs.YtmjgjopbeokajaaDoor

theorem grow_refl (w : World) (g : Nat) : w.grownBy w (some g) := ⟨rfl, rfl, rfl, Nat.le_refl _, fun _ _ _ => rfl⟩
theorem grow_set {w w1 w2 : World} {g : Nat} (h : w.grownBy w1 (some g)) (k : w1.grownBy w2 (some g)) : w.grownBy w2 (some g) :=
  ⟨k.os.trans h.os, k.tape.trans h.tape, k.output.trans h.output, Nat.le_trans h.size k.size, fun i hi hn => (k.block i (Nat.lt_of_lt_of_le hi h.size) hn).trans (h.block i hi hn)⟩
theorem grow_ext {w w1 w2 : World} {g : Nat} (h : w.grownBy w1 (some g)) (k : Ext w1 w2) : w.grownBy w2 (some g) :=
  grow_set h ⟨k.below.os, k.below.tape, k.below.output, k.size, fun i hi _ => k.below.block i hi⟩

end Go.Proofs.YtmjgjopbeokajaaDoor

namespace Go.Proofs.YtmjgjopbeokajaaDoor
open Go.RowKit

variable {S S' : Nat → Prop}

def mixSeq (v : List UInt32) (a b c d : Nat) (x y : UInt32) : List UInt32 :=
  let v1 := v.set a (v.getD a 0 + (v.getD b 0 + x))
  let v2 := v1.set d (ror (v1.getD d 0 ^^^ v1.getD a 0) 16)
  let v3 := v2.set c (v2.getD c 0 + v2.getD d 0)
  let v4 := v3.set b (ror (v3.getD b 0 ^^^ v3.getD c 0) 12)
  let v5 := v4.set a (v4.getD a 0 + (v4.getD b 0 + y))
  let v6 := v5.set d (ror (v5.getD d 0 ^^^ v5.getD a 0) 8)
  let v7 := v6.set c (v6.getD c 0 + v6.getD d 0)
  v7.set b (ror (v7.getD b 0 ^^^ v7.getD c 0) 7)
theorem mix_chain {v v1 v2 v3 v4 v5 v6 v7 v8 : List UInt32} {a b c d : Nat} {x y : UInt32} (e1 : v1 = v.set a (v.getD a 0 + (v.getD b 0 + x))) (e2 : v2 = v1.set d (ror (v1.getD d 0 ^^^ v1.getD a 0) 16)) (e3 : v3 = v2.set c (v2.getD c 0 + v2.getD d 0)) (e4 : v4 = v3.set b (ror (v3.getD b 0 ^^^ v3.getD c 0) 12))
    (e5 : v5 = v4.set a (v4.getD a 0 + (v4.getD b 0 + y))) (e6 : v6 = v5.set d (ror (v5.getD d 0 ^^^ v5.getD a 0) 8)) (e7 : v7 = v6.set c (v6.getD c 0 + v6.getD d 0)) (e8 : v8 = v7.set b (ror (v7.getD b 0 ^^^ v7.getD c 0) 7)) : v8 = mixSeq v a b c d x y := by
  subst e1 e2 e3 e4 e5 e6 e7 e8; rfl

set_option maxRecDepth 100000 in
set_option maxHeartbeats 1000000 in
theorem mix_any (g : Nat) (v : List UInt32) (ia ib ic id_ : Nat) (x y : UInt32) (w : World) (hb : Blk w g 90 (u32Vals v)) (h16 : v.length = 16) (ha : ia < 16) (hb' : ib < 16) (hc : ic < 16) (hd : id_ < 16) :
    Calls Tryd.prog 69 #[.pointer (some ⟨g, 0, none⟩), .int .i64 (ia : Nat), .int .i64 (ib : Nat), .int .i64 (ic : Nat), .int .i64 (id_ : Nat), .int .u32 (x.toNat : Nat), .int .u32 (y.toNat : Nat)] w (fun e w' => e = .returned (.tuple #[]) ∧ Blk w' g 90 (u32Vals (mixSeq v ia ib ic id_ x y)) ∧ w.grownBy w' (some g)) := by
  refine calls_enter (l := [(.pointer (some ⟨g, 0, none⟩)), (.int .i64 (ia : Nat)), (.int .i64 (ib : Nat)), (.int .i64 (ic : Nat)), (.int .i64 (id_ : Nat)), (.int .u32 (x.toNat : Nat)), (.int .u32 (y.toNat : Nat))]) Tryd.func69 rfl rfl rfl (fun a hF => ?_)
  refine wp_seq_k (fun K1 hK1 => ?_)
  have hx3 : ∃ W, w.drew = W ∧ Ext w W := ⟨_, rfl, (Ext.refl _).drew⟩
  obtain ⟨w2, e4, hx3⟩ := hx3
  have z5 := hx3.size
  refine any_start (fun W => Ext w2 W ∧ Blk W g 90 (u32Vals v)) (fun i => i == 15) 16 #[false, false, false, false, false, false, false, false, false, false, false, false, false, false, false, false] rfl rfl rfl ?_
  rw [e4]; clear e4
  refine qp 0 (.pointer (some ⟨g, 0, none⟩)) hF rfl rfl (fun W => (rn_move (hF.get rfl))) fun _ F7 => ?_; clear hF
  refine qp 1 (.int .i64 (ia : Nat)) F7 rfl rfl (fun W => (rn_move (F7.get rfl))) fun _ F9 => ?_; clear F7
  refine qp 2 (.pointer (some ⟨g, 0, none⟩)) F9 rfl rfl (fun W => (rn_nil (F9.get rfl))) fun _ F11 => ?_; clear F9
  refine qp 3 (.pointer (some ⟨g, 0 + ia, none⟩)) F11 rfl rfl (fun W => (rn_indexArr Tryd.underlying90 inf79 (F11.get rfl) (F11.get rfl) (by omega : (0 : Int) ≤ (ia : Nat)) (by omega : ((ia : Nat) : Int) < ((16 : Nat) : Int)))) fun _ F13 => ?_; clear F11
  have b15 := (hb.ext hx3)
  have hS14 : Ext w2 w2 ∧ Blk w2 g 90 (u32Vals v) := ⟨(Ext.refl w2), b15⟩
  refine qs 4 (.int .u32 ((v.getD ia 0).toNat : Nat)) F13 rfl rfl hS14 (fun W hW => (rn_load (isAgg_no Tryd.underlying79 rfl) (F13.get rfl) (blk_word hW.2 (by omega) (by have := (show List.length v = _ from h16); omega)))) fun _ F17 => ?_; clear F13
  refine qp 5 (.pointer (some ⟨g, 0, none⟩)) F17 rfl rfl (fun W => (rn_move (F17.get rfl))) fun _ F19 => ?_; clear F17
  refine qp 6 (.int .i64 (ib : Nat)) F19 rfl rfl (fun W => (rn_move (F19.get rfl))) fun _ F21 => ?_; clear F19
  refine qp 7 (.pointer (some ⟨g, 0, none⟩)) F21 rfl rfl (fun W => (rn_nil (F21.get rfl))) fun _ F23 => ?_; clear F21
  refine qp 8 (.pointer (some ⟨g, 0 + ib, none⟩)) F23 rfl rfl (fun W => (rn_indexArr Tryd.underlying90 inf79 (F23.get rfl) (F23.get rfl) (by omega : (0 : Int) ≤ (ib : Nat)) (by omega : ((ib : Nat) : Int) < ((16 : Nat) : Int)))) fun _ F25 => ?_; clear F23
  refine qs 9 (.int .u32 ((v.getD ib 0).toNat : Nat)) F25 rfl rfl hS14 (fun W hW => (rn_load (isAgg_no Tryd.underlying79 rfl) (F25.get rfl) (blk_word hW.2 (by omega) (by have := (show List.length v = _ from h16); omega)))) fun _ F27 => ?_; clear F25
  refine qp 10 (.int .u32 (x.toNat : Nat)) F27 rfl rfl (fun W => (rn_move (F27.get rfl))) fun _ F29 => ?_; clear F27
  refine qp 11 (.int .u32 (((v.getD ib 0) + x).toNat : Nat)) F29 rfl rfl (fun W => (rn_add32 (a := (v.getD ib 0)) (b := x) (F29.get rfl) (F29.get rfl))) fun _ F31 => ?_; clear F29
  refine qp 12 (.int .u32 (((v.getD ia 0) + ((v.getD ib 0) + x)).toNat : Nat)) F31 rfl rfl (fun W => (rn_add32 (a := (v.getD ia 0)) (b := ((v.getD ib 0) + x)) (F31.get rfl) (F31.get rfl))) fun _ F33 => ?_; clear F31
  refine qp 13 (.pointer (some ⟨g, 0, none⟩)) F33 rfl rfl (fun W => (rn_nil (F33.get rfl))) fun _ F35 => ?_; clear F33
  refine qp 14 (.pointer (some ⟨g, 0 + ia, none⟩)) F35 rfl rfl (fun W => (rn_indexArr Tryd.underlying90 inf79 (F35.get rfl) (F35.get rfl) (by omega : (0 : Int) ≤ (ia : Nat)) (by omega : ((ia : Nat) : Int) < ((16 : Nat) : Int)))) fun _ F37 => ?_; clear F35
  refine any_one (i := 15) (by decide +kernel) rfl ?_
  refine o_store1 (new := (u32Vals (v.set ia ((v.getD ia 0) + ((v.getD ib 0) + x))))) F37 rfl rfl rfl rfl (F37.get rfl) (F37.get rfl) b15 inf79 (by rw [u32Vals_len h16]; omega) rfl (u32Vals_set (by omega)) ?_
  intro w38 b39 hg40; have z41 := hg40.size
  obtain ⟨v42, e43⟩ : ∃ z, z = v.set ia ((v.getD ia 0) + ((v.getD ib 0) + x)) := ⟨_, rfl⟩
  have hl44 : v42.length = 16 := by rw [e43, List.length_set]; exact h16
  rw [← e43] at b39
  refine ⟨fun h => absurd h (by decide), ?_⟩
  refine any_nil (by decide +kernel) ?_
  refine hK1 _ _ ?_
  clear hK1
  have F45 := (((((((F37.nil.c F37 6 rfl).c F37 5 rfl).c F37 4 rfl).c F37 3 rfl).c F37 2 rfl).c F37 1 rfl).c F37 0 rfl)
  clear F37
  refine wp_seq_k (fun K46 hK46 => ?_)
  have hx48 : ∃ W, w38.drew = W ∧ Ext w38 W := ⟨_, rfl, (Ext.refl _).drew⟩
  obtain ⟨w47, e49, hx48⟩ := hx48
  have z50 := hx48.size
  refine any_start (fun W => Ext w47 W ∧ Blk W g 90 (u32Vals v42)) (fun i => i == 16) 17 #[false, false, false, false, false, false, false, false, false, false, false, false, false, false, false, false, false] rfl rfl rfl ?_
  rw [e49]; clear e49
  refine qp 0 (.pointer (some ⟨g, 0, none⟩)) F45 rfl rfl (fun W => (rn_move (F45.get rfl))) fun _ F52 => ?_; clear F45
  refine qp 1 (.int .i64 (id_ : Nat)) F52 rfl rfl (fun W => (rn_move (F52.get rfl))) fun _ F54 => ?_; clear F52
  refine qp 2 (.pointer (some ⟨g, 0, none⟩)) F54 rfl rfl (fun W => (rn_move (F54.get rfl))) fun _ F56 => ?_; clear F54
  refine qp 3 (.int .i64 (id_ : Nat)) F56 rfl rfl (fun W => (rn_move (F56.get rfl))) fun _ F58 => ?_; clear F56
  refine qp 4 (.pointer (some ⟨g, 0, none⟩)) F58 rfl rfl (fun W => (rn_nil (F58.get rfl))) fun _ F60 => ?_; clear F58
  refine qp 5 (.pointer (some ⟨g, 0 + id_, none⟩)) F60 rfl rfl (fun W => (rn_indexArr Tryd.underlying90 inf79 (F60.get rfl) (F60.get rfl) (by omega : (0 : Int) ≤ (id_ : Nat)) (by omega : ((id_ : Nat) : Int) < ((16 : Nat) : Int)))) fun _ F62 => ?_; clear F60
  have b64 := (b39.ext hx48)
  have hS63 : Ext w47 w47 ∧ Blk w47 g 90 (u32Vals v42) := ⟨(Ext.refl w47), b64⟩
  refine qs 6 (.int .u32 ((v42.getD id_ 0).toNat : Nat)) F62 rfl rfl hS63 (fun W hW => (rn_load (isAgg_no Tryd.underlying79 rfl) (F62.get rfl) (blk_word hW.2 (by omega) (by have := (show List.length v42 = _ from hl44); omega)))) fun _ F66 => ?_; clear F62
  refine qp 7 (.pointer (some ⟨g, 0, none⟩)) F66 rfl rfl (fun W => (rn_move (F66.get rfl))) fun _ F68 => ?_; clear F66
  refine qp 8 (.int .i64 (ia : Nat)) F68 rfl rfl (fun W => (rn_move (F68.get rfl))) fun _ F70 => ?_; clear F68
  refine qp 9 (.pointer (some ⟨g, 0, none⟩)) F70 rfl rfl (fun W => (rn_nil (F70.get rfl))) fun _ F72 => ?_; clear F70
  refine qp 10 (.pointer (some ⟨g, 0 + ia, none⟩)) F72 rfl rfl (fun W => (rn_indexArr Tryd.underlying90 inf79 (F72.get rfl) (F72.get rfl) (by omega : (0 : Int) ≤ (ia : Nat)) (by omega : ((ia : Nat) : Int) < ((16 : Nat) : Int)))) fun _ F74 => ?_; clear F72
  refine qs 11 (.int .u32 ((v42.getD ia 0).toNat : Nat)) F74 rfl rfl hS63 (fun W hW => (rn_load (isAgg_no Tryd.underlying79 rfl) (F74.get rfl) (blk_word hW.2 (by omega) (by have := (show List.length v42 = _ from hl44); omega)))) fun _ F76 => ?_; clear F74
  refine qp 12 (.int .u32 (((v42.getD id_ 0) ^^^ (v42.getD ia 0)).toNat : Nat)) F76 rfl rfl (fun W => (rn_xor32 (a := (v42.getD id_ 0)) (b := (v42.getD ia 0)) (F76.get rfl) (F76.get rfl))) fun _ F78 => ?_; clear F76
  refine qp 14 (.pointer (some ⟨g, 0, none⟩)) F78 rfl rfl (fun W => (rn_nil (F78.get rfl))) fun _ F80 => ?_; clear F78
  refine any_one (i := 13) (by decide +kernel) rfl ?_
  refine o_call F80 rfl rfl rfl rfl (rn_call (args2 (F80.get rfl) rfl) rfl (by kernel_rfl)) (rot16_any ((v42.getD id_ 0) ^^^ (v42.getD ia 0)) _) ?_
  rintro _ w81 ⟨rfl, hx82⟩
  refine ⟨_, rfl, ?_⟩; intro a83 F84; clear F80; have z85 := hx82.size
  have b86 := (b64.ext hx82)
  refine ⟨fun _ _ => ⟨((Ext.refl w47).trans hx82), b86⟩, ?_⟩
  refine qp 15 (.pointer (some ⟨g, 0 + id_, none⟩)) F84 rfl rfl (fun W => (rn_indexArr Tryd.underlying90 inf79 (F84.get rfl) (F84.get rfl) (by omega : (0 : Int) ≤ (id_ : Nat)) (by omega : ((id_ : Nat) : Int) < ((16 : Nat) : Int)))) fun _ F88 => ?_; clear F84
  refine any_one (i := 16) (by decide +kernel) rfl ?_
  refine o_store1 (new := (u32Vals (v42.set id_ (ror ((v42.getD id_ 0) ^^^ (v42.getD ia 0)) 16)))) F88 rfl rfl rfl rfl (F88.get rfl) (F88.get rfl) b86 inf79 (by rw [u32Vals_len hl44]; omega) rfl (u32Vals_set (by omega)) ?_
  intro w89 b90 hg91; have z92 := hg91.size
  obtain ⟨v93, e94⟩ : ∃ z, z = v42.set id_ (ror ((v42.getD id_ 0) ^^^ (v42.getD ia 0)) 16) := ⟨_, rfl⟩
  have hl95 : v93.length = 16 := by rw [e94, List.length_set]; exact hl44
  rw [← e94] at b90
  refine ⟨fun h => absurd h (by decide), ?_⟩
  refine any_nil (by decide +kernel) ?_
  refine hK46 _ _ ?_
  clear hK46
  have F96 := (((((((F88.nil.c F88 6 rfl).c F88 5 rfl).c F88 4 rfl).c F88 3 rfl).c F88 2 rfl).c F88 1 rfl).c F88 0 rfl)
  clear F88
  refine wp_seq_k (fun K97 hK97 => ?_)
  have hx99 : ∃ W, w89.drew = W ∧ Ext w89 W := ⟨_, rfl, (Ext.refl _).drew⟩
  obtain ⟨w98, e100, hx99⟩ := hx99
  have z101 := hx99.size
  refine any_start (fun W => Ext w98 W ∧ Blk W g 90 (u32Vals v93)) (fun i => i == 13) 14 #[false, false, false, false, false, false, false, false, false, false, false, false, false, false] rfl rfl rfl ?_
  rw [e100]; clear e100
  refine qp 0 (.pointer (some ⟨g, 0, none⟩)) F96 rfl rfl (fun W => (rn_move (F96.get rfl))) fun _ F103 => ?_; clear F96
  refine qp 1 (.int .i64 (ic : Nat)) F103 rfl rfl (fun W => (rn_move (F103.get rfl))) fun _ F105 => ?_; clear F103
  refine qp 2 (.pointer (some ⟨g, 0, none⟩)) F105 rfl rfl (fun W => (rn_nil (F105.get rfl))) fun _ F107 => ?_; clear F105
  refine qp 3 (.pointer (some ⟨g, 0 + ic, none⟩)) F107 rfl rfl (fun W => (rn_indexArr Tryd.underlying90 inf79 (F107.get rfl) (F107.get rfl) (by omega : (0 : Int) ≤ (ic : Nat)) (by omega : ((ic : Nat) : Int) < ((16 : Nat) : Int)))) fun _ F109 => ?_; clear F107
  have b111 := (b90.ext hx99)
  have hS110 : Ext w98 w98 ∧ Blk w98 g 90 (u32Vals v93) := ⟨(Ext.refl w98), b111⟩
  refine qs 4 (.int .u32 ((v93.getD ic 0).toNat : Nat)) F109 rfl rfl hS110 (fun W hW => (rn_load (isAgg_no Tryd.underlying79 rfl) (F109.get rfl) (blk_word hW.2 (by omega) (by have := (show List.length v93 = _ from hl95); omega)))) fun _ F113 => ?_; clear F109
  refine qp 5 (.pointer (some ⟨g, 0, none⟩)) F113 rfl rfl (fun W => (rn_move (F113.get rfl))) fun _ F115 => ?_; clear F113
  refine qp 6 (.int .i64 (id_ : Nat)) F115 rfl rfl (fun W => (rn_move (F115.get rfl))) fun _ F117 => ?_; clear F115
  refine qp 7 (.pointer (some ⟨g, 0, none⟩)) F117 rfl rfl (fun W => (rn_nil (F117.get rfl))) fun _ F119 => ?_; clear F117
  refine qp 8 (.pointer (some ⟨g, 0 + id_, none⟩)) F119 rfl rfl (fun W => (rn_indexArr Tryd.underlying90 inf79 (F119.get rfl) (F119.get rfl) (by omega : (0 : Int) ≤ (id_ : Nat)) (by omega : ((id_ : Nat) : Int) < ((16 : Nat) : Int)))) fun _ F121 => ?_; clear F119
  refine qs 9 (.int .u32 ((v93.getD id_ 0).toNat : Nat)) F121 rfl rfl hS110 (fun W hW => (rn_load (isAgg_no Tryd.underlying79 rfl) (F121.get rfl) (blk_word hW.2 (by omega) (by have := (show List.length v93 = _ from hl95); omega)))) fun _ F123 => ?_; clear F121
  refine qp 10 (.int .u32 (((v93.getD ic 0) + (v93.getD id_ 0)).toNat : Nat)) F123 rfl rfl (fun W => (rn_add32 (a := (v93.getD ic 0)) (b := (v93.getD id_ 0)) (F123.get rfl) (F123.get rfl))) fun _ F125 => ?_; clear F123
  refine qp 11 (.pointer (some ⟨g, 0, none⟩)) F125 rfl rfl (fun W => (rn_nil (F125.get rfl))) fun _ F127 => ?_; clear F125
  refine qp 12 (.pointer (some ⟨g, 0 + ic, none⟩)) F127 rfl rfl (fun W => (rn_indexArr Tryd.underlying90 inf79 (F127.get rfl) (F127.get rfl) (by omega : (0 : Int) ≤ (ic : Nat)) (by omega : ((ic : Nat) : Int) < ((16 : Nat) : Int)))) fun _ F129 => ?_; clear F127
  refine any_one (i := 13) (by decide +kernel) rfl ?_
  refine o_store1 (new := (u32Vals (v93.set ic ((v93.getD ic 0) + (v93.getD id_ 0))))) F129 rfl rfl rfl rfl (F129.get rfl) (F129.get rfl) b111 inf79 (by rw [u32Vals_len hl95]; omega) rfl (u32Vals_set (by omega)) ?_
  intro w130 b131 hg132; have z133 := hg132.size
  obtain ⟨v134, e135⟩ : ∃ z, z = v93.set ic ((v93.getD ic 0) + (v93.getD id_ 0)) := ⟨_, rfl⟩
  have hl136 : v134.length = 16 := by rw [e135, List.length_set]; exact hl95
  rw [← e135] at b131
  refine ⟨fun h => absurd h (by decide), ?_⟩
  refine any_nil (by decide +kernel) ?_
  refine hK97 _ _ ?_
  clear hK97
  have F137 := (((((((F129.nil.c F129 6 rfl).c F129 5 rfl).c F129 4 rfl).c F129 3 rfl).c F129 2 rfl).c F129 1 rfl).c F129 0 rfl)
  clear F129
  refine wp_seq_k (fun K138 hK138 => ?_)
  have hx140 : ∃ W, w130.drew = W ∧ Ext w130 W := ⟨_, rfl, (Ext.refl _).drew⟩
  obtain ⟨w139, e141, hx140⟩ := hx140
  have z142 := hx140.size
  refine any_start (fun W => Ext w139 W ∧ Blk W g 90 (u32Vals v134)) (fun i => i == 16) 17 #[false, false, false, false, false, false, false, false, false, false, false, false, false, false, false, false, false] rfl rfl rfl ?_
  rw [e141]; clear e141
  refine qp 0 (.pointer (some ⟨g, 0, none⟩)) F137 rfl rfl (fun W => (rn_move (F137.get rfl))) fun _ F144 => ?_; clear F137
  refine qp 1 (.int .i64 (ib : Nat)) F144 rfl rfl (fun W => (rn_move (F144.get rfl))) fun _ F146 => ?_; clear F144
  refine qp 2 (.pointer (some ⟨g, 0, none⟩)) F146 rfl rfl (fun W => (rn_move (F146.get rfl))) fun _ F148 => ?_; clear F146
  refine qp 3 (.int .i64 (ib : Nat)) F148 rfl rfl (fun W => (rn_move (F148.get rfl))) fun _ F150 => ?_; clear F148
  refine qp 4 (.pointer (some ⟨g, 0, none⟩)) F150 rfl rfl (fun W => (rn_nil (F150.get rfl))) fun _ F152 => ?_; clear F150
  refine qp 5 (.pointer (some ⟨g, 0 + ib, none⟩)) F152 rfl rfl (fun W => (rn_indexArr Tryd.underlying90 inf79 (F152.get rfl) (F152.get rfl) (by omega : (0 : Int) ≤ (ib : Nat)) (by omega : ((ib : Nat) : Int) < ((16 : Nat) : Int)))) fun _ F154 => ?_; clear F152
  have b156 := (b131.ext hx140)
  have hS155 : Ext w139 w139 ∧ Blk w139 g 90 (u32Vals v134) := ⟨(Ext.refl w139), b156⟩
  refine qs 6 (.int .u32 ((v134.getD ib 0).toNat : Nat)) F154 rfl rfl hS155 (fun W hW => (rn_load (isAgg_no Tryd.underlying79 rfl) (F154.get rfl) (blk_word hW.2 (by omega) (by have := (show List.length v134 = _ from hl136); omega)))) fun _ F158 => ?_; clear F154
  refine qp 7 (.pointer (some ⟨g, 0, none⟩)) F158 rfl rfl (fun W => (rn_move (F158.get rfl))) fun _ F160 => ?_; clear F158
  refine qp 8 (.int .i64 (ic : Nat)) F160 rfl rfl (fun W => (rn_move (F160.get rfl))) fun _ F162 => ?_; clear F160
  refine qp 9 (.pointer (some ⟨g, 0, none⟩)) F162 rfl rfl (fun W => (rn_nil (F162.get rfl))) fun _ F164 => ?_; clear F162
  refine qp 10 (.pointer (some ⟨g, 0 + ic, none⟩)) F164 rfl rfl (fun W => (rn_indexArr Tryd.underlying90 inf79 (F164.get rfl) (F164.get rfl) (by omega : (0 : Int) ≤ (ic : Nat)) (by omega : ((ic : Nat) : Int) < ((16 : Nat) : Int)))) fun _ F166 => ?_; clear F164
  refine qs 11 (.int .u32 ((v134.getD ic 0).toNat : Nat)) F166 rfl rfl hS155 (fun W hW => (rn_load (isAgg_no Tryd.underlying79 rfl) (F166.get rfl) (blk_word hW.2 (by omega) (by have := (show List.length v134 = _ from hl136); omega)))) fun _ F168 => ?_; clear F166
  refine qp 12 (.int .u32 (((v134.getD ib 0) ^^^ (v134.getD ic 0)).toNat : Nat)) F168 rfl rfl (fun W => (rn_xor32 (a := (v134.getD ib 0)) (b := (v134.getD ic 0)) (F168.get rfl) (F168.get rfl))) fun _ F170 => ?_; clear F168
  refine qp 14 (.pointer (some ⟨g, 0, none⟩)) F170 rfl rfl (fun W => (rn_nil (F170.get rfl))) fun _ F172 => ?_; clear F170
  refine any_one (i := 13) (by decide +kernel) rfl ?_
  refine o_call F172 rfl rfl rfl rfl (rn_call (args2 (F172.get rfl) rfl) rfl (by kernel_rfl)) (rot12_any ((v134.getD ib 0) ^^^ (v134.getD ic 0)) _) ?_
  rintro _ w173 ⟨rfl, hx174⟩
  refine ⟨_, rfl, ?_⟩; intro a175 F176; clear F172; have z177 := hx174.size
  have b178 := (b156.ext hx174)
  refine ⟨fun _ _ => ⟨((Ext.refl w139).trans hx174), b178⟩, ?_⟩
  refine qp 15 (.pointer (some ⟨g, 0 + ib, none⟩)) F176 rfl rfl (fun W => (rn_indexArr Tryd.underlying90 inf79 (F176.get rfl) (F176.get rfl) (by omega : (0 : Int) ≤ (ib : Nat)) (by omega : ((ib : Nat) : Int) < ((16 : Nat) : Int)))) fun _ F180 => ?_; clear F176
  refine any_one (i := 16) (by decide +kernel) rfl ?_
  refine o_store1 (new := (u32Vals (v134.set ib (ror ((v134.getD ib 0) ^^^ (v134.getD ic 0)) 12)))) F180 rfl rfl rfl rfl (F180.get rfl) (F180.get rfl) b178 inf79 (by rw [u32Vals_len hl136]; omega) rfl (u32Vals_set (by omega)) ?_
  intro w181 b182 hg183; have z184 := hg183.size
  obtain ⟨v185, e186⟩ : ∃ z, z = v134.set ib (ror ((v134.getD ib 0) ^^^ (v134.getD ic 0)) 12) := ⟨_, rfl⟩
  have hl187 : v185.length = 16 := by rw [e186, List.length_set]; exact hl136
  rw [← e186] at b182
  refine ⟨fun h => absurd h (by decide), ?_⟩
  refine any_nil (by decide +kernel) ?_
  refine hK138 _ _ ?_
  clear hK138
  have F188 := (((((((F180.nil.c F180 6 rfl).c F180 5 rfl).c F180 4 rfl).c F180 3 rfl).c F180 2 rfl).c F180 1 rfl).c F180 0 rfl)
  clear F180
  refine wp_seq_k (fun K189 hK189 => ?_)
  have hx191 : ∃ W, w181.drew = W ∧ Ext w181 W := ⟨_, rfl, (Ext.refl _).drew⟩
  obtain ⟨w190, e192, hx191⟩ := hx191
  have z193 := hx191.size
  refine any_start (fun W => Ext w190 W ∧ Blk W g 90 (u32Vals v185)) (fun i => i == 15) 16 #[false, false, false, false, false, false, false, false, false, false, false, false, false, false, false, false] rfl rfl rfl ?_
  rw [e192]; clear e192
  refine qp 0 (.pointer (some ⟨g, 0, none⟩)) F188 rfl rfl (fun W => (rn_move (F188.get rfl))) fun _ F195 => ?_; clear F188
  refine qp 1 (.int .i64 (ia : Nat)) F195 rfl rfl (fun W => (rn_move (F195.get rfl))) fun _ F197 => ?_; clear F195
  refine qp 2 (.pointer (some ⟨g, 0, none⟩)) F197 rfl rfl (fun W => (rn_nil (F197.get rfl))) fun _ F199 => ?_; clear F197
  refine qp 3 (.pointer (some ⟨g, 0 + ia, none⟩)) F199 rfl rfl (fun W => (rn_indexArr Tryd.underlying90 inf79 (F199.get rfl) (F199.get rfl) (by omega : (0 : Int) ≤ (ia : Nat)) (by omega : ((ia : Nat) : Int) < ((16 : Nat) : Int)))) fun _ F201 => ?_; clear F199
  have b203 := (b182.ext hx191)
  have hS202 : Ext w190 w190 ∧ Blk w190 g 90 (u32Vals v185) := ⟨(Ext.refl w190), b203⟩
  refine qs 4 (.int .u32 ((v185.getD ia 0).toNat : Nat)) F201 rfl rfl hS202 (fun W hW => (rn_load (isAgg_no Tryd.underlying79 rfl) (F201.get rfl) (blk_word hW.2 (by omega) (by have := (show List.length v185 = _ from hl187); omega)))) fun _ F205 => ?_; clear F201
  refine qp 5 (.pointer (some ⟨g, 0, none⟩)) F205 rfl rfl (fun W => (rn_move (F205.get rfl))) fun _ F207 => ?_; clear F205
  refine qp 6 (.int .i64 (ib : Nat)) F207 rfl rfl (fun W => (rn_move (F207.get rfl))) fun _ F209 => ?_; clear F207
  refine qp 7 (.pointer (some ⟨g, 0, none⟩)) F209 rfl rfl (fun W => (rn_nil (F209.get rfl))) fun _ F211 => ?_; clear F209
  refine qp 8 (.pointer (some ⟨g, 0 + ib, none⟩)) F211 rfl rfl (fun W => (rn_indexArr Tryd.underlying90 inf79 (F211.get rfl) (F211.get rfl) (by omega : (0 : Int) ≤ (ib : Nat)) (by omega : ((ib : Nat) : Int) < ((16 : Nat) : Int)))) fun _ F213 => ?_; clear F211
  refine qs 9 (.int .u32 ((v185.getD ib 0).toNat : Nat)) F213 rfl rfl hS202 (fun W hW => (rn_load (isAgg_no Tryd.underlying79 rfl) (F213.get rfl) (blk_word hW.2 (by omega) (by have := (show List.length v185 = _ from hl187); omega)))) fun _ F215 => ?_; clear F213
  refine qp 10 (.int .u32 (y.toNat : Nat)) F215 rfl rfl (fun W => (rn_move (F215.get rfl))) fun _ F217 => ?_; clear F215
  refine qp 11 (.int .u32 (((v185.getD ib 0) + y).toNat : Nat)) F217 rfl rfl (fun W => (rn_add32 (a := (v185.getD ib 0)) (b := y) (F217.get rfl) (F217.get rfl))) fun _ F219 => ?_; clear F217
  refine qp 12 (.int .u32 (((v185.getD ia 0) + ((v185.getD ib 0) + y)).toNat : Nat)) F219 rfl rfl (fun W => (rn_add32 (a := (v185.getD ia 0)) (b := ((v185.getD ib 0) + y)) (F219.get rfl) (F219.get rfl))) fun _ F221 => ?_; clear F219
  refine qp 13 (.pointer (some ⟨g, 0, none⟩)) F221 rfl rfl (fun W => (rn_nil (F221.get rfl))) fun _ F223 => ?_; clear F221
  refine qp 14 (.pointer (some ⟨g, 0 + ia, none⟩)) F223 rfl rfl (fun W => (rn_indexArr Tryd.underlying90 inf79 (F223.get rfl) (F223.get rfl) (by omega : (0 : Int) ≤ (ia : Nat)) (by omega : ((ia : Nat) : Int) < ((16 : Nat) : Int)))) fun _ F225 => ?_; clear F223
  refine any_one (i := 15) (by decide +kernel) rfl ?_
  refine o_store1 (new := (u32Vals (v185.set ia ((v185.getD ia 0) + ((v185.getD ib 0) + y))))) F225 rfl rfl rfl rfl (F225.get rfl) (F225.get rfl) b203 inf79 (by rw [u32Vals_len hl187]; omega) rfl (u32Vals_set (by omega)) ?_
  intro w226 b227 hg228; have z229 := hg228.size
  obtain ⟨v230, e231⟩ : ∃ z, z = v185.set ia ((v185.getD ia 0) + ((v185.getD ib 0) + y)) := ⟨_, rfl⟩
  have hl232 : v230.length = 16 := by rw [e231, List.length_set]; exact hl187
  rw [← e231] at b227
  refine ⟨fun h => absurd h (by decide), ?_⟩
  refine any_nil (by decide +kernel) ?_
  refine hK189 _ _ ?_
  clear hK189
  have F233 := (((((((F225.nil.c F225 6 rfl).c F225 5 rfl).c F225 4 rfl).c F225 3 rfl).c F225 2 rfl).c F225 1 rfl).c F225 0 rfl)
  clear F225
  refine wp_seq_k (fun K234 hK234 => ?_)
  have hx236 : ∃ W, w226.drew = W ∧ Ext w226 W := ⟨_, rfl, (Ext.refl _).drew⟩
  obtain ⟨w235, e237, hx236⟩ := hx236
  have z238 := hx236.size
  refine any_start (fun W => Ext w235 W ∧ Blk W g 90 (u32Vals v230)) (fun i => i == 16) 17 #[false, false, false, false, false, false, false, false, false, false, false, false, false, false, false, false, false] rfl rfl rfl ?_
  rw [e237]; clear e237
  refine qp 0 (.pointer (some ⟨g, 0, none⟩)) F233 rfl rfl (fun W => (rn_move (F233.get rfl))) fun _ F240 => ?_; clear F233
  refine qp 1 (.int .i64 (id_ : Nat)) F240 rfl rfl (fun W => (rn_move (F240.get rfl))) fun _ F242 => ?_; clear F240
  refine qp 2 (.pointer (some ⟨g, 0, none⟩)) F242 rfl rfl (fun W => (rn_move (F242.get rfl))) fun _ F244 => ?_; clear F242
  refine qp 3 (.int .i64 (id_ : Nat)) F244 rfl rfl (fun W => (rn_move (F244.get rfl))) fun _ F246 => ?_; clear F244
  refine qp 4 (.pointer (some ⟨g, 0, none⟩)) F246 rfl rfl (fun W => (rn_nil (F246.get rfl))) fun _ F248 => ?_; clear F246
  refine qp 5 (.pointer (some ⟨g, 0 + id_, none⟩)) F248 rfl rfl (fun W => (rn_indexArr Tryd.underlying90 inf79 (F248.get rfl) (F248.get rfl) (by omega : (0 : Int) ≤ (id_ : Nat)) (by omega : ((id_ : Nat) : Int) < ((16 : Nat) : Int)))) fun _ F250 => ?_; clear F248
  have b252 := (b227.ext hx236)
  have hS251 : Ext w235 w235 ∧ Blk w235 g 90 (u32Vals v230) := ⟨(Ext.refl w235), b252⟩
  refine qs 6 (.int .u32 ((v230.getD id_ 0).toNat : Nat)) F250 rfl rfl hS251 (fun W hW => (rn_load (isAgg_no Tryd.underlying79 rfl) (F250.get rfl) (blk_word hW.2 (by omega) (by have := (show List.length v230 = _ from hl232); omega)))) fun _ F254 => ?_; clear F250
  refine qp 7 (.pointer (some ⟨g, 0, none⟩)) F254 rfl rfl (fun W => (rn_move (F254.get rfl))) fun _ F256 => ?_; clear F254
  refine qp 8 (.int .i64 (ia : Nat)) F256 rfl rfl (fun W => (rn_move (F256.get rfl))) fun _ F258 => ?_; clear F256
  refine qp 9 (.pointer (some ⟨g, 0, none⟩)) F258 rfl rfl (fun W => (rn_nil (F258.get rfl))) fun _ F260 => ?_; clear F258
  refine qp 10 (.pointer (some ⟨g, 0 + ia, none⟩)) F260 rfl rfl (fun W => (rn_indexArr Tryd.underlying90 inf79 (F260.get rfl) (F260.get rfl) (by omega : (0 : Int) ≤ (ia : Nat)) (by omega : ((ia : Nat) : Int) < ((16 : Nat) : Int)))) fun _ F262 => ?_; clear F260
  refine qs 11 (.int .u32 ((v230.getD ia 0).toNat : Nat)) F262 rfl rfl hS251 (fun W hW => (rn_load (isAgg_no Tryd.underlying79 rfl) (F262.get rfl) (blk_word hW.2 (by omega) (by have := (show List.length v230 = _ from hl232); omega)))) fun _ F264 => ?_; clear F262
  refine qp 12 (.int .u32 (((v230.getD id_ 0) ^^^ (v230.getD ia 0)).toNat : Nat)) F264 rfl rfl (fun W => (rn_xor32 (a := (v230.getD id_ 0)) (b := (v230.getD ia 0)) (F264.get rfl) (F264.get rfl))) fun _ F266 => ?_; clear F264
  refine qp 14 (.pointer (some ⟨g, 0, none⟩)) F266 rfl rfl (fun W => (rn_nil (F266.get rfl))) fun _ F268 => ?_; clear F266
  refine any_one (i := 13) (by decide +kernel) rfl ?_
  refine o_call F268 rfl rfl rfl rfl (rn_call (args2 (F268.get rfl) rfl) rfl (by kernel_rfl)) (rot8_any ((v230.getD id_ 0) ^^^ (v230.getD ia 0)) _) ?_
  rintro _ w269 ⟨rfl, hx270⟩
  refine ⟨_, rfl, ?_⟩; intro a271 F272; clear F268; have z273 := hx270.size
  have b274 := (b252.ext hx270)
  refine ⟨fun _ _ => ⟨((Ext.refl w235).trans hx270), b274⟩, ?_⟩
  refine qp 15 (.pointer (some ⟨g, 0 + id_, none⟩)) F272 rfl rfl (fun W => (rn_indexArr Tryd.underlying90 inf79 (F272.get rfl) (F272.get rfl) (by omega : (0 : Int) ≤ (id_ : Nat)) (by omega : ((id_ : Nat) : Int) < ((16 : Nat) : Int)))) fun _ F276 => ?_; clear F272
  refine any_one (i := 16) (by decide +kernel) rfl ?_
  refine o_store1 (new := (u32Vals (v230.set id_ (ror ((v230.getD id_ 0) ^^^ (v230.getD ia 0)) 8)))) F276 rfl rfl rfl rfl (F276.get rfl) (F276.get rfl) b274 inf79 (by rw [u32Vals_len hl232]; omega) rfl (u32Vals_set (by omega)) ?_
  intro w277 b278 hg279; have z280 := hg279.size
  obtain ⟨v281, e282⟩ : ∃ z, z = v230.set id_ (ror ((v230.getD id_ 0) ^^^ (v230.getD ia 0)) 8) := ⟨_, rfl⟩
  have hl283 : v281.length = 16 := by rw [e282, List.length_set]; exact hl232
  rw [← e282] at b278
  refine ⟨fun h => absurd h (by decide), ?_⟩
  refine any_nil (by decide +kernel) ?_
  refine hK234 _ _ ?_
  clear hK234
  have F284 := (((((((F276.nil.c F276 6 rfl).c F276 5 rfl).c F276 4 rfl).c F276 3 rfl).c F276 2 rfl).c F276 1 rfl).c F276 0 rfl)
  clear F276
  refine wp_seq_k (fun K285 hK285 => ?_)
  have hx287 : ∃ W, w277.drew = W ∧ Ext w277 W := ⟨_, rfl, (Ext.refl _).drew⟩
  obtain ⟨w286, e288, hx287⟩ := hx287
  have z289 := hx287.size
  refine any_start (fun W => Ext w286 W ∧ Blk W g 90 (u32Vals v281)) (fun i => i == 13) 14 #[false, false, false, false, false, false, false, false, false, false, false, false, false, false] rfl rfl rfl ?_
  rw [e288]; clear e288
  refine qp 0 (.pointer (some ⟨g, 0, none⟩)) F284 rfl rfl (fun W => (rn_move (F284.get rfl))) fun _ F291 => ?_; clear F284
  refine qp 1 (.int .i64 (ic : Nat)) F291 rfl rfl (fun W => (rn_move (F291.get rfl))) fun _ F293 => ?_; clear F291
  refine qp 2 (.pointer (some ⟨g, 0, none⟩)) F293 rfl rfl (fun W => (rn_nil (F293.get rfl))) fun _ F295 => ?_; clear F293
  refine qp 3 (.pointer (some ⟨g, 0 + ic, none⟩)) F295 rfl rfl (fun W => (rn_indexArr Tryd.underlying90 inf79 (F295.get rfl) (F295.get rfl) (by omega : (0 : Int) ≤ (ic : Nat)) (by omega : ((ic : Nat) : Int) < ((16 : Nat) : Int)))) fun _ F297 => ?_; clear F295
  have b299 := (b278.ext hx287)
  have hS298 : Ext w286 w286 ∧ Blk w286 g 90 (u32Vals v281) := ⟨(Ext.refl w286), b299⟩
  refine qs 4 (.int .u32 ((v281.getD ic 0).toNat : Nat)) F297 rfl rfl hS298 (fun W hW => (rn_load (isAgg_no Tryd.underlying79 rfl) (F297.get rfl) (blk_word hW.2 (by omega) (by have := (show List.length v281 = _ from hl283); omega)))) fun _ F301 => ?_; clear F297
  refine qp 5 (.pointer (some ⟨g, 0, none⟩)) F301 rfl rfl (fun W => (rn_move (F301.get rfl))) fun _ F303 => ?_; clear F301
  refine qp 6 (.int .i64 (id_ : Nat)) F303 rfl rfl (fun W => (rn_move (F303.get rfl))) fun _ F305 => ?_; clear F303
  refine qp 7 (.pointer (some ⟨g, 0, none⟩)) F305 rfl rfl (fun W => (rn_nil (F305.get rfl))) fun _ F307 => ?_; clear F305
  refine qp 8 (.pointer (some ⟨g, 0 + id_, none⟩)) F307 rfl rfl (fun W => (rn_indexArr Tryd.underlying90 inf79 (F307.get rfl) (F307.get rfl) (by omega : (0 : Int) ≤ (id_ : Nat)) (by omega : ((id_ : Nat) : Int) < ((16 : Nat) : Int)))) fun _ F309 => ?_; clear F307
  refine qs 9 (.int .u32 ((v281.getD id_ 0).toNat : Nat)) F309 rfl rfl hS298 (fun W hW => (rn_load (isAgg_no Tryd.underlying79 rfl) (F309.get rfl) (blk_word hW.2 (by omega) (by have := (show List.length v281 = _ from hl283); omega)))) fun _ F311 => ?_; clear F309
  refine qp 10 (.int .u32 (((v281.getD ic 0) + (v281.getD id_ 0)).toNat : Nat)) F311 rfl rfl (fun W => (rn_add32 (a := (v281.getD ic 0)) (b := (v281.getD id_ 0)) (F311.get rfl) (F311.get rfl))) fun _ F313 => ?_; clear F311
  refine qp 11 (.pointer (some ⟨g, 0, none⟩)) F313 rfl rfl (fun W => (rn_nil (F313.get rfl))) fun _ F315 => ?_; clear F313
  refine qp 12 (.pointer (some ⟨g, 0 + ic, none⟩)) F315 rfl rfl (fun W => (rn_indexArr Tryd.underlying90 inf79 (F315.get rfl) (F315.get rfl) (by omega : (0 : Int) ≤ (ic : Nat)) (by omega : ((ic : Nat) : Int) < ((16 : Nat) : Int)))) fun _ F317 => ?_; clear F315
  refine any_one (i := 13) (by decide +kernel) rfl ?_
  refine o_store1 (new := (u32Vals (v281.set ic ((v281.getD ic 0) + (v281.getD id_ 0))))) F317 rfl rfl rfl rfl (F317.get rfl) (F317.get rfl) b299 inf79 (by rw [u32Vals_len hl283]; omega) rfl (u32Vals_set (by omega)) ?_
  intro w318 b319 hg320; have z321 := hg320.size
  obtain ⟨v322, e323⟩ : ∃ z, z = v281.set ic ((v281.getD ic 0) + (v281.getD id_ 0)) := ⟨_, rfl⟩
  have hl324 : v322.length = 16 := by rw [e323, List.length_set]; exact hl283
  rw [← e323] at b319
  refine ⟨fun h => absurd h (by decide), ?_⟩
  refine any_nil (by decide +kernel) ?_
  refine hK285 _ _ ?_
  clear hK285
  have F325 := (((((((F317.nil.c F317 6 rfl).c F317 5 rfl).c F317 4 rfl).c F317 3 rfl).c F317 2 rfl).c F317 1 rfl).c F317 0 rfl)
  clear F317
  have hx327 : ∃ W, w318.drew = W ∧ Ext w318 W := ⟨_, rfl, (Ext.refl _).drew⟩
  obtain ⟨w326, e328, hx327⟩ := hx327
  have z329 := hx327.size
  refine any_start (fun W => Ext w326 W ∧ Blk W g 90 (u32Vals v322)) (fun i => i == 16) 17 #[false, false, false, false, false, false, false, false, false, false, false, false, false, false, false, false, false] rfl rfl rfl ?_
  rw [e328]; clear e328
  refine qp 0 (.pointer (some ⟨g, 0, none⟩)) F325 rfl rfl (fun W => (rn_move (F325.get rfl))) fun _ F331 => ?_; clear F325
  refine qp 1 (.int .i64 (ib : Nat)) F331 rfl rfl (fun W => (rn_move (F331.get rfl))) fun _ F333 => ?_; clear F331
  refine qp 2 (.pointer (some ⟨g, 0, none⟩)) F333 rfl rfl (fun W => (rn_move (F333.get rfl))) fun _ F335 => ?_; clear F333
  refine qp 3 (.int .i64 (ib : Nat)) F335 rfl rfl (fun W => (rn_move (F335.get rfl))) fun _ F337 => ?_; clear F335
  refine qp 4 (.pointer (some ⟨g, 0, none⟩)) F337 rfl rfl (fun W => (rn_nil (F337.get rfl))) fun _ F339 => ?_; clear F337
  refine qp 5 (.pointer (some ⟨g, 0 + ib, none⟩)) F339 rfl rfl (fun W => (rn_indexArr Tryd.underlying90 inf79 (F339.get rfl) (F339.get rfl) (by omega : (0 : Int) ≤ (ib : Nat)) (by omega : ((ib : Nat) : Int) < ((16 : Nat) : Int)))) fun _ F341 => ?_; clear F339
  have b343 := (b319.ext hx327)
  have hS342 : Ext w326 w326 ∧ Blk w326 g 90 (u32Vals v322) := ⟨(Ext.refl w326), b343⟩
  refine qs 6 (.int .u32 ((v322.getD ib 0).toNat : Nat)) F341 rfl rfl hS342 (fun W hW => (rn_load (isAgg_no Tryd.underlying79 rfl) (F341.get rfl) (blk_word hW.2 (by omega) (by have := (show List.length v322 = _ from hl324); omega)))) fun _ F345 => ?_; clear F341
  refine qp 7 (.pointer (some ⟨g, 0, none⟩)) F345 rfl rfl (fun W => (rn_move (F345.get rfl))) fun _ F347 => ?_; clear F345
  refine qp 8 (.int .i64 (ic : Nat)) F347 rfl rfl (fun W => (rn_move (F347.get rfl))) fun _ F349 => ?_; clear F347
  refine qp 9 (.pointer (some ⟨g, 0, none⟩)) F349 rfl rfl (fun W => (rn_nil (F349.get rfl))) fun _ F351 => ?_; clear F349
  refine qp 10 (.pointer (some ⟨g, 0 + ic, none⟩)) F351 rfl rfl (fun W => (rn_indexArr Tryd.underlying90 inf79 (F351.get rfl) (F351.get rfl) (by omega : (0 : Int) ≤ (ic : Nat)) (by omega : ((ic : Nat) : Int) < ((16 : Nat) : Int)))) fun _ F353 => ?_; clear F351
  refine qs 11 (.int .u32 ((v322.getD ic 0).toNat : Nat)) F353 rfl rfl hS342 (fun W hW => (rn_load (isAgg_no Tryd.underlying79 rfl) (F353.get rfl) (blk_word hW.2 (by omega) (by have := (show List.length v322 = _ from hl324); omega)))) fun _ F355 => ?_; clear F353
  refine qp 12 (.int .u32 (((v322.getD ib 0) ^^^ (v322.getD ic 0)).toNat : Nat)) F355 rfl rfl (fun W => (rn_xor32 (a := (v322.getD ib 0)) (b := (v322.getD ic 0)) (F355.get rfl) (F355.get rfl))) fun _ F357 => ?_; clear F355
  refine qp 14 (.pointer (some ⟨g, 0, none⟩)) F357 rfl rfl (fun W => (rn_nil (F357.get rfl))) fun _ F359 => ?_; clear F357
  refine any_one (i := 13) (by decide +kernel) rfl ?_
  refine o_call F359 rfl rfl rfl rfl (rn_call (args2 (F359.get rfl) rfl) rfl (by kernel_rfl)) (rot7_any ((v322.getD ib 0) ^^^ (v322.getD ic 0)) _) ?_
  rintro _ w360 ⟨rfl, hx361⟩
  refine ⟨_, rfl, ?_⟩; intro a362 F363; clear F359; have z364 := hx361.size
  have b365 := (b343.ext hx361)
  refine ⟨fun _ _ => ⟨((Ext.refl w326).trans hx361), b365⟩, ?_⟩
  refine qp 15 (.pointer (some ⟨g, 0 + ib, none⟩)) F363 rfl rfl (fun W => (rn_indexArr Tryd.underlying90 inf79 (F363.get rfl) (F363.get rfl) (by omega : (0 : Int) ≤ (ib : Nat)) (by omega : ((ib : Nat) : Int) < ((16 : Nat) : Int)))) fun _ F367 => ?_; clear F363
  refine any_one (i := 16) (by decide +kernel) rfl ?_
  refine o_store1 (new := (u32Vals (v322.set ib (ror ((v322.getD ib 0) ^^^ (v322.getD ic 0)) 7)))) F367 rfl rfl rfl rfl (F367.get rfl) (F367.get rfl) b365 inf79 (by rw [u32Vals_len hl324]; omega) rfl (u32Vals_set (by omega)) ?_
  intro w368 b369 hg370; have z371 := hg370.size
  obtain ⟨v372, e373⟩ : ∃ z, z = v322.set ib (ror ((v322.getD ib 0) ^^^ (v322.getD ic 0)) 7) := ⟨_, rfl⟩
  have hl374 : v372.length = 16 := by rw [e373, List.length_set]; exact hl324
  rw [← e373] at b369
  refine ⟨fun h => absurd h (by decide), ?_⟩
  refine any_nil (by decide +kernel) ?_
  refine ret0 F367 rfl ?_
  exact ⟨rfl, (mix_chain e43 e94 e135 e186 e231 e282 e323 e373) ▸ b369, (grow_set (grow_ext (grow_ext (grow_set (grow_ext (grow_set (grow_ext (grow_ext (grow_set (grow_ext (grow_set (grow_ext (grow_ext (grow_set (grow_ext (grow_set (grow_ext (grow_ext (grow_set (grow_ext (grow_refl w g) hx3) hg40) hx48) hx82) hg91) hx99) hg132) hx140) hx174) hg183) hx191) hg228) hx236) hx270) hg279) hx287) hg320) hx327) hx361) hg370)⟩

end Go.Proofs.YtmjgjopbeokajaaDoor

namespace Go.Proofs.YtmjgjopbeokajaaDoor

theorem getD_setU {l : List UInt32} {i j : Nat} {x : UInt32} (h : i ≠ j) : (l.set i x).getD j 0 = l.getD j 0 := by
  simp [List.getD_eq_getElem?_getD, h]
theorem add_assoc32 (a b c : UInt32) : a + (b + c) = a + b + c := (UInt32.add_assoc a b c).symm

theorem mixSeq_eq {v : List UInt32} {a b c d : Nat} {x y : UInt32} (ha : a < v.length) (hb : b < v.length) (hc : c < v.length) (hd : d < v.length) (hab : a ≠ b) (hac : a ≠ c) (had : a ≠ d) (hbc : b ≠ c) (hbd : b ≠ d) (hcd : c ≠ d) :
    mixSeq v a b c d x y = mixv v a b c d x y := by
  apply List.ext_getElem
  · simp [mixSeq, mixv, put4]
  · intro n h1 h2
    have e : ∀ l : List UInt32, ∀ h : n < l.length, l[n] = l.getD n 0 := fun l h => by simp [List.getD_eq_getElem?_getD, List.getElem?_eq_getElem h]
    rw [e _ h1, e _ h2]
    unfold mixSeq mixv put4 mix4 at_
    dsimp only
    have hba := hab.symm
    have hca := hac.symm
    have hda := had.symm
    have hcb := hbc.symm
    have hdb := hbd.symm
    have hdc := hcd.symm
    by_cases h3 : n = a
    · subst h3; simp [ha, hb, hc, hd, hab, hac, had, hbc, hbd, hcd, hba, hca, hda, hcb, hdb, hdc, add_assoc32]
    · by_cases h4 : n = b
      · subst h4; simp [ha, hb, hc, hd, hab, hac, had, hbc, hbd, hcd, hba, hca, hda, hcb, hdb, hdc, add_assoc32]
      · by_cases h5 : n = c
        · subst h5; simp [ha, hb, hc, hd, hab, hac, had, hbc, hbd, hcd, hba, hca, hda, hcb, hdb, hdc, add_assoc32]
        · by_cases h6 : n = d
          · subst h6; simp [ha, hb, hc, hd, hab, hac, had, hbc, hbd, hcd, hba, hca, hda, hcb, hdb, hdc, add_assoc32]
          · rw [getD_setU (Ne.symm h4), getD_setU (Ne.symm h5), getD_setU (Ne.symm h6), getD_setU (Ne.symm h3), getD_setU (Ne.symm h4), getD_setU (Ne.symm h5), getD_setU (Ne.symm h6), getD_setU (Ne.symm h3), getD_setU (Ne.symm h6), getD_setU (Ne.symm h5), getD_setU (Ne.symm h4), getD_setU (Ne.symm h3)]

end Go.Proofs.YtmjgjopbeokajaaDoor

namespace Go.Proofs.YtmjgjopbeokajaaDoor
open Go.RowKit

theorem foldl_range {α : Type} (f : α → Nat → α) (a : α) (k : Nat) : (List.range (k + 1)).foldl f a = f ((List.range k).foldl f a) k := by
  rw [List.range_succ, List.foldl_append]; rfl
theorem foldl_len {α : Type} {f : List UInt32 → α → List UInt32} {n : Nat} (hf : ∀ v i, v.length = n → (f v i).length = n) : ∀ (l : List α) (v : List UInt32), v.length = n → (l.foldl f v).length = n
  | [], _, h => h
  | x :: l, v, h => foldl_len hf l (f v x) (hf v x h)

theorem mixSeq_len (v : List UInt32) (a b c d : Nat) (x y : UInt32) : (mixSeq v a b c d x y).length = v.length := by simp [mixSeq]

def wordsTo (b : List UInt8) (k : Nat) : List UInt32 := (List.range k).foldl (word b) (List.replicate 16 0)
theorem wordsTo_len (b : List UInt8) (k : Nat) : (wordsTo b k).length = 16 := foldl_len (fun v i h => by simp [word, h]) _ _ (by simp)
theorem wordsTo_step {b : List UInt8} {k : Nat} {m v : List UInt32} (hm : m = wordsTo b k) (hv : v = m.set (k / 4) (m.getD (k / 4) 0 ||| (b.getD k 0).toUInt32 <<< UInt32.ofNat (8 * (k % 4)))) : v = wordsTo b (k + 1) := by
  rw [hv, hm, wordsTo, wordsTo, foldl_range]; rfl
theorem words_eq {b : List UInt8} {m : List UInt32} {k : Nat} (hm : m = wordsTo b k) (hk : k = b.length) : m = words b := by rw [hm, hk]; rfl

def permB : List UInt8 := perms.flatten.map UInt8.ofNat
theorem permB_len : permB.length = 160 := by decide +kernel
def permRow (r : Nat) : List Nat := perms.getD r []
theorem perm_row_all : ∀ r < 10, ∀ j < 16, (((permB.drop (r * 16)).take 16).getD j 0).toNat = (permRow r).getD j 0 ∧ (permRow r).getD j 0 < 16 := by decide +kernel
theorem perm_row {r : Nat} (hr : r < 10) {j : Nat} (hj : j < 16) : (((permB.drop (r * 16)).take 16).getD j 0).toNat = (permRow r).getD j 0 := (perm_row_all r hr j hj).1
theorem perm_lt {r : Nat} (hr : r < 10) {j : Nat} (hj : j < 16) : (((permB.drop (r * 16)).take 16).getD j 0).toNat < 16 := by rw [perm_row hr hj]; exact (perm_row_all r hr j hj).2

theorem mixv_len {v : List UInt32} {a b c d : Nat} {x y : UInt32} (h : v.length = 16) : (mixv v a b c d x y).length = 16 := by simp [mixv, put4, h]
theorem mixAt_len (m : List UInt32) (s : List Nat) {v : List UInt32} (i : Nat) (h : v.length = 16) : (mixAt m s v i).length = 16 := by
  unfold mixAt
  dsimp only
  split <;> exact mixv_len h
def mixTo (m : List UInt32) (s : List Nat) (v : List UInt32) (k : Nat) : List UInt32 := (List.range k).foldl (mixAt m s) v
theorem mixTo_len {m : List UInt32} {s : List Nat} {v : List UInt32} {k : Nat} (h : v.length = 16) : (mixTo m s v k).length = 16 := foldl_len (fun _ i h => mixAt_len m s i h) _ _ h
theorem mixTo_step1 {m : List UInt32} {r : Nat} {v0 v v' : List UInt32} {k : Nat} (hr : r < 10) (hk : k < 4) (h0 : v0.length = 16) (hv : v = mixTo m (permRow r) v0 k)
    (he : v' = mixSeq v k (4 + k) (8 + k) (12 + k) (m.getD (((permB.drop (r * 16)).take 16).getD (2 * k) 0).toNat 0) (m.getD (((permB.drop (r * 16)).take 16).getD ((2 * k) + 1) 0).toNat 0)) : v' = mixTo m (permRow r) v0 (k + 1) := by
  have hl : v.length = 16 := by rw [hv]; exact mixTo_len h0
  rw [mixTo, foldl_range, ← mixTo, ← hv, he, mixSeq_eq (by omega) (by omega) (by omega) (by omega) (by omega) (by omega) (by omega) (by omega) (by omega) (by omega), perm_row hr (by omega), perm_row hr (by omega)]
  simp [mixAt, hk, at_]
theorem mixTo_step2 {m : List UInt32} {r : Nat} {v0 v v' : List UInt32} {k : Nat} (hr : r < 10) (hk : k < 4) (h0 : v0.length = 16) (hv : v = mixTo m (permRow r) v0 (4 + k))
    (he : v' = mixSeq v k (4 + ((k + 1) % 4)) (8 + ((k + 2) % 4)) (12 + ((k + 3) % 4)) (m.getD (((permB.drop (r * 16)).take 16).getD (8 + (2 * k)) 0).toNat 0) (m.getD (((permB.drop (r * 16)).take 16).getD (9 + (2 * k)) 0).toNat 0)) : v' = mixTo m (permRow r) v0 (4 + (k + 1)) := by
  have hl : v.length = 16 := by rw [hv]; exact mixTo_len h0
  rw [← Nat.add_assoc, mixTo, foldl_range, ← mixTo, ← hv, he, mixSeq_eq (by omega) (by omega) (by omega) (by omega) (by omega) (by omega) (by omega) (by omega) (by omega) (by omega), perm_row hr (by omega), perm_row hr (by omega)]
  have h1 : ¬ (4 + k < 4) := by omega
  have h2 : (4 + k) % 4 = k := by omega
  simp only [mixAt, h1, if_false, h2, at_]
  rw [show 2 * (4 + k) = 8 + 2 * k from by omega, show 8 + 2 * k + 1 = 9 + 2 * k from by omega]
def roundTo (m v : List UInt32) (r : Nat) : List UInt32 := (perms.take r).foldl (round m) v
theorem round_len {m v : List UInt32} {s : List Nat} (h : v.length = 16) : (round m v s).length = 16 := mixTo_len h
theorem roundTo_len {m v : List UInt32} {r : Nat} (h : v.length = 16) : (roundTo m v r).length = 16 := foldl_len (fun _ s h => round_len (s := s) h) _ _ h
theorem roundTo_step {m v0 v v' : List UInt32} {r : Nat} (hr : r < 10) (hv : v = roundTo m v0 r) (he : v' = mixTo m (permRow r) v 8) : v' = roundTo m v0 (r + 1) := by
  have hl : perms.length = 10 := rfl
  have hlt : r < perms.length := by rw [hl]; exact hr
  have hg : permRow r = perms[r] := by unfold permRow; rw [List.getD_eq_getElem?_getD, List.getElem?_eq_getElem hlt, Option.getD_some]
  rw [roundTo, List.take_succ_eq_append_getElem hlt, List.foldl_append, ← roundTo, ← hv, he, hg, List.foldl_cons, List.foldl_nil, round, mixTo]
def closeTo (v h : List UInt32) (k : Nat) : List UInt32 := (List.range k).foldl (close_ v) h
theorem closeTo_len {v h : List UInt32} {k : Nat} (hh : h.length = 8) : (closeTo v h k).length = 8 := foldl_len (fun _ i h => by simp [close_, h]) _ _ hh
theorem closeTo_step {v h0 h h' : List UInt32} {k : Nat} (hh : h = closeTo v h0 k) (he : h' = h.set k (h.getD k 0 ^^^ (v.getD k 0 ^^^ v.getD (8 + k) 0))) : h' = closeTo v h0 (k + 1) := by
  rw [he, hh, closeTo, closeTo, foldl_range, ← closeTo, close_, at_, at_, at_, UInt32.xor_assoc]
theorem absorb_len {h : List UInt32} {b : List UInt8} {n : UInt64} {last : Bool} (hh : h.length = 8) : (absorb h b n last).length = 8 := closeTo_len hh
theorem absorb_eq {h h' v : List UInt32} {b : List UInt8} {n : UInt64} {last : Bool} (hv : v = roundTo (words b) (begin_ h n last) 10) (hh : h' = closeTo v h 8) : h' = absorb h b n last := by rw [hh, hv]; rfl
theorem begin_true {h : List UInt32} {n : UInt64} : ((((h ++ iv).set 12 ((h ++ iv).getD 12 0 ^^^ n.toUInt32)).set 13 (((h ++ iv).set 12 ((h ++ iv).getD 12 0 ^^^ n.toUInt32)).getD 13 0 ^^^ (n >>> UInt64.ofNat 32).toUInt32)).set 14 (~~~ ((((h ++ iv).set 12 ((h ++ iv).getD 12 0 ^^^ n.toUInt32)).set 13 (((h ++ iv).set 12 ((h ++ iv).getD 12 0 ^^^ n.toUInt32)).getD 13 0 ^^^ (n >>> UInt64.ofNat 32).toUInt32)).getD 14 0))) = begin_ h n true := rfl
theorem begin_false {h : List UInt32} {n : UInt64} : (((h ++ iv).set 12 ((h ++ iv).getD 12 0 ^^^ n.toUInt32)).set 13 (((h ++ iv).set 12 ((h ++ iv).getD 12 0 ^^^ n.toUInt32)).getD 13 0 ^^^ (n >>> UInt64.ofNat 32).toUInt32)) = begin_ h n false := rfl
theorem iv_len : iv.length = 8 := rfl
theorem hiv_len {h : List UInt32} (hh : h.length = 8) : (h ++ iv).length = 16 := by simp [hh, iv]
theorem h8_len {h : List UInt32} (hh : h.length = 8) : (h ++ List.replicate 8 0).length = 16 := by simp [hh]
theorem copy1 {h : List UInt32} (hh : h.length = 8) : splice (u32Vals (List.replicate 16 0)) 0 ((u32Vals h).take (min 8 8)) = u32Vals (h ++ List.replicate 8 0) := by
  have hl : (u32Vals h).length = 8 := u32Vals_len hh
  rw [show min 8 8 = 8 from rfl, List.take_of_length_le (by omega)]
  simp [splice, hh, u32Vals]
theorem copy2 {h : List UInt32} (hh : h.length = 8) : splice (u32Vals (h ++ List.replicate 8 0)) 8 ((u32Vals iv).take (min 8 8)) = u32Vals (h ++ iv) := by
  have hl : (u32Vals h).length = 8 := u32Vals_len hh
  rw [show min 8 8 = 8 from rfl, List.take_of_length_le (by decide)]
  simp [splice, hh, u32Vals, iv, List.drop_append]

/-- The package variables are as_ they are written. -/
structure Glob (w : World) : Prop where
  a : Cel w 1 (some ⟨0, 0, none⟩) 8 (u32Vals iv)
  b : Cel w 1 (some ⟨1, 0, none⟩) 160 (byteVals permB)
theorem Glob.ext {w w' : World} (h : Glob w) (e : Ext w w') : Glob w' := ⟨h.a.ext e, h.b.ext e⟩
theorem Glob.at0 {w : World} (h : Glob w) (j : Nat) (v : Value) (hv : (u32Vals iv)[j]? = some v) : w.cell? ⟨0, 0 + j, none⟩ = some v := by
  obtain ⟨b, off, hA, _, hx⟩ := h.a.2.2 (by omega)
  cases hA
  exact hx j v hv
theorem Glob.at1 {w : World} (h : Glob w) (j : Nat) (v : Value) (hv : (byteVals permB)[j]? = some v) : w.cell? ⟨1, 0 + j, none⟩ = some v := by
  obtain ⟨b, off, hA, _, hx⟩ := h.b.2.2 (by omega)
  cases hA
  exact hx j v hv

end Go.Proofs.YtmjgjopbeokajaaDoor

namespace Go.Proofs.YtmjgjopbeokajaaDoor
open Go.RowKit Go.ChangeShapes Go.WideShapes

def laid3 : List (String × DataW Unit) := [("stopwatch/digest.start", Rows.laid_stopwatch_digest_start), ("stopwatch/digest.permutations", Rows.laid_stopwatch_digest_permutations)]
theorem cells_of {W : World} {g : Nat} {cs : List Value} (h : ∀ j, W.cell? ⟨g, j, none⟩ = cs[j]?) (hlt : 0 < cs.length) (h1 : ∀ u ∈ cs, u.oneCell' = true) : Cel W 1 (some ⟨g, 0, none⟩) cs.length cs := by
  refine ⟨by omega, h1, fun _ => ⟨g, 0, rfl, ?_, fun j u hu => by rw [Nat.zero_add, h j]; exact hu⟩⟩
  have h0 := h 0
  rw [List.getElem?_eq_getElem hlt] at h0
  exact World.block_lt_of_cell? W ⟨g, 0, none⟩ h0
theorem glob_of_laid {W : World} (h : laidMetH Tryd.prog laid3 W) : Glob W := by
  rw [MakeChecks.laidMetH_plain _ _ _ (by kernel_rfl)] at h
  obtain ⟨ps, ⟨g0, t0, cs0, f0, p0, q0, hg0, ht0, hv0, hd0, ⟨g1, t1, cs1, f1, p1, q1, hg1, ht1, hv1, hd1, _, _⟩, _⟩, _, _⟩ := h
  obtain rfl := Option.some.inj ((show Tryd.prog.globalNamed "stopwatch/digest.start" = some 0 by kernel_rfl).symm.trans hg0)
  obtain rfl := Option.some.inj ((show Tryd.prog.globalNamed "stopwatch/digest.permutations" = some 1 by kernel_rfl).symm.trans hg1)
  obtain rfl := Option.some.inj ((show (Tryd.prog.globals[0]?).map (·.type) = some 80 by kernel_rfl).symm.trans ht0)
  obtain rfl := Option.some.inj ((show (Tryd.prog.globals[1]?).map (·.type) = some 94 by kernel_rfl).symm.trans ht1)
  have e0 : cs0.toList = u32Vals iv := (trod_nums (k := .u32) (n := 8) (l := iv.map fun c => ((c.toNat : Nat) : Int)) Tryd.underlying80 Tryd.underlying79 (by kernel_rfl) (by kernel_rfl) hd0).trans rfl
  have e1 : cs1.toList = byteVals permB := (trod_rows (k := .u8) (n := 10) (m := 16) (l := perms.map fun r => r.map fun (c : Nat) => (c : Int)) Tryd.underlying94 Tryd.underlying93 Tryd.underlying5 (by kernel_rfl) (by kernel_rfl) (by kernel_rfl) hd1).trans (by kernel_rfl)
  constructor
  · have h0 := cells_of (W := W) (g := 0) (cs := cs0.toList) (fun j => by rw [World.var?_cell hg0 hv0 j]; simp) (by rw [e0]; decide) (by rw [e0]; exact u32Vals_one _)
    rw [e0] at h0
    exact h0
  · have h1 := cells_of (W := W) (g := 1) (cs := cs1.toList) (fun j => by rw [World.var?_cell hg1 hv1 j]; simp) (by rw [e1, byteVals_len permB_len]; decide) (by rw [e1]; exact byteVals_one _)
    rw [e1, byteVals_len permB_len] at h1
    exact h1
/-- The door's own heap meets the condition. -/
theorem door_met (os : Os) (args : Array Value) : laidMetH Tryd.prog laid3 ((World.doorLaid Tryd.prog 400 os).forCall (fun _ _ => 0) ⟨#[], args, []⟩).memory :=
  laidMetH_of_parts (laidMet_of_run' 8 (by kernel_rfl) (by kernel_rfl)) (by kernel_rfl)
theorem own3 : ownKnob Tryd.prog.godebug = none := by kernel_rfl

end Go.Proofs.YtmjgjopbeokajaaDoor
