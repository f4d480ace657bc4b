/- Several texts in one: Wk7, Wk8, Seq2, Sq, Wk15, Wk10, Seq3, Wk11, Tab, Wk12, Wk13, Wk14, Wk16, Grow, Rng, Rbv, JrA, JrB. -/
import Derived.Test.YtfmhnplkpohogaaBvgA
import Derived.Laws.CopyRow
import Derived.OrdersHeld
import Derived.Laws.MakeOwn
import Derived.Scope
import Derived.Lib.MinMax
import Derived.RangeFuncNested
import Derived.TacticsIn
set_option linter.unusedVariables false
set_option linter.unusedSimpArgs false
namespace Go.Proofs.Ytfmhnplkpohogaa
open Go.RowKit

variable {S S' : Nat → Prop}
def intVals (l : List Int) : List Value := l.map fun c => .int .i64 c
theorem byteVals_take1 (a : List UInt8) (n : Nat) : (byteVals a).take (n * 1) = byteVals (a.take n) := by simp [byteVals, List.map_take]
theorem byteVals_drop1 (a : List UInt8) (n : Nat) : (byteVals a).drop (n * 1) = byteVals (a.drop n) := by simp [byteVals, List.map_drop]
theorem intVals_one (l : List Int) : ∀ u ∈ intVals l, u.oneCell' = true := by
  intro u hu
  simp only [intVals, List.mem_map] at hu
  obtain ⟨c, _, rfl⟩ := hu; rfl
theorem intVals_at {l : List Int} {i : Nat} (h : i < l.length) : (intVals l)[i]? = some (.int .i64 (l.getD i 0)) := by
  simp [intVals, List.getD_eq_getElem?_getD, List.getElem?_eq_getElem h]
theorem intVals_app (a b : List Int) : intVals a ++ intVals b = intVals (a ++ b) := by simp [intVals]
theorem Pres.row {a w w' : World} {base : Nat} {e : TypeId} {k n : Nat} {v : Value} {xs : List Value} (h : Pres S a w) (hg : w.grownBy w' v.ownBlock) (ho : w.ownsRow base e k v n xs) (hn : ∀ b, base ≤ b → ¬ S b) : Pres S a w' :=
  h.trans ⟨hg.size, fun b hb hl => hg.block b hl (fun e => hn b (ho.lt b e.symm).1 hb)⟩
/-- two rows of the call's own lie apart -/
def Apart (v u : Value) : Prop := ∀ g, v.ownBlock = some g → u.ownBlock ≠ some g
theorem Apart.nil (v : Value) (n c : Nat) : Apart v (.slice none n c) := fun _ _ h => by cases h
theorem Apart.symm {v u : Value} (h : Apart v u) : Apart u v := fun g h1 h2 => h g h2 h1
theorem own_grownR {w w' : World} {base : Nat} {e : TypeId} {k n : Nat} {v u : Value} {xs : List Value} (h : w.ownsRow base e k v n xs) (hg : w.grownBy w' u.ownBlock) (ha : Apart v u) : w'.ownsRow base e k v n xs :=
  h.kept hg (by
    cases hv : v.ownBlock with
    | none => exact .inl rfl
    | some g => exact .inr fun e => ha g hv e.symm)
theorem own_grownT {w w' : World} {base : Nat} {e t : TypeId} {k n b : Nat} {v : Value} {xs cs : List Value} (h : w.ownsRow base e k v n xs) (hb : Blk w b t cs) (hg : w.grownBy w' (some b)) (hte : t ≠ e) : w'.ownsRow base e k v n xs :=
  h.kept hg (by
    cases hv : v.ownBlock with
    | none => exact .inl rfl
    | some g =>
      obtain ⟨cur, hc⟩ := own_heap h hv
      exact .inr fun e1 => hb.ne_tag hc hte (Option.some.inj e1).symm)
section
variable {P : Program} {ρ : Operand → Value} {W : World} {d : Option Tmp} {t : TypeId} {p : String} {af : Array Edge} {g : Option (Nat × Bool)}
theorem rn_sliceLH {s e : TypeId} {x y z : Operand} {b off n c sz l h m : Nat} {k k2 : IntKind} (hu : P.underlying s = some (.slice e)) (hi : (P.info? e).map (·.size) = some sz) (hx : ρ x = .slice (some ⟨b, off, none⟩) n c) (hy : ρ y = .int k (l : Int)) (hz : ρ z = .int k2 (h : Int)) (h1 : l ≤ h) (h2 : h ≤ c) (h3 : l < c) (h4 : h - l = m) :
    (execOp ρ ⟨d, .slice s x (some y) (some z) none, t, p, af, g⟩).run P W = .ok (.value (.slice (some ⟨b, off + l * sz, none⟩) m (c - l))) W := by
  subst h4
  have hb : ∀ y c', l ≤ y → (Instr.sliceBound (.int k (l : Int)) y c').run P W = .ok l W := fun y c' hy => by rw [bound_ok (by omega) (by omega)]; simp
  have hb2 : ∀ y c', h ≤ y → (Instr.sliceBound (.int k2 (h : Int)) y c').run P W = .ok h W := fun y c' hy => by rw [bound_ok (by omega) (by omega)]; simp
  have hne : ¬ c = l := by omega
  simp [execOp, Instr.sliceAt, Instr.slice, Instr.sliceBounds, run_underlying hu, hx, hy, hz, hb h _ h1, hb2 c _ h2, size_of hi, hne, addr_add]
theorem rn_subN {x y : Operand} {xt yt : TypeId} {a b : Nat} (hx : ρ x = .int .i64 (a : Nat)) (hy : ρ y = .int .i64 (b : Nat)) (h : b ≤ a) (hb : a ≤ 9223372036854775807) : (execOp ρ ⟨d, .binOp .sub xt x y yt, t, p, af, g⟩).run P W = .ok (.value (.int .i64 ((a - b : Nat) : Int))) W :=
  rn_sub hx hy (by omega) (by omega)
end
theorem ret_then {K : Act → World → Prop} {Q : Exit → Act → World → Prop} {a : Act} {w : World} (h : Q .ret a w) : Exit.then K Q .ret a w := h
theorem ret_block {id : Nat} {Q : Exit → Act → World → Prop} {a : Act} {w : World} (h : Q .ret a w) : Exit.inBlock id Q .ret a w := h
theorem own_blk0 {w : World} {g : Nat} {t : TypeId} {k : Nat} (h : Blk w g t []) : w.ownsRow g t k (.slice (some ⟨g, 0, none⟩) 0 0) 0 [] :=
  ⟨by simp, .inr ⟨g, 0, #[], rfl, Nat.le_refl _, h, Nat.le_refl _, by unfold maxLen; omega, by simp, by simp⟩⟩
theorem Fl.mid_eq {w : World} {k n m c b off : Nat} {A : Option Addr} {xs ys : List Value} (h : Fl S w k (.slice A m c) n xs) (hA : A = some ⟨b, off, none⟩) {j m' : Nat} (hj : j ≤ n) (hm : m' ≤ n - j) (e : (xs.drop (j * k)).take (m' * k) = ys) : Fl S w k (.slice (some ⟨b, off + j * k, none⟩) m' (c - j)) m' ys := by
  subst hA
  exact e ▸ (h.drop hj).take hm
theorem Fl.blen {w : World} {v : Value} {n : Nat} {l : List UInt8} (h : Fl S w 1 v n (byteVals l)) : l.length = n := by
  have := h.len; simp [byteVals] at this; omega
theorem nth_of_lt {α : Type} (l : List α) (k : Nat) (h : k < l.length) : ∃ x, l[k]? = some x ∧ x ∈ l := ⟨l[k], List.getElem?_eq_getElem h, List.getElem_mem h⟩
end Go.Proofs.Ytfmhnplkpohogaa

namespace Go.Proofs.Ytfmhnplkpohogaa
open Go.RowKit

variable {S S' : Nat → Prop}
theorem splice_len {α : Type} {L : List α} {off : Nat} {cs : List α} (h : off + cs.length ≤ L.length) : (splice L off cs).length = L.length := by
  unfold splice
  simp only [List.length_append, List.length_take, List.length_drop]
  omega
section
variable {N : Nat} {m : List (Nat × Value)} {a : Act} {P : Program} {ops : Array Oper} {Q : Exit → Act → World → Prop} {i : Nat} {w : World} {o : Oper} {K : Act → World → Prop}
/-- one cell is stored in a row of the call's own -/
theorem o_storeRow1 {ty : TypeId} {x y : Operand} (hF : Sl N m a) (ho : ops[i]? = some o) (hw : Region.wanted o (yielded ops a.tmps) = true) (hd : o.dst = none) (hop : o.op = .store ty x y) {g off : Nat} {base n cap j : Nat} {e : TypeId} {xs zs : List Value} {u : Value}
    (hx : a.eval x = .pointer (some ⟨g, off, none⟩)) (hy : a.eval y = u) (hown : w.ownsRow base e 1 (.slice (some ⟨g, 0, none⟩) n cap) n xs) (hi : (P.info? ty).map (·.size) = some 1) (ho2 : off = j) (hj : j < n) (h1 : u.oneCell' = true) (hz : xs.set j u = zs)
    (h : ∀ w', w'.ownsRow base e 1 (.slice (some ⟨g, 0, none⟩) n cap) n zs → w.grownBy w' (some g) → K a w') : wpOp P ops Q i K a w := by
  subst ho2
  subst hz
  exact o_storeRow hF ho hw hd hop hx hy hown hi hj h1 h
end
theorem All32.set {l : List (List UInt8)} (h : All32 l) {i : Nat} {x : List UInt8} (hx : x.length = 32) : All32 (l.set i x) := fun y hy => by
  rcases List.mem_or_eq_of_mem_set hy with h1 | h1
  · exact h y h1
  · rw [h1]; exact hx

/-! turning a list around in place -/
def RevInv (l lk : List (List UInt8)) (i : Nat) : Prop := lk.length = l.length ∧ ∀ k, k < l.length → lk.getD k [] = if k < i ∨ l.length - i ≤ k then l.getD (l.length - 1 - k) [] else l.getD k []
theorem RevInv.start (l : List (List UInt8)) : RevInv l l 0 := ⟨rfl, fun k hk => by rw [if_neg (by omega)]⟩
theorem getD_set {l : List (List UInt8)} {i k : Nat} {x : List UInt8} (hi : i < l.length) : (l.set i x).getD k [] = if i = k then x else l.getD k [] := by
  rw [List.getD_eq_getElem?_getD, List.getD_eq_getElem?_getD, List.getElem?_set]
  by_cases h : i = k
  · subst h; simp [hi]
  · simp [h]
theorem RevInv.step {l lk : List (List UInt8)} {i j : Nat} (h : RevInv l lk i) (hij : i < j) (hj : i + j + 1 = l.length) : RevInv l ((lk.set i (lk.getD j [])).set j (lk.getD i [])) (i + 1) := by
  obtain ⟨h1, h2⟩ := h
  refine ⟨by simp [h1], fun k hk => ?_⟩
  rw [getD_set (by rw [List.length_set]; omega), getD_set (by omega)]
  have ha := h2 i (by omega)
  have hb := h2 j (by omega)
  have hc := h2 k hk
  rw [if_neg (by omega)] at ha
  rw [if_neg (by omega)] at hb
  by_cases e1 : j = k
  · subst e1
    rw [if_pos rfl, if_pos (by omega), ha]
    congr 1; omega
  · rw [if_neg e1]
    by_cases e2 : i = k
    · subst e2
      rw [if_pos rfl, if_pos (by omega), hb]
      congr 1; omega
    · rw [if_neg e2, hc]
      by_cases e3 : k < i ∨ l.length - i ≤ k
      · rw [if_pos e3, if_pos (by omega)]
      · rw [if_neg e3, if_neg (by omega)]
theorem RevInv.done {l lk : List (List UInt8)} {i : Nat} (h : RevInv l lk i) (hi : l.length ≤ 2 * i + 1) : lk = l.reverse := by
  obtain ⟨h1, h2⟩ := h
  apply List.ext_getElem (by simp [h1])
  intro k hk1 hk2
  have hk : k < l.length := by omega
  have h3 := h2 k hk
  rw [List.getElem_reverse]
  rw [List.getD_eq_getElem?_getD, List.getElem?_eq_getElem hk1, Option.getD_some] at h3
  rw [h3]
  split
  · rw [List.getD_eq_getElem?_getD, List.getElem?_eq_getElem (by omega), Option.getD_some]
  · rw [List.getD_eq_getElem?_getD, List.getElem?_eq_getElem hk, Option.getD_some]
    congr 1; omega
end Go.Proofs.Ytfmhnplkpohogaa

namespace Go.Proofs.Ytfmhnplkpohogaa
open Go.RowKit

section
variable {P : Program} {ops : Array Oper} {Q : Exit → Act → World → Prop} {S S2 : World → Prop} {F : Nat → Bool} {light : Nat → Bool}

/-- Whatever order is picked; S holds behind every operation that is not of F. -/
def wpAnyG (P : Program) (ops : Array Oper) (Q : Exit → Act → World → Prop) (S : World → Prop) (F : Nat → Bool) (S2 : World → Prop) : Nat → Array Bool → Act → World → Prop
  | 0, listed, a, w => Region.ready .any ops listed = [] ∧ Q .normal a w
  | fuel + 1, listed, a, w =>
    (Region.ready .any ops listed = [] → Q .normal a w) ∧
    ∀ i ∈ Region.ready .any ops listed, wpOp P ops Q i (fun a' w' => ((F i = false → S w → S w') ∧ (S2 w → S2 w')) ∧ wpAnyG P ops Q S F S2 fuel (listed.setIfInBounds i true) a' w') a w

theorem wpAny_of_G : ∀ (fuel : Nat) (listed : Array Bool) (a : Act) (w : World), wpAnyG P ops Q S F S2 fuel listed a w → wpAny P .any ops Q fuel listed a w
  | 0, _, _, _, h => h
  | fuel + 1, _, _, _, h => ⟨h.1, fun i hi => wpOp_mono (fun a' w' h' => wpAny_of_G fuel _ a' w' h'.2) (h.2 i hi)⟩

theorem wpAnyG_first {i : Nat} {oi : Oper} {v : Value} (hi : ops[i]? = some oi) (hsel : ∀ (j : Nat) (o : Oper) cs b, ops[j]? = some o → o.op ≠ .select cs b)
    (hQ : ∀ c a w, Q (.panic c) (a.put oi.dst v) w → Q (.panic c) a w) (hFi : F i = false) :
    ∀ (fuel : Nat) (listed : Array Bool) (a : Act) (w : World),
      (∀ j oj, ops[j]? = some oj → j ≠ i → listed.getD j true = false → (∀ e ∈ oj.after, Region.binds .any e = true → e.on ≠ i) → oi.apart ops oj = true) →
      (∀ j oj, ops[j]? = some oj → F j = true → ∃ e ∈ oj.after, Region.binds .any e = true ∧ e.on = i) →
      i ∈ Region.ready .any ops listed → YieldsIf P ops S oi v a → S w →
      wpAnyG P ops Q S F S2 fuel (listed.setIfInBounds i true) (a.put oi.dst v) w → wpAnyG P ops Q S F S2 (fuel + 1) listed a w := by
  intro fuel
  induction fuel with
  | zero =>
    intro listed a w _ _ hr hy hS H
    refine ⟨fun h => (by rw [h] at hr; cases hr), fun j hj => ?_⟩
    by_cases hji : j = i
    · subst hji; exact hy.wpOp hi hS ⟨⟨fun _ h => h, fun h => h⟩, H⟩
    · have := ready_mono hj hji
      rw [H.1] at this
      cases this
  | succ fuel ih =>
    intro listed a w hfree hwait hr hy hS H
    refine ⟨fun h => (by rw [h] at hr; cases hr), fun j hj => ?_⟩
    by_cases hji : j = i
    · subst hji; exact hy.wpOp hi hS ⟨⟨fun _ h => h, fun h => h⟩, H⟩
    · have h1 := H.2 j (ready_mono hj hji)
      obtain ⟨hjun, oj, hoj, hall⟩ := mem_ready.1 hj
      have hnot : ∀ e ∈ oj.after, Region.binds .any e = true → e.on ≠ i := fun e he hb heq => by
        have h1 := hall e he hb
        have h0 := (mem_ready.1 hr).1
        rw [heq] at h1
        rcases Nat.lt_or_ge i listed.size with h' | h'
        · simp [h'] at h0 h1; rw [h0] at h1; cases h1
        · simp [Array.getElem?_eq_none h'] at h1
      have hFj : F j = false := by
        cases hF : F j with
        | false => rfl
        | true =>
          obtain ⟨e, he, hb, heq⟩ := hwait j oj hoj hF
          exact absurd heq (hnot e he hb)
      have h2 := wpOp_putIf hoj (hfree j oj hoj hji hjun hnot) (fun cs b => hsel i oi cs b hi) (fun cs b => hsel j oj cs b hoj) hQ hy h1
      have hfree' : ∀ k ok, ops[k]? = some ok → k ≠ i → (listed.setIfInBounds j true).getD k true = false →
          (∀ e ∈ ok.after, Region.binds .any e = true → e.on ≠ i) → oi.apart ops ok = true := fun k ok hk hki hun hno => by
        refine hfree k ok hk hki ?_ hno
        by_cases hjk : j = k
        · subst hjk; exact hjun
        · rw [getD_set_ne true hjk] at hun; exact hun
      refine wpOp_mono (fun a' w' h3 => ⟨h3.2.1, ih (listed.setIfInBounds j true) a' w' hfree' hwait (ready_mono hr (Ne.symm hji)) h3.1 (h3.2.1.1 hFj hS) ?_⟩) h2
      rw [Array.setIfInBounds_comm _ _ hji]
      exact h3.2.2

theorem wpAnyG_first2 {i : Nat} {oi : Oper} {v : Value} (hi : ops[i]? = some oi) (hsel : ∀ (j : Nat) (o : Oper) cs b, ops[j]? = some o → o.op ≠ .select cs b)
    (hQ : ∀ c a w, Q (.panic c) (a.put oi.dst v) w → Q (.panic c) a w) :
    ∀ (fuel : Nat) (listed : Array Bool) (a : Act) (w : World),
      (∀ j oj, ops[j]? = some oj → j ≠ i → listed.getD j true = false → (∀ e ∈ oj.after, Region.binds .any e = true → e.on ≠ i) → oi.apart ops oj = true) →
      i ∈ Region.ready .any ops listed → YieldsIf P ops S2 oi v a → S2 w →
      wpAnyG P ops Q S F S2 fuel (listed.setIfInBounds i true) (a.put oi.dst v) w → wpAnyG P ops Q S F S2 (fuel + 1) listed a w := by
  intro fuel
  induction fuel with
  | zero =>
    intro listed a w _ hr hy hS H
    refine ⟨fun h => (by rw [h] at hr; cases hr), fun j hj => ?_⟩
    by_cases hji : j = i
    · subst hji; exact hy.wpOp hi hS ⟨⟨fun _ h => h, fun h => h⟩, H⟩
    · have := ready_mono hj hji
      rw [H.1] at this
      cases this
  | succ fuel ih =>
    intro listed a w hfree hr hy hS H
    refine ⟨fun h => (by rw [h] at hr; cases hr), fun j hj => ?_⟩
    by_cases hji : j = i
    · subst hji; exact hy.wpOp hi hS ⟨⟨fun _ h => h, fun h => h⟩, H⟩
    · have h1 := H.2 j (ready_mono hj hji)
      obtain ⟨hjun, oj, hoj, hall⟩ := mem_ready.1 hj
      have hnot : ∀ e ∈ oj.after, Region.binds .any e = true → e.on ≠ i := fun e he hb heq => by
        have h1 := hall e he hb
        have h0 := (mem_ready.1 hr).1
        rw [heq] at h1
        rcases Nat.lt_or_ge i listed.size with h' | h'
        · simp [h'] at h0 h1; rw [h0] at h1; cases h1
        · simp [Array.getElem?_eq_none h'] at h1
      have h2 := wpOp_putIf hoj (hfree j oj hoj hji hjun hnot) (fun cs b => hsel i oi cs b hi) (fun cs b => hsel j oj cs b hoj) hQ hy h1
      have hfree' : ∀ k ok, ops[k]? = some ok → k ≠ i → (listed.setIfInBounds j true).getD k true = false →
          (∀ e ∈ ok.after, Region.binds .any e = true → e.on ≠ i) → oi.apart ops ok = true := fun k ok hk hki hun hno => by
        refine hfree k ok hk hki ?_ hno
        by_cases hjk : j = k
        · subst hjk; exact hjun
        · rw [getD_set_ne true hjk] at hun; exact hun
      refine wpOp_mono (fun a' w' h3 => ⟨h3.2.1, ih (listed.setIfInBounds j true) a' w' hfree' (ready_mono hr (Ne.symm hji)) h3.1 (h3.2.1.2 hS) ?_⟩) h2
      rw [Array.setIfInBounds_comm _ _ hji]
      exact h3.2.2

/-- The same for an operation that looks at no memory: nothing need wait for it. -/
theorem wpAnyG_firstP {i : Nat} {oi : Oper} {v : Value} (hi : ops[i]? = some oi) (hsel : ∀ (j : Nat) (o : Oper) cs b, ops[j]? = some o → o.op ≠ .select cs b)
    (hQ : ∀ c a w, Q (.panic c) (a.put oi.dst v) w → Q (.panic c) a w) :
    ∀ (fuel : Nat) (listed : Array Bool) (a : Act) (w : World),
      (∀ j oj, ops[j]? = some oj → j ≠ i → listed.getD j true = false → (∀ e ∈ oj.after, Region.binds .any e = true → e.on ≠ i) → oi.apart ops oj = true) →
      i ∈ Region.ready .any ops listed → Yields P ops oi v a →
      wpAnyG P ops Q S F S2 fuel (listed.setIfInBounds i true) (a.put oi.dst v) w → wpAnyG P ops Q S F S2 (fuel + 1) listed a w := by
  intro fuel
  induction fuel with
  | zero =>
    intro listed a w _ hr hy H
    refine ⟨fun h => (by rw [h] at hr; cases hr), fun j hj => ?_⟩
    by_cases hji : j = i
    · subst hji; exact hy.wpOp hi ⟨⟨fun _ h => h, fun h => h⟩, H⟩
    · have := ready_mono hj hji
      rw [H.1] at this
      cases this
  | succ fuel ih =>
    intro listed a w hfree hr hy H
    refine ⟨fun h => (by rw [h] at hr; cases hr), fun j hj => ?_⟩
    by_cases hji : j = i
    · subst hji; exact hy.wpOp hi ⟨⟨fun _ h => h, fun h => h⟩, H⟩
    · have h1 := H.2 j (ready_mono hj hji)
      obtain ⟨hjun, oj, hoj, hall⟩ := mem_ready.1 hj
      have hnot : ∀ e ∈ oj.after, Region.binds .any e = true → e.on ≠ i := fun e he hb heq => by
        have h1 := hall e he hb
        have h0 := (mem_ready.1 hr).1
        rw [heq] at h1
        rcases Nat.lt_or_ge i listed.size with h' | h'
        · simp [h'] at h0 h1; rw [h0] at h1; cases h1
        · simp [Array.getElem?_eq_none h'] at h1
      have h2 := wpOp_put hoj (hfree j oj hoj hji hjun hnot) (fun cs b => hsel i oi cs b hi) (fun cs b => hsel j oj cs b hoj) hQ hy h1
      have hfree' : ∀ k ok, ops[k]? = some ok → k ≠ i → (listed.setIfInBounds j true).getD k true = false →
          (∀ e ∈ ok.after, Region.binds .any e = true → e.on ≠ i) → oi.apart ops ok = true := fun k ok hk hki hun hno => by
        refine hfree k ok hk hki ?_ hno
        by_cases hjk : j = k
        · subst hjk; exact hjun
        · rw [getD_set_ne true hjk] at hun; exact hun
      refine wpOp_mono (fun a' w' h3 => ⟨h3.2.1, ih (listed.setIfInBounds j true) a' w' hfree' (ready_mono hr (Ne.symm hji)) h3.1 ?_⟩) h2
      rw [Array.setIfInBounds_comm _ _ hji]
      exact h3.2.2

theorem anyg_start {id : Nat} {a : Act} {w : World} (S : World → Prop) (F : Nat → Bool) (S2 : World → Prop) (n : Nat) (L : Array Bool) (hm : P.follows .mixedOrders = true) (hn : n = ops.size) (hL : L = Array.replicate ops.size false)
    (h : wpAnyG P ops Q S F S2 n L a w.drew) : (Code.region id ops true).wp P Q a w :=
  wp_region_any hm (wpAny_of_G _ _ _ _ (hL ▸ hn ▸ h))

theorem anyg_nil {a : Act} {w : World} {L : Array Bool} (hr : Region.ready .any ops L = []) (h : Q .normal a w) : wpAnyG P ops Q S F S2 0 L a w := ⟨hr, h⟩

theorem anyg_light {i n : Nat} {L L' : Array Bool} {a : Act} {w : World} {o : Oper} {v : Value} (hs : Region.noSelect ops = true) (hb : lightB ops F L i = true) (hL : L.setIfInBounds i true = L') (ho : ops[i]? = some o) (hQ : ∀ c a w, Q (.panic c) (a.put o.dst v) w → Q (.panic c) a w) (hw : Region.wanted o (yielded ops a.tmps) = true) (hS : S w)
    (hr : ∀ W, S W → (execOp a.eval o).run P W = .ok (.value v) W) (h : wpAnyG P ops Q S F S2 n L' (a.put o.dst v) w) : wpAnyG P ops Q S F S2 (n + 1) L a w := by
  subst hL
  simp only [lightB, Bool.and_eq_true, Bool.not_eq_true'] at hb
  obtain ⟨⟨⟨h2, h3⟩, h4⟩, h5⟩ := hb
  exact wpAnyG_first ho (Region.noSelect_spec hs) hQ h2 n L a w (Region.free_spec ho h3) (fun j oj hj hF => waitsB_spec h5 j oj hj hF) (by simpa using h4) (.inl ⟨hw, hr⟩) hS h
theorem anyg_pureY {i n : Nat} {L L' : Array Bool} {a : Act} {w : World} {o : Oper} {v : Value} (hs : Region.noSelect ops = true) (hb : freeB ops L i = true) (hL : L.setIfInBounds i true = L') (ho : ops[i]? = some o) (hQ : ∀ c a w, Q (.panic c) (a.put o.dst v) w → Q (.panic c) a w)
    (hy : Yields P ops o v a) (h : wpAnyG P ops Q S F S2 n L' (a.put o.dst v) w) : wpAnyG P ops Q S F S2 (n + 1) L a w := by
  subst hL
  simp only [freeB, Bool.and_eq_true] at hb
  exact wpAnyG_firstP ho (Region.noSelect_spec hs) hQ n L a w (Region.free_spec ho hb.1) (by simpa using hb.2) hy h

theorem anyg_one {i n : Nat} {L L' : Array Bool} {a : Act} {w : World} (hr : Region.ready .any ops L = [i]) (hL : L.setIfInBounds i true = L')
    (h : wpOp P ops Q i (fun a' w' => ((F i = false → S w → S w') ∧ (S2 w → S2 w')) ∧ wpAnyG P ops Q S F S2 n L' a' w') a w) : wpAnyG P ops Q S F S2 (n + 1) L a w := by
  subst hL
  refine ⟨fun h0 => (by rw [hr] at h0; cases h0), fun j hj => ?_⟩
  rw [hr] at hj
  simp only [List.mem_singleton] at hj
  subst hj
  exact h
def light2B (ops : Array Oper) (listed : Array Bool) (i : Nat) : Bool := Region.free .any ops listed i && (Region.ready .any ops listed).contains i
theorem anyg_light2 {i n : Nat} {L L' : Array Bool} {a : Act} {w : World} {o : Oper} {v : Value} (hs : Region.noSelect ops = true) (hb : light2B ops L i = true) (hL : L.setIfInBounds i true = L') (ho : ops[i]? = some o) (hQ : ∀ c a w, Q (.panic c) (a.put o.dst v) w → Q (.panic c) a w) (hw : Region.wanted o (yielded ops a.tmps) = true) (hS : S2 w)
    (hr : ∀ W, S2 W → (execOp a.eval o).run P W = .ok (.value v) W) (h : wpAnyG P ops Q S F S2 n L' (a.put o.dst v) w) : wpAnyG P ops Q S F S2 (n + 1) L a w := by
  subst hL
  simp only [light2B, Bool.and_eq_true] at hb
  exact wpAnyG_first2 ho (Region.noSelect_spec hs) hQ n L a w (Region.free_spec ho hb.1) (by simpa using hb.2) (.inl ⟨hw, hr⟩) hS h
variable {N d : Nat} {m : List (Nat × Value)} {a : Act} {w : World} {o : Oper} {v : Value} {i : Nat}
theorem anyg_val {n : Nat} {L L' : Array Bool} (hF : Sl N m a) (hs : Region.noSelect ops = true) (hb : lightB ops F L i = true) (hL : L.setIfInBounds i true = L') (ho : ops[i]? = some o) (hd : o.dst = some d) (hN : Nat.blt d N = true)
    (hQ : ∀ c a w v, Q (.panic c) (a.put (some d) v) w → Q (.panic c) a w) (hw : Region.wanted o (yielded ops a.tmps) = true) (hS : S w)
    (hr : ∀ W, S W → (execOp a.eval o).run P W = .ok (.value v) W) (h : ∀ a', Sl N ((d, v) :: m) a' → wpAnyG P ops Q S F S2 n L' a' w) : wpAnyG P ops Q S F S2 (n + 1) L a w :=
  anyg_light hs hb hL ho (by rw [hd]; exact fun c a w => hQ c a w _) hw hS hr (h _ (by rw [hd]; exact hF.put hN))
theorem anyg_val2 {n : Nat} {L L' : Array Bool} (hF : Sl N m a) (hs : Region.noSelect ops = true) (hb : light2B ops L i = true) (hL : L.setIfInBounds i true = L') (ho : ops[i]? = some o) (hd : o.dst = some d) (hN : Nat.blt d N = true)
    (hQ : ∀ c a w v, Q (.panic c) (a.put (some d) v) w → Q (.panic c) a w) (hw : Region.wanted o (yielded ops a.tmps) = true) (hS : S2 w)
    (hr : ∀ W, S2 W → (execOp a.eval o).run P W = .ok (.value v) W) (h : ∀ a', Sl N ((d, v) :: m) a' → wpAnyG P ops Q S F S2 n L' a' w) : wpAnyG P ops Q S F S2 (n + 1) L a w :=
  anyg_light2 hs hb hL ho (by rw [hd]; exact fun c a w => hQ c a w _) hw hS hr (h _ (by rw [hd]; exact hF.put hN))
theorem anyg_pure {n : Nat} {L L' : Array Bool} (hF : Sl N m a) (hs : Region.noSelect ops = true) (hb : freeB ops L i = true) (hL : L.setIfInBounds i true = L') (ho : ops[i]? = some o) (hd : o.dst = some d) (hN : Nat.blt d N = true)
    (hQ : ∀ c a w v, Q (.panic c) (a.put (some d) v) w → Q (.panic c) a w) (hw : Region.wanted o (yielded ops a.tmps) = true)
    (hr : ∀ W, (execOp a.eval o).run P W = .ok (.value v) W) (h : ∀ a', Sl N ((d, v) :: m) a' → wpAnyG P ops Q S F S2 n L' a' w) : wpAnyG P ops Q S F S2 (n + 1) L a w :=
  anyg_pureY hs hb hL ho (by rw [hd]; exact fun c a w => hQ c a w _) (.inl ⟨hw, hr⟩) (h _ (by rw [hd]; exact hF.put hN))
theorem anyg_pass {n : Nat} {L L' : Array Bool} (hF : Sl N m a) (hs : Region.noSelect ops = true) (hb : freeB ops L i = true) (hL : L.setIfInBounds i true = L') (ho : ops[i]? = some o) (hd : o.dst = some d) (hN : Nat.blt d N = true)
    (hQ : ∀ c a w v, Q (.panic c) (a.put (some d) v) w → Q (.panic c) a w) (hw : Region.wanted o (yielded ops a.tmps) = false)
    (h : ∀ a', Sl N ((d, undef) :: m) a' → wpAnyG P ops Q S F S2 n L' a' w) : wpAnyG P ops Q S F S2 (n + 1) L a w :=
  anyg_pureY hs hb hL ho (by rw [hd]; exact fun c a w => hQ c a w _) (.inr ⟨hw, rfl⟩) (h _ (by rw [hd]; exact hF.put hN))
end

end Go.Proofs.Ytfmhnplkpohogaa

namespace Go.Proofs.Ytfmhnplkpohogaa
open Go.RowKit

section
variable {P : Program} {ops : Array Oper} {Q : Exit → Act → World → Prop} {S S2 : World → Prop} {F : Nat → Bool} {w : World} {o : Oper} {d N n : Nat} {m : List (Nat × Value)} {a : Act} {L L' : Array Bool}
theorem qv {rest : List Oper} (i : Nat) (v : Value) (hF : Sl N m a) (hw : Region.wanted o (yielded ops a.tmps) = true) (hr : (execOp a.eval o).run P w = .ok (.value v) w) (h : ∀ a', Sl N ((d, v) :: m) a' → wpList P ops Q rest a' w)
    (ho : ops[i]? = some o := by rfl) (hd : o.dst = some d := by rfl) (hN : Nat.blt d N = true := by rfl) : wpList P ops Q (o :: rest) a w := wpl_op ho (o_val hF ho hw hd hN hr h)
theorem qp (i : Nat) (v : Value) (hF : Sl N m a) (ho : ops[i]? = some o) (hw : Region.wanted o (yielded ops a.tmps) = true) (hr : ∀ W, (execOp a.eval o).run P W = .ok (.value v) W) (h : ∀ a', Sl N ((d, v) :: m) a' → wpAnyF P ops Q S F n L' a' w)
    (hd : o.dst = some d := by rfl) (hL : L.setIfInBounds i true = L' := by rfl) (hs : Region.noSelect ops = true := by decide +kernel) (hb : freeB ops L i = true := by decide +kernel) (hN : Nat.blt d N = true := by rfl)
    (hQ : ∀ c a w v, Q (.panic c) (a.put (some d) v) w → Q (.panic c) a w := by exact fun _ _ _ _ h => h) : wpAnyF P ops Q S F (n + 1) L a w := any_pure hF hs hb hL ho hd hN hQ hw hr h
theorem qs (i : Nat) (v : Value) (hF : Sl N m a) (ho : ops[i]? = some o) (hw : Region.wanted o (yielded ops a.tmps) = true) (hS : S w) (hr : ∀ W, S W → (execOp a.eval o).run P W = .ok (.value v) W) (h : ∀ a', Sl N ((d, v) :: m) a' → wpAnyF P ops Q S F n L' a' w)
    (hd : o.dst = some d := by rfl) (hL : L.setIfInBounds i true = L' := by rfl) (hs : Region.noSelect ops = true := by decide +kernel) (hb : lightB ops F L i = true := by decide +kernel) (hN : Nat.blt d N = true := by rfl)
    (hQ : ∀ c a w v, Q (.panic c) (a.put (some d) v) w → Q (.panic c) a w := by exact fun _ _ _ _ h => h) : wpAnyF P ops Q S F (n + 1) L a w := any_val hF hs hb hL ho hd hN hQ hw hS hr h
theorem gp (i : Nat) (v : Value) (hF : Sl N m a) (ho : ops[i]? = some o) (hw : Region.wanted o (yielded ops a.tmps) = true) (hr : ∀ W, (execOp a.eval o).run P W = .ok (.value v) W) (h : ∀ a', Sl N ((d, v) :: m) a' → wpAnyG P ops Q S F S2 n L' a' w)
    (hd : o.dst = some d := by rfl) (hL : L.setIfInBounds i true = L' := by rfl) (hs : Region.noSelect ops = true := by decide +kernel) (hb : freeB ops L i = true := by decide +kernel) (hN : Nat.blt d N = true := by rfl)
    (hQ : ∀ c a w v, Q (.panic c) (a.put (some d) v) w → Q (.panic c) a w := by exact fun _ _ _ _ h => h) : wpAnyG P ops Q S F S2 (n + 1) L a w := anyg_pure hF hs hb hL ho hd hN hQ hw hr h
theorem gs (i : Nat) (v : Value) (hF : Sl N m a) (ho : ops[i]? = some o) (hw : Region.wanted o (yielded ops a.tmps) = true) (hS : S w) (hr : ∀ W, S W → (execOp a.eval o).run P W = .ok (.value v) W) (h : ∀ a', Sl N ((d, v) :: m) a' → wpAnyG P ops Q S F S2 n L' a' w)
    (hd : o.dst = some d := by rfl) (hL : L.setIfInBounds i true = L' := by rfl) (hs : Region.noSelect ops = true := by decide +kernel) (hb : lightB ops F L i = true := by decide +kernel) (hN : Nat.blt d N = true := by rfl)
    (hQ : ∀ c a w v, Q (.panic c) (a.put (some d) v) w → Q (.panic c) a w := by exact fun _ _ _ _ h => h) : wpAnyG P ops Q S F S2 (n + 1) L a w := anyg_val hF hs hb hL ho hd hN hQ hw hS hr h
theorem gn (i : Nat) (hF : Sl N m a) (ho : ops[i]? = some o) (hw : Region.wanted o (yielded ops a.tmps) = false) (h : ∀ a', Sl N ((d, undef) :: m) a' → wpAnyG P ops Q S F S2 n L' a' w)
    (hd : o.dst = some d := by rfl) (hL : L.setIfInBounds i true = L' := by rfl) (hs : Region.noSelect ops = true := by decide +kernel) (hb : freeB ops L i = true := by decide +kernel) (hN : Nat.blt d N = true := by rfl)
    (hQ : ∀ c a w v, Q (.panic c) (a.put (some d) v) w → Q (.panic c) a w := by exact fun _ _ _ _ h => h) : wpAnyG P ops Q S F S2 (n + 1) L a w := anyg_pass hF hs hb hL ho hd hN hQ hw h
variable {j dj : Nat} {b x y : Bool} {oj : Oper}
theorem qg {rest : List Oper} (i : Nat) (v : Value) (hF : Sl N m a) (hy : y = x) (hr : (execOp a.eval o).run P w = .ok (.value v) w) (h : ∀ a', Sl N ((d, v) :: m) a' → wpList P ops Q rest a' w)
    (hg : o.guard = some (j, b) := by rfl) (hj : ops[j]? = some oj := by rfl) (hdj : oj.dst = some dj := by rfl) (hv : look m dj = some (.bool y) := by rfl) (hb : (x == b) = true := by rfl)
    (ho : ops[i]? = some o := by rfl) (hd : o.dst = some d := by rfl) (hN : Nat.blt d N = true := by rfl) : wpList P ops Q (o :: rest) a w := wpl_op ho (o_val hF ho (wanted_guard hg hj hdj hF hv hy hb) hd hN hr h)
theorem qu {rest : List Oper} (i : Nat) (hF : Sl N m a) (hy : y = x) (h : ∀ a', Sl N ((d, undef) :: m) a' → wpList P ops Q rest a' w)
    (hg : o.guard = some (j, b) := by rfl) (hj : ops[j]? = some oj := by rfl) (hdj : oj.dst = some dj := by rfl) (hv : look m dj = some (.bool y) := by rfl) (hb : (x == b) = false := by rfl)
    (ho : ops[i]? = some o := by rfl) (hd : o.dst = some d := by rfl) (hN : Nat.blt d N = true := by rfl) : wpList P ops Q (o :: rest) a w := wpl_op ho (o_skip hF ho (unwanted_guard hg hj hdj hF hv hy hb) hd hN h)
theorem qk (i : Nat) (hF : Sl N m a) (ho : ops[i]? = some o) (hy : y = x) (h : ∀ a', Sl N ((d, undef) :: m) a' → wpAnyF P ops Q S F n L' a' w)
    (hg : o.guard = some (j, b) := by rfl) (hj : ops[j]? = some oj := by rfl) (hdj : oj.dst = some dj := by rfl) (hv : look m dj = some (.bool y) := by rfl) (hb : (x == b) = false := by rfl)
    (hd : o.dst = some d := by rfl) (hL : L.setIfInBounds i true = L' := by rfl) (hs : Region.noSelect ops = true := by decide +kernel) (hf : freeB ops L i = true := by decide +kernel) (hN : Nat.blt d N = true := by rfl)
    (hQ : ∀ c a w v, Q (.panic c) (a.put (some d) v) w → Q (.panic c) a w := by exact fun _ _ _ _ h => h) : wpAnyF P ops Q S F (n + 1) L a w := any_pass hF hs hf hL ho hd hN hQ (unwanted_guard hg hj hdj hF hv hy hb) h
theorem Sl.c {m' : List (Nat × Value)} {v : Value} (h0 : Sl N m' a) (hF : Sl N m a) (t : Nat) (h : look m t = some v) : Sl N ((t, v) :: m') a := h0.cons (hF.get h)
end

end Go.Proofs.Ytfmhnplkpohogaa

namespace Go.Proofs.Ytfmhnplkpohogaa
open Go.RowKit

theorem unwanted_undef {ops : Array Oper} {o : Oper} {N : Nat} {m : List (Nat × Value)} {a : Act} {j dj : Nat} {b : Bool} {oj : Oper} (hg : o.guard = some (j, b)) (hj : ops[j]? = some oj) (hd : oj.dst = some dj) (hF : Sl N m a) (hv : look m dj = some undef) : Region.wanted o (yielded ops a.tmps) = false := by
  have h := hF.get hv
  simp only [Act.eval, Array.getD_eq_getD_getElem?] at h
  have h2 : yielded ops a.tmps j = none := by
    cases hc : a.tmps[dj]? with
    | none => simp [yielded, hj, hd, hc]
    | some u =>
      rw [hc] at h
      have h : u = undef := h
      subst h
      simp [yielded, hj, hd, hc, undef]
  simp [Region.wanted, hg, h2]

end Go.Proofs.Ytfmhnplkpohogaa

namespace Go.Proofs.Ytfmhnplkpohogaa
open Go.RowKit

variable {S S' : Nat → Prop}
theorem freeze_at_old (w : World) (g n j : Nat) (hj : j ≠ g) : (w.freeze ⟨g, n, none⟩ 1).heap[j]? = w.heap[j]? := by
  simp [World.freeze, Array.getElem?_modify, Ne.symm hj]
theorem freeze_at {w : World} {g n : Nat} {cs : Array Value} {t : TypeId} (h : w.heap[g]? = some (.cells cs t (0, 0))) : ∃ z, (w.freeze ⟨g, n, none⟩ 1).heap[g]? = some (.cells cs t z) := by
  refine ⟨(cs.size, cs.size + 1) |> fun _ => (n, n + 1), ?_⟩
  simp [World.freeze, Array.getElem?_modify, h]
section
variable {N : Nat} {m : List (Nat × Value)} {a : Act} {P : Program} {ops : Array Oper} {Q : Exit → Act → World → Prop} {i : Nat} {w : World} {o : Oper} {K : Act → World → Prop} {d : Nat}
/-- a conversion of bytes to bytes: the block is marked, what it holds stays -/
theorem o_mark {src e : TypeId} {x : Operand} {l : List UInt8} {g n c : Nat} {t : TypeId} (hF : Sl N m a) (ho : ops[i]? = some o) (hw : Region.wanted o (yielded ops a.tmps) = true) (hd : o.dst = some d) (hN : Nat.blt d N = true) (hop : o.op = .convert src src x) (hx : a.eval x = .slice (some ⟨g, 0, none⟩) n c)
    (hs : P.underlying src = some (.slice e)) (he : P.underlying e = some (.int .u8)) (hg : Blk w g t (byteVals l)) (hl : l.length = n) (hc : n ≤ c) (hm : c ≤ 9223372036854775807)
    (h : ∀ w' a', Sl N ((d, .slice (some ⟨g, 0, none⟩) n c) :: m) a' → Fl (fun b => b = g) w' 1 (.slice (some ⟨g, 0, none⟩) n c) n (byteVals l) → w.grownBy w' (some g) → K a' w') : wpOp P ops Q i K a w := by
  have hsh : w.shape? g = some (t, (byteVals l).toArray.size) := by unfold World.shape?; rw [show w.heap[g]? = _ from hg]
  have hrun : (convert src src (.slice (some ⟨g, 0, none⟩) n c)).run P w = .ok (.slice (some ⟨g, 0, none⟩) n c) (w.freeze ⟨g, (byteVals l).toArray.size, none⟩ 1) := by
    simp [convert, run_underlying hs, run_underlying he, markStringish, hsh, Result.andThen]
  obtain ⟨z, hz⟩ := freeze_at (n := (byteVals l).toArray.size) hg
  refine op_run ho hw (v := .slice (some ⟨g, 0, none⟩) n c) (w' := w.freeze ⟨g, (byteVals l).toArray.size, none⟩ 1) ?_ (h _ _ (by rw [hd]; exact hF.put hN) ?_ ⟨rfl, rfl, rfl, by simp [World.freeze], fun j _ hj => freeze_at_old w g _ j (fun e => hj (by rw [e]))⟩)
  · unfold execOp
    simp only [hop, hx, Sem.run_bind, hrun, Result.andThen_ok, Sem.run_pure]
  · refine ⟨_, _, rfl, ⟨hc, hm⟩, ⟨by rw [byteVals_len hl]; omega, byteVals_one _, fun _ => ⟨g, 0, rfl, by simp [World.freeze]; exact hg.lt, fun j u hu => ?_⟩⟩, fun _ => ⟨g, 0, rfl, rfl⟩⟩
    rw [Nat.zero_add]
    simp only [World.cell?, hz]
    simpa using hu
end
section
variable {P : Program} {ρ : Operand → Value} {W : World} {d : Option Tmp} {t xt yt : TypeId} {p : String} {af : Array Edge} {g : Option (Nat × Bool)} {x y : Operand}
end
theorem cvi_8 (n : Nat) : IntKind.u8.wrap (n : Int) = (((UInt8.ofNat n).toNat : Nat) : Int) := by
  rw [wrap8m, UInt8.toNat_ofNat']; omega
theorem cv8_64 (c : UInt8) : IntKind.i64.wrap ((c.toNat : Nat) : Int) = ((c.toNat : Nat) : Int) := by
  have := c.toNat_lt
  exact i64_nat _ (by omega)
theorem made_one (z : Value) (n : Nat) : madeCells #[z] (n * 1) = (List.replicate n z).toArray := by
  rw [Nat.mul_one]
  apply Array.ext
  · simp [madeCells]
  · intro i h1 h2
    simp [madeCells, Nat.mod_one]
/-- make of a number of elements of one cell -/
theorem rn_makeN {P : Program} {ρ : Operand → Value} {W : World} {d : Option Tmp} {t : TypeId} {p : String} {af : Array Edge} {g : Option (Nat × Bool)} {s e : TypeId} {z : Value} {bytes : Nat} (E : El P s e z 1 bytes) (hz : z.cells = #[z]) {x y : Operand} {kx ky : IntKind} {n : Nat} {cs : List Value} (hx : ρ x = .int kx n) (hy : ρ y = .int ky n) (h : n * bytes ≤ 140737488355328) (h2 : n ≤ 9223372036854775807) (hc : List.replicate n z = cs) :
    (execOp ρ ⟨d, .makeSlice s x y, t, p, af, g⟩).run P W = .ok (.value (.slice (some ⟨W.heap.size, 0, none⟩) n n)) (W.alloc (.cells cs.toArray e)) := by
  obtain ⟨ii, hi, hz0, hz1, hz2⟩ := info_parts E.hi
  have hb : (ii.bytes : Int) * (n : Int) ≤ 281474976710656 := by
    rw [← Int.natCast_mul, hz2, Nat.mul_comm]; omega
  have hr := run_make (P := P) W s e ii z E.ht hi hz0 kx ky n n (by omega) (Int.le_refl _) hb (by omega)
  refine rn_make hx hy (hr.trans ?_)
  rw [Int.toNat_natCast, hz1, hz, made_one, hc]

end Go.Proofs.Ytfmhnplkpohogaa

namespace Go.Proofs.Ytfmhnplkpohogaa
open Go.RowKit

section
variable {P : Program} {ops : Array Oper} {Q : Exit → Act → World → Prop} {S S2 : World → Prop} {F : Nat → Bool}
theorem any_have {n n1 : Nat} {L L1 : Array Bool} {a : Act} {w : World} (R : Act → World → Prop) (h1 : ∀ a W, R a W → wpAnyF P ops Q S F n1 L1 a W) (h2 : (∀ a W, R a W → wpAnyF P ops Q S F n1 L1 a W) → wpAnyF P ops Q S F n L a w) : wpAnyF P ops Q S F n L a w := h2 h1
end
/-! a block is not that of a row of the call's own -/
theorem own_new {w : World} {base g : Nat} {e : TypeId} {k n : Nat} {v : Value} {xs : List Value} (h : w.ownsRow base e k v n xs) (hg : w.heap.size = g) : some g ≠ v.ownBlock := fun e1 => by
  have := (h.lt g e1.symm).2
  omega
section
variable {N : Nat} {m : List (Nat × Value)} {a : Act} {P : Program} {ops : Array Oper} {Q : Exit → Act → World → Prop} {i : Nat} {w : World} {o : Oper} {K : Act → World → Prop} {d : Nat}
/-- append onto a row of the call's own, with where it lies then -/
theorem o_appB {t e : TypeId} {z : Value} {k bytes : Nat} (E : El P t e z k bytes) (hF : Sl N m a) (ho : ops[i]? = some o) (hw : Region.wanted o (yielded ops a.tmps) = true) (hd : o.dst = some d) (hN : Nat.blt d N = true) {s x : Operand}
    (hop : o.op = .call { callee := .builtin .append, args := #[s, x], argTypes := #[t, t] }) {B : Option Addr} {n c0 : Nat} (hs : a.eval s = .slice B n c0) {A : Option Addr} {n2 c : Nat} (hx : a.eval x = .slice A n2 c)
    {base : Nat} {xs ys zs : List Value} (hown : w.ownsRow base e k (.slice B n c0) n xs) (hr : Cel w k A n2 ys) (hbase : base ≤ w.heap.size)
    (h63 : n + n2 ≤ 9223372036854775807) (hbytes : (n + n2) * bytes ≤ 140737488355328) (hz : xs ++ ys = zs)
    (h : ∀ A' c' w' a', Sl N ((d, .slice A' (n + n2) c') :: m) a' → w'.ownsRow base e k (.slice A' (n + n2) c') (n + n2) zs → w.grownBy w' (Value.slice B n c0).ownBlock → n + n2 ≤ c' → c' ≤ 9223372036854775807 →
      (∀ g, g < w.heap.size → some g ≠ (Value.slice B n c0).ownBlock → some g ≠ (Value.slice A' (n + n2) c').ownBlock) → K a' w') : wpOp P ops Q i K a w := by
  subst hz
  refine op_app E ho hw hop hs hx hown hr hbase h63 hbytes fun v' w' h1 h2 h5 => ?_
  obtain ⟨A', c', rfl, h3, h4⟩ := own_any h1
  refine h A' c' w' _ (by rw [hd]; exact hF.put hN) h1 h2 h3 h4 fun g hg hne => ?_
  rcases h5 with h5 | h5
  · rw [h5]; exact hne
  · rw [h5]; exact fun e => by injection e with e; omega
end
end Go.Proofs.Ytfmhnplkpohogaa

namespace Go.Proofs.Ytfmhnplkpohogaa
open Go.RowKit
section
variable {P : Program} {ρ : Operand → Value} {W : World} {d : Option Tmp} {t xt yt : TypeId} {p : String} {af : Array Edge} {g : Option (Nat × Bool)} {x y : Operand} {a b a' b' r : Bool}
theorem rn_neB (hu : P.underlying xt = some .bool) (hx : ρ x = .bool a) (hy : ρ y = .bool b) (ha : a = a') (hb : b = b') (hr : (a' != b') = r) : (execOp ρ ⟨d, .binOp .neq xt x y yt, t, p, af, g⟩).run P W = .ok (.value (.bool r)) W := by
  subst ha hb hr
  exact rn_bin hx hy guard_bool (by simp [binOp, run_equal_bool W xt a b hu]; cases a <;> cases b <;> rfl)
end
section
variable {P : Program} {ops : Array Oper} {Q : Exit → Act → World → Prop} {S S2 : World → Prop} {F : Nat → Bool}
end
theorem own_grownB {w w' : World} {base : Nat} {e : TypeId} {k n b : Nat} {v : Value} {xs : List Value} (h : w.ownsRow base e k v n xs) (hg : w.grownBy w' (some b)) (hne : some b ≠ v.ownBlock) : w'.ownsRow base e k v n xs :=
  h.kept hg (by
    cases hv : v.ownBlock with
    | none => exact .inl rfl
    | some g => exact .inr fun e1 => hne (by rw [hv]; exact e1.symm))
end Go.Proofs.Ytfmhnplkpohogaa

namespace Go.Proofs.Ytfmhnplkpohogaa
open Go.RowKit

variable {S S' : Nat → Prop} {α : Type}
def recVals (f : α → List Value) (l : List α) : List Value := l.flatMap f
theorem recVals_cons (f : α → List Value) (x : α) (l : List α) : recVals f (x :: l) = f x ++ recVals f l := by simp [recVals]
theorem recVals_drop {f : α → List Value} {k : Nat} (h : ∀ x, (f x).length = k) : ∀ (l : List α) (n : Nat), (recVals f l).drop (n * k) = recVals f (l.drop n)
  | [], n => by simp [recVals]
  | x :: l, 0 => by simp
  | x :: l, n + 1 => by
    have hx := h x
    rw [List.drop_succ_cons, recVals_cons, ← recVals_drop h l n, Nat.add_mul, Nat.one_mul, List.drop_append, hx, List.drop_eq_nil_of_le (by omega), List.nil_append, show n * k + k - k = n * k from by omega]
theorem recVals_at {f : α → List Value} {k : Nat} (h : ∀ x, (f x).length = k) {l : List α} {i : Nat} {x : α} (hi : l[i]? = some x) {j : Nat} {v : Value} (hv : (f x)[j]? = some v) : (recVals f l)[i * k + j]? = some v := by
  have hj := (List.getElem?_eq_some_iff.1 hv).1
  obtain ⟨hl, he⟩ := List.getElem?_eq_some_iff.1 hi
  have h1 : (recVals f l)[i * k + j]? = ((recVals f l).drop (i * k))[j]? := by rw [List.getElem?_drop]
  rw [h1, recVals_drop h, List.drop_eq_getElem_cons hl, recVals_cons, he, List.getElem?_append_left hj]
  exact hv
theorem Fl.recAt {f : α → List Value} {k : Nat} (hk : ∀ x, (f x).length = k) {w : World} {n m c b off : Nat} {A : Option Addr} {l : List α} (h : Fl S w k (.slice A m c) n (recVals f l)) (hA : A = some ⟨b, off, none⟩) {i : Nat} {d : α} (hi : i < l.length) (j : Nat) (v : Value) (hv : (f (l.getD i d))[j]? = some v) : w.cell? ⟨b, off + i * k + j, none⟩ = some v := by
  rw [Nat.add_assoc]
  exact h.cellAt hA (recVals_at hk (by rw [List.getD_eq_getElem?_getD, List.getElem?_eq_getElem hi, Option.getD_some]) hv)
/-! tables of ints -/
def RI1 (S : Nat → Prop) (w : World) (cs : List Value) (l : List Int) : Prop := ∃ v, cs = [v] ∧ Fl S w 1 v l.length (intVals l)
theorem RI1.ext {w w' : World} {cs : List Value} {l : List Int} (h : RI1 S w cs l) (he : Ext w w') : RI1 S w' cs l := by
  obtain ⟨v, hv, h⟩ := h; exact ⟨v, hv, h.ext he⟩
def RIss (S : Nat → Prop) (w : World) (v : Value) (l : List (List Int)) : Prop := RSl S 1 (RI1 S) w v l
theorem RIss.ext {w w' : World} {v : Value} {l : List (List Int)} (h : RIss S w v l) (he : Ext w w') : RIss S w' v l := RSl.ext h he fun _ _ h => h.ext he
theorem RIss.pres {w w' : World} {v : Value} {l : List (List Int)} (h : RIss S w v l) (hp : Pres S w w') : RIss S w' v l := RSl.keep h hp.1 hp.2 fun _ _ ⟨v, hv, h⟩ => ⟨v, hv, h.pres hp⟩
theorem RIss.subB {w : World} {v : Value} {l : List (List Int)} (h : RIss S w v l) (hs : ∀ b, b < w.heap.size → S b → S' b) : RIss S' w v l := RSl.subB h hs fun _ _ ⟨v, hv, h⟩ => ⟨v, hv, h.subB hs⟩
theorem RIss.clip {w : World} {v : Value} {l : List (List Int)} (h : RIss S w v l) : RIss (Clip S w) w v l := h.subB fun _ hb hs => ⟨hs, hb⟩
theorem RIss.nil (w : World) : RIss S w (.slice none 0 0) [] := RSl.nil w
theorem RIss.form {w : World} {v : Value} {l : List (List Int)} (h : RIss S w v l) : ∃ A cap, v = .slice A l.length cap ∧ l.length ≤ cap ∧ cap ≤ 9223372036854775807 := RSl.form h
theorem RIss.get {w : World} {A : Option Addr} {n cap : Nat} {l : List (List Int)} (h : RIss S w (.slice A n cap) l) {i : Nat} (hi : i < n) :
    ∃ b off A' c, A = some ⟨b, off, none⟩ ∧ b < w.heap.size ∧ w.cell? ⟨b, off + i, none⟩ = some (.slice A' (l.getD i []).length c) ∧ Fl S w 1 (.slice A' (l.getD i []).length c) (l.getD i []).length (intVals (l.getD i [])) ∧ (l.getD i []).length ≤ c ∧ c ≤ 9223372036854775807 := by
  obtain ⟨hn, hc, h3⟩ := RSl.elem h
  obtain ⟨b, off, ha, hb, hx⟩ := h3 (by omega)
  obtain ⟨cs, hk, hcs, v, rfl, hv⟩ := hx i (by omega)
  have e : l.getD i [] = l[i]'(by omega) := by rw [List.getD_eq_getElem?_getD, List.getElem?_eq_getElem (by omega), Option.getD_some]
  rw [← e] at hv
  obtain ⟨A', c, rfl, h5, h6⟩ := hv.form
  refine ⟨b, off, A', c, ha, hb, ?_, hv, h5, h6⟩
  have := hcs 0 _ rfl
  rw [Nat.mul_one, Nat.add_zero] at this
  exact this
theorem RIss.of_fl {w : World} {v : Value} {n : Nat} {vs : List Value} {l : List (List Int)} (h : Fl S w 1 v n vs) (hn : l.length = n) (hr : ∀ i, i < n → ∃ u, vs[i]? = some u ∧ Fl S w 1 u (l.getD i []).length (intVals (l.getD i []))) : RIss S w v l := by
  subst hn
  obtain ⟨A, cap, rfl, hc, hl, hs⟩ := h
  refine ⟨A, cap, vs, rfl, hc, hl, fun i hi => ?_, hs⟩
  have hv : i < vs.length := by rw [hl.1]; omega
  rw [chunk_one hv]
  obtain ⟨u, h1, h2⟩ := hr i hi
  rw [List.getElem?_eq_getElem hv] at h1
  injection h1 with h1
  have e : l.getD i [] = l[i] := by rw [List.getD_eq_getElem?_getD, List.getElem?_eq_getElem hi, Option.getD_some]
  rw [e] at h2
  exact ⟨vs[i], rfl, h1 ▸ h2⟩
/-- a row of slices, each of ints -/
theorem RIss.own {w : World} {base : Nat} {e : TypeId} {v : Value} {n : Nat} {vs : List Value} {l : List (List Int)} (h : w.ownsRow base e 1 v n vs) (hS : ∀ b, base ≤ b → S b) (hn : l.length = n) (h1 : ∀ u ∈ vs, u.oneCell' = true) (hr : ∀ i, i < n → ∃ u, vs[i]? = some u ∧ Fl S w 1 u (l.getD i []).length (intVals (l.getD i []))) : RIss S w v l :=
  RIss.of_fl (Fl.own h hS h1) hn hr

end Go.Proofs.Ytfmhnplkpohogaa

namespace Go.Proofs.Ytfmhnplkpohogaa
open Go.RowKit

variable {S S' : Nat → Prop}
section
variable {P : Program} {ρ : Operand → Value} {W : World} {d : Option Tmp} {t xt yt : TypeId} {p : String} {af : Array Edge} {g : Option (Nat × Bool)} {x y : Operand}
theorem rn_min2 {s : TypeId} {k : IntKind} {a b : Int} {u : TypeDesc} (_hu : P.underlying s = some u) (hx : ρ x = .int k a) (hy : ρ y = .int k b) : (execOp ρ ⟨d, .call { callee := .builtin .min, args := #[x, y], argTypes := #[s, s] }, t, p, af, g⟩).run P W = .ok (.value (.int k (min a b))) W := by
  simp [execOp, resolve, invoke, builtin, hx, hy, Lib.run_min_ints]
theorem rn_max2 {s : TypeId} {k : IntKind} {a b : Int} {u : TypeDesc} (_hu : P.underlying s = some u) (hx : ρ x = .int k a) (hy : ρ y = .int k b) : (execOp ρ ⟨d, .call { callee := .builtin .max, args := #[x, y], argTypes := #[s, s] }, t, p, af, g⟩).run P W = .ok (.value (.int k (max a b))) W := by
  simp [execOp, resolve, invoke, builtin, hx, hy, Lib.run_max_ints]
end
theorem scope_ret {Q : Exit → Act → World → Prop} {a : Act} {w : World} (h : Q .ret a w) : Exit.noGoto Q .ret a w := h
/-! two elder blocks are written -/
def Two (w w' : World) (p q : Nat) : Prop := w'.os = w.os ∧ w'.tape = w.tape ∧ w'.output = w.output ∧ w.heap.size ≤ w'.heap.size ∧ ∀ b, b < w.heap.size → b ≠ p → b ≠ q → w'.heap[b]? = w.heap[b]?
theorem Two.refl (w : World) (p q : Nat) : Two w w p q := ⟨rfl, rfl, rfl, Nat.le_refl _, fun _ _ _ _ => rfl⟩
theorem Two.ext {w w1 w2 : World} {p q : Nat} (h : Two w w1 p q) (k : Ext w1 w2) : Two w w2 p q :=
  ⟨k.below.os.trans h.1, k.below.tape.trans h.2.1, k.below.output.trans h.2.2.1, Nat.le_trans h.2.2.2.1 k.size, fun b hb h1 h2 => (k.below.block b (Nat.lt_of_lt_of_le hb h.2.2.2.1)).trans (h.2.2.2.2 b hb h1 h2)⟩
theorem Two.grown {w w1 w2 : World} {p q n : Nat} (h : Two w w1 p q) (k : w1.grownBy w2 (some n)) (hn : n = p ∨ n = q ∨ w.heap.size ≤ n) : Two w w2 p q :=
  ⟨k.os.trans h.1, k.tape.trans h.2.1, k.output.trans h.2.2.1, Nat.le_trans h.2.2.2.1 k.size, fun b hb h1 h2 => (k.block b (Nat.lt_of_lt_of_le hb h.2.2.2.1) (fun e => by injection e with e; omega)).trans (h.2.2.2.2 b hb h1 h2)⟩
theorem Two.trans {w w1 w2 : World} {p q : Nat} (h : Two w w1 p q) (k : Two w1 w2 p q) : Two w w2 p q :=
  ⟨k.1.trans h.1, k.2.1.trans h.2.1, k.2.2.1.trans h.2.2.1, Nat.le_trans h.2.2.2.1 k.2.2.2.1, fun b hb h1 h2 => (k.2.2.2.2 b (Nat.lt_of_lt_of_le hb h.2.2.2.1) h1 h2).trans (h.2.2.2.2 b hb h1 h2)⟩
theorem Two.size {w w' : World} {p q : Nat} (h : Two w w' p q) : w.heap.size ≤ w'.heap.size := h.2.2.2.1
theorem Two.blk {w w' : World} {p q n : Nat} {t : TypeId} {cs : List Value} (h : Two w w' p q) (hb : Blk w n t cs) (h1 : n ≠ p) (h2 : n ≠ q) : Blk w' n t cs := (h.2.2.2.2 n hb.lt h1 h2).trans hb
theorem Two.pres {w w' : World} {p q : Nat} (h : Two w w' p q) (h1 : ¬ S p) (h2 : ¬ S q) : Pres S w w' := ⟨h.size, fun b hb hl => h.2.2.2.2 b hl (fun e => h1 (e ▸ hb)) (fun e => h2 (e ▸ hb))⟩
/-- two blocks written are one after the other -/
theorem Two.split {w w' : World} {p q : Nat} (h : Two w w' p q) (hq : q < w.heap.size) : ∃ w1, w.grownBy w1 (some p) ∧ w1.grownBy w' (some q) := by
  refine ⟨{ w' with heap := w'.heap.setIfInBounds q w.heap[q] }, ⟨h.1, h.2.1, h.2.2.1, by simpa using h.size, fun b hb hne => ?_⟩, ⟨rfl, rfl, rfl, by simp, fun b _ hne => ?_⟩⟩
  · by_cases hc : b = q
    · subst hc
      have := h.size
      simp only [Array.getElem?_setIfInBounds_self_of_lt (show b < w'.heap.size by omega)]
      exact (Array.getElem?_eq_getElem hb).symm
    · have hc' : q ≠ b := fun e => hc e.symm
      simp only [Array.getElem?_setIfInBounds_ne hc']
      exact h.2.2.2.2 b hb (fun e => hne (by rw [e])) hc
  · have hc : q ≠ b := fun e => hne (by rw [e])
    simp only [Array.getElem?_setIfInBounds_ne hc]

end Go.Proofs.Ytfmhnplkpohogaa

namespace Go.Proofs.Ytfmhnplkpohogaa
open Go.RowKit

variable {S S' : Nat → Prop}
section
variable {P : Program} {ρ : Operand → Value} {W : World} {d : Option Tmp} {t : TypeId} {p : String} {af : Array Edge} {g : Option (Nat × Bool)}
end
/-- the first k are u -/
def RepI (u : Int) (m k : Nat) (cur : List Int) : Prop := cur.length = m ∧ ∀ i, i < k → cur.getD i 0 = u
theorem RepI.zero (u : Int) (m : Nat) : RepI u m 0 (List.replicate m 0) := ⟨by simp, fun i hi => by omega⟩
theorem RepI.step {u : Int} {m k n : Nat} {cur ys : List Int} (h : RepI u m k cur) (hk : k + n ≤ m) (hl : n ≤ ys.length) (hy : ∀ i, i < n → ys.getD i 0 = u) : RepI u m (k + n) (splice cur k (ys.take n)) := by
  have hn : (ys.take n).length = n := by rw [List.length_take]; omega
  have hk' : (cur.take k).length = k := by rw [List.length_take, h.1]; omega
  refine ⟨by rw [splice_len (by rw [hn, h.1]; exact hk)]; exact h.1, fun i hi => ?_⟩
  unfold splice
  by_cases hc : i < k
  · have := h.2 i hc
    rw [List.getD_eq_getElem?_getD] at this ⊢
    rw [List.getElem?_append_left (by omega), List.getElem?_take, if_pos hc]
    exact this
  · have := hy (i - k) (by omega)
    rw [List.getD_eq_getElem?_getD] at this ⊢
    rw [List.getElem?_append_right (by omega), hk', List.getElem?_append_left (by omega), List.getElem?_take, if_pos (by omega)]
    exact this
theorem RepI.one {u : Int} {m k : Nat} {cur : List Int} (h : RepI u m k cur) (hk : k < m) : RepI u m (k + 1) (cur.set k u) := by
  refine ⟨by rw [List.length_set]; exact h.1, fun i hi => ?_⟩
  by_cases hc : i = k
  · subst hc
    rw [List.getD_eq_getElem?_getD, List.getElem?_set_self (by rw [h.1]; exact hk)]; rfl
  · have := h.2 i (by omega)
    rw [List.getD_eq_getElem?_getD] at this ⊢
    rw [List.getElem?_set_ne (fun e => hc e.symm)]
    exact this
theorem RepI.take {u : Int} {m k n : Nat} {cur : List Int} (h : RepI u m k cur) (hn : n ≤ k) (hk : k ≤ m) : n ≤ ((cur.drop 0).take k).length ∧ ∀ i, i < n → ((cur.drop 0).take k).getD i 0 = u := by
  refine ⟨by rw [List.length_take, List.length_drop, h.1]; omega, fun i hi => ?_⟩
  have := h.2 i (by omega)
  rw [List.getD_eq_getElem?_getD] at this ⊢
  rw [List.getElem?_take, if_pos (by omega), List.getElem?_drop, Nat.zero_add]
  exact this
theorem RepI.all {u : Int} {m : Nat} {cur : List Int} (h : RepI u m m cur) : cur = List.replicate m u := by
  apply List.ext_getElem (by rw [h.1, List.length_replicate])
  intro i h1 h2
  have := h.2 i (by rw [← h.1]; exact h1)
  rw [List.getD_eq_getElem?_getD, List.getElem?_eq_getElem h1, Option.getD_some] at this
  rw [this, List.getElem_replicate]
theorem one_slices {l : List Value} (h : ∀ u ∈ l, ∃ A n c, u = .slice A n c) : ∀ u ∈ l, u.oneCell' = true := fun u hu => by
  obtain ⟨A, n, c, rfl⟩ := h u hu; rfl
/-! rows of any values -/
abbrev rawVals (l : List Value) : List Value := l
theorem rawVals_app (a b : List Value) : rawVals a ++ rawVals b = rawVals (a ++ b) := rfl

end Go.Proofs.Ytfmhnplkpohogaa

namespace Go.Proofs.Ytfmhnplkpohogaa
open Go.RowKit

variable {S S' : Nat → Prop}
section
variable {P : Program} {ρ : Operand → Value} {W : World} {d : Option Tmp} {t xt yt : TypeId} {p : String} {af : Array Edge} {g : Option (Nat × Bool)} {x y : Operand}
theorem ofInt8 (a : UInt8) : BitVec.ofInt IntKind.u8.bits ((a.toNat : Nat) : Int) = a.toBitVec := by
  apply BitVec.eq_of_toNat_eq
  rw [BitVec.toNat_ofInt]
  show (((a.toNat : Nat) : Int) % 256).toNat = a.toNat
  have := UInt8.toNat_lt a
  omega
theorem wrap8n (n : Nat) (h : n < 256) : IntKind.u8.wrap (n : Int) = n := by rw [wrap8m]; omega
theorem b_and8 (a b : UInt8) : (binOp .and t (.int .u8 (a.toNat : Nat)) (.int .u8 (b.toNat : Nat))).run P W = .ok (.int .u8 ((a &&& b).toNat : Nat)) W := by
  show Sem.run P (pure (Value.int .u8 (IntKind.u8.wrap ((BitVec.ofInt IntKind.u8.bits ((a.toNat : Nat) : Int) &&& BitVec.ofInt IntKind.u8.bits ((b.toNat : Nat) : Int)).toNat : Nat)))) W = _
  rw [ofInt8, ofInt8, Sem.run_pure, wrap8n _ (BitVec.isLt _)]
  rfl
theorem rn_and8 {a b : UInt8} (hx : ρ x = .int .u8 (a.toNat : Nat)) (hy : ρ y = .int .u8 (b.toNat : Nat)) : (execOp ρ ⟨d, .binOp .and xt x y yt, t, p, af, g⟩).run P W = .ok (.value (.int .u8 ((a &&& b).toNat : Nat))) W := rn_bin hx hy guard_int (b_and8 a b)
end
/-! rows of one type side by side -/
theorem Apart.app {w : World} {base : Nat} {e : TypeId} {k n : Nat} {v u u' : Value} {xs : List Value} (h : w.ownsRow base e k v n xs) (ha : Apart v u) (hn : ∀ g, g < w.heap.size → some g ≠ u.ownBlock → some g ≠ u'.ownBlock) : Apart v u' := fun g hg hu => by
  obtain ⟨cur, hc⟩ := own_heap h hg
  exact hn g (Array.getElem?_eq_some_iff.1 hc).1 (fun e1 => ha g hg e1.symm) hu.symm
theorem Apart.types {w : World} {base base' : Nat} {e e' : TypeId} {k k' n n' : Nat} {v u : Value} {xs ys : List Value} (h : w.ownsRow base e k v n xs) (h' : w.ownsRow base' e' k' u n' ys) (hne : e ≠ e') : Apart v u := fun g hg hu => by
  obtain ⟨c1, h1⟩ := own_heap h hg
  obtain ⟨c2, h2⟩ := own_heap h' hu
  rw [h1] at h2
  injection h2 with h2
  injection h2 with _ h2
  exact hne h2
theorem Apart.below {w : World} {base : Nat} {e : TypeId} {k n : Nat} {v u : Value} {xs : List Value} (h : w.ownsRow base e k u n xs) (hv : ∀ g, v.ownBlock = some g → g < base) : Apart v u := fun g hg hu => by
  have := (h.lt g hu).1
  have := hv g hg
  omega
end Go.Proofs.Ytfmhnplkpohogaa

namespace Go.Proofs.Ytfmhnplkpohogaa
open Go.RowKit

section
variable {P : Program} {ρ : Operand → Value} {W : World} {d : Option Tmp} {t xt yt : TypeId} {p : String} {af : Array Edge} {g : Option (Nat × Bool)} {x y z : Operand} {v : Value}
theorem cvn_64 (n : Nat) (h : n < 18446744073709551616) : IntKind.u64.wrap (n : Int) = ((n : Nat) : Int) := wrap64 n h
theorem b_mul32 (a b : UInt32) : (binOp .mul t (.int .u32 (a.toNat : Nat)) (.int .u32 (b.toNat : Nat))).run P W = .ok (.int .u32 ((a * b).toNat : Nat)) W := by
  simp only [binOp, Op.intArith, ne_eq, not_true_eq_false, if_false, Sem.run_pure]
  rw [wrap32m, UInt32.toNat_mul]
  rfl
theorem rn_mul32 {a b : UInt32} (hx : ρ x = .int .u32 (a.toNat : Nat)) (hy : ρ y = .int .u32 (b.toNat : Nat)) : (execOp ρ ⟨d, .binOp .mul xt x y yt, t, p, af, g⟩).run P W = .ok (.value (.int .u32 ((a * b).toNat : Nat))) W := rn_bin hx hy guard_int (b_mul32 a b)
theorem rn_addU {a b : Nat} (hx : ρ x = .int .u64 (a : Nat)) (hy : ρ y = .int .u64 (b : Nat)) (h : a + b < 18446744073709551616) : (execOp ρ ⟨d, .binOp .add xt x y yt, t, p, af, g⟩).run P W = .ok (.value (.int .u64 ((a + b : Nat) : Int))) W :=
  rn_bin hx hy guard_int (by
    simp only [binOp, Op.intArith, ne_eq, not_true_eq_false, if_false, Sem.run_pure]
    rw [show ((a : Int) + (b : Int)) = ((a + b : Nat) : Int) by omega, wrap64 _ h])
theorem rn_remU {a b : Nat} (hx : ρ x = .int .u64 (a : Nat)) (hy : ρ y = .int .u64 (b : Nat)) (h : 0 < b) : (execOp ρ ⟨d, .binOp .rem xt x y yt, t, p, af, g⟩).run P W = .ok (.value (.int .u64 ((a % b : Nat) : Int))) W := by
  have := rn_rem (P := P) (W := W) (d := d) (t := t) (p := p) (af := af) (g := g) (xt := xt) (yt := yt) hx hy (by omega) (by omega)
  rw [this]; rfl
theorem rn_shrU {k : IntKind} {a n : Nat} (hx : ρ x = .int .u64 (a : Nat)) (hy : ρ y = .int k (n : Nat)) (h : n < 64) : (execOp ρ ⟨d, .binOp .shr xt x y yt, t, p, af, g⟩).run P W = .ok (.value (.int .u64 ((a / 2 ^ n : Nat) : Int))) W := by
  refine rn_bin hx hy guard_int ?_
  have hn : min n IntKind.u64.bits = n := Nat.min_eq_left (by show n ≤ 64; omega)
  have h0 : ¬ ((n : Int) < 0) := by omega
  show Sem.run P (Op.shift .shr .u64 ((a : Nat) : Int) k (n : Nat)) W = _
  unfold Op.shift
  rw [if_neg h0]
  show Sem.run P (pure (Value.int .u64 (Int.fdiv ((a : Nat) : Int) (2 ^ (min ((n : Int)).toNat IntKind.u64.bits))))) W = _
  rw [Int.toNat_natCast, hn, Sem.run_pure]
  congr 2
  rw [Int.fdiv_eq_ediv_of_nonneg _ (by exact Int.pow_nonneg (by omega))]
  rw [Int.natCast_ediv, Int.natCast_pow]
  rfl
theorem rn_shlU {k : IntKind} {a n : Nat} (hx : ρ x = .int .u64 (a : Nat)) (hy : ρ y = .int k (n : Nat)) (h : n < 64) (hb : a * 2 ^ n < 18446744073709551616) : (execOp ρ ⟨d, .binOp .shl xt x y yt, t, p, af, g⟩).run P W = .ok (.value (.int .u64 ((a * 2 ^ n : Nat) : Int))) W := by
  refine rn_bin hx hy guard_int ?_
  have hn : min n IntKind.u64.bits = n := Nat.min_eq_left (by show n ≤ 64; omega)
  have h0 : ¬ ((n : Int) < 0) := by omega
  show Sem.run P (Op.shift .shl .u64 ((a : Nat) : Int) k (n : Nat)) W = _
  unfold Op.shift
  rw [if_neg h0]
  show Sem.run P (pure (Value.int .u64 (IntKind.u64.wrap (((a : Nat) : Int) * 2 ^ (min ((n : Int)).toNat IntKind.u64.bits))))) W = _
  rw [Int.toNat_natCast, hn, Sem.run_pure]
  congr 2
  rw [show ((a : Int) * 2 ^ n) = ((a * 2 ^ n : Nat) : Int) by rw [Int.natCast_mul, Int.natCast_pow]; rfl]
  exact wrap64 _ hb
theorem ofInt64 (z : UInt64) : BitVec.ofInt IntKind.u64.bits ((z.toNat : Nat) : Int) = z.toBitVec := by
  show BitVec.ofInt 64 _ = _
  apply BitVec.eq_of_toNat_eq
  rw [BitVec.toNat_ofInt]
  have := z.toNat_lt
  show (((z.toNat : Nat) : Int) % ((2 ^ 64 : Nat) : Int)).toNat = z.toNat
  omega
theorem b_or64 (a b : UInt64) : (binOp .or t (.int .u64 (a.toNat : Nat)) (.int .u64 (b.toNat : Nat))).run P W = .ok (.int .u64 ((a ||| b).toNat : Nat)) W := by
  simp only [binOp, Op.intBits, ne_eq, not_true_eq_false, if_false, Sem.run_pure, ofInt64]
  congr 2
  exact wrap64 _ (a ||| b).toNat_lt
/-- the low byte is put in -/
theorem rn_orU {a b : Nat} (hx : ρ x = .int .u64 (a : Nat)) (hy : ρ y = .int .u64 (b : Nat)) (ha : a < 18446744073709551616) (h0 : a % 256 = 0) (hb : b < 256) : (execOp ρ ⟨d, .binOp .or xt x y yt, t, p, af, g⟩).run P W = .ok (.value (.int .u64 ((a + b : Nat) : Int))) W := by
  refine rn_bin hx hy guard_int ?_
  have := b_or64 (P := P) (W := W) (t := xt) (UInt64.ofNat a) (UInt64.ofNat b)
  rw [UInt64.toNat_or, UInt64.toNat_ofNat_of_lt' ha, UInt64.toNat_ofNat_of_lt' (by show b < 18446744073709551616; omega)] at this
  rw [this]
  congr 3
  have e : a = (a / 256) <<< 8 := by rw [Nat.shiftLeft_eq]; omega
  rw [e, ← Nat.shiftLeft_add_eq_or_of_lt (by omega)]
theorem rn_arrLH {s e : TypeId} {b off L l h m c o' : Nat} {k k2 : IntKind} (hu : P.underlying s = some (.array L e)) (hi : (P.info? e).map (·.size) = some 1) (hx : ρ x = .pointer (some ⟨b, off, none⟩)) (hy : ρ y = .int k (l : Int)) (hz : ρ z = .int k2 (h : Int)) (h1 : l ≤ h) (h2 : h ≤ L) (h3 : l < L) (hm : h - l = m) (hc : L - l = c) (ho : off + l = o') :
    (execOp ρ ⟨d, .slice s x (some y) (some z) none, t, p, af, g⟩).run P W = .ok (.value (.slice (some ⟨b, o', none⟩) m c)) W := by
  subst hm hc ho
  have hb : ∀ y c', l ≤ y → (Instr.sliceBound (.int k (l : Int)) y c').run P W = .ok l W := fun y c' hy => by rw [bound_ok (by omega) (by omega)]; simp
  have hb2 : ∀ y c', h ≤ y → (Instr.sliceBound (.int k2 (h : Int)) y c').run P W = .ok h W := fun y c' hy => by rw [bound_ok (by omega) (by omega)]; simp
  have hne : ¬ L = l := by omega
  simp [execOp, Instr.sliceAt, Instr.sureAddr, Instr.sliceBounds, run_underlying hu, hx, hy, hz, hb h _ h1, hb2 L _ h2, size_of hi, hne, addr_add]
theorem addW_ok {k : IntKind} {n1 n2 : Int} (hx : ρ x = .int .i64 n1) (hy : ρ y = .int .i64 n2) : (execOp ρ ⟨d, .binOp .add xt x y yt, t, p, af, g⟩).run P W = .ok (.value (.int .i64 (IntKind.i64.wrap (n1 + n2)))) W :=
  rn_bin hx hy guard_int (by simp only [binOp, Op.intArith, ne_eq, not_true_eq_false, if_false, Sem.run_pure])
theorem subW_ok {n1 n2 : Int} (hx : ρ x = .int .i64 n1) (hy : ρ y = .int .i64 n2) : (execOp ρ ⟨d, .binOp .sub xt x y yt, t, p, af, g⟩).run P W = .ok (.value (.int .i64 (IntKind.i64.wrap (n1 - n2)))) W :=
  rn_bin hx hy guard_int (by simp only [binOp, Op.intArith, ne_eq, not_true_eq_false, if_false, Sem.run_pure])
theorem mulW_ok {n1 n2 : Int} (hx : ρ x = .int .i64 n1) (hy : ρ y = .int .i64 n2) : (execOp ρ ⟨d, .binOp .mul xt x y yt, t, p, af, g⟩).run P W = .ok (.value (.int .i64 (IntKind.i64.wrap (n1 * n2)))) W :=
  rn_bin hx hy guard_int (by simp only [binOp, Op.intArith, ne_eq, not_true_eq_false, if_false, Sem.run_pure])
theorem rn_max3U {s : TypeId} {k : IntKind} {a b c : Nat} {u : TypeDesc} (_hu : P.underlying s = some u) (hx : ρ x = .int k (a : Nat)) (hy : ρ y = .int k (b : Nat)) (hz : ρ z = .int k (c : Nat)) : (execOp ρ ⟨d, .call { callee := .builtin .max, args := #[x, y, z], argTypes := #[s, s, s] }, t, p, af, g⟩).run P W = .ok (.value (.int k ((max (max a b) c : Nat) : Int))) W := by
  have e : ∀ x y : Int, (if y > x then y else x) = max x y := fun x y => by
    rw [Int.max_def]
    split <;> split <;> omega
  have h : (Builtin.max_ #[s, s, s] t #[.int k (a : Nat), .int k (b : Nat), .int k (c : Nat)]).run P W = .ok (.int k (max (max (a : Int) b) c)) W := by
    simp [Builtin.max_, Builtin.max2, e]
    split <;> omega
  rw [show ((max (max a b) c : Nat) : Int) = max (max (a : Int) b) c by omega]
  simp [execOp, resolve, invoke, builtin, hx, hy, hz, h]
end

end Go.Proofs.Ytfmhnplkpohogaa

namespace Go.Proofs.Ytfmhnplkpohogaa

theorem grow_refl (w : World) (g : Nat) : w.grownBy w (some g) := ⟨rfl, rfl, rfl, Nat.le_refl _, fun _ _ _ => rfl⟩
theorem grow_set {w w1 w2 : World} {g : Nat} (h : w.grownBy w1 (some g)) (k : w1.grownBy w2 (some g)) : w.grownBy w2 (some g) :=
  ⟨k.os.trans h.os, k.tape.trans h.tape, k.output.trans h.output, Nat.le_trans h.size k.size, fun i hi hn => (k.block i (Nat.lt_of_lt_of_le hi h.size) hn).trans (h.block i hi hn)⟩
end Go.Proofs.Ytfmhnplkpohogaa

namespace Go.Proofs.Ytfmhnplkpohogaa
open Go.RowKit

section
variable {P : Program} {ops : Array Oper} {Q : Exit → Act → World → Prop} {n r : Nat} {K : Act → World → Prop} {a : Act} {w : World} {o : Oper}
/-- an operation that is no defer statement -/
def noDefer (o : Oper) : Bool := match o.op with | .defer _ => false | _ => true
theorem noDefer_ne {o : Oper} (h : noDefer o = true) : ∀ c, o.op ≠ .defer c := fun c e => by rw [noDefer, e] at h; cases h
theorem uponIn_of (hQ : ¬ LetsOut Q) {x : Result Next} (h : o.upon P a K Q x) : o.uponIn (Fence.wide.inRound r) n P a K Q x := by
  cases x with
  | ok x w' =>
    cases x with
    | value v => exact h
    | skip => exact h
    | defer d => exact h
    | enter f args =>
      refine ⟨(fun h => (by cases h)), (CallsIn.inRound r (callsIn_wide.2 h)).mono fun e w he => ?_⟩
      cases e <;> exact he
    | row row args => exact ⟨(fun h => (by cases h)), fun c cs _ => let ⟨v, w', q, s⟩ := h c cs; ⟨v, w', q, stepsIn_wide.2 s⟩⟩
    | _ => exact h.elim
  | halt x w' =>
    cases x with
    | panic v => exact h
    | _ => exact h.elim
theorem wpListIn_of (hQ : ¬ LetsOut Q) : ∀ (l : List Oper) (a : Act) (w : World), l.all noDefer = true → wpList P ops Q l a w → wpListIn (Fence.wide.inRound r) n P ops Q l a w
  | [], _, _, _, h => h
  | o :: l, a, w, hd, h => by
    rw [List.all_cons, Bool.and_eq_true] at hd
    unfold wpList at h
    unfold wpListIn
    split
    · rename_i hw
      rw [if_pos hw] at h
      rcases h with h | ⟨_, h⟩
      · refine ⟨fun _ _ => trivial, ?_⟩
        rw [Fence.inRound_round, Oper.semAt_some r _ _ (noDefer_ne hd.1)]
        exact uponIn_of hQ (Oper.wp_mono (fun a w => wpListIn_of hQ l a w hd.2) h)
      · exact absurd h hQ
    · rename_i hw
      rw [if_neg hw] at h
      exact ⟨fun _ _ => trivial, wpListIn_of hQ l _ _ hd.2 h⟩
/-- a region in a round, by its plain walk -/
theorem region_in {id : Nat} {l : List Oper} (hd : l.all noDefer = true) (hQ : ¬ LetsOut Q) (h : wpList P l.toArray Q l a w) : (Code.region id l.toArray false).wpIn (Fence.wide.inRound r) n P Q a w :=
  wpIn_region_lit (wpListIn_of hQ l a w hd h)
end

/-- An iterator (function gf on lb) hands out the elements xs, each so that G holds, as_ long as_ H holds of the world. -/
def Iter (P : Program) (gf : Nat) (lb : Array Value) (B : Nat) {α : Type} (H : World → Prop) (G : α → Array Value → World → Prop) (xs : List α) : Prop :=
  ∀ (l : Nat) (J : List α → World → Prop) (W : World), (∀ pre W W', J pre W → Ext W W' → J pre W') → (∀ pre W, J pre W → H W ∧ B ≤ W.heap.size) →
    (∀ pre x args W, J pre W → G x args W → (∃ t, xs = pre ++ x :: t) → YieldAt Fence.wide 9 P l args W fun e W' => e = .returned (.bool true) ∧ J (pre ++ [x]) W') → J [] W →
    Calls P gf (#[.func (.yield l) #[] #[]] ++ lb) W fun e W' => (∃ v, e = .returned v) ∧ J xs W'

theorem ext_put {W : World} {l : Nat} (o : Obj) : W.grownBy (W.putObj l o) (some l) := grownBy_putObj' W l o
theorem same_ext {W W' : World} (h : Ext W W') {k : Nat} {o : Obj} (hk : W.heap[k]? = some o) : W'.heap[k]? = some o := (h.below.block k (Array.getElem?_eq_some_iff.1 hk).1).trans hk

section
variable {P : Program} {Q : Exit → Act → World → Prop} {a : Act} {w : World}
/-- 'for x := range seq { body }', where no round leaves the loop -/
theorem wp_range {α : Type} {g : Operand} {ps : Array Tmp} {assign body : Code} {gf : Nat} {lb : Array Value} (hd : a.defers = []) (hg : a.eval g = .func (.func gf) #[] lb) (eg : ∀ args w, (callFunc gf args).run P w = .ok (.enter gf args) w)
    {H : World → Prop} {G : α → Array Value → World → Prop} {xs : List α} (hit : Iter P gf lb (w.heap.size + 2) H G xs)
    (I : List α → World → Prop) (hIE : ∀ pre W W', I pre W → Ext W W' → I pre W')
    (hIl : ∀ pre W W', I pre W → W.grownBy W' (some (w.heap.size + 1)) → (∃ o : Obj, W.heap[w.heap.size + 1]? = some o ∧ o.isCells = false) → I pre W')
    (h0 : ∀ W, Ext w W → W.heap.size = w.heap.size + 2 → I [] W) (hH : ∀ pre W, I pre W → H W)
    (hround : ∀ pre x args W, I pre W → G x args W → (∃ t, xs = pre ++ x :: t) → w.heap.size + 2 ≤ W.heap.size → args.size = ps.size ∧
      assign.wpIn (Fence.wide.inRound (w.heap.size + 1)) 9 P (Exit.then (fun a₁ W₁ => W₁ = W ∧ ∀ W₂, W.grownBy W₂ (some (w.heap.size + 1)) → (∃ o : Obj, W.heap[w.heap.size + 1]? = some o ∧ o.isCells = false) → I pre W₂ →
        body.wpIn (Fence.wide.inRound (w.heap.size + 1)) 9 P (fun e a₂ W₃ => e = .normal ∧ I (pre ++ [x]) W₃ ∧ KeepsOthers W₂ W₃) a₁ W₂) (fun _ _ _ => False))
        { tmps := (ps.zip args).foldl (fun t (p, v) => t.setIfInBounds p v) a.tmps, defers := [] } W)
    (hdone : ∀ W, I xs W → W.heap[w.heap.size]? = some (.deferred (some [])) → w.heap.size + 2 ≤ W.heap.size → Q .normal { a with defers := [{ target := .collected w.heap.size, args := #[] }] } W) :
    (Code.rangeFunc g ps assign body).wp P Q a w := by
  refine wpIn_wide.1 (wpIn_rangeFunc (n := 10) ?_)
  intro fn hfn
  obtain ⟨rec, hrec⟩ : ∃ rec : LoopState → Option Code → Loop, rec = fun st pe => { state := st, pending := pe, fn, tmps := a.tmps, params := ps, assign, body, defers := w.heap.size } := ⟨_, rfl⟩
  obtain ⟨W1, hW1⟩ : ∃ W1, (w.alloc (.deferred (some []))).alloc (.loop (rec .ready none)) = W1 := ⟨_, rfl⟩
  have hL1 : W1.heap[w.heap.size + 1]? = some (.loop (rec .ready none)) := by
    rw [← hW1]; have := World.alloc_heap_new (w.alloc (.deferred (some []))) (.loop (rec .ready none)); rwa [World.size_alloc] at this
  have hK1 : W1.heap[w.heap.size]? = some (.deferred (some [])) := by
    rw [← hW1]; exact (Below.heap_alloc _ _ _ (by simp)).trans (World.alloc_heap_new w _)
  have hx1 : Ext w W1 := by rw [← hW1]; exact ((Ext.refl w).alloc _).alloc _
  have hs1 : W1.heap.size = w.heap.size + 2 := by rw [← hW1]; simp
  refine ⟨w.heap.size + 1, [{ target := .collected w.heap.size, args := #[] }], W1, { target := .fn (.func gf) lb, args := #[.func (.yield (w.heap.size + 1)) #[] #[]] }, W1, gf,
    #[.func (.yield (w.heap.size + 1)) #[] #[]] ++ lb, W1, ?_, ?_, fun _ _ => trivial, ?_, (fun h => (by cases h)), ?_⟩
  · rw [← hW1, hrec]; exact run_enterLoop_outer _ _ _ _ _
  · simp only [resolve, hg]
    simp [go_sem]
  · simp [invoke, go_sem, eg]
  · refine callsIn_wide.2 ((hit (w.heap.size + 1)
      (fun pre W => I pre W ∧ W.heap[w.heap.size + 1]? = some (.loop (rec .ready none)) ∧ W.heap[w.heap.size]? = some (.deferred (some [])) ∧ w.heap.size + 2 ≤ W.heap.size) W1
      (fun pre W W' ⟨h1, h2, h3, h4⟩ hx => ⟨hIE _ _ _ h1 hx, same_ext hx h2, same_ext hx h3, Nat.le_trans h4 hx.size⟩)
      (fun pre W h => ⟨hH _ _ h.1, h.2.2.2⟩) ?_ ⟨h0 _ hx1 hs1, hL1, hK1, by omega⟩).mono ?_)
    · rintro pre x args W ⟨hi, hl, hk, hsz⟩ hgx hpx
      obtain ⟨hps, has⟩ := hround pre x args W hi hgx hpx hsz
      have hy := run_yield (P := P) (args := args) hl (by rw [hrec]; exact hps)
      rw [hrec] at hy
      refine ⟨fn, _, assign, body, hy, roundIn_of_wpIn hfn (Go.wpIn_mono has ?_)⟩
      intro e a1 W1 hp
      cases e with
      | normal =>
        obtain ⟨rfl, hp⟩ := hp
        have hlt : w.heap.size + 1 < W1.heap.size := by omega
        refine ⟨_, run_beginRound hl (by rw [hrec]), ?_⟩
        obtain ⟨W2, hW2⟩ : ∃ W2, W1.putObj (w.heap.size + 1) (.loop { rec .ready none with state := .busy }) = W2 := ⟨_, rfl⟩
        have hg2 : W1.grownBy W2 (some (w.heap.size + 1)) := by rw [← hW2]; exact ext_put _
        have hl2 : W2.heap[w.heap.size + 1]? = some (.loop { rec .ready none with state := .busy }) := by rw [← hW2]; exact World.putObj_heap_same hlt
        have hk2 : W2.heap[w.heap.size]? = some (.deferred (some [])) := by rw [← hW2]; exact (World.putObj_heap_other (by omega)).trans hk
        rw [hW2]
        refine Go.wpIn_mono (hp W2 hg2 ⟨_, hl, rfl⟩ (hIl _ _ _ hi hg2 ⟨_, hl, rfl⟩)) ?_
        rintro e a2 W3 ⟨rfl, hi3, hko⟩
        have hl3 := hko.same _ _ hl2 rfl
        have hk3 := hko.same _ _ hk2 rfl
        have hlt3 := (Array.getElem?_eq_some_iff.1 hl3).1
        have hend := run_endRound (P := P) none hl3
        refine ⟨_, _, hend, rfl, hIl _ _ _ hi3 (ext_put _) ⟨_, hl3, rfl⟩, ?_, (World.putObj_heap_other (by omega)).trans hk3, by rw [World.putObj_size]; omega⟩
        rw [World.putObj_heap_same hlt3, hrec]; rfl
      | _ => exact hp.elim
    · rintro e W2 ⟨⟨v, rfl⟩, hi, hl, hk, hsz⟩
      refine ⟨none, _, by have := run_endLoop (P := P) hl (by rw [hrec]; simp); rw [hrec] at this; exact this, ?_⟩
      have := hdone (W2.putObj (w.heap.size + 1) (.loop { rec .ready none with state := .exhausted })) (hIl _ _ _ hi (ext_put _) ⟨_, hl, rfl⟩) ((World.putObj_heap_other (by omega)).trans hk) (by rw [World.putObj_size]; exact hsz)
      rw [hrec] at this
      rw [hd]
      exact this
end

/-! a function that holds such a loop -/
variable {N : Nat} {m : List (Nat × Value)} {a : Act}
theorem calls_enterM {P : Program} {f : FuncId} {fn : Func} {c : Code} {l : List Value} {w : World} {R : Ending → World → Prop} (hf : P.funcs[f]? = some fn) (hb : fn.body = some c) (hn : fn.ntmps = N) (hl : Nat.ble l.length N = true)
    (h : ∀ a, Sl N (argList 0 l) a → c.wp P (bodyPostM Fence.wide 9 P fn R) a w) : Calls P f l.toArray w R := by
  refine callsIn_wide.1 (callsIn_of_wp_marks (n := 9) hf hb trivial (wpIn_wide.2 (h _ ?_)))
  rw [hn]
  refine Sl.args l _ N ?_
  have : l.length ≤ N := by simpa using hl
  simp; omega
section
variable {P : Program} {fn : Func} {R : Ending → World → Prop} {w : World}
theorem retM (h : bodyPost P fn R .ret a w) : bodyPostM Fence.wide 9 P fn R .ret a w := by
  obtain ⟨h1, h2⟩ := h
  show LeavesInM Fence.wide 9 P fn a.tmps R a.defers .returning w
  rw [h1]; exact h2
/-- past the mark -/
theorem retMD {D : Nat} (hd : a.defers = [{ target := .collected D, args := #[] }]) (hk : w.heap[D]? = some (.deferred (some []))) (h : ∀ w', w.grownBy w' (some D) → bodyPost P fn R .ret { a with defers := [] } w') : bodyPostM Fence.wide 9 P fn R .ret a w := by
  obtain ⟨_, h2⟩ := h _ (ext_put (W := w) (l := D) (.deferred none))
  show LeavesInM Fence.wide 9 P fn a.tmps R a.defers .returning w
  rw [hd]
  exact ⟨by simp, .inl ⟨D, _, rfl, run_takeDeferred hk, h2⟩⟩
end
/-- the frame's slots, and what is deferred -/
def SlD (ds : List Deferred) (N : Nat) (m : List (Nat × Value)) (a : Act) : Prop := Sl N m { a with defers := [] } ∧ a.defers = ds
variable {ds : List Deferred}
theorem SlD.of (h : Sl N m a) : SlD ds N m { a with defers := ds } := ⟨⟨h.1, rfl, h.2.2⟩, rfl⟩
theorem SlD.get (h : SlD ds N m a) {t : Nat} {v : Value} (e : look m t = some v) : a.eval (.tmp t) = v := h.1.2.2 t v e
theorem SlD.put (h : SlD ds N m a) {d : Nat} {v : Value} (hd : Nat.blt d N = true) : SlD ds N ((d, v) :: m) (a.put (some d) v) := ⟨h.1.put hd, h.2⟩
theorem SlD.nil (h : SlD ds N m a) : SlD ds N [] a := ⟨h.1.nil, h.2⟩
theorem SlD.cons {m' : List (Nat × Value)} (h : SlD ds N m' a) {t : Nat} {v : Value} (e : a.eval (.tmp t) = v) : SlD ds N ((t, v) :: m') a := ⟨h.1.cons e, h.2⟩
section
variable {P : Program} {ops : Array Oper} {Q : Exit → Act → World → Prop} {i : Nat} {w w' : World} {o : Oper} {v : Value} {K : Act → World → Prop} {d : Nat}
theorem oD_val (hF : SlD ds N m a) (ho : ops[i]? = some o) (hw : Region.wanted o (yielded ops a.tmps) = true) (hd : o.dst = some d) (hN : Nat.blt d N = true)
    (hr : (execOp a.eval o).run P w = .ok (.value v) w) (h : ∀ a', SlD ds N ((d, v) :: m) a' → K a' w) : wpOp P ops Q i K a w :=
  op_run ho hw hr (hd ▸ h _ (hF.put hN))
theorem oD_store {ty : TypeId} {x y : Operand} (_hF : SlD ds N m a) (ho : ops[i]? = some o) (hw : Region.wanted o (yielded ops a.tmps) = true) (hd : o.dst = none) (hop : o.op = .store ty x y) {g : Nat} {t : TypeId} {old cells : List Value}
    (hx : a.eval x = .pointer (some ⟨g, 0, none⟩)) (hy : a.eval y = .agg cells.toArray) (hg : Blk w g t old) (hi : (P.info? ty).map (·.size) = some cells.length) (hl : old.length = cells.length) (h1 : ∀ u ∈ cells, u.oneCell' = true)
    (h : ∀ w', Blk w' g t cells → w.grownBy w' (some g) → K a w') : wpOp P ops Q i K a w :=
  op_store ho hw hop hx hy hg hi hl h1 fun w' h1 h2 => by rw [hd]; exact h w' h1 h2
theorem oD_store1 {ty : TypeId} {x y : Operand} (_hF : SlD ds N m a) (ho : ops[i]? = some o) (hw : Region.wanted o (yielded ops a.tmps) = true) (hd : o.dst = none) (hop : o.op = .store ty x y) {g j : Nat} {t : TypeId} {old : List Value} {u : Value}
    (hx : a.eval x = .pointer (some ⟨g, j, none⟩)) (hy : a.eval y = u) (hg : Blk w g t old) (hi : (P.info? ty).map (·.size) = some 1) (hj : j < old.length) (h1 : u.oneCell' = true) {new : List Value} (hn : old.set j u = new)
    (h : ∀ w', Blk w' g t new → w.grownBy w' (some g) → K a w') : wpOp P ops Q i K a w :=
  op_store1 ho hw hop hx hy hg hi hj h1 fun w' h1 h2 => by rw [hd]; exact h w' (hn ▸ h1) h2
/-- the frame of a round of a loop over pairs -/
theorem Sl.round2 (h : Sl N m a) {p q : Nat} {v u : Value} (hp : Nat.blt p N = true) (hq : Nat.blt q N = true) : Sl N ((q, u) :: (p, v) :: m) { tmps := (#[p, q].zip #[v, u]).foldl (fun t (p, v) => t.setIfInBounds p v) a.tmps, defers := [] } := by
  have := (h.put (v := v) hp).put (v := u) hq
  exact ⟨by simpa [Act.put] using this.1, rfl, by simpa [Act.put, Act.eval] using this.2.2⟩
/-! a region with a call of yield -/
theorem wide_val {rest : List Oper} (hF : Sl N m a) (hw : Region.wanted o (yielded ops a.tmps) = true) (hd : o.dst = some d) (hN : Nat.blt d N = true)
    (hr : (execOp a.eval o).run P w = .ok (.value v) w) (h : ∀ a', Sl N ((d, v) :: m) a' → wpListIn Fence.wide 10 P ops Q rest a' w) : wpListIn Fence.wide 10 P ops Q (o :: rest) a w := by
  unfold wpListIn
  rw [if_pos hw]
  refine ⟨fun _ _ => trivial, ?_⟩
  show o.uponIn Fence.wide 10 P a _ Q ((execOp a.eval o).run P w)
  rw [hr]
  exact h _ (by rw [hd]; exact hF.put hN)
theorem wide_yield {rest : List Oper} (hF : Sl N m a) (hw : Region.wanted o (yielded ops a.tmps) = true) (hd : o.dst = some d) (hN : Nat.blt d N = true) {l : Nat} {args : Array Value} {R : Ending → World → Prop}
    (hr : (execOp a.eval o).run P w = (Instr.yield l args).run P w) (hy : YieldAt Fence.wide 9 P l args w R) (h : ∀ e w', R e w' → ∃ v, e = .returned v ∧ ∀ a', Sl N ((d, v) :: m) a' → wpListIn Fence.wide 10 P ops Q rest a' w') : wpListIn Fence.wide 10 P ops Q (o :: rest) a w := by
  unfold wpListIn
  rw [if_pos hw]
  refine ⟨fun _ _ => trivial, ?_⟩
  show o.uponIn Fence.wide 10 P a _ Q ((execOp a.eval o).run P w)
  obtain ⟨fn, tmps, assign, body, hy1, hy2⟩ := hy
  rw [hr, hy1]
  refine ⟨(fun h => (by cases h)), hy2.mono fun e w' hR => ?_⟩
  obtain ⟨v, rfl, hk⟩ := h e w' hR
  exact hk _ (by rw [hd]; exact hF.put hN)
theorem rn_yield {P : Program} {ρ : Operand → Value} {W : World} {d : Option Tmp} {t : TypeId} {p : String} {af : Array Edge} {g : Option (Nat × Bool)} {x : Operand} {l : Nat} {xs : Array Operand} {ts : Array TypeId} {vs : Array Value} (hf : ρ x = .func (.yield l) #[] #[]) (ha : xs.map ρ = vs) :
    (execOp ρ ⟨d, .call { callee := .value x, args := xs, argTypes := ts }, t, p, af, g⟩).run P W = (Instr.yield l vs).run P W := by
  simp [execOp, resolve, hf, ha, Deferred.ofValue, invoke]
end

theorem KeepsOthers.of_ext {w w' : World} (h : Ext w w') : KeepsOthers w w' := ⟨h.size, fun _ _ hk _ => same_ext h hk⟩
theorem KeepsOthers.blk {w w' : World} {g : Nat} {t : TypeId} {cs : List Value} (h : w.grownBy w' (some g)) (hb : Blk w g t cs) : KeepsOthers w w' :=
  KeepsOthers.of_grownBy h fun j o hj ho => by
    injection hj with hj
    subst hj
    rw [show w.heap[g]? = _ from hb] at ho
    injection ho with ho
    subst ho
    rfl
theorem KeepsOthers.own {w w' : World} {base : Nat} {e : TypeId} {k n : Nat} {v : Value} {xs : List Value} (h : w.grownBy w' v.ownBlock) (hr : w.ownsRow base e k v n xs) : KeepsOthers w w' :=
  KeepsOthers.of_grownBy h fun j o hj ho => by
    rcases hr.2 with ⟨rfl, _⟩ | ⟨g, cap, cur, rfl, _, hg, _⟩
    · cases hj
    · injection hj with hj
      subst hj
      rw [hg] at ho
      injection ho with ho
      subst ho
      rfl

end Go.Proofs.Ytfmhnplkpohogaa

namespace Go.Proofs.Ytfmhnplkpohogaa
open Go.RowKit

variable {S S' : Nat → Prop}

/-- the values vs read as_ the byte strings l, each from blocks from base on, none of them the row's own -/
def RVs (base : Nat) (v : Value) (w : World) (vs : List Value) (l : List (List UInt8)) : Prop :=
  vs.length = l.length ∧ ∀ i (h : i < l.length) (h' : i < vs.length), RBs (fun b => base ≤ b ∧ some b ≠ v.ownBlock) w vs[i] l[i]
theorem RVs.nil (base : Nat) (v : Value) (w : World) : RVs base v w [] [] := ⟨rfl, fun i h => absurd h (by simp)⟩
theorem RVs.ext {base : Nat} {v : Value} {w w' : World} {vs : List Value} {l : List (List UInt8)} (h : RVs base v w vs l) (hx : Ext w w') : RVs base v w' vs l := ⟨h.1, fun i h1 h2 => (h.2 i h1 h2).ext hx⟩
theorem RVs.set {base g : Nat} {v : Value} {w w' : World} {vs : List Value} {l : List (List UInt8)} (h : RVs base v w vs l) (hg : w.grownBy w' (some g)) (hb : g < base) : RVs base v w' vs l :=
  ⟨h.1, fun i h1 h2 => (h.2 i h1 h2).keep hg.size fun b hb1 hlt => hg.block b hlt (fun e => by injection e with e; omega)⟩
/-- the row moves on to v' (by an append) -/
theorem RVs.app {base : Nat} {v v' : Value} {w w' : World} {vs : List Value} {l : List (List UInt8)} (h : RVs base v w vs l) (hg : w.grownBy w' v.ownBlock) (hn : ∀ g, g < w.heap.size → some g ≠ v.ownBlock → some g ≠ v'.ownBlock) : RVs base v' w' vs l :=
  ⟨h.1, fun i h1 h2 => ((h.2 i h1 h2).subB (S' := fun b => (base ≤ b ∧ some b ≠ v'.ownBlock) ∧ some b ≠ v.ownBlock) fun b hlt hb => ⟨⟨hb.1, hn b hlt hb.2⟩, hb.2⟩).keep hg.size (fun b hb1 hlt => hg.block b hlt hb1.2) |>.sub fun b hb => hb.1⟩
theorem RVs.snoc {base : Nat} {v : Value} {w : World} {vs : List Value} {l : List (List UInt8)} (h : RVs base v w vs l) {u : Value} {x : List UInt8} (hu : RBs S w u x) (hS : ∀ b, b < w.heap.size → S b → base ≤ b ∧ some b ≠ v.ownBlock) : RVs base v w (vs ++ [u]) (l ++ [x]) := by
  refine ⟨by simp [h.1], fun i h1 h2 => ?_⟩
  by_cases hi : i < l.length
  · rw [List.getElem_append_left hi, List.getElem_append_left (by rw [h.1]; exact hi)]
    exact h.2 i hi _
  · simp only [List.length_append, List.length_singleton] at h1
    have e : i = l.length := by omega
    subst e
    rw [List.getElem_append_right (Nat.le_refl _), List.getElem_append_right (by rw [h.1]; exact Nat.le_refl _)]
    simp only [h.1, Nat.sub_self, List.getElem_cons_zero]
    exact hu.subB hS
theorem RVs.one {base : Nat} {v : Value} {w : World} {vs : List Value} {l : List (List UInt8)} (h : RVs base v w vs l) : ∀ u ∈ vs, u.oneCell' = true := fun u hu => by
  obtain ⟨i, hi, rfl⟩ := List.getElem_of_mem hu
  exact RBs.one (h.2 i (by rw [← h.1]; exact hi) hi)
/-- the row with its values: a slice of slices -/
theorem RVs.bss {base : Nat} {e : TypeId} {v : Value} {n : Nat} {w : World} {vs : List Value} {l : List (List UInt8)} (h : RVs base v w vs l) (hr : w.ownsRow base e 1 v n vs) : RBss (fun b => base ≤ b) w v l := by
  have hl := hr.1
  refine RSl.own hr (fun b hb => hb) (by have := h.1; omega) h.one fun i hi => ?_
  have hi' : i < vs.length := by rw [h.1]; exact hi
  rw [chunk_one hi']
  exact ⟨_, rfl, (h.2 i hi hi').sub fun b hb => hb.1⟩
theorem own_blk_lt {w : World} {base : Nat} {e : TypeId} {k n : Nat} {v : Value} {xs : List Value} (h : w.ownsRow base e k v n xs) : ∀ g, some g = v.ownBlock → g < w.heap.size := fun g hg => by
  rcases h.2 with ⟨rfl, _⟩ | ⟨g', cap, cur, rfl, _, hh, _⟩
  · cases hg
  · injection hg with hg
    subst hg
    exact (Array.getElem?_eq_some_iff.1 hh).1
/-- bytes of a row of the call's own: they lie in the row's block alone -/
theorem own_rbs {w : World} {base : Nat} {e : TypeId} {v : Value} {n : Nat} {l : List UInt8} (h : w.ownsRow base e 1 v n (byteVals l)) : RBs (fun b => some b = v.ownBlock) w v l := by
  have hl : l.length = n := by have := h.1; rw [byteVals_len rfl] at this; omega
  subst hl
  rcases h.2 with ⟨rfl, h0⟩ | ⟨g, cap, cur, rfl, _, hg, hnc, hcm, hcs, htake⟩
  · have : l = [] := List.eq_nil_of_length_eq_zero h0
    subst this
    exact RSl.nil _
  · have hB : Blk w g e cur.toList := by show w.heap[g]? = _; rw [hg]
    refine Fl.rbs (n := l.length) ⟨_, cap, rfl, ⟨hnc, by simpa [maxLen] using hcm⟩, ⟨by rw [byteVals_len rfl, Nat.mul_one], byteVals_one _, fun _ => ⟨g, 0, rfl, hB.lt, fun j u hu => ?_⟩⟩, fun _ => ⟨g, 0, rfl, rfl⟩⟩
    rw [← htake, List.getElem?_take] at hu
    rw [Nat.zero_add, hB.rule.1]
    split at hu
    · exact hu
    · cases hu
theorem own_types {w : World} {base base' : Nat} {e e' : TypeId} {k k' n n' : Nat} {v u : Value} {xs ys : List Value} (h : w.ownsRow base e k v n xs) (h' : w.ownsRow base' e' k' u n' ys) (hne : e ≠ e') : ∀ b, some b = v.ownBlock → some b ≠ u.ownBlock := fun b hb hu => by
  rcases h.2 with ⟨rfl, _⟩ | ⟨g, cap, cur, rfl, _, hg, _⟩
  · cases hb
  · rcases h'.2 with ⟨rfl, _⟩ | ⟨g', cap', cur', rfl, _, hg', _⟩
    · cases hu
    · injection hb with hb
      injection hu with hu
      subst hb
      subst hu
      rw [hg] at hg'
      injection hg' with hg'
      injection hg' with _ h1 _
      exact hne h1
theorem own_ge {w : World} {base : Nat} {e : TypeId} {k n : Nat} {v : Value} {xs : List Value} (h : w.ownsRow base e k v n xs) : ∀ g, some g = v.ownBlock → base ≤ g := fun g hg => by
  rcases h.2 with ⟨rfl, _⟩ | ⟨g', cap, cur, rfl, hb, _⟩
  · cases hg
  · injection hg with hg
    subst hg
    exact hb
/-- a slice of slices, one more behind it, in a row of its own -/
theorem RBss.full {w w' : World} {S2 : Nat → Prop} {A : Option Addr} {n c : Nat} {l : List (List UInt8)} {u : Value} {x : List UInt8} {e : TypeId} {v' : Value} {xs : List Value} (h : RBss S w (.slice A n c) l) (hc : Cel w 1 A n xs) (hu : RBs S2 w u x) (hr : w'.ownsRow w.heap.size e 1 v' (n + 1) (xs ++ [u])) (hx : Ext w w') :
    RBss (fun b => (S b ∨ S2 b) ∨ w.heap.size ≤ b) w' v' (l ++ [x]) := by
  obtain ⟨hn, hcc, ys, hcy, hys⟩ := RSl.cel h
  subst hn
  have exy : xs = ys := by
    refine List.ext_getElem? fun j => ?_
    have e1 : xs.length = l.length := by have := hc.1; omega
    have e2 : ys.length = l.length := by have := hcy.1; omega
    by_cases hj : j < l.length
    · obtain ⟨b, off, ha, _, hx1⟩ := hc.2.2 (by omega)
      obtain ⟨b', off', ha', _, hx2⟩ := hcy.2.2 (by omega)
      rw [ha] at ha'; injection ha' with ha'; injection ha' with a1 a2
      subst a1
      subst a2
      rw [List.getElem?_eq_getElem (by omega), List.getElem?_eq_getElem (by omega), ← hx1 j _ (List.getElem?_eq_getElem (by omega)), ← hx2 j _ (List.getElem?_eq_getElem (by omega))]
    · rw [List.getElem?_eq_none (by omega), List.getElem?_eq_none (by omega)]
  subst exy
  have e1 : xs.length = l.length := by have := hc.1; omega
  refine RSl.own hr (fun b hb => .inr hb) (by simp) ?_ fun i hi => ?_
  · intro z hz
    rcases List.mem_append.1 hz with hz | hz
    · exact hc.2.1 z hz
    · rw [List.mem_singleton.1 hz]; exact RBs.one hu
  · rw [chunk_one (by simp at hi ⊢; omega)]
    by_cases h2 : i < l.length
    · rw [List.getElem_append_left h2, List.getElem_append_left (by omega)]
      obtain ⟨z, hz, hr2⟩ := hys i h2
      rw [chunk_one (by omega)] at hz
      injection hz with hz
      exact ⟨_, rfl, hz ▸ (hr2.sub fun b hb => .inl (.inl hb)).ext hx⟩
    · simp only [List.length_append, List.length_singleton] at hi
      have e : i = l.length := by omega
      subst e
      rw [List.getElem_append_right (Nat.le_refl _), List.getElem_append_right (by omega)]
      simp only [e1, Nat.sub_self, List.getElem_cons_zero]
      exact ⟨_, rfl, (hu.sub fun b hb => .inl (.inr hb)).ext hx⟩

theorem ret0r {N : Nat} {m : List (Nat × Value)} {a : Act} {P : Program} {fn : Func} {R : Ending → World → Prop} {w : World} (hF : Sl N m a) (hr : fn.results = #[]) (h : R (.returned (.tuple #[])) w) : bodyPost P fn R .ret a w :=
  ⟨hF.2.1, .tuple #[], by simp [results, hr], h⟩

end Go.Proofs.Ytfmhnplkpohogaa

namespace Go.Proofs.Ytfmhnplkpohogaa

theorem snoc_ind {α : Type} {P : List α → Prop} (h0 : P []) (h1 : ∀ a c, P a → P (a ++ [c])) (l : List α) : P l := by
  have h : ∀ r : List α, P r.reverse := fun r => by
    induction r with
    | nil => exact h0
    | cons c r ih => rw [List.reverse_cons]; exact h1 _ _ ih
  have := h l.reverse
  rwa [List.reverse_reverse] at this

/-! numbers, most significant byte first -/
def num (b : List UInt8) : Nat := b.foldl (fun n c => 256 * n + c.toNat) 0
theorem num_app (a : List UInt8) (c : UInt8) : num (a ++ [c]) = 256 * num a + c.toNat := by simp [num, List.foldl_append]
theorem num_lt (b : List UInt8) : num b < 256 ^ b.length := by
  refine snoc_ind (P := fun b => num b < 256 ^ b.length) (by simp [num]) (fun a c ih => ?_) b
  · rw [num_app, List.length_append, List.length_singleton, Nat.pow_succ]; have := c.toNat_lt; omega
def numL (n : Nat) : Nat → List UInt8
  | 0 => []
  | k + 1 => numL (n / 256) k ++ [UInt8.ofNat n]
theorem numL_len (n : Nat) : ∀ k, (numL n k).length = k
  | 0 => rfl
  | k + 1 => by rw [numL, List.length_append, numL_len _ k]; rfl
theorem num_numL (n : Nat) : ∀ k, num (numL n k) = n % 256 ^ k
  | 0 => by simp [numL, num, Nat.mod_one]
  | k + 1 => by
    rw [numL, num_app, num_numL _ k, UInt8.toNat_ofNat', show 256 ^ (k + 1) = 256 * 256 ^ k by rw [Nat.pow_succ, Nat.mul_comm], Nat.mod_mul]
    omega
theorem numL_getD (n : Nat) : ∀ (k i : Nat), i < k → (numL n k).getD (k - 1 - i) 0 = UInt8.ofNat (n / 256 ^ i)
  | 0, i, h => absurd h (by omega)
  | k + 1, 0, _ => by rw [numL, List.getD_eq_getElem?_getD, List.getElem?_append_right (by rw [numL_len]; omega), numL_len]; simp
  | k + 1, i + 1, h => by
    have := numL_getD (n / 256) k i (by omega)
    rw [List.getD_eq_getElem?_getD] at this
    rw [numL, List.getD_eq_getElem?_getD, List.getElem?_append_left (by rw [numL_len]; omega), show k + 1 - 1 - (i + 1) = k - 1 - i by omega, this, Nat.div_div_eq_div_mul, Nat.pow_succ, Nat.mul_comm]

/-! the checksum -/
def crcBit (n : UInt32) : UInt32 := (n >>> 1) ^^^ (3988292384 * (n &&& 1))
def crcTo (n : UInt32) : Nat → UInt32
  | 0 => n
  | k + 1 => crcBit (crcTo n k)
def crcByte (n : UInt32) (c : UInt8) : UInt32 := crcTo (n ^^^ c.toUInt32) 8
def crcL (b : List UInt8) : UInt32 := b.foldl crcByte 4294967295
def crc (b : List UInt8) : UInt32 := ~~~ crcL b
theorem crcL_app (a : List UInt8) (c : UInt8) : crcL (a ++ [c]) = crcByte (crcL a) c := by simp [crcL, List.foldl_append]
theorem bit_or (n : UInt32) : n &&& 1 = 0 ∧ n.toNat % 2 = 0 ∨ n &&& 1 = 1 ∧ n.toNat % 2 = 1 := by
  have h : (n &&& 1).toNat = n.toNat % 2 := by rw [UInt32.toNat_and]; exact Nat.and_one_is_mod _
  rcases Nat.mod_two_eq_zero_or_one n.toNat with h0 | h0
  · exact .inl ⟨by rw [← UInt32.toNat_inj, h, h0]; rfl, h0⟩
  · exact .inr ⟨by rw [← UInt32.toNat_inj, h, h0]; rfl, h0⟩
theorem crcBit_even {n : UInt32} (h : n.toNat % 2 = 0) : crcBit n = n >>> 1 := by
  rcases bit_or n with ⟨h1, _⟩ | ⟨_, h2⟩
  · rw [crcBit, h1]; simp
  · omega
theorem crcBit_odd {n : UInt32} (h : n.toNat % 2 = 1) : crcBit n = (n >>> 1) ^^^ 3988292384 := by
  rcases bit_or n with ⟨_, h2⟩ | ⟨h1, _⟩
  · omega
  · rw [crcBit, h1]; rfl
theorem shr1 (n : UInt32) : (n >>> 1).toNat = n.toNat / 2 := by
  rw [UInt32.toNat_shiftRight]
  show n.toNat >>> (1 % 32) = _
  rw [Nat.shiftRight_eq_div_pow]
theorem crcBit_inj {a b : UInt32} (h : crcBit a = crcBit b) : a = b := by
  have ha := a.toNat_lt
  have hb := b.toNat_lt
  have sa := shr1 a
  have sb := shr1 b
  have key : ∀ {x y : UInt32}, x.toNat < 4294967296 → y.toNat < 4294967296 → (x >>> 1).toNat = x.toNat / 2 → (y >>> 1).toNat = y.toNat / 2 → x >>> 1 ≠ (y >>> 1) ^^^ 3988292384 := by
    intro x y hx hy h1 h2 he
    have h3 : (x >>> 1) ^^^ (y >>> 1) = 3988292384 := by rw [he, UInt32.xor_comm, ← UInt32.xor_assoc, UInt32.xor_self, UInt32.zero_xor]
    have h4 := congrArg UInt32.toNat h3
    rw [UInt32.toNat_xor, h1, h2] at h4
    have h5 : x.toNat / 2 ^^^ y.toNat / 2 < 2 ^ 31 := Nat.xor_lt_two_pow (by omega) (by omega)
    rw [h4] at h5
    exact absurd h5 (by decide)
  rcases Nat.mod_two_eq_zero_or_one a.toNat with p | p <;> rcases Nat.mod_two_eq_zero_or_one b.toNat with q | q
  · rw [crcBit_even p, crcBit_even q] at h
    have := congrArg UInt32.toNat h
    rw [← UInt32.toNat_inj]; omega
  · rw [crcBit_even p, crcBit_odd q] at h; exact absurd h (key ha hb sa sb)
  · rw [crcBit_odd p, crcBit_even q] at h; exact absurd h.symm (key hb ha sb sa)
  · rw [crcBit_odd p, crcBit_odd q, UInt32.xor_left_inj] at h
    have := congrArg UInt32.toNat h
    rw [← UInt32.toNat_inj]; omega
theorem crcTo_inj {a b : UInt32} : ∀ k, crcTo a k = crcTo b k → a = b
  | 0, h => h
  | k + 1, h => crcTo_inj k (crcBit_inj h)
theorem crcByte_l {a b : UInt32} {c : UInt8} (h : crcByte a c = crcByte b c) : a = b := by
  have := crcTo_inj 8 h
  rwa [UInt32.xor_left_inj] at this
theorem crcByte_r {a : UInt32} {c d : UInt8} (h : crcByte a c = crcByte a d) : c = d := by
  have h1 := crcTo_inj 8 h
  rw [UInt32.xor_right_inj] at h1
  have h2 := congrArg UInt32.toNat h1
  rw [UInt8.toNat_toUInt32, UInt8.toNat_toUInt32] at h2
  exact UInt8.toNat_inj.1 h2
theorem crcFold_l (l : List UInt8) : ∀ {a b : UInt32}, l.foldl crcByte a = l.foldl crcByte b → a = b := by
  induction l with
  | nil => exact id
  | cons c l ih => exact fun h => crcByte_l (ih h)
/-- another byte in one place: another checksum -/
theorem crc_set {b : List UInt8} {i : Nat} {c : UInt8} (hi : i < b.length) (h : crc (b.set i c) = crc b) : c = b.getD i 0 := by
  have h1 : crcL (b.set i c) = crcL b := by
    have := congrArg (fun x : UInt32 => ~~~ x) h
    simpa [crc] using this
  have e1 : b = b.take i ++ b.getD i 0 :: b.drop (i + 1) := by
    rw [List.getD_eq_getElem?_getD, List.getElem?_eq_getElem hi, Option.getD_some, ← List.drop_eq_getElem_cons hi, List.take_append_drop]
  have e2 : b.set i c = b.take i ++ c :: b.drop (i + 1) := List.set_eq_take_append_cons_drop.trans (if_pos hi)
  rw [e2, congrArg crcL e1, crcL, crcL, List.foldl_append, List.foldl_append, List.foldl_cons, List.foldl_cons] at h1
  exact crcByte_r (crcFold_l _ h1)

/-! sectors -/
def bodyL (k : Nat) (kd : UInt8) (b : List UInt8) : List UInt8 := numL k 2 ++ [kd, UInt8.ofNat b.length] ++ b ++ List.replicate (112 - b.length) 0
def encL (g k : Nat) (kd : UInt8) (b : List UInt8) : List UInt8 := numL g 4 ++ numL (crc (bodyL k kd b)).toNat 4 ++ bodyL k kd b ++ numL g 4
theorem bodyL_len {k : Nat} {kd : UInt8} {b : List UInt8} (h : b.length ≤ 112) : (bodyL k kd b).length = 116 := by
  simp [bodyL, numL_len]; omega
theorem encL_len {g k : Nat} {kd : UInt8} {b : List UInt8} (h : b.length ≤ 112) : (encL g k kd b).length = 128 := by
  simp [encL, numL_len, bodyL_len h]
def gen (s : List UInt8) : Nat := num (s.take 4)
def gen2 (s : List UInt8) : Nat := num (s.drop 124)
def kd (s : List UInt8) : UInt8 := s.getD 10 0
def cnt (s : List UInt8) : Nat := (s.getD 11 0).toNat
def dataL (s : List UInt8) : List UInt8 := (s.drop 12).take (cnt s)
def kindOk (n : Nat) (q : UInt8) : Prop := n ≤ 112 ∧ q.toNat ≤ 3 ∧ (q.toNat < 2 → n = 112) ∧ (q.toNat % 2 = 0 → n ≠ 0)
instance (n : Nat) (q : UInt8) : Decidable (kindOk n q) := by unfold kindOk; infer_instance
def goodS (s : List UInt8) (k : Nat) : Bool := decide (kindOk (cnt s) (kd s) ∧ 0 < gen s ∧ s = encL (gen s) k (kd s) (dataL s))
theorem goodS_len {s : List UInt8} {k : Nat} (h : goodS s k = true) : s.length = 128 := by
  unfold goodS at h
  have h := of_decide_eq_true h
  rw [h.2.2]
  exact encL_len (by simp only [dataL, List.length_take]; have := h.1.1; omega)

end Go.Proofs.Ytfmhnplkpohogaa

namespace Go.Proofs.Ytfmhnplkpohogaa

/-- the rest of a record from sector n on (all of generation g): its bytes, and how many sectors -/
def recFrom (g : Nat) : List (List UInt8) → Nat → Bool → Option (List UInt8 × Nat)
  | [], _, _ => none
  | s :: l, n, first =>
    if goodS s n = true ∧ decide ((kd s).toNat % 2 = 1) = first ∧ gen s = g then
      if 2 ≤ (kd s).toNat then some (dataL s, 1)
      else match recFrom g l (n + 1) false with
        | none => none
        | some (b, m) => some (dataL s ++ b, m + 1)
    else none
theorem recFrom_pos {g : Nat} : ∀ {l : List (List UInt8)} {n : Nat} {first : Bool} {b : List UInt8} {m : Nat}, recFrom g l n first = some (b, m) → 1 ≤ m ∧ m ≤ l.length
  | [], _, _, _, _, h => by cases h
  | s :: l, n, first, b, m, h => by
    rw [recFrom] at h
    split at h
    · split at h
      · cases h; simp
      · split at h
        · cases h
        · rename_i h2; cases h; have := recFrom_pos h2; simp; omega
    · cases h
/-- the records from sector n on; last: the generation of the one before -/
def recsF : Nat → List (List UInt8) → Nat → Nat → List (List UInt8)
  | 0, _, _, _ => []
  | f + 1, l, n, last =>
    match recFrom (gen (l.headD [])) l n true with
    | none => []
    | some (b, m) => if gen (l.headD []) < last then [] else b :: recsF f (l.drop m) (n + m) (gen (l.headD []))
def recsOf (l : List (List UInt8)) : List (List UInt8) := recsF (l.length + 1) l 0 0
theorem recsF_fuel : ∀ (f f' : Nat) (l : List (List UInt8)) (n last : Nat), l.length < f → l.length < f' → recsF f l n last = recsF f' l n last
  | 0, _, _, _, _, h, _ => absurd h (by omega)
  | _, 0, _, _, _, _, h => absurd h (by omega)
  | f + 1, f' + 1, l, n, last, h, h' => by
    rw [recsF, recsF]
    cases hr : recFrom (gen (l.headD [])) l n true with
    | none => rfl
    | some x =>
      obtain ⟨b, m⟩ := x
      have := recFrom_pos hr
      simp only
      rw [recsF_fuel f f' (l.drop m) (n + m) _ (by rw [List.length_drop]; omega) (by rw [List.length_drop]; omega)]
/-- the records from sector n on, of all sectors -/
def recsAt (l : List (List UInt8)) (n last : Nat) : List (List UInt8) := recsF (l.length + 1) l n last
theorem recsAt_none {l : List (List UInt8)} {n last : Nat} (h : recFrom (gen (l.headD [])) l n true = none) : recsAt l n last = [] := by
  rw [recsAt, recsF, h]
theorem recsAt_old {l : List (List UInt8)} {n last : Nat} (h : gen (l.headD []) < last) : recsAt l n last = [] := by
  rw [recsAt, recsF]
  split
  · rfl
  · rw [if_pos h]
theorem recsAt_some {l : List (List UInt8)} {n last : Nat} {b : List UInt8} {m : Nat} (h : recFrom (gen (l.headD [])) l n true = some (b, m)) (h2 : ¬ gen (l.headD []) < last) : recsAt l n last = b :: recsAt (l.drop m) (n + m) (gen (l.headD [])) := by
  rw [recsAt, recsF, h]
  have := recFrom_pos h
  simp only
  rw [if_neg h2, recsAt, recsF_fuel _ ((l.drop m).length + 1) _ _ _ (by rw [List.length_drop]; omega) (by omega)]

/-! sectors that a record occupies -/
def secs (n : Nat) : Nat := max 1 ((n + 111) / 112)
theorem secs_le {n : Nat} (h : n ≤ 112) : secs n = 1 := by unfold secs; omega
theorem secs_gt {n : Nat} (h : 112 < n) : secs n = secs (n - 112) + 1 := by unfold secs; omega
theorem secs_pos (n : Nat) : 1 ≤ secs n := by unfold secs; omega
def usedL (l : List (List UInt8)) : Nat := (l.map fun b => secs b.length).sum
theorem usedL_nil : usedL [] = 0 := rfl
theorem usedL_cons (b : List UInt8) (l : List (List UInt8)) : usedL (b :: l) = secs b.length + usedL l := by simp [usedL]
theorem usedL_app (a b : List (List UInt8)) : usedL (a ++ b) = usedL a + usedL b := by simp [usedL]
theorem usedL_len : ∀ l : List (List UInt8), l.length ≤ usedL l
  | [] => by simp
  | b :: l => by have := usedL_len l; have := secs_pos b.length; rw [usedL_cons, List.length_cons]; omega
theorem data_len {s : List UInt8} {n : Nat} (h : goodS s n = true) : (dataL s).length = cnt s := by
  have hl := goodS_len h
  unfold goodS at h
  have h := of_decide_eq_true h
  rw [dataL, List.length_take, List.length_drop, hl]
  have := h.1.1; omega
/-- a record occupies as_ many sectors as_ it must -/
theorem recFrom_secs {g : Nat} : ∀ {l : List (List UInt8)} {n : Nat} {first : Bool} {b : List UInt8} {m : Nat}, recFrom g l n first = some (b, m) → m = secs b.length ∧ (first = false → b ≠ [])
  | [], _, _, _, _, h => by cases h
  | s :: l, n, first, b, m, h => by
    rw [recFrom] at h
    split at h
    · rename_i hg
      have hd := data_len hg.1
      have hk : kindOk (cnt s) (kd s) := (of_decide_eq_true hg.1).1
      obtain ⟨k1, k2, k3, k4⟩ := hk
      split at h
      · rename_i h2
        cases h
        refine ⟨(secs_le (by omega)).symm, fun hf hb => ?_⟩
        have hp := hg.2.1
        rw [hf] at hp
        have := of_decide_eq_false hp
        exact k4 (by omega) (by rw [← hd, hb]; rfl)
      · rename_i h2
        split at h
        · cases h
        · rename_i b' m' h3
          cases h
          obtain ⟨e1, e2⟩ := recFrom_secs h3
          have hc := k3 (by omega)
          have hb : 1 ≤ b'.length := by
            rcases b' with _ | ⟨x, y⟩
            · exact absurd rfl (e2 rfl)
            · simp
          refine ⟨?_, fun _ he => ?_⟩
          · rw [List.length_append, hd, hc, secs_gt (by omega), show 112 + b'.length - 112 = b'.length by omega, e1]
          · have := congrArg List.length he; rw [List.length_append, hd, hc] at this; simp at this
    · cases h

/-! what is read depends on what is read alone -/
theorem recFrom_app {g : Nat} : ∀ {l : List (List UInt8)} {n : Nat} {first : Bool} {b : List UInt8} {m : Nat} (r : List (List UInt8)), recFrom g l n first = some (b, m) → recFrom g (l ++ r) n first = some (b, m)
  | [], _, _, _, _, _, h => by cases h
  | s :: l, n, first, b, m, r, h => by
    rw [recFrom] at h
    rw [List.cons_append, recFrom]
    split at h
    · rename_i hg
      rw [if_pos hg]
      split at h
      · rename_i h2; rw [if_pos h2]; exact h
      · rename_i h2
        rw [if_neg h2]
        split at h
        · cases h
        · rename_i b' m' h3
          rw [recFrom_app r h3]; exact h
    · cases h
theorem recFrom_take {g : Nat} : ∀ {l : List (List UInt8)} {n : Nat} {first : Bool} {b : List UInt8} {m : Nat}, recFrom g l n first = some (b, m) → recFrom g (l.take m) n first = some (b, m)
  | [], _, _, _, _, h => by cases h
  | s :: l, n, first, b, m, h => by
    have h' := h
    rw [recFrom] at h
    split at h
    · rename_i hg
      split at h
      · rename_i h2
        cases h
        rw [List.take_succ_cons, recFrom, if_pos hg, if_pos h2]
      · rename_i h2
        split at h
        · cases h
        · rename_i b' m' h3
          cases h
          rw [List.take_succ_cons, recFrom, if_pos hg, if_neg h2, recFrom_take h3]
    · cases h
theorem recFrom_gen {g : Nat} {l : List (List UInt8)} {n : Nat} {first : Bool} {x : List UInt8 × Nat} (h : recFrom g l n first = some x) : l ≠ [] ∧ gen (l.headD []) = g ∧ 0 < g := by
  rcases l with _ | ⟨s, l⟩
  · cases h
  · rw [recFrom] at h
    split at h
    · rename_i hg
      refine ⟨by simp, hg.2.2, ?_⟩
      have := (of_decide_eq_true hg.1).2.1
      have e : gen s = g := hg.2.2
      omega
    · cases h

/-- Some records lie on the first sectors (as_ many as_ they must), the last with generation g; then comes the rest. -/
inductive Reads : List (List UInt8) → Nat → Nat → List (List UInt8) → Nat → Prop
  | nil (n last : Nat) : Reads [] n last [] last
  | cons {a l : List (List UInt8)} {n last g' : Nat} {b : List UInt8} {rs : List (List UInt8)} (h : recFrom (gen (a.headD [])) a n true = some (b, a.length)) (h2 : ¬ gen (a.headD []) < last) (h3 : Reads l (n + a.length) (gen (a.headD [])) rs g') : Reads (a ++ l) n last (b :: rs) g'
theorem headD_app {α : Type} {a r : List α} {d : α} (h : a ≠ []) : (a ++ r).headD d = a.headD d := by
  rcases a with _ | ⟨x, a⟩
  · exact absurd rfl h
  · rfl
theorem Reads.recs {l : List (List UInt8)} {n last g : Nat} {rs : List (List UInt8)} (h : Reads l n last rs g) (r : List (List UInt8)) : recsAt (l ++ r) n last = rs ++ recsAt r (n + l.length) g := by
  induction h with
  | nil n last => simp
  | @cons a l n last g' b rs h h2 h3 ih =>
    have hn := (recFrom_gen h).1
    have e : (a ++ l ++ r).headD [] = a.headD [] := by rw [List.append_assoc, headD_app hn]
    rw [recsAt_some (b := b) (m := a.length) (by rw [e, List.append_assoc]; exact recFrom_app _ h) (by rw [e]; exact h2), e, List.append_assoc, List.drop_left, ih, List.cons_append, List.length_append, Nat.add_assoc]
theorem Reads.app {l : List (List UInt8)} {n last g : Nat} {rs : List (List UInt8)} (h : Reads l n last rs g) {l' rs' : List (List UInt8)} {g' : Nat} (h' : Reads l' (n + l.length) g rs' g') : Reads (l ++ l') n last (rs ++ rs') g' := by
  induction h with
  | nil n last => simpa using h'
  | @cons a l n last g1 b rs h h2 h3 ih =>
    rw [List.append_assoc, List.cons_append]
    exact .cons h h2 (ih (by rw [Nat.add_assoc, ← List.length_append]; exact h'))
/-- what is read of a list of sectors: its beginning is so -/
theorem reads_of (f : Nat) : ∀ (l : List (List UInt8)) (n last : Nat), l.length < f → ∃ g, usedL (recsAt l n last) ≤ l.length ∧ Reads (l.take (usedL (recsAt l n last))) n last (recsAt l n last) g ∧ (g = last ∨ ∃ s ∈ l, g = gen s) := by
  induction f with
  | zero => intro l n last h; omega
  | succ f ih =>
    intro l n last hf
    cases hr : recFrom (gen (l.headD [])) l n true with
    | none => rw [recsAt_none hr]; exact ⟨last, by simp [usedL], .nil _ _, .inl rfl⟩
    | some x =>
      obtain ⟨b, m⟩ := x
      by_cases h2 : gen (l.headD []) < last
      · rw [recsAt_old h2]; exact ⟨last, by simp [usedL], .nil _ _, .inl rfl⟩
      · have hm := recFrom_pos hr
        have hs := (recFrom_secs hr).1
        obtain ⟨hne, _, _⟩ := recFrom_gen hr
        have hmem : l.headD [] ∈ l := by
          rcases l with _ | ⟨s, l⟩
          · exact absurd rfl hne
          · simp
        obtain ⟨g, h3, h4, h5⟩ := ih (l.drop m) (n + m) (gen (l.headD [])) (by rw [List.length_drop]; omega)
        rw [List.length_drop] at h3
        have ht : (l.take m).length = m := by rw [List.length_take]; omega
        have hh : (l.take m).headD [] = l.headD [] := by
          rcases l with _ | ⟨s, l⟩
          · exact absurd rfl hne
          · rw [show m = (m - 1) + 1 by omega, List.take_succ_cons]; rfl
        refine ⟨g, ?_, ?_, ?_⟩
        · rw [recsAt_some hr h2, usedL_cons, ← hs]; omega
        · rw [recsAt_some hr h2, usedL_cons, ← hs, List.take_add]
          exact .cons (by rw [hh, ht]; exact recFrom_take hr) (by rw [hh]; exact h2) (by rw [hh, ht]; exact h4)
        · rcases h5 with h5 | ⟨s, hs, h5⟩
          · exact .inr ⟨_, hmem, h5⟩
          · exact .inr ⟨s, List.mem_of_mem_drop hs, h5⟩

end Go.Proofs.Ytfmhnplkpohogaa
