/- Functions with captured variables; negation; frames of two blocks; copies of ints; scopes. No program in sight. -/
import Derived.Test.YtjmdodgmoehfkaaTab
import Derived.Scope
import Derived.Lib.MinMax
namespace Go.Proofs.Ytjmdodgmoehfkaa
open Go.RowKit

variable {S S' : Nat → Prop}
section
variable {P : Program} {ρ : Operand → Value} {W : World} {d : Option Tmp} {t xt yt : TypeId} {p : String} {af : Array Edge} {g : Option (Nat × Bool)} {x y : Operand}
theorem rn_callvc {f : FuncId} {xs : Array Operand} {ts : Array TypeId} {first cap vs : Array Value} (hf : ρ x = .func (.func f) first cap) (ha : (first ++ xs.map ρ) ++ cap = vs) (hc : (callFunc f vs).run P W = .ok (.enter f vs) W) :
    (execOp ρ ⟨d, .call { callee := .value x, args := xs, argTypes := ts }, t, p, af, g⟩).run P W = .ok (.enter f vs) W := by
  simp [execOp, resolve, hf, ha, Deferred.ofValue, invoke, hc]
theorem rn_neg {s : TypeId} {n m : Int} (hx : ρ x = .int .i64 n) (hb : -9223372036854775808 ≤ -n ∧ -n ≤ 9223372036854775807) (hm : -n = m) : (execOp ρ ⟨d, .unOp .neg s x, t, p, af, g⟩).run P W = .ok (.value (.int .i64 m)) W := by
  subst hm
  simp [execOp, hx, Op.unary, Op.intArith, IntWalk.i64_in _ hb]
theorem rn_min2 {s : TypeId} {k : IntKind} {a b : Int} {u : TypeDesc} (_hu : P.underlying s = some u) (hx : ρ x = .int k a) (hy : ρ y = .int k b) : (execOp ρ ⟨d, .call { callee := .builtin .min, args := #[x, y], argTypes := #[s, s] }, t, p, af, g⟩).run P W = .ok (.value (.int k (min a b))) W := by
  simp [execOp, resolve, invoke, builtin, hx, hy, Lib.run_min_ints]
theorem rn_max2 {s : TypeId} {k : IntKind} {a b : Int} {u : TypeDesc} (_hu : P.underlying s = some u) (hx : ρ x = .int k a) (hy : ρ y = .int k b) : (execOp ρ ⟨d, .call { callee := .builtin .max, args := #[x, y], argTypes := #[s, s] }, t, p, af, g⟩).run P W = .ok (.value (.int k (max a b))) W := by
  simp [execOp, resolve, invoke, builtin, hx, hy, Lib.run_max_ints]
end
theorem scope_normal {Q : Exit → Act → World → Prop} {a : Act} {w : World} (h : Q .normal a w) : Exit.noGoto Q .normal a w := h
theorem scope_ret {Q : Exit → Act → World → Prop} {a : Act} {w : World} (h : Q .ret a w) : Exit.noGoto Q .ret a w := h
theorem scope_exit {Q : Exit → Act → World → Prop} {a : Act} {w : World} {id : Nat} (h : Q (.exit id) a w) : Exit.noGoto Q (.exit id) a w := h

/-! two elder blocks are written -/
def Two (w w' : World) (p q : Nat) : Prop := w'.os = w.os ∧ w'.tape = w.tape ∧ w'.output = w.output ∧ w.heap.size ≤ w'.heap.size ∧ ∀ b, b < w.heap.size → b ≠ p → b ≠ q → w'.heap[b]? = w.heap[b]?
theorem Two.refl (w : World) (p q : Nat) : Two w w p q := ⟨rfl, rfl, rfl, Nat.le_refl _, fun _ _ _ _ => rfl⟩
theorem Two.ext {w w1 w2 : World} {p q : Nat} (h : Two w w1 p q) (k : Ext w1 w2) : Two w w2 p q :=
  ⟨k.below.os.trans h.1, k.below.tape.trans h.2.1, k.below.output.trans h.2.2.1, Nat.le_trans h.2.2.2.1 k.size, fun b hb h1 h2 => (k.below.block b (Nat.lt_of_lt_of_le hb h.2.2.2.1)).trans (h.2.2.2.2 b hb h1 h2)⟩
theorem Two.grown {w w1 w2 : World} {p q n : Nat} (h : Two w w1 p q) (k : w1.grownBy w2 (some n)) (hn : n = p ∨ n = q ∨ w.heap.size ≤ n) : Two w w2 p q :=
  ⟨k.os.trans h.1, k.tape.trans h.2.1, k.output.trans h.2.2.1, Nat.le_trans h.2.2.2.1 k.size, fun b hb h1 h2 => (k.block b (Nat.lt_of_lt_of_le hb h.2.2.2.1) (fun e => by injection e with e; omega)).trans (h.2.2.2.2 b hb h1 h2)⟩
theorem Two.trans {w w1 w2 : World} {p q : Nat} (h : Two w w1 p q) (k : Two w1 w2 p q) : Two w w2 p q :=
  ⟨k.1.trans h.1, k.2.1.trans h.2.1, k.2.2.1.trans h.2.2.1, Nat.le_trans h.2.2.2.1 k.2.2.2.1, fun b hb h1 h2 => (k.2.2.2.2 b (Nat.lt_of_lt_of_le hb h.2.2.2.1) h1 h2).trans (h.2.2.2.2 b hb h1 h2)⟩
theorem Two.size {w w' : World} {p q : Nat} (h : Two w w' p q) : w.heap.size ≤ w'.heap.size := h.2.2.2.1
theorem Two.blk {w w' : World} {p q n : Nat} {t : TypeId} {cs : List Value} (h : Two w w' p q) (hb : Blk w n t cs) (h1 : n ≠ p) (h2 : n ≠ q) : Blk w' n t cs := (h.2.2.2.2 n hb.lt h1 h2).trans hb
theorem Two.pres {w w' : World} {p q : Nat} (h : Two w w' p q) (h1 : ¬ S p) (h2 : ¬ S q) : Pres S w w' := ⟨h.size, fun b hb hl => h.2.2.2.2 b hl (fun e => h1 (e ▸ hb)) (fun e => h2 (e ▸ hb))⟩
theorem Two.ext_of {a w w' : World} {p q : Nat} (h : Two w w' p q) (k : Ext a w) (h1 : a.heap.size ≤ p) (h2 : a.heap.size ≤ q) : Ext a w' :=
  ⟨h.1.trans k.below.os, h.2.1.trans k.below.tape, h.2.2.1.trans k.below.output, Nat.le_trans k.size h.size, fun b hb => (h.2.2.2.2 b (Nat.lt_of_lt_of_le hb k.size) (by omega) (by omega)).trans (k.below.block b hb)⟩
/-- two blocks written are one after the other -/
theorem Two.split {w w' : World} {p q : Nat} (h : Two w w' p q) (hq : q < w.heap.size) : ∃ w1, w.grownBy w1 (some p) ∧ w1.grownBy w' (some q) := by
  refine ⟨{ w' with heap := w'.heap.setIfInBounds q w.heap[q] }, ⟨h.1, h.2.1, h.2.2.1, by simpa using h.size, fun b hb hne => ?_⟩, ⟨rfl, rfl, rfl, by simp, fun b _ hne => ?_⟩⟩
  · by_cases hc : b = q
    · subst hc
      have := h.size
      simp only [Array.getElem?_setIfInBounds_self_of_lt (show b < w'.heap.size by omega)]
      exact (Array.getElem?_eq_getElem hb).symm
    · have hc' : q ≠ b := fun e => hc e.symm
      simp only [Array.getElem?_setIfInBounds_ne hc']
      exact h.2.2.2.2 b hb (fun e => hne (by rw [e])) hc
  · have hc : q ≠ b := fun e => hne (by rw [e])
    simp only [Array.getElem?_setIfInBounds_ne hc]

/-! copies within a block of ints -/
theorem splice_int (a b : List Int) (o : Nat) : splice (intVals a) o (intVals b) = intVals (splice a o b) := by
  simp [splice, intVals, List.map_take, List.map_drop]
theorem intVals_take (a : List Int) (n : Nat) : (intVals a).take n = intVals (a.take n) := by simp [intVals, List.map_take]
theorem Blk.celI {w : World} {g : Nat} {t : TypeId} {l : List Int} (h : Blk w g t (intVals l)) {off n : Nat} (hl : off + n ≤ l.length) : Cel w 1 (some ⟨g, off, none⟩) n (intVals ((l.drop off).take n)) := by
  refine ⟨by simp [intVals]; omega, intVals_one _, fun _ => ⟨g, off, rfl, h.lt, fun j u hu => ?_⟩⟩
  have hj := (List.getElem?_eq_some_iff.1 hu).1
  simp [intVals] at hj
  rw [h.rule.1]
  simp only [intVals, List.getElem?_map, List.getElem?_take, List.getElem?_drop] at hu ⊢
  rw [if_pos (by omega)] at hu
  exact hu
theorem Fl.mid {w : World} {g : Nat} {t : TypeId} {l : List Int} (h : Blk w g t (intVals l)) {off n c : Nat} (hl : off + n ≤ l.length) (hc : n ≤ c ∧ c ≤ 9223372036854775807) (hS : S g) : Fl S w 1 (.slice (some ⟨g, off, none⟩) n c) n (intVals ((l.drop off).take n)) :=
  ⟨_, c, rfl, hc, h.celI hl, fun _ => ⟨g, off, rfl, hS⟩⟩

end Go.Proofs.Ytjmdodgmoehfkaa
