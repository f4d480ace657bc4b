/- Stores of aggregates into the middle of a block or of a row. No program in sight. -/
import Derived.Test.YtjmdodgmoehfkaaWk7
import Derived.Laws.CopyRow
namespace Go.Proofs.Ytjmdodgmoehfkaa
open Go.RowKit

variable {S S' : Nat → Prop}
theorem splice_take {α : Type} {L : List α} {off m : Nat} {cs : List α} (h : off + cs.length ≤ m) (hm : m ≤ L.length) : (splice L off cs).take m = splice (L.take m) off cs := by
  have h1 : (L.take off).length = off := by rw [List.length_take]; omega
  unfold splice
  rw [List.take_append, List.take_of_length_le (l := L.take off) (by omega), h1, List.take_append, List.take_of_length_le (l := cs) (by omega), List.take_take, List.drop_take, Nat.min_eq_left (by omega : off ≤ m)]
  rw [show m - off - cs.length = m - (off + cs.length) by omega]
theorem splice_len {α : Type} {L : List α} {off : Nat} {cs : List α} (h : off + cs.length ≤ L.length) : (splice L off cs).length = L.length := by
  unfold splice
  simp only [List.length_append, List.length_take, List.length_drop]
  omega
section
variable {N : Nat} {m : List (Nat × Value)} {a : Act} {P : Program} {ops : Array Oper} {Q : Exit → Act → World → Prop} {i : Nat} {w : World} {o : Oper} {K : Act → World → Prop}
theorem run_storeVar_at {ty t : TypeId} {g off : Nat} {cur cells : List Value} (hg : Blk w g t cur) (hi : (P.info? ty).map (·.size) = some cells.length) (hl : off + cells.length ≤ cur.length) (h1 : ∀ u ∈ cells, u.oneCell' = true) :
    ∃ w', (storeVar ty ⟨g, off, none⟩ (.agg cells.toArray)).run P w = .ok () w' ∧ Blk w' g t (splice cur off cells) ∧ w.grownBy w' (some g) := by
  have hr := run_storeCells_at (P := P) g off t cells 0 cur.toArray w hg (by simpa using hl) h1
  refine ⟨_, ?_, setRow_heap w g cur.toArray _ t _ hg, ⟨rfl, rfl, rfl, by simp, fun k _ hk => setRow_other w g k _ (fun e => hk (by rw [e]))⟩⟩
  cases hq : P.info? ty with
  | none => simp [hq] at hi
  | some ii =>
    have hs : cells.length = ii.size := by simp [hq] at hi; omega
    simp only [Nat.add_zero] at hr
    simp [storeVar, sizeOf, typeInfo, hq, Value.cells, hs, hr, splice]
/-- an aggregate is stored in the middle of a block -/
theorem o_storeMid {ty : TypeId} {x y : Operand} (_hF : Sl N m a) (ho : ops[i]? = some o) (hw : Region.wanted o (yielded ops a.tmps) = true) (hd : o.dst = none) (hop : o.op = .store ty x y) {g off : Nat} {t : TypeId} {old cells new : List Value}
    (hx : a.eval x = .pointer (some ⟨g, off, none⟩)) (hy : a.eval y = .agg cells.toArray) (hg : Blk w g t old) (hi : (P.info? ty).map (·.size) = some cells.length) (hl : off + cells.length ≤ old.length) (h1 : ∀ u ∈ cells, u.oneCell' = true) (hn : splice old off cells = new)
    (h : ∀ w', Blk w' g t new → w.grownBy w' (some g) → K a w') : wpOp P ops Q i K a w := by
  subst hn
  obtain ⟨w', hr, h2, h3⟩ := run_storeVar_at (P := P) hg hi hl h1
  refine op_do (w' := w') ho hw ?_ (by rw [hd]; exact h w' h2 h3)
  unfold execOp
  simp only [hop, hx, hy, Instr.storeAt, Instr.sureAddr, Sem.run_bind, Sem.run_pure, Result.andThen_ok, hr]
/-- an aggregate is stored in a row of the call's own -/
theorem o_storeRowK {ty : TypeId} {x y : Operand} (_hF : Sl N m a) (ho : ops[i]? = some o) (hw : Region.wanted o (yielded ops a.tmps) = true) (hd : o.dst = none) (hop : o.op = .store ty x y) {g off : Nat} {base n cap k j : Nat} {e : TypeId} {xs cells zs : List Value}
    (hx : a.eval x = .pointer (some ⟨g, off, none⟩)) (hy : a.eval y = .agg cells.toArray) (hown : w.ownsRow base e k (.slice (some ⟨g, 0, none⟩) n cap) n xs) (hi : (P.info? ty).map (·.size) = some cells.length) (ho2 : off = j * k) (hj : j < n) (hk : cells.length = k) (h1 : ∀ u ∈ cells, u.oneCell' = true) (hz : splice xs (j * k) cells = zs)
    (h : ∀ w', w'.ownsRow base e k (.slice (some ⟨g, 0, none⟩) n cap) n zs → w.grownBy w' (some g) → K a w') : wpOp P ops Q i K a w := by
  subst ho2
  subst hz
  have hjn : (j + 1) * k ≤ n * k := Nat.mul_le_mul_right _ hj
  rw [Nat.add_mul, Nat.one_mul] at hjn
  rcases hown.2 with ⟨h', _⟩ | ⟨g', cap', cur, h', hb, hg, hnc, hcm, hcs, ht⟩
  · cases h'
  · cases h'
    have hnk : n * k ≤ cap * k := Nat.mul_le_mul_right _ hnc
    have hB : Blk w g e cur.toList := by unfold Blk; rw [Array.toArray_toList]; exact hg
    obtain ⟨w', hr, h2, h3⟩ := run_storeVar_at (P := P) (ty := ty) (off := j * k) (cells := cells) hB hi (by simp; omega) h1
    refine op_do (w' := w') ho hw ?_ (by
      rw [hd]
      refine h w' ⟨?_, .inr ⟨g, cap, (splice cur.toList (j * k) cells).toArray, rfl, hb, h2, hnc, hcm, ?_, ?_⟩⟩ h3
      · rw [splice_len (by rw [hown.1]; omega)]; exact hown.1
      · rw [List.size_toArray, splice_len (by simp; omega)]; simpa using hcs
      · rw [← ht, List.toList_toArray, splice_take (by omega) (by simp; omega)])
    unfold execOp
    simp only [hop, hx, hy, Instr.storeAt, Instr.sureAddr, Sem.run_bind, Sem.run_pure, Result.andThen_ok, hr]
/-- one cell is stored in a row of the call's own -/
theorem o_storeRow1 {ty : TypeId} {x y : Operand} (hF : Sl N m a) (ho : ops[i]? = some o) (hw : Region.wanted o (yielded ops a.tmps) = true) (hd : o.dst = none) (hop : o.op = .store ty x y) {g off : Nat} {base n cap j : Nat} {e : TypeId} {xs zs : List Value} {u : Value}
    (hx : a.eval x = .pointer (some ⟨g, off, none⟩)) (hy : a.eval y = u) (hown : w.ownsRow base e 1 (.slice (some ⟨g, 0, none⟩) n cap) n xs) (hi : (P.info? ty).map (·.size) = some 1) (ho2 : off = j) (hj : j < n) (h1 : u.oneCell' = true) (hz : xs.set j u = zs)
    (h : ∀ w', w'.ownsRow base e 1 (.slice (some ⟨g, 0, none⟩) n cap) n zs → w.grownBy w' (some g) → K a w') : wpOp P ops Q i K a w := by
  subst ho2
  subst hz
  exact o_storeRow hF ho hw hd hop hx hy hown hi hj h1 h
end
theorem digVals_set : ∀ {l : List (List UInt8)}, All32 l → ∀ {i : Nat} {x : List UInt8}, i < l.length → x.length = 32 → splice (digVals l) (i * 32) (byteVals x) = digVals (l.set i x)
  | [], _, i, x, h, _ => absurd h (by simp)
  | y :: l, h, 0, x, _, hx => by
    have hy : (byteVals y).length = 32 := byteVals_len (h y List.mem_cons_self)
    have hx' : (byteVals x).length = 32 := byteVals_len hx
    rw [List.set_cons_zero, digVals, digVals, List.flatMap_cons, List.flatMap_cons, splice, Nat.zero_mul, List.take_zero, List.nil_append, Nat.zero_add, hx', List.drop_append, hy, List.drop_eq_nil_of_le (by omega), List.nil_append, Nat.sub_self, List.drop_zero]
  | y :: l, h, i + 1, x, hi, hx => by
    have ih := digVals_set (l := l) (fun z hz => h z (List.mem_cons_of_mem _ hz)) (i := i) (x := x) (by simpa using hi) hx
    have hy : (byteVals y).length = 32 := byteVals_len (h y List.mem_cons_self)
    have hx' : (byteVals x).length = 32 := byteVals_len hx
    rw [List.set_cons_succ, digVals, digVals, List.flatMap_cons, List.flatMap_cons, ← digVals, ← digVals, ← ih, splice, splice, List.take_append, List.drop_append, hy, hx', List.take_of_length_le (by omega), List.drop_eq_nil_of_le (by omega), List.nil_append, List.append_assoc]
    rw [show (i + 1) * 32 - 32 = i * 32 by omega, show (i + 1) * 32 + 32 - 32 = i * 32 + 32 by omega]
theorem All32.set {l : List (List UInt8)} (h : All32 l) {i : Nat} {x : List UInt8} (hx : x.length = 32) : All32 (l.set i x) := fun y hy => by
  rcases List.mem_or_eq_of_mem_set hy with h1 | h1
  · exact h y h1
  · rw [h1]; exact hx

/-! turning a list around in place -/
def RevInv (l lk : List (List UInt8)) (i : Nat) : Prop := lk.length = l.length ∧ ∀ k, k < l.length → lk.getD k [] = if k < i ∨ l.length - i ≤ k then l.getD (l.length - 1 - k) [] else l.getD k []
theorem RevInv.start (l : List (List UInt8)) : RevInv l l 0 := ⟨rfl, fun k hk => by rw [if_neg (by omega)]⟩
theorem getD_set {l : List (List UInt8)} {i k : Nat} {x : List UInt8} (hi : i < l.length) : (l.set i x).getD k [] = if i = k then x else l.getD k [] := by
  rw [List.getD_eq_getElem?_getD, List.getD_eq_getElem?_getD, List.getElem?_set]
  by_cases h : i = k
  · subst h; simp [hi]
  · simp [h]
theorem RevInv.step {l lk : List (List UInt8)} {i j : Nat} (h : RevInv l lk i) (hij : i < j) (hj : i + j + 1 = l.length) : RevInv l ((lk.set i (lk.getD j [])).set j (lk.getD i [])) (i + 1) := by
  obtain ⟨h1, h2⟩ := h
  refine ⟨by simp [h1], fun k hk => ?_⟩
  rw [getD_set (by rw [List.length_set]; omega), getD_set (by omega)]
  have ha := h2 i (by omega)
  have hb := h2 j (by omega)
  have hc := h2 k hk
  rw [if_neg (by omega)] at ha
  rw [if_neg (by omega)] at hb
  by_cases e1 : j = k
  · subst e1
    rw [if_pos rfl, if_pos (by omega), ha]
    congr 1; omega
  · rw [if_neg e1]
    by_cases e2 : i = k
    · subst e2
      rw [if_pos rfl, if_pos (by omega), hb]
      congr 1; omega
    · rw [if_neg e2, hc]
      by_cases e3 : k < i ∨ l.length - i ≤ k
      · rw [if_pos e3, if_pos (by omega)]
      · rw [if_neg e3, if_neg (by omega)]
theorem RevInv.done {l lk : List (List UInt8)} {i : Nat} (h : RevInv l lk i) (hi : l.length ≤ 2 * i + 1) : lk = l.reverse := by
  obtain ⟨h1, h2⟩ := h
  apply List.ext_getElem (by simp [h1])
  intro k hk1 hk2
  have hk : k < l.length := by omega
  have h3 := h2 k hk
  rw [List.getElem_reverse]
  rw [List.getD_eq_getElem?_getD, List.getElem?_eq_getElem hk1, Option.getD_some] at h3
  rw [h3]
  split
  · rw [List.getD_eq_getElem?_getD, List.getElem?_eq_getElem (by omega), Option.getD_some]
  · rw [List.getD_eq_getElem?_getD, List.getElem?_eq_getElem hk, Option.getD_some]
    congr 1; omega
theorem RevInv.all32 {l lk : List (List UInt8)} {i : Nat} (h : RevInv l lk i) (h32 : All32 l) : All32 lk := by
  obtain ⟨h1, h2⟩ := h
  intro x hx
  obtain ⟨k, hk, rfl⟩ := List.getElem_of_mem hx
  have h3 := h2 k (by omega)
  rw [List.getD_eq_getElem?_getD, List.getElem?_eq_getElem hk, Option.getD_some] at h3
  rw [h3]
  split
  · exact dig_len h32 _ (by omega)
  · exact dig_len h32 _ (by omega)

theorem ret3 {N : Nat} {m : List (Nat × Value)} {a : Act} {P : Program} {fn : Func} {R : Ending → World → Prop} {w : World} {t1 t2 t3 : Nat} {v1 v2 v3 : Value} (hF : Sl N m a) (hr : fn.results = #[.tmp t1, .tmp t2, .tmp t3]) (h1 : look m t1 = some v1) (h2 : look m t2 = some v2) (h3 : look m t3 = some v3) (h : R (.returned (.tuple #[v1, v2, v3])) w) : bodyPost P fn R .ret a w := by
  have e1 := hF.get h1; have e2 := hF.get h2; have e3 := hF.get h3
  simp only [Act.eval, Array.getD_eq_getD_getElem?] at e1 e2 e3
  refine bodyPost_ret ?_ hF.2.1 h
  simp [results, hr, e1, e2, e3]
theorem ret4 {N : Nat} {m : List (Nat × Value)} {a : Act} {P : Program} {fn : Func} {R : Ending → World → Prop} {w : World} {t1 t2 t3 t4 : Nat} {v1 v2 v3 v4 : Value} (hF : Sl N m a) (hr : fn.results = #[.tmp t1, .tmp t2, .tmp t3, .tmp t4]) (h1 : look m t1 = some v1) (h2 : look m t2 = some v2) (h3 : look m t3 = some v3) (h4 : look m t4 = some v4) (h : R (.returned (.tuple #[v1, v2, v3, v4])) w) : bodyPost P fn R .ret a w := by
  have e1 := hF.get h1; have e2 := hF.get h2; have e3 := hF.get h3; have e4 := hF.get h4
  simp only [Act.eval, Array.getD_eq_getD_getElem?] at e1 e2 e3 e4
  refine bodyPost_ret ?_ hF.2.1 h
  simp [results, hr, e1, e2, e3, e4]

end Go.Proofs.Ytjmdodgmoehfkaa
