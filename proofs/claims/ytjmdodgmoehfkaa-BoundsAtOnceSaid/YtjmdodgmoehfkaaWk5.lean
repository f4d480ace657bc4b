/- Slices of arrays; arguments of a call through a function value; array values; copies into known blocks; loads of some cells of a row; equality of arrays of bytes. No program in sight. -/
import Derived.Test.YtjmdodgmoehfkaaWk4
import Derived.ChangeKeysEq
namespace Go.Proofs.Ytjmdodgmoehfkaa
open Go.RowKit

section
variable {P : Program} {ρ : Operand → Value} {W : World} {d : Option Tmp} {t : TypeId} {p : String} {af : Array Edge} {g : Option (Nat × Bool)} {x y : Operand}
/-- a[:hi] of an array of L cells -/
theorem rn_arrHi {s e : TypeId} {b off L : Nat} {k : IntKind} {h : Int} (hu : P.underlying s = some (.array L e)) (hi : (P.info? e).map (·.size) = some 1) (hx : ρ x = .pointer (some ⟨b, off, none⟩)) (hy : ρ y = .int k h) (h0 : 0 ≤ h) (h1 : h ≤ L) :
    (execOp ρ ⟨d, .slice s x none (some y) none, t, p, af, g⟩).run P W = .ok (.value (.slice (some ⟨b, off, none⟩) h.toNat L)) W := by
  have hz := add_zero_addr (some ⟨b, off, none⟩ : Option Addr)
  simp [execOp, Instr.sliceAt, Instr.sureAddr, Instr.sliceBounds, run_underlying hu, hx, hy, bound_ok h0 h1, size_of hi, addr_add]
/-- a[:] of an array of L cells -/
theorem rn_arrAll {s e : TypeId} {b off L : Nat} (hu : P.underlying s = some (.array L e)) (hi : (P.info? e).map (·.size) = some 1) (hx : ρ x = .pointer (some ⟨b, off, none⟩)) :
    (execOp ρ ⟨d, .slice s x none none none, t, p, af, g⟩).run P W = .ok (.value (.slice (some ⟨b, off, none⟩) L L)) W := by
  simp [execOp, Instr.sliceAt, Instr.sureAddr, Instr.sliceBounds, run_underlying hu, hx, size_of hi, addr_add]
/-- a[lo:] of an array of L cells -/
theorem rn_arrLo {s e : TypeId} {b off L l : Nat} {k : IntKind} (hu : P.underlying s = some (.array L e)) (hi : (P.info? e).map (·.size) = some 1) (hx : ρ x = .pointer (some ⟨b, off, none⟩)) (hy : ρ y = .int k (l : Int)) (h1 : l < L) :
    (execOp ρ ⟨d, .slice s x (some y) none none, t, p, af, g⟩).run P W = .ok (.value (.slice (some ⟨b, off + l, none⟩) (L - l) (L - l))) W := by
  have hb : (Instr.sliceBound (.int k (l : Int)) L .sliceB).run P W = .ok l W := by rw [bound_ok (by omega) (by omega)]; simp
  have hne : ¬ L = l := by omega
  simp [execOp, Instr.sliceAt, Instr.sureAddr, Instr.sliceBounds, run_underlying hu, hx, hy, hb, size_of hi, hne, addr_add]
/-- an element (an array) of an array value -/
theorem rn_indexAA {s e : TypeId} {L sz : Nat} {vs : Array Value} {kd : IntKind} {n : Int} {td : TypeDesc} (hu : P.underlying s = some (.array L e)) (he : P.underlying e = some td) (hd : aggTy td = true) (hi : (P.info? e).map (·.size) = some sz) (hx : ρ x = .agg vs) (hy : ρ y = .int kd n) (h0 : 0 ≤ n) (h1 : n < L) :
    (execOp ρ ⟨d, .index s x y, t, p, af, g⟩).run P W = .ok (.value (.agg (vs.extract (n.toNat * sz) (n.toNat * sz + sz)))) W := by
  have ha : (isAgg e).run P W = .ok true W := by cases td <;> simp_all [isAgg, run_underlying he, aggTy]
  simp [execOp, Instr.index, hx, hy, asIntOf, run_underlying hu, h0, h1, size_of hi, part, ha]
/-- an element (a number) of an array value -/
theorem rn_indexA1 {s e : TypeId} {L : Nat} {vs : Array Value} {kd : IntKind} {n : Int} {td : TypeDesc} {v : Value} (hu : P.underlying s = some (.array L e)) (he : P.underlying e = some td) (hd : aggTy td = false) (hi : (P.info? e).map (·.size) = some 1) (hx : ρ x = .agg vs) (hy : ρ y = .int kd n) (h0 : 0 ≤ n) (h1 : n < L) (hv : vs[n.toNat]? = some v) :
    (execOp ρ ⟨d, .index s x y, t, p, af, g⟩).run P W = .ok (.value v) W := by
  have ha : (isAgg e).run P W = .ok false W := by cases td <;> simp_all [isAgg, run_underlying he, aggTy]
  simp [execOp, Instr.index, hx, hy, asIntOf, run_underlying hu, h0, h1, size_of hi, part, ha, hv]
/-- k cells of a row are loaded -/
theorem rn_loadN {s : TypeId} {b o : Nat} {cs : List Value} {td : TypeDesc} (hx : ρ x = .pointer (some ⟨b, o, none⟩)) (hu : P.underlying s = some td) (hd : aggTy td = true) (hi : (P.info? s).map (·.size) = some cs.length)
    (hc : ∀ j v, cs[j]? = some v → W.cell? ⟨b, o + j, none⟩ = some v) : (execOp ρ ⟨d, .load s x, t, p, af, g⟩).run P W = .ok (.value (.agg cs.toArray)) W := by
  have ha : (isAgg s).run P W = .ok true W := by cases td <;> simp_all [isAgg, run_underlying hu, aggTy]
  have hl := run_loadCells_list (P := P) W ⟨b, o, none⟩ cs (fun j v hv => by rw [addr_add]; exact hc j v hv)
  simp [execOp, Instr.loadAt, Instr.sureAddr, loadVar, hx, ha, size_of hi, hl]
end

section
variable {ρ : Operand → Value} {x0 x1 x2 x3 x4 x5 : Operand} {u0 v0 v1 v2 v3 v4 v5 : Value}
theorem args1_6 (h0 : ρ x0 = v0) (h1 : ρ x1 = v1) (h2 : ρ x2 = v2) (h3 : ρ x3 = v3) (h4 : ρ x4 = v4) (h5 : ρ x5 = v5) : #[u0] ++ #[x0, x1, x2, x3, x4, x5].map ρ = #[u0, v0, v1, v2, v3, v4, v5] := by simp [h0, h1, h2, h3, h4, h5]
theorem args1_2 (h0 : ρ x0 = v0) (h1 : ρ x1 = v1) : #[u0] ++ #[x0, x1].map ρ = #[u0, v0, v1] := by simp [h0, h1]
theorem args1_1 (h0 : ρ x0 = v0) : #[u0] ++ #[x0].map ρ = #[u0, v0] := by simp [h0]
end

section
variable {N : Nat} {m : List (Nat × Value)} {a : Act} {P : Program} {ops : Array Oper} {Q : Exit → Act → World → Prop} {i : Nat} {w : World} {o : Oper} {K : Act → World → Prop} {d : Nat}
/-- copy into a block that is known whole -/
theorem o_copy {t e : TypeId} {z : Value} {bytes : Nat} (E : El P t e z 1 bytes) (hF : Sl N m a) (ho : ops[i]? = some o) (hw : Region.wanted o (yielded ops a.tmps) = true) (hd : o.dst = some d) (hN : Nat.blt d N = true) {x y : Operand}
    (hop : o.op = .call { callee := .builtin .copy, args := #[x, y], argTypes := #[t, t] }) {g off dl dc : Nat} (hx : a.eval x = .slice (some ⟨g, off, none⟩) dl dc) {A : Option Addr} {sl sc : Nat} (hy : a.eval y = .slice A sl sc)
    {cur : List Value} {T : TypeId} (hg : Blk w g T cur) {ys : List Value} (hr : Cel w 1 A sl ys) (hfit : off + min sl dl ≤ cur.length) {new : List Value} (hnew : splice cur off (ys.take (min sl dl)) = new) {n : Nat} (hn : min sl dl = n)
    (h : ∀ w' a', Sl N ((d, .int .i64 (n : Int)) :: m) a' → Blk w' g T new → w.grownBy w' (some g) → K a' w') : wpOp P ops Q i K a w := by
  subst hnew
  subst hn
  obtain ⟨i, hi, hz0, hz1, hz2⟩ := info_parts E.hi
  have hsz : (P.info? e).map (·.size) = some 1 := by rw [hi]; simp [hz1]
  obtain ⟨hl, h1, hc⟩ := hr
  have hcl : (ys.take (min sl dl)).length = min sl dl := by rw [List.length_take]; omega
  have key : ∃ w', (Builtin.copy_ #[t, t] o.type #[.slice (some ⟨g, off, none⟩) dl dc, .slice A sl sc]).run P w = .ok (.int .i64 ((min sl dl : Nat) : Int)) w' ∧ Blk w' g T (splice cur off (ys.take (min sl dl))) ∧ w.grownBy w' (some g) := by
    by_cases h0 : min sl dl = 0
    · have hrun := run_copy_none (P := P) w t t o.type e (some ⟨g, off, none⟩) A dl dc sl sc E.ht hsz h0
      refine ⟨w, ?_, ?_, ⟨rfl, rfl, rfl, Nat.le_refl _, fun _ _ _ => rfl⟩⟩
      · rw [hrun, h0]; rfl
      · rw [h0]; simpa [splice] using hg
    · obtain ⟨b, off', rfl, hb, hx⟩ := hc (by omega)
      have hrun := run_copy_row (P := P) w t t o.type e g off dl dc ⟨b, off', none⟩ sl sc cur.toArray T (ys.take (min sl dl)) E.ht hsz hg hcl (fun j v hv => by
        rw [addr_add]
        rw [List.getElem?_take] at hv
        split at hv
        · exact hx j v hv
        · cases hv) (by rw [hcl]; simpa using hfit) (fun u hu => h1 u (List.mem_of_mem_take hu))
      refine ⟨_, hrun.trans ?_, setRow_heap w g cur.toArray _ T _ hg, ⟨rfl, rfl, rfl, by simp, fun k _ hk => setRow_other w g k _ (fun e => hk (by rw [e]))⟩⟩
      rw [hcl]
      simp [splice, goInt, hcl]
  obtain ⟨w', hrun, hB, hG⟩ := key
  refine op_run ho hw (v := .int .i64 ((min sl dl : Nat) : Int)) (w' := w') ?_ (by rw [hd]; exact h w' _ (hF.put hN) hB hG)
  unfold execOp
  simp only [hop, resolve, invoke, builtin, Sem.run_bind, Sem.run_pure, Result.andThen_ok, List.map_toArray, List.map_cons, List.map_nil, hx, hy, hrun]
end

/-! equality of arrays of bytes -/
section
variable {P : Program} {W : World}
theorem run_part1 {e : TypeId} {td : TypeDesc} (he : P.underlying e = some td) (hd : aggTy td = false) {vs : Array Value} {i : Nat} {v : Value} (hv : vs[i]? = some v) : (part e vs i).run P W = .ok v W := by
  have ha : (isAgg e).run P W = .ok false W := by cases td <;> simp_all [isAgg, run_underlying he, aggTy]
  simp [part, ha, hv]
theorem eqItems_bytes {e : TypeId} {d : Nat} (he : P.underlying e = some (.int .u8)) (la lb : List UInt8) : ∀ (n j : Nat), j + n = la.length → la.length = lb.length →
    (Op.eqItems (d + 1) e 1 (byteVals la).toArray (byteVals lb).toArray (List.range' j n)).run P W = .ok (decide (la.drop j = lb.drop j)) W
  | 0, j, hj, hl => by
    have h1 : la.drop j = [] := List.drop_eq_nil_of_le (by omega)
    have h2 : lb.drop j = [] := List.drop_eq_nil_of_le (by omega)
    simp [Op.eqItems, h1, h2]
  | n + 1, j, hj, hl => by
    have ha : j < la.length := by omega
    have hb : j < lb.length := by omega
    have p1 : (part e (byteVals la).toArray (j * 1)).run P W = .ok (.int .u8 (la[j].toNat : Nat)) W := run_part1 he rfl (by simp [byteVals, ha])
    have p2 : (part e (byteVals lb).toArray (j * 1)).run P W = .ok (.int .u8 (lb[j].toNat : Nat)) W := run_part1 he rfl (by simp [byteVals, hb])
    have ih := eqItems_bytes (d := d) he la lb n (j + 1) (by omega) hl
    rw [List.range'_succ]
    simp only [Op.eqItems, Sem.run_bind, p1, p2, Result.andThen_ok, run_equalIn_int W d e .u8 .u8 _ _ he]
    have hd : (la.drop j = lb.drop j) ↔ (la[j] = lb[j] ∧ la.drop (j + 1) = lb.drop (j + 1)) := by
      rw [List.drop_eq_getElem_cons ha, List.drop_eq_getElem_cons hb, List.cons.injEq]
    by_cases hab : la[j] = lb[j]
    · have : (((la[j].toNat : Nat) : Int) == ((lb[j].toNat : Nat) : Int)) = true := by rw [hab]; simp
      have h3 : decide (la.drop j = lb.drop j) = decide (la.drop (j + 1) = lb.drop (j + 1)) := by simp only [hd, hab, true_and]
      rw [h3]
      simp [this, ih]
    · have h2 : ¬ la[j].toNat = lb[j].toNat := fun h => hab (UInt8.toNat_inj.1 h)
      have : (((la[j].toNat : Nat) : Int) == ((lb[j].toNat : Nat) : Int)) = false := by simp; omega
      have h3 : decide (la.drop j = lb.drop j) = false := by simp only [hd, hab, false_and, decide_false]
      rw [h3]
      simp [this]
theorem run_eqArr {t e : TypeId} {n : Nat} (hu : P.underlying t = some (.array n e)) (he : P.underlying e = some (.int .u8)) (hi : (P.info? e).map (·.size) = some 1) {la lb : List UInt8} (ha : la.length = n) (hb : lb.length = n) :
    (Op.equal t (.agg (byteVals la).toArray) (.agg (byteVals lb).toArray)).run P W = .ok (decide (la = lb)) W := by
  obtain ⟨i, hi', hs⟩ : ∃ i, P.info? e = some i ∧ i.size = 1 := by
    cases hq : P.info? e with
    | none => simp [hq] at hi
    | some i => exact ⟨i, rfl, by simpa [hq] using hi⟩
  have hc : P.cellsOf e = 1 := by simp [Program.cellsOf, hi', hs]
  show (Op.equalIn (9999 + 1) t _ _).run P W = _
  rw [run_equalIn_array W 9999 _ _ hu hi', hc, List.range_eq_range', eqItems_bytes (d := 9998) he la lb n 0 (by omega) (by omega)]
  simp
variable {ρ : Operand → Value} {d : Option Tmp} {t xt yt : TypeId} {p : String} {af : Array Edge} {g : Option (Nat × Bool)} {x y : Operand}
theorem guard_agg {b : BinOp} {xs ys : Array Value} (hg : P.eqGuardType P.depth xt = false) : (eqGuard b xt x y (.agg xs) (.agg ys)).run P W = .ok () W := by
  unfold eqGuard
  cases b <;> simp [hg, go_sem]
theorem rn_eqA {e : TypeId} {n : Nat} (hu : P.underlying xt = some (.array n e)) (he : P.underlying e = some (.int .u8)) (hi : (P.info? e).map (·.size) = some 1) (hg : P.eqGuardType P.depth xt = false) {la lb : List UInt8} (hx : ρ x = .agg (byteVals la).toArray) (hy : ρ y = .agg (byteVals lb).toArray) (ha : la.length = n) (hb : lb.length = n) :
    (execOp ρ ⟨d, .binOp .eql xt x y yt, t, p, af, g⟩).run P W = .ok (.value (.bool (decide (la = lb)))) W :=
  rn_bin hx hy (guard_agg hg) (by simp [binOp, run_eqArr hu he hi ha hb])
theorem rn_neA {e : TypeId} {n : Nat} (hu : P.underlying xt = some (.array n e)) (he : P.underlying e = some (.int .u8)) (hi : (P.info? e).map (·.size) = some 1) (hg : P.eqGuardType P.depth xt = false) {la lb : List UInt8} (hx : ρ x = .agg (byteVals la).toArray) (hy : ρ y = .agg (byteVals lb).toArray) (ha : la.length = n) (hb : lb.length = n) :
    (execOp ρ ⟨d, .binOp .neq xt x y yt, t, p, af, g⟩).run P W = .ok (.value (.bool (!decide (la = lb)))) W :=
  rn_bin hx hy (guard_agg hg) (by simp [binOp, run_eqArr hu he hi ha hb])
end

/-! flat slices: v is a slice of n elements of k cells each, whose cells are xs; they lie in a block of S -/
def Fl (S : Nat → Prop) (w : World) (k : Nat) (v : Value) (n : Nat) (xs : List Value) : Prop :=
  ∃ A cap, v = .slice A n cap ∧ (n ≤ cap ∧ cap ≤ 9223372036854775807) ∧ Cel w k A n xs ∧ (0 < n → ∃ b off, A = some ⟨b, off, none⟩ ∧ S b)
variable {S S' : Nat → Prop}
theorem Fl.ext {w w' : World} {k n : Nat} {v : Value} {xs : List Value} (h : Fl S w k v n xs) (he : Ext w w') : Fl S w' k v n xs := by
  obtain ⟨A, cap, hv, hc, hl, hs⟩ := h; exact ⟨A, cap, hv, hc, hl.ext he, hs⟩
theorem Fl.pres {w w' : World} {k n : Nat} {v : Value} {xs : List Value} (h : Fl S w k v n xs) (hp : Pres S w w') : Fl S w' k v n xs := by
  obtain ⟨A, cap, hv, hc, ⟨h1, h2, h3⟩, hs⟩ := h
  refine ⟨A, cap, hv, hc, ⟨h1, h2, fun h0 => ?_⟩, hs⟩
  obtain ⟨b, off, ha, hb, hx⟩ := h3 h0
  obtain ⟨b', off', ha', hS⟩ := hs h0
  rw [ha] at ha'
  cases ha'
  exact ⟨b, off, ha, Nat.lt_of_lt_of_le hb hp.1, fun j u hu => by rw [World.cell?_of_block (w := w) (a := ⟨b, off + j, none⟩) (hp.2 b hS hb)]; exact hx j u hu⟩
theorem Fl.subB {w : World} {k n : Nat} {v : Value} {xs : List Value} (h : Fl S w k v n xs) (hs : ∀ b, b < w.heap.size → S b → S' b) : Fl S' w k v n xs := by
  obtain ⟨A, cap, hv, hc, hl, h4⟩ := h
  refine ⟨A, cap, hv, hc, hl, fun h0 => ?_⟩
  obtain ⟨b, off, ha, hS⟩ := h4 h0
  obtain ⟨b', off', ha', hb', _⟩ := hl.2.2 h0
  rw [ha] at ha'
  cases ha'
  exact ⟨b, off, ha, hs b hb' hS⟩
theorem Fl.sub {w : World} {k n : Nat} {v : Value} {xs : List Value} (h : Fl S w k v n xs) (hs : ∀ b, S b → S' b) : Fl S' w k v n xs := h.subB fun b _ => hs b
theorem Fl.clip {w : World} {k n : Nat} {v : Value} {xs : List Value} (h : Fl S w k v n xs) : Fl (fun b => S b ∧ b < w.heap.size) w k v n xs := h.subB fun _ h1 h2 => ⟨h2, h1⟩
theorem Fl.form {w : World} {k n : Nat} {v : Value} {xs : List Value} (h : Fl S w k v n xs) : ∃ A cap, v = .slice A n cap ∧ n ≤ cap ∧ cap ≤ 9223372036854775807 := by
  obtain ⟨A, cap, hv, hc, _⟩ := h; exact ⟨A, cap, hv, hc⟩
theorem Fl.cel {w : World} {k n m c : Nat} {A : Option Addr} {xs : List Value} (h : Fl S w k (.slice A m c) n xs) : m = n ∧ (n ≤ c ∧ c ≤ 9223372036854775807) ∧ Cel w k A n xs := by
  obtain ⟨A', cap, hv, hc, hl, _⟩ := h
  cases hv
  exact ⟨rfl, hc, hl⟩
theorem Fl.len {w : World} {k n : Nat} {v : Value} {xs : List Value} (h : Fl S w k v n xs) : xs.length = n * k := by
  obtain ⟨A, cap, hv, hc, hl, _⟩ := h; exact hl.1
theorem Fl.nil {k : Nat} (w : World) : Fl S w k (.slice none 0 0) 0 [] := ⟨none, 0, rfl, ⟨Nat.le_refl _, by omega⟩, Cel.none _ _ _, fun h => absurd h (by omega)⟩
/-- where its elements lie -/
theorem Fl.at {w : World} {k n m c : Nat} {A : Option Addr} {xs : List Value} (h : Fl S w k (.slice A m c) n xs) (h0 : 0 < n) : ∃ b off, A = some ⟨b, off, none⟩ ∧ b < w.heap.size ∧ S b ∧ ∀ j u, xs[j]? = some u → w.cell? ⟨b, off + j, none⟩ = some u := by
  obtain ⟨A', cap, hv, hc, hl, hs⟩ := h
  cases hv
  obtain ⟨b, off, ha, hb, hx⟩ := hl.2.2 h0
  obtain ⟨b', off', ha', hS⟩ := hs h0
  rw [ha] at ha'
  cases ha'
  exact ⟨b, off, ha, hb, hS, hx⟩
theorem Fl.own {k : Nat} {w : World} {base : Nat} {e : TypeId} {v : Value} {n : Nat} {xs : List Value} (h : w.ownsRow base e k v n xs) (hS : ∀ b, base ≤ b → S b) (h1 : ∀ u ∈ xs, u.oneCell' = true) : Fl S w k v n xs := by
  obtain ⟨A, cap, rfl, h2, h3⟩ := own_any h
  obtain ⟨_, _, hc⟩ := own_cel h h1
  refine ⟨A, cap, rfl, ⟨h2, h3⟩, hc, fun h0 => ?_⟩
  obtain ⟨g, cap', hv, hb, _⟩ := own_form h h0
  cases hv
  exact ⟨g, 0, rfl, hS g hb⟩
theorem Fl.blk {w : World} {g : Nat} {t : TypeId} {cs : List Value} {k n c : Nat} (h : Blk w g t cs) (hl : cs.length = n * k) (h1 : ∀ u ∈ cs, u.oneCell' = true) (hc : n ≤ c ∧ c ≤ 9223372036854775807) (hS : S g) : Fl S w k (.slice (some ⟨g, 0, none⟩) n c) n cs :=
  ⟨_, c, rfl, hc, h.cel hl h1, fun _ => ⟨g, 0, rfl, hS⟩⟩
/-- the first ones -/
theorem Fl.take {w : World} {k n m c : Nat} {A : Option Addr} {xs : List Value} (h : Fl S w k (.slice A m c) n xs) {j : Nat} (hj : j ≤ n) : Fl S w k (.slice A j c) j (xs.take (j * k)) := by
  obtain ⟨A', cap, hv, hc, ⟨h1, h2, h3⟩, hs⟩ := h
  cases hv
  have : j * k ≤ n * k := Nat.mul_le_mul_right _ hj
  refine ⟨A, c, rfl, ⟨by omega, hc.2⟩, ⟨by rw [List.length_take]; omega, fun u hu => h2 u (List.mem_of_mem_take hu), fun h0 => ?_⟩, fun h0 => hs (by omega)⟩
  obtain ⟨b, off, ha, hb, hx⟩ := h3 (by omega)
  refine ⟨b, off, ha, hb, fun i u hu => hx i u ?_⟩
  rw [List.getElem?_take] at hu
  split at hu
  · exact hu
  · cases hu
/-- the last ones -/
theorem Fl.drop {w : World} {k n m c b off : Nat} {xs : List Value} (h : Fl S w k (.slice (some ⟨b, off, none⟩) m c) n xs) {j : Nat} (hj : j ≤ n) : Fl S w k (.slice (some ⟨b, off + j * k, none⟩) (n - j) (c - j)) (n - j) (xs.drop (j * k)) := by
  obtain ⟨A', cap, hv, hc, ⟨h1, h2, h3⟩, hs⟩ := h
  cases hv
  refine ⟨_, _, rfl, ⟨by omega, by omega⟩, ⟨by rw [List.length_drop, h1, Nat.sub_mul], fun u hu => h2 u (List.mem_of_mem_drop hu), fun h0 => ?_⟩, fun h0 => ?_⟩
  · obtain ⟨b', off', ha, hb, hx⟩ := h3 (by omega)
    cases ha
    refine ⟨b, off + j * k, rfl, hb, fun i u hu => ?_⟩
    rw [List.getElem?_drop] at hu
    rw [Nat.add_assoc]
    exact hx _ u hu
  · obtain ⟨b', off', ha, hS⟩ := hs (by omega)
    cases ha
    exact ⟨b, off + j * k, rfl, hS⟩

theorem RBs.fl {w : World} {v : Value} {l : List UInt8} (h : RBs S w v l) : Fl S w 1 v l.length (byteVals l) := by
  obtain ⟨A, cap, xs, hv, hc, hl, hr, hs⟩ := h
  refine ⟨A, cap, hv, hc, ?_, hs⟩
  have : xs = byteVals l := by
    apply List.ext_getElem
    · rw [hl.1]; simp [byteVals]
    · intro i h1 h2
      have hi : i < l.length := by have := hl.1; omega
      have h := hr i hi
      rw [chunk_one h1] at h
      simp only [RByte, List.cons.injEq, and_true] at h
      rw [h]
      simp [byteVals]
  rw [← this]
  exact hl
theorem Fl.rbs {w : World} {v : Value} {l : List UInt8} {n : Nat} (h : Fl S w 1 v n (byteVals l)) : RBs S w v l := by
  obtain ⟨A, cap, hv, hc, hl, hs⟩ := h
  have hn : n = l.length := by have := hl.1; simp [byteVals] at this; omega
  subst hn
  refine ⟨A, cap, byteVals l, hv, hc, hl, fun i hi => ?_, hs⟩
  rw [chunk_one (by simpa [byteVals] using hi)]
  simp [RByte, byteVals]

/-! numbers that are natural -/
section
variable {P : Program} {ρ : Operand → Value} {W : World} {d : Option Tmp} {t xt yt : TypeId} {p : String} {af : Array Edge} {g : Option (Nat × Bool)} {x y : Operand} {a b : Nat}
theorem rn_quoN (hx : ρ x = .int .i64 (a : Nat)) (hy : ρ y = .int .i64 (b : Nat)) (h : 0 < b) (hm : a ≤ 9223372036854775807) : (execOp ρ ⟨d, .binOp .quo xt x y yt, t, p, af, g⟩).run P W = .ok (.value (.int .i64 ((a / b : Nat) : Int))) W := by
  rw [rn_quo hx hy (by omega) (by omega) (by omega), Int.natCast_ediv]
theorem rn_remN (hx : ρ x = .int .i64 (a : Nat)) (hy : ρ y = .int .i64 (b : Nat)) (h : 0 < b) : (execOp ρ ⟨d, .binOp .rem xt x y yt, t, p, af, g⟩).run P W = .ok (.value (.int .i64 ((a % b : Nat) : Int))) W := by
  rw [rn_rem hx hy (by omega) (by omega), Int.natCast_emod]
theorem rn_addN (hx : ρ x = .int .i64 (a : Nat)) (hy : ρ y = .int .i64 (b : Nat)) (h : a + b ≤ 9223372036854775807) : (execOp ρ ⟨d, .binOp .add xt x y yt, t, p, af, g⟩).run P W = .ok (.value (.int .i64 ((a + b : Nat) : Int))) W :=
  rn_add hx hy (by omega) (by omega)
theorem rn_mulN (hx : ρ x = .int .i64 (a : Nat)) (hy : ρ y = .int .i64 (b : Nat)) (h : a * b ≤ 9223372036854775807) : (execOp ρ ⟨d, .binOp .mul xt x y yt, t, p, af, g⟩).run P W = .ok (.value (.int .i64 ((a * b : Nat) : Int))) W :=
  rn_mul hx hy (by rw [← Int.natCast_mul]; omega) (by rw [Int.natCast_mul])
end
theorem Fl.cellAt {w : World} {k n m c b off : Nat} {A : Option Addr} {xs : List Value} (h : Fl S w k (.slice A m c) n xs) (hA : A = some ⟨b, off, none⟩) {j : Nat} {u : Value} (hu : xs[j]? = some u) : w.cell? ⟨b, off + j, none⟩ = some u := by
  have h0 : 0 < n := by
    rcases Nat.eq_zero_or_pos n with h0 | h0
    · have := h.len
      have := (List.getElem?_eq_some_iff.1 hu).1
      subst h0
      omega
    · exact h0
  obtain ⟨b', off', hA', _, _, hx⟩ := h.at h0
  rw [hA] at hA'
  cases hA'
  exact hx j u hu
theorem byteVals_at {l : List UInt8} {i : Nat} (h : i < l.length) : (byteVals l)[i]? = some (.int .u8 ((l.getD i 0).toNat : Nat)) := by
  simp [byteVals, List.getD_eq_getElem?_getD, List.getElem?_eq_getElem h]
theorem u32Vals_at {l : List UInt32} {i : Nat} (h : i < l.length) : (u32Vals l)[i]? = some (.int .u32 ((l.getD i 0).toNat : Nat)) := by
  simp [u32Vals, List.getD_eq_getElem?_getD, List.getElem?_eq_getElem h]
theorem len_part {l : List UInt8} {L i k : Nat} (h : l.length = L) (hi : (i + 1) * k ≤ L) : ((l.drop (i * k)).take k).length = k := by
  rw [List.length_take, List.length_drop, h]
  rw [Nat.add_mul, Nat.one_mul] at hi
  omega
theorem bytes_part (l : List UInt8) (i k : Nat) : (byteVals l).toArray.extract i (i + k) = (byteVals ((l.drop i).take k)).toArray := by
  simp [byteVals, List.map_take, List.map_drop]
theorem grow_new {w w1 w2 : World} {g n : Nat} (h : w.grownBy w1 (some g)) (k : w1.grownBy w2 (some n)) (hn : w.heap.size ≤ n) : w.grownBy w2 (some g) :=
  ⟨k.os.trans h.os, k.tape.trans h.tape, k.output.trans h.output, Nat.le_trans h.size k.size, fun i hi hne => (k.block i (Nat.lt_of_lt_of_le hi h.size) (fun e => by injection e with e; omega)).trans (h.block i hi hne)⟩

end Go.Proofs.Ytjmdodgmoehfkaa
