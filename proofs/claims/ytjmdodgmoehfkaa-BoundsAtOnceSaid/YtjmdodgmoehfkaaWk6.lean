/- Laws of single operations: slice literals of aggregates, bytes of a string, append of zeros, append with its value's form; slices of slices of bytes; lists of digests. No program in sight. -/
import Derived.Test.YtjmdodgmoehfkaaWk5
import Derived.Great.BuildSlice
import Derived.Lib.ConvBytes
import Derived.Lib.AppendZeros
namespace Go.Proofs.Ytjmdodgmoehfkaa
open Go.RowKit

variable {S S' : Nat → Prop}

/-! parts of flat slices, by their lists -/
theorem byteVals_app (a b : List UInt8) : byteVals a ++ byteVals b = byteVals (a ++ b) := by simp [byteVals]
theorem byteVals_take (a : List UInt8) (n : Nat) : (byteVals a).take n = byteVals (a.take n) := by simp [byteVals, List.map_take]
theorem byteVals_drop (a : List UInt8) (n : Nat) : (byteVals a).drop n = byteVals (a.drop n) := by simp [byteVals, List.map_drop]
theorem byteVals_nil : byteVals [] = [] := rfl
theorem Fl.takeB {w : World} {n m c : Nat} {A : Option Addr} {l : List UInt8} (h : Fl S w 1 (.slice A m c) n (byteVals l)) {j : Nat} (hj : j ≤ n) : Fl S w 1 (.slice A j c) j (byteVals (l.take j)) := by
  have := h.take hj
  rwa [Nat.mul_one, byteVals_take] at this
theorem Fl.dropB {w : World} {n m c b off : Nat} {A : Option Addr} {l : List UInt8} (h : Fl S w 1 (.slice A m c) n (byteVals l)) (hA : A = some ⟨b, off, none⟩) {j : Nat} (hj : j ≤ n) : Fl S w 1 (.slice (some ⟨b, off + j * 1, none⟩) (n - j) (c - j)) (n - j) (byteVals (l.drop j)) := by
  subst hA
  have h2 := h.drop hj
  have e : (byteVals l).drop (j * 1) = byteVals (l.drop j) := by rw [Nat.mul_one, byteVals_drop]
  exact e ▸ h2
/-- a part of a known block -/
theorem Fl.blkB {w : World} {g : Nat} {t : TypeId} {l : List UInt8} {n c : Nat} (h : Blk w g t (byteVals l)) (hl : l.length = n) (hc : n ≤ c ∧ c ≤ 9223372036854775807) : Fl (fun b => b = g) w 1 (.slice (some ⟨g, 0, none⟩) n c) n (byteVals l) :=
  Fl.blk h (by rw [byteVals_len hl]; omega) (byteVals_one l) hc rfl
theorem Fl.any {w : World} {k n : Nat} {v : Value} {xs : List Value} (h : Fl S w k v n xs) : Fl (fun _ => True) w k v n xs := h.sub fun _ _ => trivial
theorem Fl.take_eq {w : World} {k n m c : Nat} {A : Option Addr} {xs ys : List Value} (h : Fl S w k (.slice A m c) n xs) {j : Nat} (hj : j ≤ n) (e : xs.take (j * k) = ys) : Fl S w k (.slice A j c) j ys := e ▸ h.take hj
theorem Fl.drop_eq {w : World} {k n m c b off : Nat} {A : Option Addr} {xs ys : List Value} (h : Fl S w k (.slice A m c) n xs) (hA : A = some ⟨b, off, none⟩) {j : Nat} (hj : j ≤ n) (e : xs.drop (j * k) = ys) : Fl S w k (.slice (some ⟨b, off + j * k, none⟩) (n - j) (c - j)) (n - j) ys := by
  subst hA
  exact e ▸ h.drop hj

/-! slices of slices of bytes -/
theorem RBss.of_blk {w : World} {g : Nat} {t : TypeId} {vs : List Value} {l : List (List UInt8)} {n : Nat} (h : Blk w g t vs) (hn : l.length = n) (hv : vs.length = n) (hn2 : n ≤ 9223372036854775807) (h1 : ∀ u ∈ vs, u.oneCell' = true) (hS : S g) (hr : ∀ i (hi : i < l.length) (hj : i < vs.length), RBs S w vs[i] l[i]) : RBss S w (.slice (some ⟨g, 0, none⟩) n n) l := by
  subst hn
  refine ⟨_, _, vs, rfl, ⟨Nat.le_refl _, hn2⟩, h.cel (by omega) h1, fun i hi => ?_, fun _ => ⟨g, 0, rfl, hS⟩⟩
  rw [chunk_one (by omega)]
  exact ⟨_, rfl, hr i hi (by omega)⟩
theorem RBs.one {w : World} {v : Value} {l : List UInt8} (h : RBs S w v l) : v.oneCell' = true := by obtain ⟨A, c, rfl, _⟩ := RSl.form h; rfl
theorem RBss.two {w : World} {g : Nat} {t : TypeId} {v1 v2 : Value} {l1 l2 : List UInt8} {n1 n2 : Nat} {S1 S2 : Nat → Prop} (h : Blk w g t [v1, v2]) (h1 : Fl S1 w 1 v1 n1 (byteVals l1)) (h2 : Fl S2 w 1 v2 n2 (byteVals l2)) : RBss (fun _ => True) w (.slice (some ⟨g, 0, none⟩) 2 2) [l1, l2] := by
  have r1 := h1.any.rbs
  have r2 := h2.any.rbs
  refine RBss.of_blk h rfl rfl (by omega) (by simp [r1.one, r2.one]) trivial (fun i hi hj => ?_)
  match i, hi with
  | 0, _ => exact r1
  | 1, _ => exact r2
theorem RBss.three {w : World} {g : Nat} {t : TypeId} {v1 v2 v3 : Value} {l1 l2 l3 : List UInt8} {n1 n2 n3 : Nat} {S1 S2 S3 : Nat → Prop} (h : Blk w g t [v1, v2, v3]) (h1 : Fl S1 w 1 v1 n1 (byteVals l1)) (h2 : Fl S2 w 1 v2 n2 (byteVals l2)) (h3 : Fl S3 w 1 v3 n3 (byteVals l3)) : RBss (fun _ => True) w (.slice (some ⟨g, 0, none⟩) 3 3) [l1, l2, l3] := by
  have r1 := h1.any.rbs
  have r2 := h2.any.rbs
  have r3 := h3.any.rbs
  refine RBss.of_blk h rfl rfl (by omega) (by simp [r1.one, r2.one, r3.one]) trivial (fun i hi hj => ?_)
  match i, hi with
  | 0, _ => exact r1
  | 1, _ => exact r2
  | 2, _ => exact r3

/-! slice literals whose every element is given -/
section
variable {P : Program} {W : World}
theorem build_whole {t e : TypeId} {k : Nat} {z : Value} {vs : List Value} {parts : Array (Nat × Value)} {cs : List Value} {n : Nat} (hu : P.underlying t = some (.slice e)) (hi : (P.info? e).map (fun i => (i.zero, i.size)) = some (some z, k)) (hk : 0 < k) (hp : parts.toList = (vs.zipIdx 0).map fun x => (x.2, x.1)) (hn : vs.length = n)
    (h1 : ∀ v ∈ vs, v.cells.size = k) (hs : n * k ≤ 16777216) (h0 : 0 < n) (hc : (vs.flatMap fun v => v.cells.toList) = cs) : (Instr.buildSlice t n parts).run P W = .ok (.slice (some ⟨W.heap.size, 0, none⟩) n n) (W.alloc (.cells cs.toArray e)) := by
  subst hn
  subst hc
  cases hq : P.info? e with
  | none => simp [hq] at hi
  | some i =>
    simp only [hq, Option.map_some, Option.some.injEq, Prod.mk.injEq] at hi
    obtain ⟨hz, rfl⟩ := hi
    refine run_buildSlice W t e _ parts _ i z hu hq hz (by omega) (Nat.mul_ne_zero (by omega) (by omega)) ?_
    rw [hp]
    exact Go.Great.fill_whole hk vs _ h1 (by simp)
end

theorem build_wholeE {P : Program} {W : World} {t e : TypeId} {k bytes : Nat} {z : Value} (E : El P t e z k bytes) {vs : List Value} {parts : Array (Nat × Value)} {cs : List Value} {n : Nat} (hp : parts.toList = (vs.zipIdx 0).map fun x => (x.2, x.1)) (hn : vs.length = n)
    (h1 : ∀ v ∈ vs, v.cells.size = k) (hs : n * k ≤ 16777216) (h0 : 0 < n) (hc : (vs.flatMap fun v => v.cells.toList) = cs) : (Instr.buildSlice t n parts).run P W = .ok (.slice (some ⟨W.heap.size, 0, none⟩) n n) (W.alloc (.cells cs.toArray e)) := by
  obtain ⟨i, hi, hz0, hz1, hz2⟩ := info_parts E.hi
  exact build_whole E.ht (z := z) (k := k) (by rw [hi]; simp [hz0, hz1]) E.hk hp hn h1 hs h0 hc

/-! the bytes of a string, as new memory; zeros appended to nothing; append, with the form of its value -/
section
variable {N : Nat} {m : List (Nat × Value)} {a : Act} {P : Program} {ops : Array Oper} {Q : Exit → Act → World → Prop} {i : Nat} {w : World} {o : Oper} {K : Act → World → Prop} {d : Nat}
theorem o_strB {src dst e : TypeId} {u : TypeDesc} {x : Operand} {l : List UInt8} (hF : Sl N m a) (ho : ops[i]? = some o) (hw : Region.wanted o (yielded ops a.tmps) = true) (hd : o.dst = some d) (hN : Nat.blt d N = true) (hop : o.op = .convert src dst x) (hx : a.eval x = strOf l)
    (hs : P.underlying src = some u) (hdd : P.underlying dst = some (.slice e)) (he : P.underlying e = some (.int .u8)) (hl : l.length ≤ 9223372036854775807)
    (h : ∀ g c w' a', Sl N ((d, .slice (some ⟨g, 0, none⟩) l.length c) :: m) a' → w.heap.size = g → w'.heap.size = g + 1 → l.length ≤ c → Fl (fun b => b = g) w' 1 (.slice (some ⟨g, 0, none⟩) l.length c) l.length (byteVals l) → Ext w w' → K a' w') : wpOp P ops Q i K a w := by
  have hsz : (⟨l.toArray⟩ : ByteArray).size = l.length := by simp [ByteArray.size]
  have hrun := Lib.run_convert_string_bytes (P := P) w src dst e ⟨l.toArray⟩ hs hdd he
  rw [hsz] at hrun
  have hge := grownCap_ge w l.length 0 e
  have hle : grownCap w l.length 0 e ≤ maxLen := grownCap_le_maxLen w l.length 0 e (by simpa [maxLen] using hl)
  have hext : Ext w (Lib.bytesWorld w e ⟨l.toArray⟩) := by
    refine ⟨rfl, rfl, rfl, ?_, fun j hj => Lib.bytesWorld_at_old w e _ j hj⟩
    rw [Lib.bytesWorld_size]; omega
  refine op_run ho hw (v := .slice (some ⟨w.heap.size, 0, none⟩) l.length (grownCap w l.length 0 e)) (w' := Lib.bytesWorld w e ⟨l.toArray⟩) ?_ (h w.heap.size _ _ _ (by rw [hd]; exact hF.put hN) rfl (Lib.bytesWorld_size w e _) hge ?_ hext)
  · unfold execOp
    simp only [hop, hx, strOf, Sem.run_bind, hrun, Result.andThen_ok, Sem.run_pure]
  · refine ⟨_, _, rfl, ⟨hge, by simpa [maxLen] using hle⟩, ⟨by simp [byteVals], byteVals_one l, fun _ => ⟨_, 0, rfl, by rw [Lib.bytesWorld_size]; omega, fun j v hv => ?_⟩⟩, fun _ => ⟨_, 0, rfl, rfl⟩⟩
    have hj : j < l.length := by have := (List.getElem?_eq_some_iff.1 hv).1; simpa [byteVals] using this
    rw [Nat.zero_add, Lib.bytesWorld_cell w e _ j (by rw [hsz]; exact hj)]
    rw [byteVals_at hj] at hv
    exact hv
/-- append(nil, make(n)..) -/
theorem o_zeros {t tn e : TypeId} {z : Value} {k bytes : Nat} (E : El P t e z k bytes) (hF : Sl N m a) (ho : ops[i]? = some o) (hw : Region.wanted o (yielded ops a.tmps) = true) (hd : o.dst = some d) (hN : Nat.blt d N = true) {s x : Operand} {kn k2 : IntKind}
    (hop : o.op = .call { callee := .builtin .append, args := #[s, x], argTypes := #[t, tn] }) (htn : P.underlying tn = some (.int k2)) (hs : a.eval s = .slice none 0 0) {n : Nat} (hx : a.eval x = .int kn n) (h0 : 0 < n) (hb : n * bytes ≤ 140737488355328) (h63 : n ≤ 9223372036854775807)
    (h : ∀ g c xs w' a', Sl N ((d, .slice (some ⟨g, 0, none⟩) n c) :: m) a' → w.heap.size = g → n ≤ c → c ≤ 9223372036854775807 → w'.ownsRow w.heap.size e k (.slice (some ⟨g, 0, none⟩) n c) n xs → Ext w w' → K a' w') : wpOp P ops Q i K a w := by
  obtain ⟨ii, hi, hz0, hz1, hz2⟩ := info_parts E.hi
  have hrun := Lib.run_append_nil_zeros (P := P) w t tn o.type e ii z kn k2 E.ht htn hi hz0 n h0 (by rw [hz1]; exact E.hk) (by omega) (by rw [hz2]; omega)
  have hge := grownCap_ge w n 0 e
  have hle : grownCap w n 0 e ≤ maxLen := grownCap_le_maxLen w n 0 e (by simpa [maxLen] using h63)
  have hown : (w.drew.alloc (.cells (Builtin.zeroCells z.cells n ++ Builtin.zeroCells z.cells (grownCap w n 0 e - n)) e)).ownsRow w.heap.size e k (.slice (some ⟨w.heap.size, 0, none⟩) n (grownCap w n 0 e)) n ((Builtin.zeroCells z.cells n ++ Builtin.zeroCells z.cells (grownCap w n 0 e - n)).toList.take (n * k)) := by
    have hg : (w.drew.alloc (.cells (Builtin.zeroCells z.cells n ++ Builtin.zeroCells z.cells (grownCap w n 0 e - n)) e)).heap[w.heap.size]? = some (.cells (Builtin.zeroCells z.cells n ++ Builtin.zeroCells z.cells (grownCap w n 0 e - n)).toList.toArray e (0, 0)) := by rw [Array.toArray_toList]; exact heap_alloc_new w.drew _
    refine own_of_blk hg hge (by simpa [maxLen] using hle) ?_ (Nat.le_refl _)
    simp only [Array.length_toList, Array.size_append, size_zeroCells, E.hz, ← Nat.add_mul]
    congr 1
    omega
  refine op_run ho hw ?_ (h w.heap.size _ _ _ _ (by rw [hd]; exact hF.put hN) rfl hge (by simpa [maxLen] using hle) hown ((Ext.refl w).drew.alloc _))
  unfold execOp
  simp only [hop, resolve, invoke, builtin, Sem.run_bind, Sem.run_pure, Result.andThen_ok, List.map_toArray, List.map_cons, List.map_nil, hs, hx, hrun]
/-- append onto a row of the call's own -/
theorem o_appA {t e : TypeId} {z : Value} {k bytes : Nat} (E : El P t e z k bytes) (hF : Sl N m a) (ho : ops[i]? = some o) (hw : Region.wanted o (yielded ops a.tmps) = true) (hd : o.dst = some d) (hN : Nat.blt d N = true) {s x : Operand}
    (hop : o.op = .call { callee := .builtin .append, args := #[s, x], argTypes := #[t, t] }) {B : Option Addr} {n c0 : Nat} (hs : a.eval s = .slice B n c0) {A : Option Addr} {n2 c : Nat} (hx : a.eval x = .slice A n2 c)
    {base : Nat} {xs ys zs : List Value} (hown : w.ownsRow base e k (.slice B n c0) n xs) (hr : Cel w k A n2 ys) (hbase : base ≤ w.heap.size)
    (h63 : n + n2 ≤ 9223372036854775807) (hbytes : (n + n2) * bytes ≤ 140737488355328) (hz : xs ++ ys = zs)
    (h : ∀ A' c' w' a', Sl N ((d, .slice A' (n + n2) c') :: m) a' → w'.ownsRow base e k (.slice A' (n + n2) c') (n + n2) zs → w.grownBy w' (Value.slice B n c0).ownBlock → n + n2 ≤ c' → c' ≤ 9223372036854775807 → K a' w') : wpOp P ops Q i K a w := by
  subst hz
  refine op_app E ho hw hop hs hx hown hr hbase h63 hbytes fun v' w' h1 h2 _ => ?_
  obtain ⟨A', c', rfl, h3, h4⟩ := own_any h1
  exact h A' c' w' _ (by rw [hd]; exact hF.put hN) h1 h2 h3 h4
end
theorem own_nil (w : World) (base : Nat) (e : TypeId) (k : Nat) : w.ownsRow base e k (.slice none 0 0) 0 [] := ⟨by simp, .inl ⟨rfl, rfl⟩⟩
/-- the first ones of a row of the call's own -/
theorem own_take {w : World} {base : Nat} {e : TypeId} {k : Nat} {A : Option Addr} {n c : Nat} {xs : List Value} (h : w.ownsRow base e k (.slice A n c) n xs) {j : Nat} (hj : j ≤ n) : w.ownsRow base e k (.slice A j c) j (xs.take (j * k)) := by
  have h0 : j * k ≤ n * k := Nat.mul_le_mul_right _ hj
  refine ⟨by rw [List.length_take, h.1]; omega, ?_⟩
  rcases h.2 with ⟨h', hn⟩ | ⟨g, cap, cur, h', hb, hg, hnc, hcm, hcs, ht⟩
  · cases h'
    exact .inl ⟨by rw [show j = 0 by omega], by omega⟩
  · cases h'
    exact .inr ⟨g, c, cur, rfl, hb, hg, by omega, hcm, hcs, by rw [← ht, List.take_take, Nat.min_eq_left h0]⟩
theorem own_zero {w : World} {base : Nat} {e : TypeId} {k : Nat} {A : Option Addr} {n c : Nat} {xs : List Value} (h : w.ownsRow base e k (.slice A n c) n xs) : w.ownsRow base e k (.slice A 0 c) 0 [] := by
  have := own_take h (Nat.zero_le n)
  simpa using this
theorem own_form0 {w : World} {base : Nat} {e : TypeId} {k : Nat} {A : Option Addr} {n m c : Nat} {xs : List Value} (h : w.ownsRow base e k (.slice A m c) n xs) : m = n ∧ n ≤ c ∧ c ≤ 9223372036854775807 := by
  obtain ⟨A', c', h', h1, h2⟩ := own_any h
  cases h'
  exact ⟨rfl, h1, h2⟩
theorem ext_row {a w w' : World} {base : Nat} {e : TypeId} {k n : Nat} {v : Value} {xs : List Value} (h : Ext a w) (hg : w.grownBy w' v.ownBlock) (ho : w.ownsRow base e k v n xs) (hb : a.heap.size ≤ base) : Ext a w' :=
  h.grown hg fun k hk => Nat.le_trans hb (ho.lt k hk).1

theorem Ext.of_eq {w w' : World} (h : w' = w) : Ext w w' := h ▸ Ext.refl w

/-! lists of digests -/
def digVals (l : List (List UInt8)) : List Value := l.flatMap byteVals
theorem digVals_app (a b : List (List UInt8)) : digVals a ++ digVals b = digVals (a ++ b) := by simp [digVals]
theorem digVals_sing (x : List UInt8) : byteVals x = digVals [x] := by simp [digVals]
theorem digVals_one (l : List (List UInt8)) : ∀ u ∈ digVals l, u.oneCell' = true := by
  intro u hu
  simp only [digVals, List.mem_flatMap] at hu
  obtain ⟨x, _, hx⟩ := hu
  exact byteVals_one x u hx
/-- each is one of 32 bytes -/
def All32 (l : List (List UInt8)) : Prop := ∀ x ∈ l, x.length = 32
theorem All32.nil : All32 [] := fun _ h => by cases h
theorem All32.app {a b : List (List UInt8)} (h : All32 a) (k : All32 b) : All32 (a ++ b) := fun x hx => by
  rcases List.mem_append.1 hx with hx | hx
  · exact h x hx
  · exact k x hx
theorem All32.sing {x : List UInt8} (h : x.length = 32) : All32 [x] := fun y hy => by simp at hy; rw [hy]; exact h
theorem All32.cons {x : List UInt8} {l : List (List UInt8)} (h : x.length = 32) (k : All32 l) : All32 (x :: l) := fun y hy => by
  rcases List.mem_cons.1 hy with h1 | h1
  · rw [h1]; exact h
  · exact k y h1
theorem All32.take {l : List (List UInt8)} (h : All32 l) (n : Nat) : All32 (l.take n) := fun x hx => h x (List.mem_of_mem_take hx)
theorem All32.drop {l : List (List UInt8)} (h : All32 l) (n : Nat) : All32 (l.drop n) := fun x hx => h x (List.mem_of_mem_drop hx)
theorem All32.rev {l : List (List UInt8)} (h : All32 l) : All32 l.reverse := fun x hx => h x (List.mem_reverse.1 hx)
theorem dig_len {l : List (List UInt8)} (h : All32 l) (i : Nat) (hi : i < l.length) : (l.getD i []).length = 32 := by
  rw [List.getD_eq_getElem?_getD, List.getElem?_eq_getElem hi, Option.getD_some]
  exact h _ (List.getElem_mem hi)
theorem digVals_len : ∀ {l : List (List UInt8)}, All32 l → (digVals l).length = l.length * 32
  | [], _ => rfl
  | x :: l, h => by
    have ih := digVals_len (l := l) fun y hy => h y (List.mem_cons_of_mem _ hy)
    have hx := h x List.mem_cons_self
    rw [digVals, List.flatMap_cons, List.length_append, ← digVals, ih, byteVals_len hx, List.length_cons]
    omega
theorem digVals_take : ∀ {l : List (List UInt8)}, All32 l → ∀ n, (digVals l).take (n * 32) = digVals (l.take n)
  | [], _, n => by simp [digVals]
  | x :: l, h, 0 => by simp [digVals]
  | x :: l, h, n + 1 => by
    have ih := digVals_take (l := l) (fun y hy => h y (List.mem_cons_of_mem _ hy)) n
    have hx : (byteVals x).length = 32 := byteVals_len (h x List.mem_cons_self)
    rw [List.take_succ_cons, digVals, digVals, List.flatMap_cons, List.flatMap_cons, ← digVals, ← digVals, ← ih, List.take_append, hx, List.take_of_length_le (by omega), show (n + 1) * 32 - 32 = n * 32 from by omega]
theorem digVals_drop : ∀ {l : List (List UInt8)}, All32 l → ∀ n, (digVals l).drop (n * 32) = digVals (l.drop n)
  | [], _, n => by simp [digVals]
  | x :: l, h, 0 => by simp
  | x :: l, h, n + 1 => by
    have ih := digVals_drop (l := l) (fun y hy => h y (List.mem_cons_of_mem _ hy)) n
    have hx : (byteVals x).length = 32 := byteVals_len (h x List.mem_cons_self)
    rw [List.drop_succ_cons, digVals, List.flatMap_cons, ← digVals, ← ih, List.drop_append, hx, List.drop_eq_nil_of_le (by omega), List.nil_append, show (n + 1) * 32 - 32 = n * 32 from by omega]
theorem digVals_at {l : List (List UInt8)} (h : All32 l) {i : Nat} (hi : i < l.length) {j : Nat} {v : Value} (hv : (byteVals (l.getD i []))[j]? = some v) : (digVals l)[i * 32 + j]? = some v := by
  have hj : j < 32 := by have := (List.getElem?_eq_some_iff.1 hv).1; rwa [byteVals_len (dig_len h i hi)] at this
  have h1 : (digVals l)[i * 32 + j]? = ((digVals l).drop (i * 32))[j]? := by rw [List.getElem?_drop]
  rw [h1, digVals_drop h, List.drop_eq_getElem_cons hi, digVals, List.flatMap_cons]
  have hx : l[i] = l.getD i [] := by rw [List.getD_eq_getElem?_getD, List.getElem?_eq_getElem hi, Option.getD_some]
  rw [hx, List.getElem?_append_left (by rw [byteVals_len (dig_len h i hi)]; exact hj)]
  exact hv
theorem Fl.digAt {w : World} {n m c b off : Nat} {A : Option Addr} {l : List (List UInt8)} (h : Fl S w 32 (.slice A m c) n (digVals l)) (hA : A = some ⟨b, off, none⟩) (h32 : All32 l) {i : Nat} (hi : i < l.length) (j : Nat) (v : Value) (hv : (byteVals (l.getD i []))[j]? = some v) : w.cell? ⟨b, off + i * 32 + j, none⟩ = some v := by
  rw [Nat.add_assoc]
  exact h.cellAt hA (digVals_at h32 hi hv)

end Go.Proofs.Ytjmdodgmoehfkaa
