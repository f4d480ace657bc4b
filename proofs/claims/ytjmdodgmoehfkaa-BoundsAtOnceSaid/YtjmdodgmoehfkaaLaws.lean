/- Laws for the walk on slices: append, copy, make, over memory that the call itself made; no program in sight. -/
import Derived.Test.YtjmdodgmoehfkaaBase
import Derived.Maps.AppendAt
import Derived.Laws.CopyOwn
namespace Go.Proofs.Ytjmdodgmoehfkaa
open Go.RowKit

variable {S S' : Nat → Prop}

/-- What is known of a slice type t: its element type e, the element's zero, its cells and bytes. -/
structure El (P : Program) (t e : TypeId) (z : Value) (k bytes : Nat) : Prop where
  ht : P.underlying t = some (.slice e)
  hi : (P.info? e).map (fun i => (i.zero, i.size, i.bytes)) = some (some z, k, bytes)
  hz : z.cells.size = k
  hk : 0 < k

/-- Stops of the walk: at an append, a copy, a make. -/
theorem stop_append {P : Program} {ops : Array Oper} {Q : Exit → Act → World → Prop} {rest : List Oper} {a : Act} {w : World} {dst : Option Tmp} {ty : TypeId} {pos : String} {after : Array Edge} {g : Option (Nat × Bool)} {as : Array Operand} {ts : Array TypeId}
    (h : Hid (wpList P ops Q ({ dst := dst, op := .call { callee := .builtin .append, args := as, argTypes := ts }, type := ty, pos := pos, after := after, guard := g } :: rest) a w)) :
    wpList P ops Q ({ dst := dst, op := .call { callee := .builtin .append, args := as, argTypes := ts }, type := ty, pos := pos, after := after, guard := g } :: rest) a w := h
theorem stop_copy {P : Program} {ops : Array Oper} {Q : Exit → Act → World → Prop} {rest : List Oper} {a : Act} {w : World} {dst : Option Tmp} {ty : TypeId} {pos : String} {after : Array Edge} {g : Option (Nat × Bool)} {as : Array Operand} {ts : Array TypeId}
    (h : Hid (wpList P ops Q ({ dst := dst, op := .call { callee := .builtin .copy, args := as, argTypes := ts }, type := ty, pos := pos, after := after, guard := g } :: rest) a w)) :
    wpList P ops Q ({ dst := dst, op := .call { callee := .builtin .copy, args := as, argTypes := ts }, type := ty, pos := pos, after := after, guard := g } :: rest) a w := h
theorem stop_make {P : Program} {ops : Array Oper} {Q : Exit → Act → World → Prop} {rest : List Oper} {a : Act} {w : World} {dst : Option Tmp} {ty : TypeId} {pos : String} {after : Array Edge} {g : Option (Nat × Bool)} {t : TypeId} {x y : Operand}
    (h : Hid (wpList P ops Q ({ dst := dst, op := .makeSlice t x y, type := ty, pos := pos, after := after, guard := g } :: rest) a w)) :
    wpList P ops Q ({ dst := dst, op := .makeSlice t x y, type := ty, pos := pos, after := after, guard := g } :: rest) a w := h

theorem addr_add (b off j : Nat) : (⟨b, off, none⟩ : Addr).add j = ⟨b, off + j, none⟩ := by unfold Addr.add; split <;> simp_all

theorem grown_loc {w w' : World} {row : Option Nat} (hg : w.grownBy w' row) (n : Nat) (hn : n < w.heap.size) (hr : some n ≠ row) :
    (∀ o, w'.cell? ⟨n, o, none⟩ = w.cell? ⟨n, o, none⟩) ∧ (∀ o, w'.frozen? ⟨n, o, none⟩ = w.frozen? ⟨n, o, none⟩) :=
  ⟨fun o => World.cell?_of_block (a := ⟨n, o, none⟩) (hg.block n hn hr), fun o => World.frozen?_of_block (a := ⟨n, o, none⟩) (hg.block n hn hr)⟩

theorem own_form {w : World} {base : Nat} {e : TypeId} {k : Nat} {v : Value} {n : Nat} {xs : List Value} (h : w.ownsRow base e k v n xs) (hn : 0 < n) :
    ∃ g cap, v = .slice (some ⟨g, 0, none⟩) n cap ∧ base ≤ g ∧ g < w.heap.size ∧ n ≤ cap ∧ cap ≤ 9223372036854775807 := by
  rcases h.2 with ⟨_, h0⟩ | ⟨g, cap, cur, rfl, hb, hg, hnc, hcm, _⟩
  · omega
  · exact ⟨g, cap, rfl, hb, (Array.getElem?_eq_some_iff.1 hg).1, hnc, by simpa [maxLen] using hcm⟩

theorem own_any {w : World} {base : Nat} {e : TypeId} {k : Nat} {v : Value} {n : Nat} {xs : List Value} (h : w.ownsRow base e k v n xs) :
    ∃ A cap, v = .slice A n cap ∧ n ≤ cap ∧ cap ≤ 9223372036854775807 := by
  rcases h.2 with ⟨rfl, h0⟩ | ⟨g, cap, cur, rfl, hb, hg, hnc, hcm, _⟩
  · exact ⟨none, 0, by rw [h0], by omega, by omega⟩
  · exact ⟨_, cap, rfl, hnc, by simpa [maxLen] using hcm⟩

theorem own_cel {w : World} {base : Nat} {e : TypeId} {k : Nat} {A : Option Addr} {n m cap : Nat} {xs : List Value} (h : w.ownsRow base e k (.slice A m cap) n xs) (h1 : ∀ u ∈ xs, u.oneCell' = true) : m = n ∧ n ≤ cap ∧ Cel w k A n xs := by
  rcases h.2 with ⟨h', h0⟩ | ⟨g, cap', cur, h', hb, hg, hnc, hcm, hcs, ht⟩
  · cases h'
    subst h0
    exact ⟨rfl, Nat.le_refl _, h.1, h1, fun h => absurd h (by omega)⟩
  · cases h'
    refine ⟨rfl, hnc, h.1, h1, fun h0 => ⟨g, 0, rfl, (Array.getElem?_eq_some_iff.1 hg).1, fun j u hu => ?_⟩⟩
    have hc := h.cells (g := g) rfl j u hu
    rwa [addr_add] at hc

/-- An owned row is kept while other memory changes. -/
theorem own_ext {w w' : World} {base : Nat} {e : TypeId} {k : Nat} {v : Value} {n : Nat} {xs : List Value} (h : w.ownsRow base e k v n xs) (he : Ext w w') : w'.ownsRow base e k v n xs :=
  h.kept (row := none) ⟨he.below.os, he.below.tape, he.below.output, he.size, fun i hi _ => he.below.block i hi⟩ (by cases v.ownBlock <;> simp)

theorem Ext.setC {a w : World} (h : Ext a w) {n i : Nat} (hn : a.heap.size ≤ n) {u : Value} : Ext a (w.setCell ⟨n, i, none⟩ u) := h.setCell (p := ⟨n, i, none⟩) hn u
theorem Blk.farC {w : World} {n : Nat} {t : TypeId} {cs : List Value} (h : Blk w n t cs) {m i : Nat} (hp : n ≠ m) {u : Value} : Blk (w.setCell ⟨m, i, none⟩ u) n t cs := h.far (p := ⟨m, i, none⟩) hp u
theorem own_setC {w : World} {base : Nat} {e : TypeId} {k : Nat} {v : Value} {n : Nat} {xs : List Value} (h : w.ownsRow base e k v n xs) {m i : Nat} (hm : m < base) {u : Value} : (w.setCell ⟨m, i, none⟩ u).ownsRow base e k v n xs := ownsRow_setCell_below h (a := ⟨m, i, none⟩) hm u

section
variable {P : Program} {w : World} {ops : Array Oper} {rest : List Oper} {o : Oper} {a : Act} {Q : Exit → Act → World → Prop}

theorem append_nil_src {base : Nat} {t ty e : TypeId} {z : Value} {k bytes : Nat} (E : El P t e z k bytes) {v : Value} {n : Nat} {xs : List Value} (hown : w.ownsRow base e k v n xs) (c : Nat) :
    (Builtin.append_ #[t, t] ty #[v, .slice none 0 c]).run P w = .ok v w := by
  obtain ⟨i, hi, hz0, hz1, hz2⟩ := info_parts E.hi
  rcases hown.2 with ⟨rfl, rfl⟩ | ⟨g, cap, cur, rfl, _, _, hnc, _⟩
  · simp [Builtin.append_, run_underlying E.ht, sizeOf, typeInfo, hi, Builtin.lenOf, Builtin.firstCells]
  · simp [Builtin.append_, run_underlying E.ht, sizeOf, typeInfo, hi, Builtin.lenOf, Builtin.firstCells, hnc, storeCells]

/-- append onto a row of the call's own, from whatever source. -/
theorem run_app {base : Nat} {t ty e : TypeId} {z : Value} {k bytes : Nat} (E : El P t e z k bytes) {v : Value} {n : Nat} {xs : List Value} (hown : w.ownsRow base e k v n xs)
    {A : Option Addr} {m c : Nat} {ys : List Value} (hr : Cel w k A m ys) (h63 : n + m ≤ 9223372036854775807) (hbytes : (n + m) * bytes ≤ 140737488355328) (hbase : base ≤ w.heap.size) :
    ∃ v' w', (Builtin.append_ #[t, t] ty #[v, .slice A m c]).run P w = .ok v' w' ∧ w'.ownsRow base e k v' (n + m) (xs ++ ys) ∧ w.grownBy w' v.ownBlock ∧ (v'.ownBlock = v.ownBlock ∨ v'.ownBlock = some w.heap.size) := by
  obtain ⟨i, hi, hz0, hz1, hz2⟩ := info_parts E.hi
  obtain ⟨hl, h1, hc⟩ := hr
  rcases A with _ | ad
  · have hm : m = 0 := by
      rcases Nat.eq_zero_or_pos m with h0 | h0
      · exact h0
      · obtain ⟨b, off, h, _⟩ := hc h0
        cases h
    subst hm
    have hn : ys = [] := List.eq_nil_of_length_eq_zero (by simpa using hl)
    subst hn
    exact ⟨v, w, append_nil_src E hown c, by simpa using hown, ⟨rfl, rfl, rfl, Nat.le_refl _, fun _ _ _ => rfl⟩, .inl rfl⟩
  · have hcells : ∀ j u, ys[j]? = some u → w.cell? (ad.add j) = some u := by
      intro j u hu
      rcases Nat.eq_zero_or_pos m with h0 | h0
      · subst h0
        have hn : ys = [] := List.eq_nil_of_length_eq_zero (by simpa using hl)
        subst hn
        simp at hu
      · obtain ⟨b, off, h, _, hx⟩ := hc h0
        injection h with h
        subst h
        rw [addr_add]
        exact hx j u hu
    obtain ⟨v', w', hrun, h2, h3, _, h5⟩ := run_append_own_at (P := P) w base t ty e i z k bytes E.ht hi hz0 hz1 hz2 E.hz E.hk v n xs hown ad m c ys hl hcells h1 (by simpa [maxLen] using h63) hbytes hbase
    exact ⟨v', w', hrun, h2, h3, h5⟩

theorem wpList_app {t e : TypeId} {z : Value} {k bytes : Nat} (E : El P t e z k bytes) (hgd : o.guard = none) {s x : Operand}
    (ho : o.op = .call { callee := .builtin .append, args := #[s, x], argTypes := #[t, t] })
    {v : Value} (hs : a.eval s = v) {A : Option Addr} {m c : Nat} (hx : a.eval x = .slice A m c)
    {base n : Nat} {xs ys : List Value} (hown : w.ownsRow base e k v n xs) (hr : Cel w k A m ys) (hbase : base ≤ w.heap.size)
    (h63 : n + m ≤ 9223372036854775807) (hbytes : (n + m) * bytes ≤ 140737488355328)
    (h : ∀ v' w', w'.ownsRow base e k v' (n + m) (xs ++ ys) → w.grownBy w' v.ownBlock → (v'.ownBlock = v.ownBlock ∨ v'.ownBlock = some w.heap.size) → wpList P ops Q rest (a.put o.dst v') w') : wpList P ops Q (o :: rest) a w := by
  refine wpList_plain hgd fun K hK => ?_
  obtain ⟨v', w', hrun, h2, h3, h4⟩ := run_app (P := P) (ty := o.type) (c := c) E hown hr h63 hbytes hbase
  unfold Oper.wp execOp
  simp only [ho, resolve, invoke, builtin, Sem.run_bind, Sem.run_pure, Result.andThen_ok, List.map_toArray, List.map_cons, List.map_nil, hs, hx, hrun]
  exact hK _ _ (h v' w' h2 h3 h4)

/-- append onto a slice whose capacity is its length (whoever made it): at least one element is appended, so a new row is made. -/
theorem run_app_full {t ty e : TypeId} {z : Value} {k bytes : Nat} (E : El P t e z k bytes) {A : Option Addr} {n : Nat} {xs : List Value} (hd : Cel w k A n xs)
    {B : Option Addr} {m c : Nat} {ys : List Value} (hr : Cel w k B m ys) (hm : 0 < m) (h63 : n + m ≤ 9223372036854775807) (hbytes : (n + m) * bytes ≤ 140737488355328) :
    ∃ v' w', (Builtin.append_ #[t, t] ty #[.slice A n n, .slice B m c]).run P w = .ok v' w' ∧ w'.ownsRow w.heap.size e k v' (n + m) (xs ++ ys) ∧ Ext w w' ∧ v'.ownBlock = some w.heap.size := by
  obtain ⟨i, hi, hz0, hz1, hz2⟩ := info_parts E.hi
  obtain ⟨hl, h1, hc⟩ := hr
  obtain ⟨b, off, rfl, hb, hx⟩ := hc hm
  have hys : ∀ j u, ys[j]? = some u → w.cell? ((⟨b, off, none⟩ : Addr).add j) = some u := fun j u hu => by rw [addr_add]; exact hx j u hu
  subst hz1
  have hlen : (xs ++ ys).length = (n + m) * i.size := by rw [List.length_append, hd.1, hl, Nat.add_mul]
  have fin : ∀ old, old < n + m → (w.drew.alloc (.cells (xs.toArray ++ ys.toArray ++ Builtin.zeroCells z.cells (grownCap w (n + m) old e - (n + m))) e)).ownsRow w.heap.size e i.size
        (.slice (some ⟨w.heap.size, 0, none⟩) (n + m) (grownCap w (n + m) old e)) (n + m) (xs ++ ys) := by
    intro old ho
    have hge := grownCap_ge w (n + m) old e
    have hcm : grownCap w (n + m) old e ≤ maxLen := grownCap_le_maxLen w (n + m) old e (by simpa [maxLen] using h63)
    refine ⟨hlen, .inr ⟨w.heap.size, _, _, rfl, Nat.le_refl _, heap_alloc_new w.drew _, hge, hcm, ?_, ?_⟩⟩
    · simp only [Array.size_append, List.size_toArray, size_zeroCells, E.hz, hd.1, hl, ← Nat.add_mul]
      congr 1
      omega
    · simp only [Array.toList_append, List.append_assoc]
      rw [← List.append_assoc, ← hlen]
      exact List.take_left
  rcases Nat.eq_zero_or_pos n with h0 | h0
  · subst h0
    have hxs : xs = [] := List.eq_nil_of_length_eq_zero (by simpa using hd.1)
    subst hxs
    rcases A with _ | ad
    · have hrun := run_append_nil (P := P) w t ty e i z E.ht hi hz0 ⟨b, off, none⟩ m c ys hl hys hm (by omega) (by rw [hz2]; simpa using (by omega : (0 + m) * bytes ≤ 281474976710656))
      refine ⟨_, _, hrun, ?_, (Ext.refl w).drew.alloc _, rfl⟩
      have := fin 0 (by omega)
      simpa using this
    · have hrun := run_append_grow (P := P) w t ty e i z E.ht hi hz0 ad 0 0 [] (by simp) (by simp) ⟨b, off, none⟩ m c ys hl hys (by omega) (by omega) (growslice_fits (by omega) (by rw [hz2]; exact hbytes))
      refine ⟨_, _, hrun, ?_, (Ext.refl w).drew.alloc _, rfl⟩
      exact fin 0 (by omega)
  · obtain ⟨b', off', rfl, hb', hx'⟩ := hd.2.2 h0
    have hrun := run_append_grow (P := P) w t ty e i z E.ht hi hz0 ⟨b', off', none⟩ n n xs hd.1 (fun j u hu => by rw [addr_add]; exact hx' j u hu) ⟨b, off, none⟩ m c ys hl hys (by omega) (by omega) (growslice_fits (by omega) (by rw [hz2]; exact hbytes))
    refine ⟨_, _, hrun, ?_, (Ext.refl w).drew.alloc _, rfl⟩
    exact fin n (by omega)

theorem wpList_app_full {t e : TypeId} {z : Value} {k bytes : Nat} (E : El P t e z k bytes) (hgd : o.guard = none) {s x : Operand}
    (ho : o.op = .call { callee := .builtin .append, args := #[s, x], argTypes := #[t, t] })
    {A : Option Addr} {n : Nat} (hs : a.eval s = .slice A n n) {B : Option Addr} {m c : Nat} (hx : a.eval x = .slice B m c)
    {xs ys : List Value} (hd : Cel w k A n xs) (hr : Cel w k B m ys) (hm : 0 < m)
    (h63 : n + m ≤ 9223372036854775807) (hbytes : (n + m) * bytes ≤ 140737488355328)
    (h : ∀ v' w', w'.ownsRow w.heap.size e k v' (n + m) (xs ++ ys) → Ext w w' → v'.ownBlock = some w.heap.size → wpList P ops Q rest (a.put o.dst v') w') : wpList P ops Q (o :: rest) a w := by
  refine wpList_plain hgd fun K hK => ?_
  obtain ⟨v', w', hrun, h2, h3, h4⟩ := run_app_full (P := P) (ty := o.type) (c := c) E hd hr hm h63 hbytes
  unfold Oper.wp execOp
  simp only [ho, resolve, invoke, builtin, Sem.run_bind, Sem.run_pure, Result.andThen_ok, List.map_toArray, List.map_cons, List.map_nil, hs, hx, hrun]
  exact hK _ _ (h v' w' h2 h3 h4)

/-- copy into a block that is known whole. -/
theorem wpList_cpy {t e : TypeId} {z : Value} {bytes : Nat} (E : El P t e z 1 bytes) (hgd : o.guard = none) {d s : Operand}
    (ho : o.op = .call { callee := .builtin .copy, args := #[d, s], argTypes := #[t, t] })
    {g off dLen dCap : Nat} (hd : a.eval d = .slice (some ⟨g, off, none⟩) dLen dCap) {A : Option Addr} {sLen sCap : Nat} (hs : a.eval s = .slice A sLen sCap)
    {cur : List Value} {t' : TypeId} (hg : w.heap[g]? = some (.cells cur.toArray t' (0, 0))) {ys : List Value} (hr : Cel w 1 A sLen ys)
    (hfit : off + min sLen dLen ≤ cur.length)
    (h : ∀ w', w'.heap[g]? = some (.cells (splice cur off (ys.take (min sLen dLen))).toArray t' (0, 0)) → w.grownBy w' (some g) → wpList P ops Q rest (a.put o.dst (.int .i64 ((min sLen dLen : Nat) : Int))) w') :
    wpList P ops Q (o :: rest) a w := by
  obtain ⟨i, hi, hz0, hz1, hz2⟩ := info_parts E.hi
  have hsz : (P.info? e).map (·.size) = some 1 := by rw [hi]; simp [hz1]
  obtain ⟨hl, h1, hc⟩ := hr
  have hcl : (ys.take (min sLen dLen)).length = min sLen dLen := by rw [List.length_take]; omega
  by_cases h0 : min sLen dLen = 0
  · refine wpList_copy_nothing hgd d s t t ho e E.ht hsz _ _ _ _ _ _ hd hs h0 ?_
    have := h w (by rw [h0]; simpa [splice] using hg) ⟨rfl, rfl, rfl, Nat.le_refl _, fun _ _ _ => rfl⟩
    rw [h0] at this
    exact this
  · obtain ⟨b, off', rfl, hb, hx⟩ := hc (by omega)
    refine wpList_copy_own hgd d s t t ho e E.ht hsz g off dLen dCap ⟨b, off', none⟩ sLen sCap hd hs cur.toArray t' hg (ys.take (min sLen dLen)) hcl (fun j v hv => ?_) (by rw [hcl]; simpa using hfit) (fun u hu => h1 u (List.mem_of_mem_take hu)) ?_
    · rw [addr_add]
      rw [List.getElem?_take] at hv
      split at hv
      · exact hx j v hv
      · cases hv
    · rw [hcl]
      have := h (w.setRow g (splice cur off (ys.take (min sLen dLen))).toArray) (setRow_heap w g cur.toArray _ t' _ hg) ⟨rfl, rfl, rfl, by simp, fun k _ hk => setRow_other w g k _ (fun e => hk (by rw [e]))⟩
      simpa [splice, hcl, goInt] using this

/-- A block that is known whole, as a row of the call's own. -/
theorem own_of_blk {w : World} {g n cap k : Nat} {cur : List Value} {t : TypeId} (hg : w.heap[g]? = some (.cells cur.toArray t (0, 0))) (hn : n ≤ cap) (hcap : cap ≤ 9223372036854775807) (hc : cur.length = cap * k) {base : Nat} (hb : base ≤ g) :
    w.ownsRow base t k (.slice (some ⟨g, 0, none⟩) n cap) n (cur.take (n * k)) := by
  have : n * k ≤ cap * k := Nat.mul_le_mul_right _ hn
  exact ⟨by rw [List.length_take]; omega, .inr ⟨g, cap, cur.toArray, rfl, hb, hg, hn, by simpa [maxLen] using hcap, by simpa using hc, by simp⟩⟩

end

end Go.Proofs.Ytjmdodgmoehfkaa
