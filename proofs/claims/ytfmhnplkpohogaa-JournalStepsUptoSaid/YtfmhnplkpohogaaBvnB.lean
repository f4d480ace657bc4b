/- Several texts in one: Wk15, Wk10, Seq3, Wk11, Tab, Wk12, Wk13, Wk14, Wk16, Grow, Rng, Rbv, JrA, JrB, JrC, JrD, JrJ, DiskA, DiskB, DiskC, DiskD, DiskE. -/
import Derived.Test.YtfmhnplkpohogaaBvnA
import Derived.Laws.MakeOwn
import Derived.Scope
import Derived.Lib.MinMax
import Derived.RangeFuncNested
import Derived.TacticsIn
import Derived.Test.YtfmhnplkpohogaaProg
import Derived.Handy
import Derived.WalkSpells
set_option linter.unusedVariables false
set_option linter.unusedSimpArgs false
namespace Go.Proofs.Ytfmhnplkpohogaa
open Go.RowKit

theorem unwanted_undef {ops : Array Oper} {o : Oper} {N : Nat} {m : List (Nat × Value)} {a : Act} {j dj : Nat} {b : Bool} {oj : Oper} (hg : o.guard = some (j, b)) (hj : ops[j]? = some oj) (hd : oj.dst = some dj) (hF : Sl N m a) (hv : look m dj = some undef) : Region.wanted o (yielded ops a.tmps) = false := by
  have h := hF.get hv
  simp only [Act.eval, Array.getD_eq_getD_getElem?] at h
  have h2 : yielded ops a.tmps j = none := by
    cases hc : a.tmps[dj]? with
    | none => simp [yielded, hj, hd, hc]
    | some u =>
      rw [hc] at h
      have h : u = undef := h
      subst h
      simp [yielded, hj, hd, hc, undef]
  simp [Region.wanted, hg, h2]

end Go.Proofs.Ytfmhnplkpohogaa

namespace Go.Proofs.Ytfmhnplkpohogaa
open Go.RowKit

variable {S S' : Nat → Prop}
theorem freeze_at_old (w : World) (g n j : Nat) (hj : j ≠ g) : (w.freeze ⟨g, n, none⟩ 1).heap[j]? = w.heap[j]? := by
  simp [World.freeze, Array.getElem?_modify, Ne.symm hj]
theorem freeze_at {w : World} {g n : Nat} {cs : Array Value} {t : TypeId} (h : w.heap[g]? = some (.cells cs t (0, 0))) : ∃ z, (w.freeze ⟨g, n, none⟩ 1).heap[g]? = some (.cells cs t z) := by
  refine ⟨(cs.size, cs.size + 1) |> fun _ => (n, n + 1), ?_⟩
  simp [World.freeze, Array.getElem?_modify, h]
section
variable {N : Nat} {m : List (Nat × Value)} {a : Act} {P : Program} {ops : Array Oper} {Q : Exit → Act → World → Prop} {i : Nat} {w : World} {o : Oper} {K : Act → World → Prop} {d : Nat}
/-- a conversion of bytes to bytes: the block is marked, what it holds stays -/
theorem o_mark {src e : TypeId} {x : Operand} {l : List UInt8} {g n c : Nat} {t : TypeId} (hF : Sl N m a) (ho : ops[i]? = some o) (hw : Region.wanted o (yielded ops a.tmps) = true) (hd : o.dst = some d) (hN : Nat.blt d N = true) (hop : o.op = .convert src src x) (hx : a.eval x = .slice (some ⟨g, 0, none⟩) n c)
    (hs : P.underlying src = some (.slice e)) (he : P.underlying e = some (.int .u8)) (hg : Blk w g t (byteVals l)) (hl : l.length = n) (hc : n ≤ c) (hm : c ≤ 9223372036854775807)
    (h : ∀ w' a', Sl N ((d, .slice (some ⟨g, 0, none⟩) n c) :: m) a' → Fl (fun b => b = g) w' 1 (.slice (some ⟨g, 0, none⟩) n c) n (byteVals l) → w.grownBy w' (some g) → K a' w') : wpOp P ops Q i K a w := by
  have hsh : w.shape? g = some (t, (byteVals l).toArray.size) := by unfold World.shape?; rw [show w.heap[g]? = _ from hg]
  have hrun : (convert src src (.slice (some ⟨g, 0, none⟩) n c)).run P w = .ok (.slice (some ⟨g, 0, none⟩) n c) (w.freeze ⟨g, (byteVals l).toArray.size, none⟩ 1) := by
    simp [convert, run_underlying hs, run_underlying he, markStringish, hsh, Result.andThen]
  obtain ⟨z, hz⟩ := freeze_at (n := (byteVals l).toArray.size) hg
  refine op_run ho hw (v := .slice (some ⟨g, 0, none⟩) n c) (w' := w.freeze ⟨g, (byteVals l).toArray.size, none⟩ 1) ?_ (h _ _ (by rw [hd]; exact hF.put hN) ?_ ⟨rfl, rfl, rfl, by simp [World.freeze], fun j _ hj => freeze_at_old w g _ j (fun e => hj (by rw [e]))⟩)
  · unfold execOp
    simp only [hop, hx, Sem.run_bind, hrun, Result.andThen_ok, Sem.run_pure]
  · refine ⟨_, _, rfl, ⟨hc, hm⟩, ⟨by rw [byteVals_len hl]; omega, byteVals_one _, fun _ => ⟨g, 0, rfl, by simp [World.freeze]; exact hg.lt, fun j u hu => ?_⟩⟩, fun _ => ⟨g, 0, rfl, rfl⟩⟩
    rw [Nat.zero_add]
    simp only [World.cell?, hz]
    simpa using hu
end
section
variable {P : Program} {ρ : Operand → Value} {W : World} {d : Option Tmp} {t xt yt : TypeId} {p : String} {af : Array Edge} {g : Option (Nat × Bool)} {x y : Operand}
theorem rn_rem8 {a b : UInt8} (hx : ρ x = .int .u8 (a.toNat : Nat)) (hy : ρ y = .int .u8 (b.toNat : Nat)) (h : 0 < b.toNat) : (execOp ρ ⟨d, .binOp .rem xt x y yt, t, p, af, g⟩).run P W = .ok (.value (.int .u8 ((a % b).toNat : Nat))) W := by
  rw [rn_rem hx hy (by omega) (by omega), UInt8.toNat_mod, Int.natCast_emod]
end
theorem cvi_8 (n : Nat) : IntKind.u8.wrap (n : Int) = (((UInt8.ofNat n).toNat : Nat) : Int) := by
  rw [wrap8m, UInt8.toNat_ofNat']; omega
theorem cv8_64 (c : UInt8) : IntKind.i64.wrap ((c.toNat : Nat) : Int) = ((c.toNat : Nat) : Int) := by
  have := c.toNat_lt
  exact i64_nat _ (by omega)
theorem made_one (z : Value) (n : Nat) : madeCells #[z] (n * 1) = (List.replicate n z).toArray := by
  rw [Nat.mul_one]
  apply Array.ext
  · simp [madeCells]
  · intro i h1 h2
    simp [madeCells, Nat.mod_one]
/-- make of a number of elements of one cell -/
theorem rn_makeN {P : Program} {ρ : Operand → Value} {W : World} {d : Option Tmp} {t : TypeId} {p : String} {af : Array Edge} {g : Option (Nat × Bool)} {s e : TypeId} {z : Value} {bytes : Nat} (E : El P s e z 1 bytes) (hz : z.cells = #[z]) {x y : Operand} {kx ky : IntKind} {n : Nat} {cs : List Value} (hx : ρ x = .int kx n) (hy : ρ y = .int ky n) (h : n * bytes ≤ 140737488355328) (h2 : n ≤ 9223372036854775807) (hc : List.replicate n z = cs) :
    (execOp ρ ⟨d, .makeSlice s x y, t, p, af, g⟩).run P W = .ok (.value (.slice (some ⟨W.heap.size, 0, none⟩) n n)) (W.alloc (.cells cs.toArray e)) := by
  obtain ⟨ii, hi, hz0, hz1, hz2⟩ := info_parts E.hi
  have hb : (ii.bytes : Int) * (n : Int) ≤ 281474976710656 := by
    rw [← Int.natCast_mul, hz2, Nat.mul_comm]; omega
  have hr := run_make (P := P) W s e ii z E.ht hi hz0 kx ky n n (by omega) (Int.le_refl _) hb (by omega)
  refine rn_make hx hy (hr.trans ?_)
  rw [Int.toNat_natCast, hz1, hz, made_one, hc]

end Go.Proofs.Ytfmhnplkpohogaa

namespace Go.Proofs.Ytfmhnplkpohogaa
open Go.RowKit

section
variable {P : Program} {ops : Array Oper} {Q : Exit → Act → World → Prop} {S S2 : World → Prop} {F : Nat → Bool}
theorem any_have {n n1 : Nat} {L L1 : Array Bool} {a : Act} {w : World} (R : Act → World → Prop) (h1 : ∀ a W, R a W → wpAnyF P ops Q S F n1 L1 a W) (h2 : (∀ a W, R a W → wpAnyF P ops Q S F n1 L1 a W) → wpAnyF P ops Q S F n L a w) : wpAnyF P ops Q S F n L a w := h2 h1
theorem any_three {i k l n : Nat} {L L1 L2 L3 : Array Bool} {a : Act} {w : World} (hr : Region.ready .any ops L = [i, k, l]) (hL : L.setIfInBounds i true = L1) (hL2 : L.setIfInBounds k true = L2) (hL3 : L.setIfInBounds l true = L3)
    (h : wpOp P ops Q i (fun a' w' => (F i = false → S w → S w') ∧ wpAnyF P ops Q S F n L1 a' w') a w)
    (h2 : wpOp P ops Q k (fun a' w' => (F k = false → S w → S w') ∧ wpAnyF P ops Q S F n L2 a' w') a w)
    (h3 : wpOp P ops Q l (fun a' w' => (F l = false → S w → S w') ∧ wpAnyF P ops Q S F n L3 a' w') a w) : wpAnyF P ops Q S F (n + 1) L a w := by
  subst hL; subst hL2; subst hL3
  refine ⟨fun h0 => (by rw [hr] at h0; cases h0), fun j hj => ?_⟩
  rw [hr] at hj
  simp only [List.mem_cons, List.not_mem_nil, or_false] at hj
  rcases hj with rfl | rfl | rfl
  · exact h
  · exact h2
  · exact h3
end
/-! a block is not that of a row of the call's own -/
theorem own_new {w : World} {base g : Nat} {e : TypeId} {k n : Nat} {v : Value} {xs : List Value} (h : w.ownsRow base e k v n xs) (hg : w.heap.size = g) : some g ≠ v.ownBlock := fun e1 => by
  have := (h.lt g e1.symm).2
  omega
section
variable {N : Nat} {m : List (Nat × Value)} {a : Act} {P : Program} {ops : Array Oper} {Q : Exit → Act → World → Prop} {i : Nat} {w : World} {o : Oper} {K : Act → World → Prop} {d : Nat}
/-- append onto a row of the call's own, with where it lies then -/
theorem o_appB {t e : TypeId} {z : Value} {k bytes : Nat} (E : El P t e z k bytes) (hF : Sl N m a) (ho : ops[i]? = some o) (hw : Region.wanted o (yielded ops a.tmps) = true) (hd : o.dst = some d) (hN : Nat.blt d N = true) {s x : Operand}
    (hop : o.op = .call { callee := .builtin .append, args := #[s, x], argTypes := #[t, t] }) {B : Option Addr} {n c0 : Nat} (hs : a.eval s = .slice B n c0) {A : Option Addr} {n2 c : Nat} (hx : a.eval x = .slice A n2 c)
    {base : Nat} {xs ys zs : List Value} (hown : w.ownsRow base e k (.slice B n c0) n xs) (hr : Cel w k A n2 ys) (hbase : base ≤ w.heap.size)
    (h63 : n + n2 ≤ 9223372036854775807) (hbytes : (n + n2) * bytes ≤ 140737488355328) (hz : xs ++ ys = zs)
    (h : ∀ A' c' w' a', Sl N ((d, .slice A' (n + n2) c') :: m) a' → w'.ownsRow base e k (.slice A' (n + n2) c') (n + n2) zs → w.grownBy w' (Value.slice B n c0).ownBlock → n + n2 ≤ c' → c' ≤ 9223372036854775807 →
      (∀ g, g < w.heap.size → some g ≠ (Value.slice B n c0).ownBlock → some g ≠ (Value.slice A' (n + n2) c').ownBlock) → K a' w') : wpOp P ops Q i K a w := by
  subst hz
  refine op_app E ho hw hop hs hx hown hr hbase h63 hbytes fun v' w' h1 h2 h5 => ?_
  obtain ⟨A', c', rfl, h3, h4⟩ := own_any h1
  refine h A' c' w' _ (by rw [hd]; exact hF.put hN) h1 h2 h3 h4 fun g hg hne => ?_
  rcases h5 with h5 | h5
  · rw [h5]; exact hne
  · rw [h5]; exact fun e => by injection e with e; omega
end
end Go.Proofs.Ytfmhnplkpohogaa

namespace Go.Proofs.Ytfmhnplkpohogaa
open Go.RowKit
section
variable {P : Program} {ρ : Operand → Value} {W : World} {d : Option Tmp} {t xt yt : TypeId} {p : String} {af : Array Edge} {g : Option (Nat × Bool)} {x y : Operand} {a b a' b' r : Bool}
theorem rn_neB (hu : P.underlying xt = some .bool) (hx : ρ x = .bool a) (hy : ρ y = .bool b) (ha : a = a') (hb : b = b') (hr : (a' != b') = r) : (execOp ρ ⟨d, .binOp .neq xt x y yt, t, p, af, g⟩).run P W = .ok (.value (.bool r)) W := by
  subst ha hb hr
  exact rn_bin hx hy guard_bool (by simp [binOp, run_equal_bool W xt a b hu]; cases a <;> cases b <;> rfl)
end
section
variable {P : Program} {ops : Array Oper} {Q : Exit → Act → World → Prop} {S S2 : World → Prop} {F : Nat → Bool}
end
theorem own_grownB {w w' : World} {base : Nat} {e : TypeId} {k n b : Nat} {v : Value} {xs : List Value} (h : w.ownsRow base e k v n xs) (hg : w.grownBy w' (some b)) (hne : some b ≠ v.ownBlock) : w'.ownsRow base e k v n xs :=
  h.kept hg (by
    cases hv : v.ownBlock with
    | none => exact .inl rfl
    | some g => exact .inr fun e1 => hne (by rw [hv]; exact e1.symm))
end Go.Proofs.Ytfmhnplkpohogaa

namespace Go.Proofs.Ytfmhnplkpohogaa
open Go.RowKit

variable {S S' : Nat → Prop} {α : Type}
def recVals (f : α → List Value) (l : List α) : List Value := l.flatMap f
theorem recVals_cons (f : α → List Value) (x : α) (l : List α) : recVals f (x :: l) = f x ++ recVals f l := by simp [recVals]
theorem recVals_drop {f : α → List Value} {k : Nat} (h : ∀ x, (f x).length = k) : ∀ (l : List α) (n : Nat), (recVals f l).drop (n * k) = recVals f (l.drop n)
  | [], n => by simp [recVals]
  | x :: l, 0 => by simp
  | x :: l, n + 1 => by
    have hx := h x
    rw [List.drop_succ_cons, recVals_cons, ← recVals_drop h l n, Nat.add_mul, Nat.one_mul, List.drop_append, hx, List.drop_eq_nil_of_le (by omega), List.nil_append, show n * k + k - k = n * k from by omega]
theorem recVals_at {f : α → List Value} {k : Nat} (h : ∀ x, (f x).length = k) {l : List α} {i : Nat} {x : α} (hi : l[i]? = some x) {j : Nat} {v : Value} (hv : (f x)[j]? = some v) : (recVals f l)[i * k + j]? = some v := by
  have hj := (List.getElem?_eq_some_iff.1 hv).1
  obtain ⟨hl, he⟩ := List.getElem?_eq_some_iff.1 hi
  have h1 : (recVals f l)[i * k + j]? = ((recVals f l).drop (i * k))[j]? := by rw [List.getElem?_drop]
  rw [h1, recVals_drop h, List.drop_eq_getElem_cons hl, recVals_cons, he, List.getElem?_append_left hj]
  exact hv
theorem Fl.recAt {f : α → List Value} {k : Nat} (hk : ∀ x, (f x).length = k) {w : World} {n m c b off : Nat} {A : Option Addr} {l : List α} (h : Fl S w k (.slice A m c) n (recVals f l)) (hA : A = some ⟨b, off, none⟩) {i : Nat} {d : α} (hi : i < l.length) (j : Nat) (v : Value) (hv : (f (l.getD i d))[j]? = some v) : w.cell? ⟨b, off + i * k + j, none⟩ = some v := by
  rw [Nat.add_assoc]
  exact h.cellAt hA (recVals_at hk (by rw [List.getD_eq_getElem?_getD, List.getElem?_eq_getElem hi, Option.getD_some]) hv)
/-! tables of ints -/
def RI1 (S : Nat → Prop) (w : World) (cs : List Value) (l : List Int) : Prop := ∃ v, cs = [v] ∧ Fl S w 1 v l.length (intVals l)
theorem RI1.ext {w w' : World} {cs : List Value} {l : List Int} (h : RI1 S w cs l) (he : Ext w w') : RI1 S w' cs l := by
  obtain ⟨v, hv, h⟩ := h; exact ⟨v, hv, h.ext he⟩
def RIss (S : Nat → Prop) (w : World) (v : Value) (l : List (List Int)) : Prop := RSl S 1 (RI1 S) w v l
theorem RIss.ext {w w' : World} {v : Value} {l : List (List Int)} (h : RIss S w v l) (he : Ext w w') : RIss S w' v l := RSl.ext h he fun _ _ h => h.ext he
theorem RIss.pres {w w' : World} {v : Value} {l : List (List Int)} (h : RIss S w v l) (hp : Pres S w w') : RIss S w' v l := RSl.keep h hp.1 hp.2 fun _ _ ⟨v, hv, h⟩ => ⟨v, hv, h.pres hp⟩
theorem RIss.subB {w : World} {v : Value} {l : List (List Int)} (h : RIss S w v l) (hs : ∀ b, b < w.heap.size → S b → S' b) : RIss S' w v l := RSl.subB h hs fun _ _ ⟨v, hv, h⟩ => ⟨v, hv, h.subB hs⟩
theorem RIss.clip {w : World} {v : Value} {l : List (List Int)} (h : RIss S w v l) : RIss (Clip S w) w v l := h.subB fun _ hb hs => ⟨hs, hb⟩
theorem RIss.nil (w : World) : RIss S w (.slice none 0 0) [] := RSl.nil w
theorem RIss.form {w : World} {v : Value} {l : List (List Int)} (h : RIss S w v l) : ∃ A cap, v = .slice A l.length cap ∧ l.length ≤ cap ∧ cap ≤ 9223372036854775807 := RSl.form h
theorem RIss.get {w : World} {A : Option Addr} {n cap : Nat} {l : List (List Int)} (h : RIss S w (.slice A n cap) l) {i : Nat} (hi : i < n) :
    ∃ b off A' c, A = some ⟨b, off, none⟩ ∧ b < w.heap.size ∧ w.cell? ⟨b, off + i, none⟩ = some (.slice A' (l.getD i []).length c) ∧ Fl S w 1 (.slice A' (l.getD i []).length c) (l.getD i []).length (intVals (l.getD i [])) ∧ (l.getD i []).length ≤ c ∧ c ≤ 9223372036854775807 := by
  obtain ⟨hn, hc, h3⟩ := RSl.elem h
  obtain ⟨b, off, ha, hb, hx⟩ := h3 (by omega)
  obtain ⟨cs, hk, hcs, v, rfl, hv⟩ := hx i (by omega)
  have e : l.getD i [] = l[i]'(by omega) := by rw [List.getD_eq_getElem?_getD, List.getElem?_eq_getElem (by omega), Option.getD_some]
  rw [← e] at hv
  obtain ⟨A', c, rfl, h5, h6⟩ := hv.form
  refine ⟨b, off, A', c, ha, hb, ?_, hv, h5, h6⟩
  have := hcs 0 _ rfl
  rw [Nat.mul_one, Nat.add_zero] at this
  exact this
theorem RIss.of_fl {w : World} {v : Value} {n : Nat} {vs : List Value} {l : List (List Int)} (h : Fl S w 1 v n vs) (hn : l.length = n) (hr : ∀ i, i < n → ∃ u, vs[i]? = some u ∧ Fl S w 1 u (l.getD i []).length (intVals (l.getD i []))) : RIss S w v l := by
  subst hn
  obtain ⟨A, cap, rfl, hc, hl, hs⟩ := h
  refine ⟨A, cap, vs, rfl, hc, hl, fun i hi => ?_, hs⟩
  have hv : i < vs.length := by rw [hl.1]; omega
  rw [chunk_one hv]
  obtain ⟨u, h1, h2⟩ := hr i hi
  rw [List.getElem?_eq_getElem hv] at h1
  injection h1 with h1
  have e : l.getD i [] = l[i] := by rw [List.getD_eq_getElem?_getD, List.getElem?_eq_getElem hi, Option.getD_some]
  rw [e] at h2
  exact ⟨vs[i], rfl, h1 ▸ h2⟩
/-- a row of slices, each of ints -/
theorem RIss.own {w : World} {base : Nat} {e : TypeId} {v : Value} {n : Nat} {vs : List Value} {l : List (List Int)} (h : w.ownsRow base e 1 v n vs) (hS : ∀ b, base ≤ b → S b) (hn : l.length = n) (h1 : ∀ u ∈ vs, u.oneCell' = true) (hr : ∀ i, i < n → ∃ u, vs[i]? = some u ∧ Fl S w 1 u (l.getD i []).length (intVals (l.getD i []))) : RIss S w v l :=
  RIss.of_fl (Fl.own h hS h1) hn hr

end Go.Proofs.Ytfmhnplkpohogaa

namespace Go.Proofs.Ytfmhnplkpohogaa
open Go.RowKit

variable {S S' : Nat → Prop}
section
variable {P : Program} {ρ : Operand → Value} {W : World} {d : Option Tmp} {t xt yt : TypeId} {p : String} {af : Array Edge} {g : Option (Nat × Bool)} {x y : Operand}
theorem rn_min2 {s : TypeId} {k : IntKind} {a b : Int} {u : TypeDesc} (_hu : P.underlying s = some u) (hx : ρ x = .int k a) (hy : ρ y = .int k b) : (execOp ρ ⟨d, .call { callee := .builtin .min, args := #[x, y], argTypes := #[s, s] }, t, p, af, g⟩).run P W = .ok (.value (.int k (min a b))) W := by
  simp [execOp, resolve, invoke, builtin, hx, hy, Lib.run_min_ints]
theorem rn_max2 {s : TypeId} {k : IntKind} {a b : Int} {u : TypeDesc} (_hu : P.underlying s = some u) (hx : ρ x = .int k a) (hy : ρ y = .int k b) : (execOp ρ ⟨d, .call { callee := .builtin .max, args := #[x, y], argTypes := #[s, s] }, t, p, af, g⟩).run P W = .ok (.value (.int k (max a b))) W := by
  simp [execOp, resolve, invoke, builtin, hx, hy, Lib.run_max_ints]
end
theorem scope_ret {Q : Exit → Act → World → Prop} {a : Act} {w : World} (h : Q .ret a w) : Exit.noGoto Q .ret a w := h
/-! two elder blocks are written -/
def Two (w w' : World) (p q : Nat) : Prop := w'.os = w.os ∧ w'.tape = w.tape ∧ w'.output = w.output ∧ w.heap.size ≤ w'.heap.size ∧ ∀ b, b < w.heap.size → b ≠ p → b ≠ q → w'.heap[b]? = w.heap[b]?
theorem Two.refl (w : World) (p q : Nat) : Two w w p q := ⟨rfl, rfl, rfl, Nat.le_refl _, fun _ _ _ _ => rfl⟩
theorem Two.ext {w w1 w2 : World} {p q : Nat} (h : Two w w1 p q) (k : Ext w1 w2) : Two w w2 p q :=
  ⟨k.below.os.trans h.1, k.below.tape.trans h.2.1, k.below.output.trans h.2.2.1, Nat.le_trans h.2.2.2.1 k.size, fun b hb h1 h2 => (k.below.block b (Nat.lt_of_lt_of_le hb h.2.2.2.1)).trans (h.2.2.2.2 b hb h1 h2)⟩
theorem Two.grown {w w1 w2 : World} {p q n : Nat} (h : Two w w1 p q) (k : w1.grownBy w2 (some n)) (hn : n = p ∨ n = q ∨ w.heap.size ≤ n) : Two w w2 p q :=
  ⟨k.os.trans h.1, k.tape.trans h.2.1, k.output.trans h.2.2.1, Nat.le_trans h.2.2.2.1 k.size, fun b hb h1 h2 => (k.block b (Nat.lt_of_lt_of_le hb h.2.2.2.1) (fun e => by injection e with e; omega)).trans (h.2.2.2.2 b hb h1 h2)⟩
theorem Two.trans {w w1 w2 : World} {p q : Nat} (h : Two w w1 p q) (k : Two w1 w2 p q) : Two w w2 p q :=
  ⟨k.1.trans h.1, k.2.1.trans h.2.1, k.2.2.1.trans h.2.2.1, Nat.le_trans h.2.2.2.1 k.2.2.2.1, fun b hb h1 h2 => (k.2.2.2.2 b (Nat.lt_of_lt_of_le hb h.2.2.2.1) h1 h2).trans (h.2.2.2.2 b hb h1 h2)⟩
theorem Two.size {w w' : World} {p q : Nat} (h : Two w w' p q) : w.heap.size ≤ w'.heap.size := h.2.2.2.1
theorem Two.blk {w w' : World} {p q n : Nat} {t : TypeId} {cs : List Value} (h : Two w w' p q) (hb : Blk w n t cs) (h1 : n ≠ p) (h2 : n ≠ q) : Blk w' n t cs := (h.2.2.2.2 n hb.lt h1 h2).trans hb
theorem Two.pres {w w' : World} {p q : Nat} (h : Two w w' p q) (h1 : ¬ S p) (h2 : ¬ S q) : Pres S w w' := ⟨h.size, fun b hb hl => h.2.2.2.2 b hl (fun e => h1 (e ▸ hb)) (fun e => h2 (e ▸ hb))⟩
/-- two blocks written are one after the other -/
theorem Two.split {w w' : World} {p q : Nat} (h : Two w w' p q) (hq : q < w.heap.size) : ∃ w1, w.grownBy w1 (some p) ∧ w1.grownBy w' (some q) := by
  refine ⟨{ w' with heap := w'.heap.setIfInBounds q w.heap[q] }, ⟨h.1, h.2.1, h.2.2.1, by simpa using h.size, fun b hb hne => ?_⟩, ⟨rfl, rfl, rfl, by simp, fun b _ hne => ?_⟩⟩
  · by_cases hc : b = q
    · subst hc
      have := h.size
      simp only [Array.getElem?_setIfInBounds_self_of_lt (show b < w'.heap.size by omega)]
      exact (Array.getElem?_eq_getElem hb).symm
    · have hc' : q ≠ b := fun e => hc e.symm
      simp only [Array.getElem?_setIfInBounds_ne hc']
      exact h.2.2.2.2 b hb (fun e => hne (by rw [e])) hc
  · have hc : q ≠ b := fun e => hne (by rw [e])
    simp only [Array.getElem?_setIfInBounds_ne hc]

end Go.Proofs.Ytfmhnplkpohogaa

namespace Go.Proofs.Ytfmhnplkpohogaa
open Go.RowKit

variable {S S' : Nat → Prop}
section
variable {P : Program} {ρ : Operand → Value} {W : World} {d : Option Tmp} {t : TypeId} {p : String} {af : Array Edge} {g : Option (Nat × Bool)}
end
/-- the first k are u -/
def RepI (u : Int) (m k : Nat) (cur : List Int) : Prop := cur.length = m ∧ ∀ i, i < k → cur.getD i 0 = u
theorem RepI.zero (u : Int) (m : Nat) : RepI u m 0 (List.replicate m 0) := ⟨by simp, fun i hi => by omega⟩
theorem RepI.step {u : Int} {m k n : Nat} {cur ys : List Int} (h : RepI u m k cur) (hk : k + n ≤ m) (hl : n ≤ ys.length) (hy : ∀ i, i < n → ys.getD i 0 = u) : RepI u m (k + n) (splice cur k (ys.take n)) := by
  have hn : (ys.take n).length = n := by rw [List.length_take]; omega
  have hk' : (cur.take k).length = k := by rw [List.length_take, h.1]; omega
  refine ⟨by rw [splice_len (by rw [hn, h.1]; exact hk)]; exact h.1, fun i hi => ?_⟩
  unfold splice
  by_cases hc : i < k
  · have := h.2 i hc
    rw [List.getD_eq_getElem?_getD] at this ⊢
    rw [List.getElem?_append_left (by omega), List.getElem?_take, if_pos hc]
    exact this
  · have := hy (i - k) (by omega)
    rw [List.getD_eq_getElem?_getD] at this ⊢
    rw [List.getElem?_append_right (by omega), hk', List.getElem?_append_left (by omega), List.getElem?_take, if_pos (by omega)]
    exact this
theorem RepI.one {u : Int} {m k : Nat} {cur : List Int} (h : RepI u m k cur) (hk : k < m) : RepI u m (k + 1) (cur.set k u) := by
  refine ⟨by rw [List.length_set]; exact h.1, fun i hi => ?_⟩
  by_cases hc : i = k
  · subst hc
    rw [List.getD_eq_getElem?_getD, List.getElem?_set_self (by rw [h.1]; exact hk)]; rfl
  · have := h.2 i (by omega)
    rw [List.getD_eq_getElem?_getD] at this ⊢
    rw [List.getElem?_set_ne (fun e => hc e.symm)]
    exact this
theorem RepI.take {u : Int} {m k n : Nat} {cur : List Int} (h : RepI u m k cur) (hn : n ≤ k) (hk : k ≤ m) : n ≤ ((cur.drop 0).take k).length ∧ ∀ i, i < n → ((cur.drop 0).take k).getD i 0 = u := by
  refine ⟨by rw [List.length_take, List.length_drop, h.1]; omega, fun i hi => ?_⟩
  have := h.2 i (by omega)
  rw [List.getD_eq_getElem?_getD] at this ⊢
  rw [List.getElem?_take, if_pos (by omega), List.getElem?_drop, Nat.zero_add]
  exact this
theorem RepI.all {u : Int} {m : Nat} {cur : List Int} (h : RepI u m m cur) : cur = List.replicate m u := by
  apply List.ext_getElem (by rw [h.1, List.length_replicate])
  intro i h1 h2
  have := h.2 i (by rw [← h.1]; exact h1)
  rw [List.getD_eq_getElem?_getD, List.getElem?_eq_getElem h1, Option.getD_some] at this
  rw [this, List.getElem_replicate]
theorem one_slices {l : List Value} (h : ∀ u ∈ l, ∃ A n c, u = .slice A n c) : ∀ u ∈ l, u.oneCell' = true := fun u hu => by
  obtain ⟨A, n, c, rfl⟩ := h u hu; rfl
/-! rows of any values -/
abbrev rawVals (l : List Value) : List Value := l
theorem rawVals_app (a b : List Value) : rawVals a ++ rawVals b = rawVals (a ++ b) := rfl

end Go.Proofs.Ytfmhnplkpohogaa

namespace Go.Proofs.Ytfmhnplkpohogaa
open Go.RowKit

variable {S S' : Nat → Prop}
section
variable {P : Program} {ρ : Operand → Value} {W : World} {d : Option Tmp} {t xt yt : TypeId} {p : String} {af : Array Edge} {g : Option (Nat × Bool)} {x y : Operand}
theorem ofInt8 (a : UInt8) : BitVec.ofInt IntKind.u8.bits ((a.toNat : Nat) : Int) = a.toBitVec := by
  apply BitVec.eq_of_toNat_eq
  rw [BitVec.toNat_ofInt]
  show (((a.toNat : Nat) : Int) % 256).toNat = a.toNat
  have := UInt8.toNat_lt a
  omega
theorem wrap8n (n : Nat) (h : n < 256) : IntKind.u8.wrap (n : Int) = n := by rw [wrap8m]; omega
theorem b_and8 (a b : UInt8) : (binOp .and t (.int .u8 (a.toNat : Nat)) (.int .u8 (b.toNat : Nat))).run P W = .ok (.int .u8 ((a &&& b).toNat : Nat)) W := by
  show Sem.run P (pure (Value.int .u8 (IntKind.u8.wrap ((BitVec.ofInt IntKind.u8.bits ((a.toNat : Nat) : Int) &&& BitVec.ofInt IntKind.u8.bits ((b.toNat : Nat) : Int)).toNat : Nat)))) W = _
  rw [ofInt8, ofInt8, Sem.run_pure, wrap8n _ (BitVec.isLt _)]
  rfl
theorem rn_and8 {a b : UInt8} (hx : ρ x = .int .u8 (a.toNat : Nat)) (hy : ρ y = .int .u8 (b.toNat : Nat)) : (execOp ρ ⟨d, .binOp .and xt x y yt, t, p, af, g⟩).run P W = .ok (.value (.int .u8 ((a &&& b).toNat : Nat))) W := rn_bin hx hy guard_int (b_and8 a b)
end
/-! rows of one type side by side -/
theorem Apart.app {w : World} {base : Nat} {e : TypeId} {k n : Nat} {v u u' : Value} {xs : List Value} (h : w.ownsRow base e k v n xs) (ha : Apart v u) (hn : ∀ g, g < w.heap.size → some g ≠ u.ownBlock → some g ≠ u'.ownBlock) : Apart v u' := fun g hg hu => by
  obtain ⟨cur, hc⟩ := own_heap h hg
  exact hn g (Array.getElem?_eq_some_iff.1 hc).1 (fun e1 => ha g hg e1.symm) hu.symm
theorem Apart.types {w : World} {base base' : Nat} {e e' : TypeId} {k k' n n' : Nat} {v u : Value} {xs ys : List Value} (h : w.ownsRow base e k v n xs) (h' : w.ownsRow base' e' k' u n' ys) (hne : e ≠ e') : Apart v u := fun g hg hu => by
  obtain ⟨c1, h1⟩ := own_heap h hg
  obtain ⟨c2, h2⟩ := own_heap h' hu
  rw [h1] at h2
  injection h2 with h2
  injection h2 with _ h2
  exact hne h2
theorem Apart.below {w : World} {base : Nat} {e : TypeId} {k n : Nat} {v u : Value} {xs : List Value} (h : w.ownsRow base e k u n xs) (hv : ∀ g, v.ownBlock = some g → g < base) : Apart v u := fun g hg hu => by
  have := (h.lt g hu).1
  have := hv g hg
  omega
end Go.Proofs.Ytfmhnplkpohogaa

namespace Go.Proofs.Ytfmhnplkpohogaa
open Go.RowKit

section
variable {P : Program} {ρ : Operand → Value} {W : World} {d : Option Tmp} {t xt yt : TypeId} {p : String} {af : Array Edge} {g : Option (Nat × Bool)} {x y z : Operand} {v : Value}
theorem cvn_64 (n : Nat) (h : n < 18446744073709551616) : IntKind.u64.wrap (n : Int) = ((n : Nat) : Int) := wrap64 n h
theorem b_mul32 (a b : UInt32) : (binOp .mul t (.int .u32 (a.toNat : Nat)) (.int .u32 (b.toNat : Nat))).run P W = .ok (.int .u32 ((a * b).toNat : Nat)) W := by
  simp only [binOp, Op.intArith, ne_eq, not_true_eq_false, if_false, Sem.run_pure]
  rw [wrap32m, UInt32.toNat_mul]
  rfl
theorem rn_mul32 {a b : UInt32} (hx : ρ x = .int .u32 (a.toNat : Nat)) (hy : ρ y = .int .u32 (b.toNat : Nat)) : (execOp ρ ⟨d, .binOp .mul xt x y yt, t, p, af, g⟩).run P W = .ok (.value (.int .u32 ((a * b).toNat : Nat))) W := rn_bin hx hy guard_int (b_mul32 a b)
theorem rn_addU {a b : Nat} (hx : ρ x = .int .u64 (a : Nat)) (hy : ρ y = .int .u64 (b : Nat)) (h : a + b < 18446744073709551616) : (execOp ρ ⟨d, .binOp .add xt x y yt, t, p, af, g⟩).run P W = .ok (.value (.int .u64 ((a + b : Nat) : Int))) W :=
  rn_bin hx hy guard_int (by
    simp only [binOp, Op.intArith, ne_eq, not_true_eq_false, if_false, Sem.run_pure]
    rw [show ((a : Int) + (b : Int)) = ((a + b : Nat) : Int) by omega, wrap64 _ h])
theorem rn_shrU {k : IntKind} {a n : Nat} (hx : ρ x = .int .u64 (a : Nat)) (hy : ρ y = .int k (n : Nat)) (h : n < 64) : (execOp ρ ⟨d, .binOp .shr xt x y yt, t, p, af, g⟩).run P W = .ok (.value (.int .u64 ((a / 2 ^ n : Nat) : Int))) W := by
  refine rn_bin hx hy guard_int ?_
  have hn : min n IntKind.u64.bits = n := Nat.min_eq_left (by show n ≤ 64; omega)
  have h0 : ¬ ((n : Int) < 0) := by omega
  show Sem.run P (Op.shift .shr .u64 ((a : Nat) : Int) k (n : Nat)) W = _
  unfold Op.shift
  rw [if_neg h0]
  show Sem.run P (pure (Value.int .u64 (Int.fdiv ((a : Nat) : Int) (2 ^ (min ((n : Int)).toNat IntKind.u64.bits))))) W = _
  rw [Int.toNat_natCast, hn, Sem.run_pure]
  congr 2
  rw [Int.fdiv_eq_ediv_of_nonneg _ (by exact Int.pow_nonneg (by omega))]
  rw [Int.natCast_ediv, Int.natCast_pow]
  rfl
theorem rn_shlU {k : IntKind} {a n : Nat} (hx : ρ x = .int .u64 (a : Nat)) (hy : ρ y = .int k (n : Nat)) (h : n < 64) (hb : a * 2 ^ n < 18446744073709551616) : (execOp ρ ⟨d, .binOp .shl xt x y yt, t, p, af, g⟩).run P W = .ok (.value (.int .u64 ((a * 2 ^ n : Nat) : Int))) W := by
  refine rn_bin hx hy guard_int ?_
  have hn : min n IntKind.u64.bits = n := Nat.min_eq_left (by show n ≤ 64; omega)
  have h0 : ¬ ((n : Int) < 0) := by omega
  show Sem.run P (Op.shift .shl .u64 ((a : Nat) : Int) k (n : Nat)) W = _
  unfold Op.shift
  rw [if_neg h0]
  show Sem.run P (pure (Value.int .u64 (IntKind.u64.wrap (((a : Nat) : Int) * 2 ^ (min ((n : Int)).toNat IntKind.u64.bits))))) W = _
  rw [Int.toNat_natCast, hn, Sem.run_pure]
  congr 2
  rw [show ((a : Int) * 2 ^ n) = ((a * 2 ^ n : Nat) : Int) by rw [Int.natCast_mul, Int.natCast_pow]; rfl]
  exact wrap64 _ hb
theorem ofInt64 (z : UInt64) : BitVec.ofInt IntKind.u64.bits ((z.toNat : Nat) : Int) = z.toBitVec := by
  show BitVec.ofInt 64 _ = _
  apply BitVec.eq_of_toNat_eq
  rw [BitVec.toNat_ofInt]
  have := z.toNat_lt
  show (((z.toNat : Nat) : Int) % ((2 ^ 64 : Nat) : Int)).toNat = z.toNat
  omega
theorem b_or64 (a b : UInt64) : (binOp .or t (.int .u64 (a.toNat : Nat)) (.int .u64 (b.toNat : Nat))).run P W = .ok (.int .u64 ((a ||| b).toNat : Nat)) W := by
  simp only [binOp, Op.intBits, ne_eq, not_true_eq_false, if_false, Sem.run_pure, ofInt64]
  congr 2
  exact wrap64 _ (a ||| b).toNat_lt
/-- the low byte is put in -/
theorem rn_orU {a b : Nat} (hx : ρ x = .int .u64 (a : Nat)) (hy : ρ y = .int .u64 (b : Nat)) (ha : a < 18446744073709551616) (h0 : a % 256 = 0) (hb : b < 256) : (execOp ρ ⟨d, .binOp .or xt x y yt, t, p, af, g⟩).run P W = .ok (.value (.int .u64 ((a + b : Nat) : Int))) W := by
  refine rn_bin hx hy guard_int ?_
  have := b_or64 (P := P) (W := W) (t := xt) (UInt64.ofNat a) (UInt64.ofNat b)
  rw [UInt64.toNat_or, UInt64.toNat_ofNat_of_lt' ha, UInt64.toNat_ofNat_of_lt' (by show b < 18446744073709551616; omega)] at this
  rw [this]
  congr 3
  have e : a = (a / 256) <<< 8 := by rw [Nat.shiftLeft_eq]; omega
  rw [e, ← Nat.shiftLeft_add_eq_or_of_lt (by omega)]
theorem rn_arrLH {s e : TypeId} {b off L l h m c o' : Nat} {k k2 : IntKind} (hu : P.underlying s = some (.array L e)) (hi : (P.info? e).map (·.size) = some 1) (hx : ρ x = .pointer (some ⟨b, off, none⟩)) (hy : ρ y = .int k (l : Int)) (hz : ρ z = .int k2 (h : Int)) (h1 : l ≤ h) (h2 : h ≤ L) (h3 : l < L) (hm : h - l = m) (hc : L - l = c) (ho : off + l = o') :
    (execOp ρ ⟨d, .slice s x (some y) (some z) none, t, p, af, g⟩).run P W = .ok (.value (.slice (some ⟨b, o', none⟩) m c)) W := by
  subst hm hc ho
  have hb : ∀ y c', l ≤ y → (Instr.sliceBound (.int k (l : Int)) y c').run P W = .ok l W := fun y c' hy => by rw [bound_ok (by omega) (by omega)]; simp
  have hb2 : ∀ y c', h ≤ y → (Instr.sliceBound (.int k2 (h : Int)) y c').run P W = .ok h W := fun y c' hy => by rw [bound_ok (by omega) (by omega)]; simp
  have hne : ¬ L = l := by omega
  simp [execOp, Instr.sliceAt, Instr.sureAddr, Instr.sliceBounds, run_underlying hu, hx, hy, hz, hb h _ h1, hb2 L _ h2, size_of hi, hne, addr_add]
theorem addW_ok {k : IntKind} {n1 n2 : Int} (hx : ρ x = .int .i64 n1) (hy : ρ y = .int .i64 n2) : (execOp ρ ⟨d, .binOp .add xt x y yt, t, p, af, g⟩).run P W = .ok (.value (.int .i64 (IntKind.i64.wrap (n1 + n2)))) W :=
  rn_bin hx hy guard_int (by simp only [binOp, Op.intArith, ne_eq, not_true_eq_false, if_false, Sem.run_pure])
theorem subW_ok {n1 n2 : Int} (hx : ρ x = .int .i64 n1) (hy : ρ y = .int .i64 n2) : (execOp ρ ⟨d, .binOp .sub xt x y yt, t, p, af, g⟩).run P W = .ok (.value (.int .i64 (IntKind.i64.wrap (n1 - n2)))) W :=
  rn_bin hx hy guard_int (by simp only [binOp, Op.intArith, ne_eq, not_true_eq_false, if_false, Sem.run_pure])
theorem mulW_ok {n1 n2 : Int} (hx : ρ x = .int .i64 n1) (hy : ρ y = .int .i64 n2) : (execOp ρ ⟨d, .binOp .mul xt x y yt, t, p, af, g⟩).run P W = .ok (.value (.int .i64 (IntKind.i64.wrap (n1 * n2)))) W :=
  rn_bin hx hy guard_int (by simp only [binOp, Op.intArith, ne_eq, not_true_eq_false, if_false, Sem.run_pure])
theorem rn_max3U {s : TypeId} {k : IntKind} {a b c : Nat} {u : TypeDesc} (_hu : P.underlying s = some u) (hx : ρ x = .int k (a : Nat)) (hy : ρ y = .int k (b : Nat)) (hz : ρ z = .int k (c : Nat)) : (execOp ρ ⟨d, .call { callee := .builtin .max, args := #[x, y, z], argTypes := #[s, s, s] }, t, p, af, g⟩).run P W = .ok (.value (.int k ((max (max a b) c : Nat) : Int))) W := by
  have e : ∀ x y : Int, (if y > x then y else x) = max x y := fun x y => by
    rw [Int.max_def]
    split <;> split <;> omega
  have h : (Builtin.max_ #[s, s, s] t #[.int k (a : Nat), .int k (b : Nat), .int k (c : Nat)]).run P W = .ok (.int k (max (max (a : Int) b) c)) W := by
    simp [Builtin.max_, Builtin.max2, e]
    split <;> omega
  rw [show ((max (max a b) c : Nat) : Int) = max (max (a : Int) b) c by omega]
  simp [execOp, resolve, invoke, builtin, hx, hy, hz, h]
end

end Go.Proofs.Ytfmhnplkpohogaa

namespace Go.Proofs.Ytfmhnplkpohogaa

theorem grow_refl (w : World) (g : Nat) : w.grownBy w (some g) := ⟨rfl, rfl, rfl, Nat.le_refl _, fun _ _ _ => rfl⟩
theorem grow_set {w w1 w2 : World} {g : Nat} (h : w.grownBy w1 (some g)) (k : w1.grownBy w2 (some g)) : w.grownBy w2 (some g) :=
  ⟨k.os.trans h.os, k.tape.trans h.tape, k.output.trans h.output, Nat.le_trans h.size k.size, fun i hi hn => (k.block i (Nat.lt_of_lt_of_le hi h.size) hn).trans (h.block i hi hn)⟩
end Go.Proofs.Ytfmhnplkpohogaa

namespace Go.Proofs.Ytfmhnplkpohogaa
open Go.RowKit

section
variable {P : Program} {ops : Array Oper} {Q : Exit → Act → World → Prop} {n r : Nat} {K : Act → World → Prop} {a : Act} {w : World} {o : Oper}
/-- an operation that is no defer statement -/
def noDefer (o : Oper) : Bool := match o.op with | .defer _ => false | _ => true
theorem noDefer_ne {o : Oper} (h : noDefer o = true) : ∀ c, o.op ≠ .defer c := fun c e => by rw [noDefer, e] at h; cases h
theorem uponIn_of (hQ : ¬ LetsOut Q) {x : Result Next} (h : o.upon P a K Q x) : o.uponIn (Fence.wide.inRound r) n P a K Q x := by
  cases x with
  | ok x w' =>
    cases x with
    | value v => exact h
    | skip => exact h
    | defer d => exact h
    | enter f args =>
      refine ⟨(fun h => (by cases h)), (CallsIn.inRound r (callsIn_wide.2 h)).mono fun e w he => ?_⟩
      cases e <;> exact he
    | row row args => exact ⟨(fun h => (by cases h)), fun c cs _ => let ⟨v, w', q, s⟩ := h c cs; ⟨v, w', q, stepsIn_wide.2 s⟩⟩
    | _ => exact h.elim
  | halt x w' =>
    cases x with
    | panic v => exact h
    | _ => exact h.elim
theorem wpListIn_of (hQ : ¬ LetsOut Q) : ∀ (l : List Oper) (a : Act) (w : World), l.all noDefer = true → wpList P ops Q l a w → wpListIn (Fence.wide.inRound r) n P ops Q l a w
  | [], _, _, _, h => h
  | o :: l, a, w, hd, h => by
    rw [List.all_cons, Bool.and_eq_true] at hd
    unfold wpList at h
    unfold wpListIn
    split
    · rename_i hw
      rw [if_pos hw] at h
      rcases h with h | ⟨_, h⟩
      · refine ⟨fun _ _ => trivial, ?_⟩
        rw [Fence.inRound_round, Oper.semAt_some r _ _ (noDefer_ne hd.1)]
        exact uponIn_of hQ (Oper.wp_mono (fun a w => wpListIn_of hQ l a w hd.2) h)
      · exact absurd h hQ
    · rename_i hw
      rw [if_neg hw] at h
      exact ⟨fun _ _ => trivial, wpListIn_of hQ l _ _ hd.2 h⟩
/-- a region in a round, by its plain walk -/
theorem region_in {id : Nat} {l : List Oper} (hd : l.all noDefer = true) (hQ : ¬ LetsOut Q) (h : wpList P l.toArray Q l a w) : (Code.region id l.toArray false).wpIn (Fence.wide.inRound r) n P Q a w :=
  wpIn_region_lit (wpListIn_of hQ l a w hd h)
end

/-- An iterator (function gf on lb) hands out the elements xs, each so that G holds, as_ long as_ H holds of the world. -/
def Iter (P : Program) (gf : Nat) (lb : Array Value) (B : Nat) {α : Type} (H : World → Prop) (G : α → Array Value → World → Prop) (xs : List α) : Prop :=
  ∀ (l : Nat) (J : List α → World → Prop) (W : World), (∀ pre W W', J pre W → Ext W W' → J pre W') → (∀ pre W, J pre W → H W ∧ B ≤ W.heap.size) →
    (∀ pre x args W, J pre W → G x args W → (∃ t, xs = pre ++ x :: t) → YieldAt Fence.wide 9 P l args W fun e W' => e = .returned (.bool true) ∧ J (pre ++ [x]) W') → J [] W →
    Calls P gf (#[.func (.yield l) #[] #[]] ++ lb) W fun e W' => (∃ v, e = .returned v) ∧ J xs W'

theorem ext_put {W : World} {l : Nat} (o : Obj) : W.grownBy (W.putObj l o) (some l) := grownBy_putObj' W l o
theorem same_ext {W W' : World} (h : Ext W W') {k : Nat} {o : Obj} (hk : W.heap[k]? = some o) : W'.heap[k]? = some o := (h.below.block k (Array.getElem?_eq_some_iff.1 hk).1).trans hk

section
variable {P : Program} {Q : Exit → Act → World → Prop} {a : Act} {w : World}
/-- 'for x := range seq { body }', where no round leaves the loop -/
theorem wp_range {α : Type} {g : Operand} {ps : Array Tmp} {assign body : Code} {gf : Nat} {lb : Array Value} (hd : a.defers = []) (hg : a.eval g = .func (.func gf) #[] lb) (eg : ∀ args w, (callFunc gf args).run P w = .ok (.enter gf args) w)
    {H : World → Prop} {G : α → Array Value → World → Prop} {xs : List α} (hit : Iter P gf lb (w.heap.size + 2) H G xs)
    (I : List α → World → Prop) (hIE : ∀ pre W W', I pre W → Ext W W' → I pre W')
    (hIl : ∀ pre W W', I pre W → W.grownBy W' (some (w.heap.size + 1)) → (∃ o : Obj, W.heap[w.heap.size + 1]? = some o ∧ o.isCells = false) → I pre W')
    (h0 : ∀ W, Ext w W → W.heap.size = w.heap.size + 2 → I [] W) (hH : ∀ pre W, I pre W → H W)
    (hround : ∀ pre x args W, I pre W → G x args W → (∃ t, xs = pre ++ x :: t) → w.heap.size + 2 ≤ W.heap.size → args.size = ps.size ∧
      assign.wpIn (Fence.wide.inRound (w.heap.size + 1)) 9 P (Exit.then (fun a₁ W₁ => W₁ = W ∧ ∀ W₂, W.grownBy W₂ (some (w.heap.size + 1)) → (∃ o : Obj, W.heap[w.heap.size + 1]? = some o ∧ o.isCells = false) → I pre W₂ →
        body.wpIn (Fence.wide.inRound (w.heap.size + 1)) 9 P (fun e a₂ W₃ => e = .normal ∧ I (pre ++ [x]) W₃ ∧ KeepsOthers W₂ W₃) a₁ W₂) (fun _ _ _ => False))
        { tmps := (ps.zip args).foldl (fun t (p, v) => t.setIfInBounds p v) a.tmps, defers := [] } W)
    (hdone : ∀ W, I xs W → W.heap[w.heap.size]? = some (.deferred (some [])) → w.heap.size + 2 ≤ W.heap.size → Q .normal { a with defers := [{ target := .collected w.heap.size, args := #[] }] } W) :
    (Code.rangeFunc g ps assign body).wp P Q a w := by
  refine wpIn_wide.1 (wpIn_rangeFunc (n := 10) ?_)
  intro fn hfn
  obtain ⟨rec, hrec⟩ : ∃ rec : LoopState → Option Code → Loop, rec = fun st pe => { state := st, pending := pe, fn, tmps := a.tmps, params := ps, assign, body, defers := w.heap.size } := ⟨_, rfl⟩
  obtain ⟨W1, hW1⟩ : ∃ W1, (w.alloc (.deferred (some []))).alloc (.loop (rec .ready none)) = W1 := ⟨_, rfl⟩
  have hL1 : W1.heap[w.heap.size + 1]? = some (.loop (rec .ready none)) := by
    rw [← hW1]; have := World.alloc_heap_new (w.alloc (.deferred (some []))) (.loop (rec .ready none)); rwa [World.size_alloc] at this
  have hK1 : W1.heap[w.heap.size]? = some (.deferred (some [])) := by
    rw [← hW1]; exact (Below.heap_alloc _ _ _ (by simp)).trans (World.alloc_heap_new w _)
  have hx1 : Ext w W1 := by rw [← hW1]; exact ((Ext.refl w).alloc _).alloc _
  have hs1 : W1.heap.size = w.heap.size + 2 := by rw [← hW1]; simp
  refine ⟨w.heap.size + 1, [{ target := .collected w.heap.size, args := #[] }], W1, { target := .fn (.func gf) lb, args := #[.func (.yield (w.heap.size + 1)) #[] #[]] }, W1, gf,
    #[.func (.yield (w.heap.size + 1)) #[] #[]] ++ lb, W1, ?_, ?_, fun _ _ => trivial, ?_, (fun h => (by cases h)), ?_⟩
  · rw [← hW1, hrec]; exact run_enterLoop_outer _ _ _ _ _
  · simp only [resolve, hg]
    simp [go_sem]
  · simp [invoke, go_sem, eg]
  · refine callsIn_wide.2 ((hit (w.heap.size + 1)
      (fun pre W => I pre W ∧ W.heap[w.heap.size + 1]? = some (.loop (rec .ready none)) ∧ W.heap[w.heap.size]? = some (.deferred (some [])) ∧ w.heap.size + 2 ≤ W.heap.size) W1
      (fun pre W W' ⟨h1, h2, h3, h4⟩ hx => ⟨hIE _ _ _ h1 hx, same_ext hx h2, same_ext hx h3, Nat.le_trans h4 hx.size⟩)
      (fun pre W h => ⟨hH _ _ h.1, h.2.2.2⟩) ?_ ⟨h0 _ hx1 hs1, hL1, hK1, by omega⟩).mono ?_)
    · rintro pre x args W ⟨hi, hl, hk, hsz⟩ hgx hpx
      obtain ⟨hps, has⟩ := hround pre x args W hi hgx hpx hsz
      have hy := run_yield (P := P) (args := args) hl (by rw [hrec]; exact hps)
      rw [hrec] at hy
      refine ⟨fn, _, assign, body, hy, roundIn_of_wpIn hfn (Go.wpIn_mono has ?_)⟩
      intro e a1 W1 hp
      cases e with
      | normal =>
        obtain ⟨rfl, hp⟩ := hp
        have hlt : w.heap.size + 1 < W1.heap.size := by omega
        refine ⟨_, run_beginRound hl (by rw [hrec]), ?_⟩
        obtain ⟨W2, hW2⟩ : ∃ W2, W1.putObj (w.heap.size + 1) (.loop { rec .ready none with state := .busy }) = W2 := ⟨_, rfl⟩
        have hg2 : W1.grownBy W2 (some (w.heap.size + 1)) := by rw [← hW2]; exact ext_put _
        have hl2 : W2.heap[w.heap.size + 1]? = some (.loop { rec .ready none with state := .busy }) := by rw [← hW2]; exact World.putObj_heap_same hlt
        have hk2 : W2.heap[w.heap.size]? = some (.deferred (some [])) := by rw [← hW2]; exact (World.putObj_heap_other (by omega)).trans hk
        rw [hW2]
        refine Go.wpIn_mono (hp W2 hg2 ⟨_, hl, rfl⟩ (hIl _ _ _ hi hg2 ⟨_, hl, rfl⟩)) ?_
        rintro e a2 W3 ⟨rfl, hi3, hko⟩
        have hl3 := hko.same _ _ hl2 rfl
        have hk3 := hko.same _ _ hk2 rfl
        have hlt3 := (Array.getElem?_eq_some_iff.1 hl3).1
        have hend := run_endRound (P := P) none hl3
        refine ⟨_, _, hend, rfl, hIl _ _ _ hi3 (ext_put _) ⟨_, hl3, rfl⟩, ?_, (World.putObj_heap_other (by omega)).trans hk3, by rw [World.putObj_size]; omega⟩
        rw [World.putObj_heap_same hlt3, hrec]; rfl
      | _ => exact hp.elim
    · rintro e W2 ⟨⟨v, rfl⟩, hi, hl, hk, hsz⟩
      refine ⟨none, _, by have := run_endLoop (P := P) hl (by rw [hrec]; simp); rw [hrec] at this; exact this, ?_⟩
      have := hdone (W2.putObj (w.heap.size + 1) (.loop { rec .ready none with state := .exhausted })) (hIl _ _ _ hi (ext_put _) ⟨_, hl, rfl⟩) ((World.putObj_heap_other (by omega)).trans hk) (by rw [World.putObj_size]; exact hsz)
      rw [hrec] at this
      rw [hd]
      exact this
end

/-! a function that holds such a loop -/
variable {N : Nat} {m : List (Nat × Value)} {a : Act}
theorem calls_enterM {P : Program} {f : FuncId} {fn : Func} {c : Code} {l : List Value} {w : World} {R : Ending → World → Prop} (hf : P.funcs[f]? = some fn) (hb : fn.body = some c) (hn : fn.ntmps = N) (hl : Nat.ble l.length N = true)
    (h : ∀ a, Sl N (argList 0 l) a → c.wp P (bodyPostM Fence.wide 9 P fn R) a w) : Calls P f l.toArray w R := by
  refine callsIn_wide.1 (callsIn_of_wp_marks (n := 9) hf hb trivial (wpIn_wide.2 (h _ ?_)))
  rw [hn]
  refine Sl.args l _ N ?_
  have : l.length ≤ N := by simpa using hl
  simp; omega
section
variable {P : Program} {fn : Func} {R : Ending → World → Prop} {w : World}
theorem retM (h : bodyPost P fn R .ret a w) : bodyPostM Fence.wide 9 P fn R .ret a w := by
  obtain ⟨h1, h2⟩ := h
  show LeavesInM Fence.wide 9 P fn a.tmps R a.defers .returning w
  rw [h1]; exact h2
/-- past the mark -/
theorem retMD {D : Nat} (hd : a.defers = [{ target := .collected D, args := #[] }]) (hk : w.heap[D]? = some (.deferred (some []))) (h : ∀ w', w.grownBy w' (some D) → bodyPost P fn R .ret { a with defers := [] } w') : bodyPostM Fence.wide 9 P fn R .ret a w := by
  obtain ⟨_, h2⟩ := h _ (ext_put (W := w) (l := D) (.deferred none))
  show LeavesInM Fence.wide 9 P fn a.tmps R a.defers .returning w
  rw [hd]
  exact ⟨by simp, .inl ⟨D, _, rfl, run_takeDeferred hk, h2⟩⟩
end
/-- the frame's slots, and what is deferred -/
def SlD (ds : List Deferred) (N : Nat) (m : List (Nat × Value)) (a : Act) : Prop := Sl N m { a with defers := [] } ∧ a.defers = ds
variable {ds : List Deferred}
theorem SlD.of (h : Sl N m a) : SlD ds N m { a with defers := ds } := ⟨⟨h.1, rfl, h.2.2⟩, rfl⟩
theorem SlD.get (h : SlD ds N m a) {t : Nat} {v : Value} (e : look m t = some v) : a.eval (.tmp t) = v := h.1.2.2 t v e
theorem SlD.put (h : SlD ds N m a) {d : Nat} {v : Value} (hd : Nat.blt d N = true) : SlD ds N ((d, v) :: m) (a.put (some d) v) := ⟨h.1.put hd, h.2⟩
theorem SlD.nil (h : SlD ds N m a) : SlD ds N [] a := ⟨h.1.nil, h.2⟩
theorem SlD.cons {m' : List (Nat × Value)} (h : SlD ds N m' a) {t : Nat} {v : Value} (e : a.eval (.tmp t) = v) : SlD ds N ((t, v) :: m') a := ⟨h.1.cons e, h.2⟩
section
variable {P : Program} {ops : Array Oper} {Q : Exit → Act → World → Prop} {i : Nat} {w w' : World} {o : Oper} {v : Value} {K : Act → World → Prop} {d : Nat}
theorem oD_val (hF : SlD ds N m a) (ho : ops[i]? = some o) (hw : Region.wanted o (yielded ops a.tmps) = true) (hd : o.dst = some d) (hN : Nat.blt d N = true)
    (hr : (execOp a.eval o).run P w = .ok (.value v) w) (h : ∀ a', SlD ds N ((d, v) :: m) a' → K a' w) : wpOp P ops Q i K a w :=
  op_run ho hw hr (hd ▸ h _ (hF.put hN))
theorem oD_store {ty : TypeId} {x y : Operand} (_hF : SlD ds N m a) (ho : ops[i]? = some o) (hw : Region.wanted o (yielded ops a.tmps) = true) (hd : o.dst = none) (hop : o.op = .store ty x y) {g : Nat} {t : TypeId} {old cells : List Value}
    (hx : a.eval x = .pointer (some ⟨g, 0, none⟩)) (hy : a.eval y = .agg cells.toArray) (hg : Blk w g t old) (hi : (P.info? ty).map (·.size) = some cells.length) (hl : old.length = cells.length) (h1 : ∀ u ∈ cells, u.oneCell' = true)
    (h : ∀ w', Blk w' g t cells → w.grownBy w' (some g) → K a w') : wpOp P ops Q i K a w :=
  op_store ho hw hop hx hy hg hi hl h1 fun w' h1 h2 => by rw [hd]; exact h w' h1 h2
theorem oD_store1 {ty : TypeId} {x y : Operand} (_hF : SlD ds N m a) (ho : ops[i]? = some o) (hw : Region.wanted o (yielded ops a.tmps) = true) (hd : o.dst = none) (hop : o.op = .store ty x y) {g j : Nat} {t : TypeId} {old : List Value} {u : Value}
    (hx : a.eval x = .pointer (some ⟨g, j, none⟩)) (hy : a.eval y = u) (hg : Blk w g t old) (hi : (P.info? ty).map (·.size) = some 1) (hj : j < old.length) (h1 : u.oneCell' = true) {new : List Value} (hn : old.set j u = new)
    (h : ∀ w', Blk w' g t new → w.grownBy w' (some g) → K a w') : wpOp P ops Q i K a w :=
  op_store1 ho hw hop hx hy hg hi hj h1 fun w' h1 h2 => by rw [hd]; exact h w' (hn ▸ h1) h2
/-- the frame of a round of a loop over pairs -/
theorem Sl.round2 (h : Sl N m a) {p q : Nat} {v u : Value} (hp : Nat.blt p N = true) (hq : Nat.blt q N = true) : Sl N ((q, u) :: (p, v) :: m) { tmps := (#[p, q].zip #[v, u]).foldl (fun t (p, v) => t.setIfInBounds p v) a.tmps, defers := [] } := by
  have := (h.put (v := v) hp).put (v := u) hq
  exact ⟨by simpa [Act.put] using this.1, rfl, by simpa [Act.put, Act.eval] using this.2.2⟩
/-! a region with a call of yield -/
theorem wide_val {rest : List Oper} (hF : Sl N m a) (hw : Region.wanted o (yielded ops a.tmps) = true) (hd : o.dst = some d) (hN : Nat.blt d N = true)
    (hr : (execOp a.eval o).run P w = .ok (.value v) w) (h : ∀ a', Sl N ((d, v) :: m) a' → wpListIn Fence.wide 10 P ops Q rest a' w) : wpListIn Fence.wide 10 P ops Q (o :: rest) a w := by
  unfold wpListIn
  rw [if_pos hw]
  refine ⟨fun _ _ => trivial, ?_⟩
  show o.uponIn Fence.wide 10 P a _ Q ((execOp a.eval o).run P w)
  rw [hr]
  exact h _ (by rw [hd]; exact hF.put hN)
theorem wide_yield {rest : List Oper} (hF : Sl N m a) (hw : Region.wanted o (yielded ops a.tmps) = true) (hd : o.dst = some d) (hN : Nat.blt d N = true) {l : Nat} {args : Array Value} {R : Ending → World → Prop}
    (hr : (execOp a.eval o).run P w = (Instr.yield l args).run P w) (hy : YieldAt Fence.wide 9 P l args w R) (h : ∀ e w', R e w' → ∃ v, e = .returned v ∧ ∀ a', Sl N ((d, v) :: m) a' → wpListIn Fence.wide 10 P ops Q rest a' w') : wpListIn Fence.wide 10 P ops Q (o :: rest) a w := by
  unfold wpListIn
  rw [if_pos hw]
  refine ⟨fun _ _ => trivial, ?_⟩
  show o.uponIn Fence.wide 10 P a _ Q ((execOp a.eval o).run P w)
  obtain ⟨fn, tmps, assign, body, hy1, hy2⟩ := hy
  rw [hr, hy1]
  refine ⟨(fun h => (by cases h)), hy2.mono fun e w' hR => ?_⟩
  obtain ⟨v, rfl, hk⟩ := h e w' hR
  exact hk _ (by rw [hd]; exact hF.put hN)
theorem rn_yield {P : Program} {ρ : Operand → Value} {W : World} {d : Option Tmp} {t : TypeId} {p : String} {af : Array Edge} {g : Option (Nat × Bool)} {x : Operand} {l : Nat} {xs : Array Operand} {ts : Array TypeId} {vs : Array Value} (hf : ρ x = .func (.yield l) #[] #[]) (ha : xs.map ρ = vs) :
    (execOp ρ ⟨d, .call { callee := .value x, args := xs, argTypes := ts }, t, p, af, g⟩).run P W = (Instr.yield l vs).run P W := by
  simp [execOp, resolve, hf, ha, Deferred.ofValue, invoke]
end

theorem KeepsOthers.of_ext {w w' : World} (h : Ext w w') : KeepsOthers w w' := ⟨h.size, fun _ _ hk _ => same_ext h hk⟩
theorem KeepsOthers.blk {w w' : World} {g : Nat} {t : TypeId} {cs : List Value} (h : w.grownBy w' (some g)) (hb : Blk w g t cs) : KeepsOthers w w' :=
  KeepsOthers.of_grownBy h fun j o hj ho => by
    injection hj with hj
    subst hj
    rw [show w.heap[g]? = _ from hb] at ho
    injection ho with ho
    subst ho
    rfl
theorem KeepsOthers.own {w w' : World} {base : Nat} {e : TypeId} {k n : Nat} {v : Value} {xs : List Value} (h : w.grownBy w' v.ownBlock) (hr : w.ownsRow base e k v n xs) : KeepsOthers w w' :=
  KeepsOthers.of_grownBy h fun j o hj ho => by
    rcases hr.2 with ⟨rfl, _⟩ | ⟨g, cap, cur, rfl, _, hg, _⟩
    · cases hj
    · injection hj with hj
      subst hj
      rw [hg] at ho
      injection ho with ho
      subst ho
      rfl

end Go.Proofs.Ytfmhnplkpohogaa

namespace Go.Proofs.Ytfmhnplkpohogaa
open Go.RowKit

variable {S S' : Nat → Prop}

/-- the values vs read as_ the byte strings l, each from blocks from base on, none of them the row's own -/
def RVs (base : Nat) (v : Value) (w : World) (vs : List Value) (l : List (List UInt8)) : Prop :=
  vs.length = l.length ∧ ∀ i (h : i < l.length) (h' : i < vs.length), RBs (fun b => base ≤ b ∧ some b ≠ v.ownBlock) w vs[i] l[i]
theorem RVs.nil (base : Nat) (v : Value) (w : World) : RVs base v w [] [] := ⟨rfl, fun i h => absurd h (by simp)⟩
theorem RVs.ext {base : Nat} {v : Value} {w w' : World} {vs : List Value} {l : List (List UInt8)} (h : RVs base v w vs l) (hx : Ext w w') : RVs base v w' vs l := ⟨h.1, fun i h1 h2 => (h.2 i h1 h2).ext hx⟩
theorem RVs.set {base g : Nat} {v : Value} {w w' : World} {vs : List Value} {l : List (List UInt8)} (h : RVs base v w vs l) (hg : w.grownBy w' (some g)) (hb : g < base) : RVs base v w' vs l :=
  ⟨h.1, fun i h1 h2 => (h.2 i h1 h2).keep hg.size fun b hb1 hlt => hg.block b hlt (fun e => by injection e with e; omega)⟩
/-- the row moves on to v' (by an append) -/
theorem RVs.app {base : Nat} {v v' : Value} {w w' : World} {vs : List Value} {l : List (List UInt8)} (h : RVs base v w vs l) (hg : w.grownBy w' v.ownBlock) (hn : ∀ g, g < w.heap.size → some g ≠ v.ownBlock → some g ≠ v'.ownBlock) : RVs base v' w' vs l :=
  ⟨h.1, fun i h1 h2 => ((h.2 i h1 h2).subB (S' := fun b => (base ≤ b ∧ some b ≠ v'.ownBlock) ∧ some b ≠ v.ownBlock) fun b hlt hb => ⟨⟨hb.1, hn b hlt hb.2⟩, hb.2⟩).keep hg.size (fun b hb1 hlt => hg.block b hlt hb1.2) |>.sub fun b hb => hb.1⟩
theorem RVs.snoc {base : Nat} {v : Value} {w : World} {vs : List Value} {l : List (List UInt8)} (h : RVs base v w vs l) {u : Value} {x : List UInt8} (hu : RBs S w u x) (hS : ∀ b, b < w.heap.size → S b → base ≤ b ∧ some b ≠ v.ownBlock) : RVs base v w (vs ++ [u]) (l ++ [x]) := by
  refine ⟨by simp [h.1], fun i h1 h2 => ?_⟩
  by_cases hi : i < l.length
  · rw [List.getElem_append_left hi, List.getElem_append_left (by rw [h.1]; exact hi)]
    exact h.2 i hi _
  · simp only [List.length_append, List.length_singleton] at h1
    have e : i = l.length := by omega
    subst e
    rw [List.getElem_append_right (Nat.le_refl _), List.getElem_append_right (by rw [h.1]; exact Nat.le_refl _)]
    simp only [h.1, Nat.sub_self, List.getElem_cons_zero]
    exact hu.subB hS
theorem RVs.one {base : Nat} {v : Value} {w : World} {vs : List Value} {l : List (List UInt8)} (h : RVs base v w vs l) : ∀ u ∈ vs, u.oneCell' = true := fun u hu => by
  obtain ⟨i, hi, rfl⟩ := List.getElem_of_mem hu
  exact RBs.one (h.2 i (by rw [← h.1]; exact hi) hi)
/-- the row with its values: a slice of slices -/
theorem RVs.bss {base : Nat} {e : TypeId} {v : Value} {n : Nat} {w : World} {vs : List Value} {l : List (List UInt8)} (h : RVs base v w vs l) (hr : w.ownsRow base e 1 v n vs) : RBss (fun b => base ≤ b) w v l := by
  have hl := hr.1
  refine RSl.own hr (fun b hb => hb) (by have := h.1; omega) h.one fun i hi => ?_
  have hi' : i < vs.length := by rw [h.1]; exact hi
  rw [chunk_one hi']
  exact ⟨_, rfl, (h.2 i hi hi').sub fun b hb => hb.1⟩
/-- bytes of a row of the call's own: they lie in the row's block alone -/
theorem own_rbs {w : World} {base : Nat} {e : TypeId} {v : Value} {n : Nat} {l : List UInt8} (h : w.ownsRow base e 1 v n (byteVals l)) : RBs (fun b => some b = v.ownBlock) w v l := by
  have hl : l.length = n := by have := h.1; rw [byteVals_len rfl] at this; omega
  subst hl
  rcases h.2 with ⟨rfl, h0⟩ | ⟨g, cap, cur, rfl, _, hg, hnc, hcm, hcs, htake⟩
  · have : l = [] := List.eq_nil_of_length_eq_zero h0
    subst this
    exact RSl.nil _
  · have hB : Blk w g e cur.toList := by show w.heap[g]? = _; rw [hg]
    refine Fl.rbs (n := l.length) ⟨_, cap, rfl, ⟨hnc, by simpa [maxLen] using hcm⟩, ⟨by rw [byteVals_len rfl, Nat.mul_one], byteVals_one _, fun _ => ⟨g, 0, rfl, hB.lt, fun j u hu => ?_⟩⟩, fun _ => ⟨g, 0, rfl, rfl⟩⟩
    rw [← htake, List.getElem?_take] at hu
    rw [Nat.zero_add, hB.rule.1]
    split at hu
    · exact hu
    · cases hu
theorem own_types {w : World} {base base' : Nat} {e e' : TypeId} {k k' n n' : Nat} {v u : Value} {xs ys : List Value} (h : w.ownsRow base e k v n xs) (h' : w.ownsRow base' e' k' u n' ys) (hne : e ≠ e') : ∀ b, some b = v.ownBlock → some b ≠ u.ownBlock := fun b hb hu => by
  rcases h.2 with ⟨rfl, _⟩ | ⟨g, cap, cur, rfl, _, hg, _⟩
  · cases hb
  · rcases h'.2 with ⟨rfl, _⟩ | ⟨g', cap', cur', rfl, _, hg', _⟩
    · cases hu
    · injection hb with hb
      injection hu with hu
      subst hb
      subst hu
      rw [hg] at hg'
      injection hg' with hg'
      injection hg' with _ h1 _
      exact hne h1
theorem own_ge {w : World} {base : Nat} {e : TypeId} {k n : Nat} {v : Value} {xs : List Value} (h : w.ownsRow base e k v n xs) : ∀ g, some g = v.ownBlock → base ≤ g := fun g hg => by
  rcases h.2 with ⟨rfl, _⟩ | ⟨g', cap, cur, rfl, hb, _⟩
  · cases hg
  · injection hg with hg
    subst hg
    exact hb
/-- a slice of slices, one more behind it, in a row of its own -/
theorem RBss.full {w w' : World} {S2 : Nat → Prop} {A : Option Addr} {n c : Nat} {l : List (List UInt8)} {u : Value} {x : List UInt8} {e : TypeId} {v' : Value} {xs : List Value} (h : RBss S w (.slice A n c) l) (hc : Cel w 1 A n xs) (hu : RBs S2 w u x) (hr : w'.ownsRow w.heap.size e 1 v' (n + 1) (xs ++ [u])) (hx : Ext w w') :
    RBss (fun b => (S b ∨ S2 b) ∨ w.heap.size ≤ b) w' v' (l ++ [x]) := by
  obtain ⟨hn, hcc, ys, hcy, hys⟩ := RSl.cel h
  subst hn
  have exy : xs = ys := by
    refine List.ext_getElem? fun j => ?_
    have e1 : xs.length = l.length := by have := hc.1; omega
    have e2 : ys.length = l.length := by have := hcy.1; omega
    by_cases hj : j < l.length
    · obtain ⟨b, off, ha, _, hx1⟩ := hc.2.2 (by omega)
      obtain ⟨b', off', ha', _, hx2⟩ := hcy.2.2 (by omega)
      rw [ha] at ha'; injection ha' with ha'; injection ha' with a1 a2
      subst a1
      subst a2
      rw [List.getElem?_eq_getElem (by omega), List.getElem?_eq_getElem (by omega), ← hx1 j _ (List.getElem?_eq_getElem (by omega)), ← hx2 j _ (List.getElem?_eq_getElem (by omega))]
    · rw [List.getElem?_eq_none (by omega), List.getElem?_eq_none (by omega)]
  subst exy
  have e1 : xs.length = l.length := by have := hc.1; omega
  refine RSl.own hr (fun b hb => .inr hb) (by simp) ?_ fun i hi => ?_
  · intro z hz
    rcases List.mem_append.1 hz with hz | hz
    · exact hc.2.1 z hz
    · rw [List.mem_singleton.1 hz]; exact RBs.one hu
  · rw [chunk_one (by simp at hi ⊢; omega)]
    by_cases h2 : i < l.length
    · rw [List.getElem_append_left h2, List.getElem_append_left (by omega)]
      obtain ⟨z, hz, hr2⟩ := hys i h2
      rw [chunk_one (by omega)] at hz
      injection hz with hz
      exact ⟨_, rfl, hz ▸ (hr2.sub fun b hb => .inl (.inl hb)).ext hx⟩
    · simp only [List.length_append, List.length_singleton] at hi
      have e : i = l.length := by omega
      subst e
      rw [List.getElem_append_right (Nat.le_refl _), List.getElem_append_right (by omega)]
      simp only [e1, Nat.sub_self, List.getElem_cons_zero]
      exact ⟨_, rfl, (hu.sub fun b hb => .inl (.inr hb)).ext hx⟩

theorem ret0r {N : Nat} {m : List (Nat × Value)} {a : Act} {P : Program} {fn : Func} {R : Ending → World → Prop} {w : World} (hF : Sl N m a) (hr : fn.results = #[]) (h : R (.returned (.tuple #[])) w) : bodyPost P fn R .ret a w :=
  ⟨hF.2.1, .tuple #[], by simp [results, hr], h⟩

end Go.Proofs.Ytfmhnplkpohogaa

namespace Go.Proofs.Ytfmhnplkpohogaa

theorem snoc_ind {α : Type} {P : List α → Prop} (h0 : P []) (h1 : ∀ a c, P a → P (a ++ [c])) (l : List α) : P l := by
  have h : ∀ r : List α, P r.reverse := fun r => by
    induction r with
    | nil => exact h0
    | cons c r ih => rw [List.reverse_cons]; exact h1 _ _ ih
  have := h l.reverse
  rwa [List.reverse_reverse] at this

/-! numbers, most significant byte first -/
def num (b : List UInt8) : Nat := b.foldl (fun n c => 256 * n + c.toNat) 0
theorem num_app (a : List UInt8) (c : UInt8) : num (a ++ [c]) = 256 * num a + c.toNat := by simp [num, List.foldl_append]
theorem num_lt (b : List UInt8) : num b < 256 ^ b.length := by
  refine snoc_ind (P := fun b => num b < 256 ^ b.length) (by simp [num]) (fun a c ih => ?_) b
  · rw [num_app, List.length_append, List.length_singleton, Nat.pow_succ]; have := c.toNat_lt; omega
def numL (n : Nat) : Nat → List UInt8
  | 0 => []
  | k + 1 => numL (n / 256) k ++ [UInt8.ofNat n]
theorem numL_len (n : Nat) : ∀ k, (numL n k).length = k
  | 0 => rfl
  | k + 1 => by rw [numL, List.length_append, numL_len _ k]; rfl
theorem num_numL (n : Nat) : ∀ k, num (numL n k) = n % 256 ^ k
  | 0 => by simp [numL, num, Nat.mod_one]
  | k + 1 => by
    rw [numL, num_app, num_numL _ k, UInt8.toNat_ofNat', show 256 ^ (k + 1) = 256 * 256 ^ k by rw [Nat.pow_succ, Nat.mul_comm], Nat.mod_mul]
    omega
theorem numL_getD (n : Nat) : ∀ (k i : Nat), i < k → (numL n k).getD (k - 1 - i) 0 = UInt8.ofNat (n / 256 ^ i)
  | 0, i, h => absurd h (by omega)
  | k + 1, 0, _ => by rw [numL, List.getD_eq_getElem?_getD, List.getElem?_append_right (by rw [numL_len]; omega), numL_len]; simp
  | k + 1, i + 1, h => by
    have := numL_getD (n / 256) k i (by omega)
    rw [List.getD_eq_getElem?_getD] at this
    rw [numL, List.getD_eq_getElem?_getD, List.getElem?_append_left (by rw [numL_len]; omega), show k + 1 - 1 - (i + 1) = k - 1 - i by omega, this, Nat.div_div_eq_div_mul, Nat.pow_succ, Nat.mul_comm]

/-! the checksum -/
def crcBit (n : UInt32) : UInt32 := (n >>> 1) ^^^ (3988292384 * (n &&& 1))
def crcTo (n : UInt32) : Nat → UInt32
  | 0 => n
  | k + 1 => crcBit (crcTo n k)
def crcByte (n : UInt32) (c : UInt8) : UInt32 := crcTo (n ^^^ c.toUInt32) 8
def crcL (b : List UInt8) : UInt32 := b.foldl crcByte 4294967295
def crc (b : List UInt8) : UInt32 := ~~~ crcL b
theorem crcL_app (a : List UInt8) (c : UInt8) : crcL (a ++ [c]) = crcByte (crcL a) c := by simp [crcL, List.foldl_append]
/-! sectors -/
def bodyL (k : Nat) (kd : UInt8) (b : List UInt8) : List UInt8 := numL k 2 ++ [kd, UInt8.ofNat b.length] ++ b ++ List.replicate (112 - b.length) 0
def encL (g k : Nat) (kd : UInt8) (b : List UInt8) : List UInt8 := numL g 4 ++ numL (crc (bodyL k kd b)).toNat 4 ++ bodyL k kd b ++ numL g 4
theorem bodyL_len {k : Nat} {kd : UInt8} {b : List UInt8} (h : b.length ≤ 112) : (bodyL k kd b).length = 116 := by
  simp [bodyL, numL_len]; omega
theorem encL_len {g k : Nat} {kd : UInt8} {b : List UInt8} (h : b.length ≤ 112) : (encL g k kd b).length = 128 := by
  simp [encL, numL_len, bodyL_len h]
def gen (s : List UInt8) : Nat := num (s.take 4)
def gen2 (s : List UInt8) : Nat := num (s.drop 124)
def kd (s : List UInt8) : UInt8 := s.getD 10 0
def cnt (s : List UInt8) : Nat := (s.getD 11 0).toNat
def dataL (s : List UInt8) : List UInt8 := (s.drop 12).take (cnt s)
def kindOk (n : Nat) (q : UInt8) : Prop := n ≤ 112 ∧ q.toNat ≤ 3 ∧ (q.toNat < 2 → n = 112) ∧ (q.toNat % 2 = 0 → n ≠ 0)
instance (n : Nat) (q : UInt8) : Decidable (kindOk n q) := by unfold kindOk; infer_instance
def goodS (s : List UInt8) (k : Nat) : Bool := decide (kindOk (cnt s) (kd s) ∧ 0 < gen s ∧ s = encL (gen s) k (kd s) (dataL s))
theorem goodS_len {s : List UInt8} {k : Nat} (h : goodS s k = true) : s.length = 128 := by
  unfold goodS at h
  have h := of_decide_eq_true h
  rw [h.2.2]
  exact encL_len (by simp only [dataL, List.length_take]; have := h.1.1; omega)

end Go.Proofs.Ytfmhnplkpohogaa

namespace Go.Proofs.Ytfmhnplkpohogaa

/-- the rest of a record from sector n on (all of generation g): its bytes, and how many sectors -/
def recFrom (g : Nat) : List (List UInt8) → Nat → Bool → Option (List UInt8 × Nat)
  | [], _, _ => none
  | s :: l, n, first =>
    if goodS s n = true ∧ decide ((kd s).toNat % 2 = 1) = first ∧ gen s = g then
      if 2 ≤ (kd s).toNat then some (dataL s, 1)
      else match recFrom g l (n + 1) false with
        | none => none
        | some (b, m) => some (dataL s ++ b, m + 1)
    else none
theorem recFrom_pos {g : Nat} : ∀ {l : List (List UInt8)} {n : Nat} {first : Bool} {b : List UInt8} {m : Nat}, recFrom g l n first = some (b, m) → 1 ≤ m ∧ m ≤ l.length
  | [], _, _, _, _, h => by cases h
  | s :: l, n, first, b, m, h => by
    rw [recFrom] at h
    split at h
    · split at h
      · cases h; simp
      · split at h
        · cases h
        · rename_i h2; cases h; have := recFrom_pos h2; simp; omega
    · cases h
/-- the records from sector n on; last: the generation of the one before -/
def recsF : Nat → List (List UInt8) → Nat → Nat → List (List UInt8)
  | 0, _, _, _ => []
  | f + 1, l, n, last =>
    match recFrom (gen (l.headD [])) l n true with
    | none => []
    | some (b, m) => if gen (l.headD []) < last then [] else b :: recsF f (l.drop m) (n + m) (gen (l.headD []))
def recsOf (l : List (List UInt8)) : List (List UInt8) := recsF (l.length + 1) l 0 0
theorem recsF_fuel : ∀ (f f' : Nat) (l : List (List UInt8)) (n last : Nat), l.length < f → l.length < f' → recsF f l n last = recsF f' l n last
  | 0, _, _, _, _, h, _ => absurd h (by omega)
  | _, 0, _, _, _, _, h => absurd h (by omega)
  | f + 1, f' + 1, l, n, last, h, h' => by
    rw [recsF, recsF]
    cases hr : recFrom (gen (l.headD [])) l n true with
    | none => rfl
    | some x =>
      obtain ⟨b, m⟩ := x
      have := recFrom_pos hr
      simp only
      rw [recsF_fuel f f' (l.drop m) (n + m) _ (by rw [List.length_drop]; omega) (by rw [List.length_drop]; omega)]
/-- the records from sector n on, of all sectors -/
def recsAt (l : List (List UInt8)) (n last : Nat) : List (List UInt8) := recsF (l.length + 1) l n last
theorem recsAt_none {l : List (List UInt8)} {n last : Nat} (h : recFrom (gen (l.headD [])) l n true = none) : recsAt l n last = [] := by
  rw [recsAt, recsF, h]
theorem recsAt_old {l : List (List UInt8)} {n last : Nat} (h : gen (l.headD []) < last) : recsAt l n last = [] := by
  rw [recsAt, recsF]
  split
  · rfl
  · rw [if_pos h]
theorem recsAt_some {l : List (List UInt8)} {n last : Nat} {b : List UInt8} {m : Nat} (h : recFrom (gen (l.headD [])) l n true = some (b, m)) (h2 : ¬ gen (l.headD []) < last) : recsAt l n last = b :: recsAt (l.drop m) (n + m) (gen (l.headD [])) := by
  rw [recsAt, recsF, h]
  have := recFrom_pos h
  simp only
  rw [if_neg h2, recsAt, recsF_fuel _ ((l.drop m).length + 1) _ _ _ (by rw [List.length_drop]; omega) (by omega)]

/-! sectors that a record occupies -/
def secs (n : Nat) : Nat := max 1 ((n + 111) / 112)
theorem secs_le {n : Nat} (h : n ≤ 112) : secs n = 1 := by unfold secs; omega
theorem secs_gt {n : Nat} (h : 112 < n) : secs n = secs (n - 112) + 1 := by unfold secs; omega
theorem secs_pos (n : Nat) : 1 ≤ secs n := by unfold secs; omega
def usedL (l : List (List UInt8)) : Nat := (l.map fun b => secs b.length).sum
theorem usedL_nil : usedL [] = 0 := rfl
theorem usedL_cons (b : List UInt8) (l : List (List UInt8)) : usedL (b :: l) = secs b.length + usedL l := by simp [usedL]
theorem usedL_app (a b : List (List UInt8)) : usedL (a ++ b) = usedL a + usedL b := by simp [usedL]
theorem usedL_len : ∀ l : List (List UInt8), l.length ≤ usedL l
  | [] => by simp
  | b :: l => by have := usedL_len l; have := secs_pos b.length; rw [usedL_cons, List.length_cons]; omega
theorem data_len {s : List UInt8} {n : Nat} (h : goodS s n = true) : (dataL s).length = cnt s := by
  have hl := goodS_len h
  unfold goodS at h
  have h := of_decide_eq_true h
  rw [dataL, List.length_take, List.length_drop, hl]
  have := h.1.1; omega
/-- a record occupies as_ many sectors as_ it must -/
theorem recFrom_secs {g : Nat} : ∀ {l : List (List UInt8)} {n : Nat} {first : Bool} {b : List UInt8} {m : Nat}, recFrom g l n first = some (b, m) → m = secs b.length ∧ (first = false → b ≠ [])
  | [], _, _, _, _, h => by cases h
  | s :: l, n, first, b, m, h => by
    rw [recFrom] at h
    split at h
    · rename_i hg
      have hd := data_len hg.1
      have hk : kindOk (cnt s) (kd s) := (of_decide_eq_true hg.1).1
      obtain ⟨k1, k2, k3, k4⟩ := hk
      split at h
      · rename_i h2
        cases h
        refine ⟨(secs_le (by omega)).symm, fun hf hb => ?_⟩
        have hp := hg.2.1
        rw [hf] at hp
        have := of_decide_eq_false hp
        exact k4 (by omega) (by rw [← hd, hb]; rfl)
      · rename_i h2
        split at h
        · cases h
        · rename_i b' m' h3
          cases h
          obtain ⟨e1, e2⟩ := recFrom_secs h3
          have hc := k3 (by omega)
          have hb : 1 ≤ b'.length := by
            rcases b' with _ | ⟨x, y⟩
            · exact absurd rfl (e2 rfl)
            · simp
          refine ⟨?_, fun _ he => ?_⟩
          · rw [List.length_append, hd, hc, secs_gt (by omega), show 112 + b'.length - 112 = b'.length by omega, e1]
          · have := congrArg List.length he; rw [List.length_append, hd, hc] at this; simp at this
    · cases h

/-! what is read depends on what is read alone -/
theorem recFrom_app {g : Nat} : ∀ {l : List (List UInt8)} {n : Nat} {first : Bool} {b : List UInt8} {m : Nat} (r : List (List UInt8)), recFrom g l n first = some (b, m) → recFrom g (l ++ r) n first = some (b, m)
  | [], _, _, _, _, _, h => by cases h
  | s :: l, n, first, b, m, r, h => by
    rw [recFrom] at h
    rw [List.cons_append, recFrom]
    split at h
    · rename_i hg
      rw [if_pos hg]
      split at h
      · rename_i h2; rw [if_pos h2]; exact h
      · rename_i h2
        rw [if_neg h2]
        split at h
        · cases h
        · rename_i b' m' h3
          rw [recFrom_app r h3]; exact h
    · cases h
theorem recFrom_take {g : Nat} : ∀ {l : List (List UInt8)} {n : Nat} {first : Bool} {b : List UInt8} {m : Nat}, recFrom g l n first = some (b, m) → recFrom g (l.take m) n first = some (b, m)
  | [], _, _, _, _, h => by cases h
  | s :: l, n, first, b, m, h => by
    have h' := h
    rw [recFrom] at h
    split at h
    · rename_i hg
      split at h
      · rename_i h2
        cases h
        rw [List.take_succ_cons, recFrom, if_pos hg, if_pos h2]
      · rename_i h2
        split at h
        · cases h
        · rename_i b' m' h3
          cases h
          rw [List.take_succ_cons, recFrom, if_pos hg, if_neg h2, recFrom_take h3]
    · cases h
theorem recFrom_gen {g : Nat} {l : List (List UInt8)} {n : Nat} {first : Bool} {x : List UInt8 × Nat} (h : recFrom g l n first = some x) : l ≠ [] ∧ gen (l.headD []) = g ∧ 0 < g := by
  rcases l with _ | ⟨s, l⟩
  · cases h
  · rw [recFrom] at h
    split at h
    · rename_i hg
      refine ⟨by simp, hg.2.2, ?_⟩
      have := (of_decide_eq_true hg.1).2.1
      have e : gen s = g := hg.2.2
      omega
    · cases h

/-- Some records lie on the first sectors (as_ many as_ they must), the last with generation g; then comes the rest. -/
inductive Reads : List (List UInt8) → Nat → Nat → List (List UInt8) → Nat → Prop
  | nil (n last : Nat) : Reads [] n last [] last
  | cons {a l : List (List UInt8)} {n last g' : Nat} {b : List UInt8} {rs : List (List UInt8)} (h : recFrom (gen (a.headD [])) a n true = some (b, a.length)) (h2 : ¬ gen (a.headD []) < last) (h3 : Reads l (n + a.length) (gen (a.headD [])) rs g') : Reads (a ++ l) n last (b :: rs) g'
theorem headD_app {α : Type} {a r : List α} {d : α} (h : a ≠ []) : (a ++ r).headD d = a.headD d := by
  rcases a with _ | ⟨x, a⟩
  · exact absurd rfl h
  · rfl
theorem Reads.recs {l : List (List UInt8)} {n last g : Nat} {rs : List (List UInt8)} (h : Reads l n last rs g) (r : List (List UInt8)) : recsAt (l ++ r) n last = rs ++ recsAt r (n + l.length) g := by
  induction h with
  | nil n last => simp
  | @cons a l n last g' b rs h h2 h3 ih =>
    have hn := (recFrom_gen h).1
    have e : (a ++ l ++ r).headD [] = a.headD [] := by rw [List.append_assoc, headD_app hn]
    rw [recsAt_some (b := b) (m := a.length) (by rw [e, List.append_assoc]; exact recFrom_app _ h) (by rw [e]; exact h2), e, List.append_assoc, List.drop_left, ih, List.cons_append, List.length_append, Nat.add_assoc]
theorem Reads.used {l : List (List UInt8)} {n last g : Nat} {rs : List (List UInt8)} (h : Reads l n last rs g) : l.length = usedL rs := by
  induction h with
  | nil n last => rfl
  | cons h h2 h3 ih => rw [List.length_append, usedL_cons, ih, (recFrom_secs h).1]
theorem Reads.app {l : List (List UInt8)} {n last g : Nat} {rs : List (List UInt8)} (h : Reads l n last rs g) {l' rs' : List (List UInt8)} {g' : Nat} (h' : Reads l' (n + l.length) g rs' g') : Reads (l ++ l') n last (rs ++ rs') g' := by
  induction h with
  | nil n last => simpa using h'
  | @cons a l n last g1 b rs h h2 h3 ih =>
    rw [List.append_assoc, List.cons_append]
    exact .cons h h2 (ih (by rw [Nat.add_assoc, ← List.length_append]; exact h'))
/-- what is read of a list of sectors: its beginning is so -/
theorem reads_of (f : Nat) : ∀ (l : List (List UInt8)) (n last : Nat), l.length < f → ∃ g, usedL (recsAt l n last) ≤ l.length ∧ Reads (l.take (usedL (recsAt l n last))) n last (recsAt l n last) g ∧ (g = last ∨ ∃ s ∈ l, g = gen s) := by
  induction f with
  | zero => intro l n last h; omega
  | succ f ih =>
    intro l n last hf
    cases hr : recFrom (gen (l.headD [])) l n true with
    | none => rw [recsAt_none hr]; exact ⟨last, by simp [usedL], .nil _ _, .inl rfl⟩
    | some x =>
      obtain ⟨b, m⟩ := x
      by_cases h2 : gen (l.headD []) < last
      · rw [recsAt_old h2]; exact ⟨last, by simp [usedL], .nil _ _, .inl rfl⟩
      · have hm := recFrom_pos hr
        have hs := (recFrom_secs hr).1
        obtain ⟨hne, _, _⟩ := recFrom_gen hr
        have hmem : l.headD [] ∈ l := by
          rcases l with _ | ⟨s, l⟩
          · exact absurd rfl hne
          · simp
        obtain ⟨g, h3, h4, h5⟩ := ih (l.drop m) (n + m) (gen (l.headD [])) (by rw [List.length_drop]; omega)
        rw [List.length_drop] at h3
        have ht : (l.take m).length = m := by rw [List.length_take]; omega
        have hh : (l.take m).headD [] = l.headD [] := by
          rcases l with _ | ⟨s, l⟩
          · exact absurd rfl hne
          · rw [show m = (m - 1) + 1 by omega, List.take_succ_cons]; rfl
        refine ⟨g, ?_, ?_, ?_⟩
        · rw [recsAt_some hr h2, usedL_cons, ← hs]; omega
        · rw [recsAt_some hr h2, usedL_cons, ← hs, List.take_add]
          exact .cons (by rw [hh, ht]; exact recFrom_take hr) (by rw [hh]; exact h2) (by rw [hh, ht]; exact h4)
        · rcases h5 with h5 | ⟨s, hs, h5⟩
          · exact .inr ⟨_, hmem, h5⟩
          · exact .inr ⟨s, List.mem_of_mem_drop hs, h5⟩

end Go.Proofs.Ytfmhnplkpohogaa

namespace Go.Proofs.Ytfmhnplkpohogaa

theorem encL_take {g k : Nat} {q : UInt8} {b : List UInt8} : (encL g k q b).take 4 = numL g 4 := by
  rw [encL, List.append_assoc, List.append_assoc, List.take_append_of_le_length (by rw [numL_len]; omega), List.take_of_length_le (by rw [numL_len]; omega)]
theorem encL_drop {g k : Nat} {q : UInt8} {b : List UInt8} (h : b.length ≤ 112) : (encL g k q b).drop 124 = numL g 4 := by
  rw [encL, List.drop_append, List.drop_eq_nil_of_le (by simp [numL_len, bodyL_len h]), List.nil_append]
  simp [numL_len, bodyL_len h]
theorem encL_body {g k : Nat} {q : UInt8} {b : List UInt8} (h : b.length ≤ 112) : ((encL g k q b).drop 8).take 116 = bodyL k q b := by
  rw [encL, List.append_assoc, List.drop_append, List.drop_eq_nil_of_le (by simp [numL_len]), List.nil_append]
  simp only [List.length_append, numL_len, Nat.reduceAdd, Nat.sub_self, List.drop_zero]
  rw [List.take_append_of_le_length (by rw [bodyL_len h]; omega), List.take_of_length_le (by rw [bodyL_len h]; omega)]
theorem getD_drop8 (l : List UInt8) (i j : Nat) : l.getD (i + j) 0 = (l.drop i).getD j 0 := by simp [List.getD_eq_getElem?_getD, List.getElem?_drop]
theorem encL_at {g k : Nat} {q : UInt8} {b : List UInt8} (h : b.length ≤ 112) {i : Nat} (hi : i < 116) : (encL g k q b).getD (8 + i) 0 = (bodyL k q b).getD i 0 := by
  rw [getD_drop8, ← encL_body (g := g) (k := k) (q := q) h, List.getD_eq_getElem?_getD, List.getD_eq_getElem?_getD, List.getElem?_take, if_pos hi]
theorem encL_kd {g k : Nat} {q : UInt8} {b : List UInt8} (h : b.length ≤ 112) : kd (encL g k q b) = q := by
  rw [kd, show 10 = 8 + 2 from rfl, encL_at h (by omega), bodyL]
  simp [numL]
theorem encL_cnt {g k : Nat} {q : UInt8} {b : List UInt8} (h : b.length ≤ 112) : cnt (encL g k q b) = b.length := by
  rw [cnt, show 11 = 8 + 3 from rfl, encL_at h (by omega), bodyL]
  simp [numL]
  omega
theorem encL_data {g k : Nat} {q : UInt8} {b : List UInt8} (h : b.length ≤ 112) : dataL (encL g k q b) = b := by
  rw [dataL, encL_cnt h]
  have e : ((encL g k q b).drop 12).take b.length = ((((encL g k q b).drop 8).take 116).drop 4).take b.length := by
    rw [List.drop_take, List.drop_drop, List.take_take, Nat.min_eq_left (by omega)]
  rw [e, encL_body h, bodyL]
  simp [numL]
theorem encL_gen {g k : Nat} {q : UInt8} {b : List UInt8} (h : g < 4294967296) : gen (encL g k q b) = g := by
  rw [gen, encL_take, num_numL]; omega
theorem encL_gen2 {g k : Nat} {q : UInt8} {b : List UInt8} (h : g < 4294967296) (hb : b.length ≤ 112) : gen2 (encL g k q b) = g := by
  rw [gen2, encL_drop hb, num_numL]; omega
theorem gen_lt {s : List UInt8} : gen s < 4294967296 := by
  have h := num_lt (s.take 4)
  have h2 : 256 ^ (s.take 4).length ≤ 256 ^ 4 := Nat.pow_le_pow_right (by omega) (by rw [List.length_take]; omega)
  exact Nat.lt_of_lt_of_le h h2
theorem encL_good {g k : Nat} {q : UInt8} {b : List UInt8} (h : kindOk b.length q) (h0 : 0 < g) (hg : g < 4294967296) : goodS (encL g k q b) k = true := by
  unfold goodS
  have hb := h.1
  rw [encL_kd hb, encL_cnt hb, encL_data hb, encL_gen hg]
  exact decide_eq_true ⟨h, h0, rfl⟩
/-- a good sector says its generation twice -/
theorem good_gen2 {s : List UInt8} {k : Nat} (h : goodS s k = true) : gen2 s = gen s := by
  have h1 := of_decide_eq_true h
  have hb : (dataL s).length ≤ 112 := by rw [data_len h]; exact h1.1.1
  rw [h1.2.2, encL_gen2 gen_lt hb, encL_gen gen_lt]
theorem torn_bad {s t : List UInt8} {k : Nat} (hs : s.length = 128) (ht : t.length = 128) (h : gen2 t < gen s) : goodS (s.take 64 ++ t.drop 64) k = false := by
  rw [Bool.eq_false_iff]
  intro hg
  have h1 := good_gen2 hg
  have e1 : gen (s.take 64 ++ t.drop 64) = gen s := by
    rw [gen, gen, List.take_append_of_le_length (by rw [List.length_take]; omega), List.take_take, Nat.min_eq_left (by omega)]
  have e2 : gen2 (s.take 64 ++ t.drop 64) = gen2 t := by
    rw [gen2, gen2, List.drop_append, List.drop_eq_nil_of_le (by rw [List.length_take]; omega), List.nil_append, List.length_take, List.drop_drop, hs]
    rfl
  rw [e1, e2] at h1
  omega
/-! the sectors that records lead to -/
theorem succ_b (n : Nat) : (n + 1 == 0) = false := rfl
def kindOf (first last : Bool) : UInt8 := match first, last with | true, true => 3 | true, false => 1 | false, true => 2 | false, false => 0
def pieces (g : Nat) : Nat → Nat → Bool → List UInt8 → List (List UInt8)
  | 0, _, _, _ => []
  | n + 1, k, first, b => encL g k (kindOf first (n == 0)) (b.take 112) :: pieces g n (k + 1) false (b.drop 112)
def allSecs (g : Nat) : Nat → List (List UInt8) → List (List UInt8)
  | _, [] => []
  | k, b :: rs => pieces g (secs b.length) k true b ++ allSecs g (k + secs b.length) rs
theorem pieces_len (g : Nat) : ∀ (n k : Nat) (first : Bool) (b : List UInt8), (pieces g n k first b).length = n
  | 0, _, _, _ => rfl
  | n + 1, k, first, b => by rw [pieces, List.length_cons, pieces_len g n]
theorem allSecs_len (g : Nat) : ∀ (k : Nat) (rs : List (List UInt8)), (allSecs g k rs).length = usedL rs
  | _, [] => rfl
  | k, b :: rs => by rw [allSecs, List.length_append, pieces_len, allSecs_len g _ rs, usedL_cons]
theorem pieces_128 (g : Nat) : ∀ (n k : Nat) (first : Bool) (b : List UInt8), ∀ s ∈ pieces g n k first b, s.length = 128
  | 0, _, _, _, s, h => by cases h
  | n + 1, k, first, b, s, h => by
    rcases List.mem_cons.1 h with rfl | h
    · exact encL_len (by rw [List.length_take]; omega)
    · exact pieces_128 g n _ _ _ s h
theorem allSecs_128 (g : Nat) : ∀ (k : Nat) (rs : List (List UInt8)), ∀ s ∈ allSecs g k rs, s.length = 128
  | _, [], s, h => by cases h
  | k, b :: rs, s, h => by
    rcases List.mem_append.1 h with h | h
    · exact pieces_128 g _ _ _ _ s h
    · exact allSecs_128 g _ rs s h
theorem pieces_gen {g : Nat} (hg : g < 4294967296) : ∀ (n k : Nat) (first : Bool) (b : List UInt8), ∀ s ∈ pieces g n k first b, gen s = g ∧ gen2 s = g
  | 0, _, _, _, s, h => by cases h
  | n + 1, k, first, b, s, h => by
    rcases List.mem_cons.1 h with rfl | h
    · exact ⟨encL_gen hg, encL_gen2 hg (by rw [List.length_take]; omega)⟩
    · exact pieces_gen hg n _ _ _ s h
theorem allSecs_gen {g : Nat} (hg : g < 4294967296) : ∀ (k : Nat) (rs : List (List UInt8)), ∀ s ∈ allSecs g k rs, gen s = g ∧ gen2 s = g
  | _, [], s, h => by cases h
  | k, b :: rs, s, h => by
    rcases List.mem_append.1 h with h | h
    · exact pieces_gen hg _ _ _ _ s h
    · exact allSecs_gen hg _ rs s h
theorem kind_ok {n : Nat} {first : Bool} {b : List UInt8} (hn : n + 1 = secs b.length) (hb : first = false → b ≠ []) : kindOk (b.take 112).length (kindOf first (n == 0)) := by
  have hp : first = false → 1 ≤ b.length := fun h => by
    rcases b with _ | ⟨x, y⟩
    · exact absurd rfl (hb h)
    · simp
  rw [List.length_take]
  unfold secs at hn
  rcases n with _ | n
  · cases first
    · have := hp rfl; simp only [kindOf, kindOk]; refine ⟨by omega, by decide, fun h => absurd h (by decide), fun _ => by omega⟩
    · simp only [kindOf, kindOk]; exact ⟨by omega, by decide, fun h => absurd h (by decide), fun h => absurd h (by decide)⟩
  · rw [succ_b]
    cases first
    · simp only [kindOf, kindOk]; exact ⟨by omega, by decide, fun _ => by omega, fun _ => by omega⟩
    · simp only [kindOf, kindOk]; exact ⟨by omega, by decide, fun _ => by omega, fun h => absurd h (by decide)⟩
theorem recFrom_pieces {g : Nat} (h0 : 0 < g) (hg : g < 4294967296) : ∀ (n k : Nat) (first : Bool) (b : List UInt8) (r : List (List UInt8)), n + 1 = secs b.length → (first = false → b ≠ []) → recFrom g (pieces g (n + 1) k first b ++ r) k first = some (b, n + 1)
  | 0, k, first, b, r, hn, hb => by
    have hk := kind_ok hn hb
    have hl : (b.take 112).length ≤ 112 := by rw [List.length_take]; omega
    have h1 : b.length ≤ 112 := by unfold secs at hn; omega
    rw [pieces, List.cons_append, recFrom, if_pos ⟨encL_good hk h0 hg, by rw [encL_kd hl]; cases first <;> rfl, encL_gen hg⟩, if_pos (by rw [encL_kd hl]; cases first <;> decide), encL_data hl, List.take_of_length_le h1]
  | n + 1, k, first, b, r, hn, hb => by
    have hk := kind_ok hn hb
    have hl : (b.take 112).length ≤ 112 := by rw [List.length_take]; omega
    have h1 : 112 < b.length := by unfold secs at hn; omega
    have ih := recFrom_pieces h0 hg n (k + 1) false (b.drop 112) r (by rw [List.length_drop]; have := secs_gt h1; omega) (fun _ he => by have := congrArg List.length he; rw [List.length_drop] at this; simp at this; omega)
    rw [pieces, List.cons_append, recFrom, if_pos ⟨encL_good hk h0 hg, by rw [encL_kd hl]; cases first <;> rfl, encL_gen hg⟩, if_neg (by rw [encL_kd hl, succ_b]; cases first <;> decide), ih, encL_data hl]
    simp only [List.take_append_drop]
theorem pieces_head {g : Nat} (hg : g < 4294967296) {n k : Nat} {first : Bool} {b : List UInt8} (h : 0 < n) (r : List (List UInt8)) : gen ((pieces g n k first b ++ r).headD []) = g := by
  obtain ⟨m, rfl⟩ : ∃ m, n = m + 1 := ⟨n - 1, by omega⟩
  exact encL_gen hg
/-- what was written is read -/
theorem reads_all {g : Nat} (h0 : 0 < g) (hg : g < 4294967296) : ∀ (rs : List (List UInt8)) (k last : Nat), last ≤ g → Reads (allSecs g k rs) k last rs (if rs = [] then last else g)
  | [], k, last, _ => .nil _ _
  | b :: rs, k, last, hl => by
    have hp := secs_pos b.length
    have e := recFrom_pieces h0 hg (secs b.length - 1) k true b [] (by omega) (fun h => by cases h)
    rw [show secs b.length - 1 + 1 = secs b.length by omega, List.append_nil] at e
    have hh := pieces_head hg (k := k) (first := true) (b := b) (show 0 < secs b.length by omega) []
    rw [List.append_nil] at hh
    rw [if_neg (by simp)]
    have ih := reads_all h0 hg rs (k + secs b.length) g (Nat.le_refl _)
    have ih' : Reads (allSecs g (k + secs b.length) rs) (k + secs b.length) g rs g := by
      split at ih <;> exact ih
    exact .cons (by rw [hh, pieces_len]; exact e) (by rw [hh]; omega) (by rw [hh, pieces_len]; exact ih')
theorem recFrom_stop {g : Nat} {t : List UInt8} {r : List (List UInt8)} : ∀ {a : List (List UInt8)} {n : Nat} {first : Bool}, (∀ s ∈ a, (kd s).toNat < 2) → goodS t (n + a.length) = false → recFrom g (a ++ t :: r) n first = none
  | [], n, first, _, h => by
    rw [List.nil_append, recFrom, if_neg]
    rw [List.length_nil, Nat.add_zero] at h
    rw [h]; simp
  | s :: a, n, first, hk, h => by
    rw [List.cons_append, recFrom]
    split
    · rw [if_neg (by have := hk s (by simp); omega), recFrom_stop (fun x hx => hk x (by simp [hx])) (by rw [List.length_cons] at h; rw [← h]; congr 1; omega)]
    · rfl
theorem pieces_kd {g : Nat} : ∀ {n k : Nat} {first : Bool} {b : List UInt8} {j : Nat}, j < n → ∀ s ∈ (pieces g n k first b).take j, (kd s).toNat < 2
  | 0, _, _, _, _, h => absurd h (by omega)
  | n + 1, k, first, b, 0, h => by simp
  | n + 1, k, first, b, j + 1, h => by
    intro s hs
    rw [pieces, List.take_succ_cons] at hs
    rcases List.mem_cons.1 hs with rfl | hs
    · rw [encL_kd (by rw [List.length_take]; omega)]
      obtain ⟨m, rfl⟩ : ∃ m, n = m + 1 := ⟨n - 1, by omega⟩
      rw [succ_b]
      cases first <;> decide
    · exact pieces_kd (by omega) s hs
/-- how many records end in the first k sectors -/
def ended : Nat → List (List UInt8) → Nat
  | _, [] => 0
  | k, b :: rs => if secs b.length ≤ k then ended (k - secs b.length) rs + 1 else 0
theorem ended_le : ∀ (k : Nat) (rs : List (List UInt8)), ended k rs ≤ rs.length
  | _, [] => Nat.le_refl _
  | k, b :: rs => by
    rw [ended]
    have := ended_le (k - secs b.length) rs
    split <;> simp; omega
/-- of what was written, up to a sector that is not good, the records before it are read -/
theorem recs_bad {g : Nat} (h0 : 0 < g) (hg : g < 4294967296) {t : List UInt8} {r : List (List UInt8)} : ∀ (rs : List (List UInt8)) (n last k : Nat), last ≤ g → k < usedL rs → goodS t (n + k) = false → recsAt ((allSecs g n rs).take k ++ t :: r) n last = rs.take (ended k rs)
  | [], n, last, k, _, hk, _ => by simp [usedL] at hk
  | b :: rs, n, last, k, hl, hk, ht => by
    have hp := secs_pos b.length
    have pl := pieces_len g (secs b.length) n true b
    rw [usedL_cons] at hk
    by_cases hc : secs b.length ≤ k
    · have e := recFrom_pieces h0 hg (secs b.length - 1) n true b [] (by omega) (fun h => by cases h)
      rw [show secs b.length - 1 + 1 = secs b.length by omega, List.append_nil] at e
      have hh := pieces_head hg (k := n) (first := true) (b := b) (show 0 < secs b.length by omega)
      have ih := recs_bad h0 hg (t := t) (r := r) rs (n + secs b.length) g (k - secs b.length) (Nat.le_refl _) (by omega) (by rw [← ht]; congr 1; omega)
      rw [ended, if_pos hc, List.take_succ_cons, ← ih, allSecs, List.take_append, pl, List.take_of_length_le (by omega), List.append_assoc]
      rw [recsAt_some (b := b) (m := secs b.length) (by rw [hh]; exact recFrom_app _ e) (by rw [hh]; omega), hh, List.drop_append, pl, Nat.sub_self, List.drop_zero, List.drop_eq_nil_of_le (by omega), List.nil_append]
    · rw [ended, if_neg hc, List.take_zero, allSecs, List.take_append, pl, show k - secs b.length = 0 by omega, List.take_zero, List.append_nil]
      exact recsAt_none (recFrom_stop (pieces_kd (by omega)) (by rw [List.length_take, pl, Nat.min_eq_left (by omega)]; exact ht))

end Go.Proofs.Ytfmhnplkpohogaa

namespace Go.Proofs.Ytfmhnplkpohogaa

theorem num_lt4 {l : List UInt8} (h : l.length ≤ 4) : num l < 4294967296 :=
  Nat.lt_of_lt_of_le (num_lt l) (Nat.le_trans (Nat.pow_le_pow_right (by omega) h) (by decide))
theorem take_snoc {l : List UInt8} {k : Nat} (h : k < l.length) : l.take k ++ [l.getD k 0] = l.take (k + 1) := by
  rw [List.take_add_one, List.getD_eq_getElem?_getD, List.getElem?_eq_getElem h]; rfl
/-- what put makes of bytes: after k of the m bytes -/
def putTo (l : List UInt8) (o m n : Nat) : Nat → List UInt8
  | 0 => l
  | k + 1 => (putTo l o m n k).set (o + (m - 1 - k)) (UInt8.ofNat (n / 2 ^ (8 * k)))
def putL (l : List UInt8) (o m n : Nat) : List UInt8 := putTo l o m n m
theorem putTo_len (l : List UInt8) (o m n : Nat) : ∀ k, (putTo l o m n k).length = l.length
  | 0 => rfl
  | k + 1 => by rw [putTo, List.length_set, putTo_len l o m n k]
theorem putTo_getD (l : List UInt8) (o m n : Nat) (hl : o + m ≤ l.length) : ∀ k, k ≤ m → ∀ j, (putTo l o m n k).getD j 0 = if o + m - k ≤ j ∧ j < o + m then UInt8.ofNat (n / 256 ^ (o + m - 1 - j)) else l.getD j 0
  | 0, _, j => by rw [putTo, if_neg (by omega)]
  | k + 1, hk, j => by
    rw [putTo, List.getD_eq_getElem?_getD, List.getElem?_set, putTo_len]
    by_cases hj : o + (m - 1 - k) = j
    · rw [if_pos hj, if_pos (by omega), if_pos (by omega), show o + m - 1 - j = k by omega, Nat.pow_mul]; rfl
    · rw [if_neg hj, ← List.getD_eq_getElem?_getD, putTo_getD l o m n hl k (by omega) j]
      by_cases h2 : o + m - k ≤ j ∧ j < o + m
      · rw [if_pos h2, if_pos (by omega)]
      · rw [if_neg h2, if_neg (by omega)]
theorem ext_getD {a b : List UInt8} (hl : a.length = b.length) (h : ∀ j, j < a.length → a.getD j 0 = b.getD j 0) : a = b := by
  refine List.ext_getElem hl fun j h1 h2 => ?_
  have := h j h1
  rwa [List.getD_eq_getElem?_getD, List.getD_eq_getElem?_getD, List.getElem?_eq_getElem h1, List.getElem?_eq_getElem h2] at this
theorem putL_app (a b c : List UInt8) (n : Nat) : putL (a ++ b ++ c) a.length b.length n = a ++ numL n b.length ++ c := by
  refine ext_getD (by rw [putL, putTo_len]; simp [numL_len]) fun j hj => ?_
  rw [putL, putTo_len] at hj
  rw [putL, putTo_getD _ _ _ _ (by simp) _ (Nat.le_refl _)]
  by_cases h : a.length + b.length - b.length ≤ j ∧ j < a.length + b.length
  · rw [if_pos h]
    have e := numL_getD n b.length (a.length + b.length - 1 - j) (by omega)
    rw [show b.length - 1 - (a.length + b.length - 1 - j) = j - a.length by omega] at e
    rw [← e, List.getD_eq_getElem?_getD, List.getD_eq_getElem?_getD, List.append_assoc, List.getElem?_append_right (by omega), List.getElem?_append_left (by rw [numL_len]; omega)]
  · rw [if_neg h]
    simp only [List.getD_eq_getElem?_getD, List.append_assoc]
    by_cases h2 : j < a.length
    · rw [List.getElem?_append_left h2, List.getElem?_append_left h2]
    · rw [List.getElem?_append_right (by omega), List.getElem?_append_right (by omega), List.getElem?_append_right (by omega), List.getElem?_append_right (by rw [numL_len]; omega), numL_len]
theorem putL_len (l : List UInt8) (o m n : Nat) : (putL l o m n).length = l.length := putTo_len _ _ _ _ _
/-- the sector that encode builds step by step -/
theorem enc_eq {g k : Nat} {q : UInt8} {b : List UInt8} (hb : b.length ≤ 112) {s1 s2 s3 s4 s5 s6 s7 : List UInt8} (e1 : s1 = putL (List.replicate 128 0) 0 4 g) (e2 : s2 = putL s1 8 2 k) (e3 : s3 = s2.set 10 q) (e4 : s4 = s3.set 11 (UInt8.ofNat b.length)) (e5 : s5 = s4.take 12 ++ b ++ s4.drop (12 + b.length)) (e6 : s6 = putL s5 124 4 g) (e7 : s7 = putL s6 4 4 (crc ((s6.drop 8).take 116)).toNat) : s7 = encL g k q b := by
  have h1 : s1 = numL g 4 ++ List.replicate 4 0 ++ ([0, 0] ++ [0, 0] ++ (List.replicate 112 0 ++ List.replicate 4 0)) := by
    rw [e1, show List.replicate 128 (0 : UInt8) = [] ++ List.replicate 4 0 ++ (List.replicate 4 0 ++ ([0, 0] ++ [0, 0] ++ (List.replicate 112 0 ++ List.replicate 4 0))) from rfl]
    have := putL_app [] (List.replicate 4 0) (List.replicate 4 0 ++ ([0, 0] ++ [0, 0] ++ (List.replicate 112 0 ++ List.replicate 4 0))) g
    rw [List.append_assoc (numL g 4)]
    simpa using this
  have h2 : s2 = (numL g 4 ++ List.replicate 4 0) ++ numL k 2 ++ ([0, 0] ++ (List.replicate 112 0 ++ List.replicate 4 0)) := by
    have := putL_app (numL g 4 ++ List.replicate 4 0) [0, 0] ([0, 0] ++ (List.replicate 112 0 ++ List.replicate 4 0)) k
    rw [e2, h1, show numL g 4 ++ List.replicate 4 0 ++ ([0, 0] ++ [0, 0] ++ (List.replicate 112 0 ++ List.replicate 4 0)) = (numL g 4 ++ List.replicate 4 0) ++ [0, 0] ++ ([0, 0] ++ (List.replicate 112 0 ++ List.replicate 4 0)) by simp only [List.append_assoc]]
    rw [List.length_append, numL_len, List.length_replicate] at this
    exact this
  have hx : ((numL g 4 ++ List.replicate 4 0) ++ numL k 2).length = 10 := by simp [numL_len]
  have h4 : s4 = ((numL g 4 ++ List.replicate 4 0) ++ numL k 2 ++ [q, UInt8.ofNat b.length]) ++ (List.replicate 112 0 ++ List.replicate 4 0) := by
    rw [e4, e3, h2, List.set_append_right _ _ (by rw [hx]; omega), hx, List.set_append_right _ _ (by rw [hx]; omega), hx, List.append_assoc _ [q, _]]
    rfl
  have hy : ((numL g 4 ++ List.replicate 4 0) ++ numL k 2 ++ [q, UInt8.ofNat b.length]).length = 12 := by rw [List.length_append, hx]; rfl
  have h5 : s5 = ((numL g 4 ++ List.replicate 4 0) ++ bodyL k q b) ++ List.replicate 4 0 := by
    rw [e5, h4, List.take_left' hy, List.drop_append, hy, List.drop_eq_nil_of_le (by rw [hy]; omega), List.nil_append, show 12 + b.length - 12 = b.length by omega, List.drop_append, List.drop_replicate, List.length_replicate, show b.length - 112 = 0 by omega, List.drop_zero, bodyL]
    simp only [List.append_assoc]
  have hz : ((numL g 4 ++ List.replicate 4 0) ++ bodyL k q b).length = 124 := by simp [numL_len, bodyL_len hb]
  have h6 : s6 = numL g 4 ++ List.replicate 4 0 ++ (bodyL k q b ++ numL g 4) := by
    have := putL_app ((numL g 4 ++ List.replicate 4 0) ++ bodyL k q b) (List.replicate 4 0) [] g
    rw [List.append_nil, List.append_nil, hz, List.length_replicate] at this
    rw [e6, h5, this]; simp only [List.append_assoc]
  have hc : (s6.drop 8).take 116 = bodyL k q b := by
    rw [h6, List.drop_append, List.drop_eq_nil_of_le (by simp [numL_len]), List.nil_append]
    simp only [List.length_append, numL_len, List.length_replicate, Nat.reduceAdd, Nat.sub_self, List.drop_zero]
    rw [List.take_append_of_le_length (by rw [bodyL_len hb]; omega), List.take_of_length_le (by rw [bodyL_len hb]; omega)]
  have h7 := putL_app (numL g 4) (List.replicate 4 0) (bodyL k q b ++ numL g 4) (crc (bodyL k q b)).toNat
  rw [numL_len, List.length_replicate] at h7
  rw [e7, hc, h6, h7, encL]; simp only [List.append_assoc]
theorem and2_fact (q : UInt8) : (q &&& 2).toNat = 0 ↔ q.toNat % 4 < 2 := by
  rw [UInt8.toNat_and]
  have h : ∀ x, x < 256 → (x &&& 2 = 0 ↔ x % 4 < 2) := by decide +kernel
  exact h _ q.toNat_lt
theorem and1_fact (q : UInt8) : (q &&& 1).toNat = 0 ↔ q.toNat % 2 = 0 := by
  rw [UInt8.toNat_and]
  have h : ∀ x, x < 256 → (x &&& 1 = 0 ↔ x % 2 = 0) := by decide +kernel
  exact h _ q.toNat_lt
theorem goodS_bad {s : List UInt8} {k : Nat} (h : ¬ kindOk (cnt s) (kd s)) : goodS s k = false := decide_eq_false fun e => h e.1
theorem goodS_zero {s : List UInt8} {k : Nat} (h : gen s = 0) : goodS s k = false := decide_eq_false fun e => by omega
theorem goodS_eq {s : List UInt8} {k : Nat} (h : kindOk (cnt s) (kd s)) (h2 : 0 < gen s) : goodS s k = decide (s = encL (gen s) k (kd s) (dataL s)) := by
  unfold goodS; exact decide_eq_decide.2 ⟨fun e => e.2.2, fun e => ⟨h, h2, e⟩⟩

end Go.Proofs.Ytfmhnplkpohogaa

namespace Go.Proofs.Ytfmhnplkpohogaa

def recAt (L : List (List UInt8)) (p : Nat) : Option (List UInt8 × Nat) := recFrom (gen (L.getD p [])) (L.drop p) p true
theorem headD_drop (L : List (List UInt8)) (p : Nat) : (L.drop p).headD [] = L.getD p [] := by
  rw [List.headD_eq_head?_getD, List.head?_drop, List.getD_eq_getElem?_getD]
theorem recAt_eq (L : List (List UInt8)) (p : Nat) : recFrom (gen ((L.drop p).headD [])) (L.drop p) p true = recAt L p := by rw [headD_drop]; rfl
/-- where the reading of the record from p on stands: n sectors are read, with the bytes b -/
def Rd (L : List (List UInt8)) (p n : Nat) (b : List UInt8) : Prop :=
  recAt L p = (recFrom (gen (L.getD p [])) (L.drop (p + n)) (p + n) (decide (n = 0))).map fun x => (b ++ x.1, n + x.2)
theorem Rd.start (L : List (List UInt8)) (p : Nat) : Rd L p 0 [] := by
  unfold Rd
  rw [Nat.add_zero]
  have e : ∀ o : Option (List UInt8 × Nat), o = o.map fun x => ([] ++ x.1, 0 + x.2) := fun o => by cases o <;> simp
  exact e _
theorem drop_get {L : List (List UInt8)} {i : Nat} {s : List UInt8} (h : L[i]? = some s) : L.drop i = s :: L.drop (i + 1) := by
  obtain ⟨hi, e⟩ := List.getElem?_eq_some_iff.1 h
  rw [List.drop_eq_getElem_cons hi, e]
theorem getD_get {L : List (List UInt8)} {i : Nat} {s : List UInt8} (h : L[i]? = some s) : L.getD i [] = s := by rw [List.getD_eq_getElem?_getD, h]; rfl
theorem Rd.over {L : List (List UInt8)} {p n : Nat} {b : List UInt8} (h : Rd L p n b) (hn : L.length ≤ p + n) : recAt L p = none := by
  rw [h, List.drop_eq_nil_of_le hn]; rfl
/-- what lets a sector go on with the record -/
def RdOk (L : List (List UInt8)) (p n : Nat) (s : List UInt8) : Prop := goodS s (p + n) = true ∧ ((kd s).toNat % 2 = 1 ↔ n = 0) ∧ gen s = gen (L.getD p [])
theorem rd_iff {L : List (List UInt8)} {p n : Nat} {s : List UInt8} : (goodS s (p + n) = true ∧ decide ((kd s).toNat % 2 = 1) = decide (n = 0) ∧ gen s = gen (L.getD p [])) ↔ RdOk L p n s := by
  unfold RdOk
  rw [decide_eq_decide]
theorem Rd.bad {L : List (List UInt8)} {p n : Nat} {b s : List UInt8} (h : Rd L p n b) (hs : L[p + n]? = some s) (hb : ¬ RdOk L p n s) : recAt L p = none := by
  rw [h, drop_get hs, recFrom, if_neg (by rw [rd_iff]; exact hb)]; rfl
theorem Rd.fin {L : List (List UInt8)} {p n : Nat} {b s : List UInt8} (h : Rd L p n b) (hs : L[p + n]? = some s) (hb : RdOk L p n s) (he : 2 ≤ (kd s).toNat) : recAt L p = some (b ++ dataL s, n + 1) := by
  rw [h, drop_get hs, recFrom, if_pos (rd_iff.2 hb), if_pos he]; rfl
theorem Rd.next {L : List (List UInt8)} {p n : Nat} {b s : List UInt8} (h : Rd L p n b) (hs : L[p + n]? = some s) (hb : RdOk L p n s) (he : ¬ 2 ≤ (kd s).toNat) : Rd L p (n + 1) (b ++ dataL s) := by
  unfold Rd
  rw [h, drop_get hs, recFrom, if_pos (rd_iff.2 hb), if_neg he, show decide (n + 1 = 0) = false from rfl, show p + (n + 1) = p + n + 1 by omega]
  cases recFrom (gen (L.getD p [])) (L.drop (p + n + 1)) (p + n + 1) false with
  | none => rfl
  | some x => simp [List.append_assoc]; omega
theorem gen_at {L : List (List UInt8)} {p : Nat} {s : List UInt8} (h : L[p]? = some s) : gen (L.getD p []) = gen s := by rw [getD_get h]

/-! the records, one by one -/
def Rc (L out : List (List UInt8)) (p last : Nat) : Prop := recsOf L = out ++ recsAt (L.drop p) p last
theorem Rc.start (L : List (List UInt8)) : Rc L [] 0 0 := rfl
theorem Rc.none {L out : List (List UInt8)} {p last : Nat} (h : Rc L out p last) (hr : recAt L p = none) : recsOf L = out := by
  rw [h, recsAt_none (by rw [recAt_eq]; exact hr), List.append_nil]
theorem Rc.old {L out : List (List UInt8)} {p last : Nat} {s : List UInt8} (h : Rc L out p last) (hs : L[p]? = some s) (ho : gen s < last) : recsOf L = out := by
  rw [h, recsAt_old (by rw [headD_drop, getD_get hs]; exact ho), List.append_nil]
theorem Rc.next {L out : List (List UInt8)} {p last : Nat} {s b : List UInt8} {m : Nat} (h : Rc L out p last) (hs : L[p]? = some s) (hr : recAt L p = some (b, m)) (ho : ¬ gen s < last) : Rc L (out ++ [b]) (p + m) (gen s) := by
  unfold Rc
  rw [h, recsAt_some (b := b) (m := m) (by rw [recAt_eq]; exact hr) (by rw [headD_drop, getD_get hs]; exact ho), headD_drop, getD_get hs, List.drop_drop, List.append_assoc]
  rfl

/-! generations -/
def maxG (L : List (List UInt8)) : Nat := L.foldl (fun n s => max (max n (gen s)) (gen2 s)) 0
theorem maxG_app (L : List (List UInt8)) (s : List UInt8) : maxG (L ++ [s]) = max (max (maxG L) (gen s)) (gen2 s) := by simp [maxG, List.foldl_append]
theorem maxG_take {L : List (List UInt8)} {k : Nat} {s : List UInt8} (h : L[k]? = some s) : maxG (L.take (k + 1)) = max (max (maxG (L.take k)) (gen s)) (gen2 s) := by
  rw [List.take_add_one, h]; exact maxG_app _ _
theorem gen2_lt {s : List UInt8} (h : s.length ≤ 128) : gen2 s < 4294967296 := by
  have h1 := num_lt (s.drop 124)
  have h2 : 256 ^ (s.drop 124).length ≤ 256 ^ 4 := Nat.pow_le_pow_right (by omega) (by rw [List.length_drop]; omega)
  exact Nat.lt_of_lt_of_le h1 h2
theorem maxG_lt : ∀ {L : List (List UInt8)}, (∀ x ∈ L, x.length = 128) → maxG L < 4294967296 := fun {L} => snoc_ind (P := fun L => (∀ x ∈ L, x.length = 128) → maxG L < 4294967296) (fun _ => by simp [maxG]) (fun a c ih h => by
  have h1 := ih fun x hx => h x (by simp [hx])
  have h2 := gen_lt (s := c)
  have h3 := gen2_lt (s := c) (by have := h c (by simp); omega)
  rw [maxG_app]; omega) L
theorem maxG_le {G : Nat} : ∀ {L : List (List UInt8)}, (∀ x ∈ L, gen x ≤ G ∧ gen2 x ≤ G) → maxG L ≤ G := fun {L} => snoc_ind (P := fun L => (∀ x ∈ L, gen x ≤ G ∧ gen2 x ≤ G) → maxG L ≤ G) (fun _ => by simp [maxG]) (fun a c ih h => by
  have h1 := ih fun x hx => h x (by simp [hx])
  have h2 := h c (by simp)
  rw [maxG_app]; omega) L
theorem le_maxG : ∀ {L : List (List UInt8)}, ∀ x ∈ L, gen x ≤ maxG L ∧ gen2 x ≤ maxG L := fun {L} => snoc_ind (P := fun L => ∀ x ∈ L, gen x ≤ maxG L ∧ gen2 x ≤ maxG L) (fun x h => by cases h) (fun a c ih x hx => by
  rw [maxG_app]
  rcases List.mem_append.1 hx with hx | hx
  · have := ih x hx; omega
  · rw [List.mem_singleton.1 hx]; omega) L
theorem mod8 (q : UInt8) : (q % 2).toNat = q.toNat % 2 := by rw [UInt8.toNat_mod]; rfl

end Go.Proofs.Ytfmhnplkpohogaa

namespace Go.Proofs.Ytfmhnplkpohogaa
open Go.RowKit

variable {S S' : Nat → Prop}

/-- A write: where, and the bytes. -/
def RWr (S : Nat → Prop) (w : World) (cs : List Value) (x : Int × List UInt8) : Prop := ∃ v, cs = [.int .i64 x.1, v] ∧ RBs S w v x.2
theorem RWr.ext {w w' : World} {cs : List Value} {x : Int × List UInt8} (h : RWr S w cs x) (he : Ext w w') : RWr S w' cs x := by
  obtain ⟨v, hv, h⟩ := h; exact ⟨v, hv, h.ext he⟩
def RWs (S : Nat → Prop) (w : World) (v : Value) (l : List (Int × List UInt8)) : Prop := RSl S 2 (RWr S) w v l
theorem RWs.ext {w w' : World} {v : Value} {l : List (Int × List UInt8)} (h : RWs S w v l) (he : Ext w w') : RWs S w' v l := RSl.ext h he fun _ _ h => h.ext he
theorem RWs.form {w : World} {v : Value} {l : List (Int × List UInt8)} (h : RWs S w v l) : ∃ A cap, v = .slice A l.length cap ∧ l.length ≤ cap ∧ cap ≤ 9223372036854775807 := RSl.form h
theorem RWs.at {w : World} {A : Option Addr} {n cap : Nat} {l : List (Int × List UInt8)} (h : RWs S w (.slice A n cap) l) : n = l.length ∧ (n ≤ cap ∧ cap ≤ 9223372036854775807) ∧
    (0 < n → ∃ b off, A = some ⟨b, off, none⟩ ∧ b < w.heap.size ∧ ∀ i (h : i < l.length), ∃ v, w.cell? ⟨b, off + i * 2, none⟩ = some (.int .i64 l[i].1) ∧ w.cell? ⟨b, off + i * 2 + 1, none⟩ = some v ∧ RBs S w v l[i].2) := by
  obtain ⟨hn, hc, hl⟩ := RSl.elem h
  refine ⟨hn, hc, fun h0 => ?_⟩
  obtain ⟨b, off, ha, hb, hx⟩ := hl h0
  refine ⟨b, off, ha, hb, fun i hi => ?_⟩
  obtain ⟨cs, hk, hcs, v, rfl, hr⟩ := hx i hi
  exact ⟨v, by simpa using hcs 0 _ rfl, by simpa using hcs 1 _ rfl, hr⟩

/-- A disk. -/
structure Dk where
  sectors : List (List UInt8)
  pending : List (Int × List UInt8)
  left : Int
  stopped : Bool

def RDk (S : Nat → Prop) (w : World) (v : Value) (d : Dk) : Prop :=
  ∃ A n c B m e, v = .agg #[.slice A n c, .slice B m e, .int .i64 d.left, .bool d.stopped] ∧ RBss S w (.slice A n c) d.sectors ∧ RWs S w (.slice B m e) d.pending
theorem RDk.ext {w w' : World} {v : Value} {d : Dk} (h : RDk S w v d) (he : Ext w w') : RDk S w' v d := by
  obtain ⟨A, n, c, B, m, e, hv, h1, h2⟩ := h; exact ⟨A, n, c, B, m, e, hv, h1.ext he, h2.ext he⟩

theorem RWr.keep {w w' : World} {cs : List Value} {x : Int × List UInt8} (h : RWr S w cs x) (hz : w.heap.size ≤ w'.heap.size) (hk : ∀ b, S b → b < w.heap.size → w'.heap[b]? = w.heap[b]?) : RWr S w' cs x := by
  obtain ⟨v, hv, h⟩ := h; exact ⟨v, hv, h.keep hz hk⟩
theorem RWr.sub {w : World} {cs : List Value} {x : Int × List UInt8} (h : RWr S w cs x) (hs : ∀ b, S b → S' b) : RWr S' w cs x := by
  obtain ⟨v, hv, h⟩ := h; exact ⟨v, hv, h.sub hs⟩
theorem RWs.keep {w w' : World} {v : Value} {l : List (Int × List UInt8)} (h : RWs S w v l) (hz : w.heap.size ≤ w'.heap.size) (hk : ∀ b, S b → b < w.heap.size → w'.heap[b]? = w.heap[b]?) : RWs S w' v l := RSl.keep h hz hk fun _ _ h => h.keep hz hk
theorem RWs.sub {w : World} {v : Value} {l : List (Int × List UInt8)} (h : RWs S w v l) (hs : ∀ b, S b → S' b) : RWs S' w v l := RSl.sub h hs fun _ _ h => h.sub hs
theorem RWs.up {w w0 : World} {v : Value} {l : List (Int × List UInt8)} (h : RWs S w v l) : RWs (Fr S w0) w v l := h.sub fun _ => .inl
theorem RDk.keep {w w' : World} {v : Value} {d : Dk} (h : RDk S w v d) (hz : w.heap.size ≤ w'.heap.size) (hk : ∀ b, S b → b < w.heap.size → w'.heap[b]? = w.heap[b]?) : RDk S w' v d := by
  obtain ⟨A, n, c, B, m, e, hv, h1, h2⟩ := h; exact ⟨A, n, c, B, m, e, hv, h1.keep hz hk, h2.keep hz hk⟩
theorem RDk.sub {w : World} {v : Value} {d : Dk} (h : RDk S w v d) (hs : ∀ b, S b → S' b) : RDk S' w v d := by
  obtain ⟨A, n, c, B, m, e, hv, h1, h2⟩ := h; exact ⟨A, n, c, B, m, e, hv, h1.sub hs, h2.sub hs⟩
theorem RDk.up {w w0 : World} {v : Value} {d : Dk} (h : RDk S w v d) : RDk (Fr S w0) w v d := h.sub fun _ => .inl

/-- returned b; nothing that was there has changed. -/
def RB (w : World) (b : Bool) (e : Ending) (w' : World) : Prop := e = .returned (.bool b) ∧ Ext w w'
def RI (w : World) (n : Int) (e : Ending) (w' : World) : Prop := e = .returned (.int .i64 n) ∧ Ext w w'

/-! plain functions -/
def badWrite (n : Nat) (x : Int × List UInt8) : Bool := decide (x.1 < 0) || decide ((n : Int) ≤ x.1) || !decide (x.2.length = 128)
def badSector (x : List UInt8) : Bool := !decide (x.length = 128)
def Dk.bad (d : Dk) : Bool := decide (d.sectors.length < 1) || decide (4096 < d.sectors.length) || decide (4096 < d.pending.length) || decide (d.left < -1) || decide (65536 < d.left) || d.pending.any (badWrite d.sectors.length) || d.sectors.any badSector
def Dk.check (d : Dk) : Int := if d.bad then 380 else 0

set_option maxHeartbeats 400000 in
theorem isSector_any (a : Option Addr) (len cap : Nat) (w : World) :
    Calls Try.prog 56 #[.slice a len cap] w fun e w' => e = .returned (.bool (decide (len = 128))) ∧ w = w' := by
  go_enter Try.func56, Try.ntmps56
  go_wp2
  go_ret
  exact ⟨ret_bool (by rw [Bool.eq_iff_iff]; simp; omega), rfl⟩

set_option maxHeartbeats 400000 in
theorem bad1_any (at_ : Int) (a : Option Addr) (len cap : Nat) (b : Nat) (n : Int) (w : World) (hb : w.cell? ⟨b, 0, none⟩ = some (.int .i64 n)) (hbl : b < w.heap.size) :
    Calls Try.prog 55 #[.agg #[.int .i64 at_, .slice a len cap], .pointer (some ⟨b, 0, none⟩)] w (RB w (decide (at_ < 0) || decide (n ≤ at_) || !decide (len = 128))) := by
  go_enter Try.func55, Try.ntmps55
  go_wp2_with (go_at_call 56; refine (isSector_any _ _ _ _).mono ?_; rintro e w' ⟨rfl, rfl⟩)
  all_goals
    go_ret
    exact ⟨ret_bool (by simp [*]), (Ext.refl _).alloc _⟩

set_option maxHeartbeats 400000 in
theorem bad2_any (a : Option Addr) (len cap : Nat) (w : World) :
    Calls Try.prog 59 #[.slice a len cap] w fun e w' => e = .returned (.bool (!decide (len = 128))) ∧ w = w' := by
  go_enter Try.func59, Try.ntmps59
  go_wp2_with (go_at_call 56; refine (isSector_any _ _ _ _).mono ?_; rintro e w' ⟨rfl, rfl⟩)
  go_ret
  exact ⟨rfl, rfl⟩

/-- IndexFunc over writes: at least 0 exactly if one is bad. -/
def RIdx (w : World) (b : Bool) (e : Ending) (w' : World) : Prop := ∃ r : Int, e = .returned (.int .i64 r) ∧ Ext w w' ∧ decide (0 ≤ r) = b

theorem any_take_succ {α : Type} (p : α → Bool) (l : List α) (k : Nat) (h : k < l.length) : (l.take (k + 1)).any p = ((l.take k).any p || p l[k]) := by
  rw [List.take_succ_eq_append_getElem h, List.any_append]; simp only [List.any_cons, List.any_nil, Bool.or_false]

theorem any_of_take {α : Type} (p : α → Bool) (l : List α) (k : Nat) (h : (l.take k).any p = true) : l.any p = true := by
  rw [List.any_eq_true] at *
  obtain ⟨x, hx, hp⟩ := h
  exact ⟨x, List.mem_of_mem_take hx, hp⟩

set_option maxHeartbeats 400000 in
theorem indexW_any (v : Value) (l : List (Int × List UInt8)) (b : Nat) (n : Nat) (w : World) (hb : w.cell? ⟨b, 0, none⟩ = some (.int .i64 n)) (hbl : b < w.heap.size)
    (hs : RWs S w v l) :
    Calls Try.prog 70 #[v, .func (.func 55) #[] #[.pointer (some ⟨b, 0, none⟩)]] w (RIdx w (l.any (badWrite n))) := by
  obtain ⟨A, cap, rfl, hcap, hmax⟩ := hs.form
  have HS := Lib.hid hs.at.2.2; clear hs
  have HB := Lib.hid hb; clear hb
  go_enter Try.func70, Try.ntmps70
  go_wp2
  go_loopw [8] (fun i wr => ∃ k : Nat, k ≤ l.length ∧ i = .int .i64 k ∧ Ext w wr ∧ Hid ((l.take k).any (badWrite n) = false)) (fun i _ => l.length - (intOf i).toNat)
  case atStart => exact ⟨0, Nat.zero_le _, rfl, Ext.refl _, by show _ = _; simp⟩
  case round =>
    obtain ⟨k, hk, rfl, hbw, hno⟩ := hrel
    by_cases hlt : k < l.length
    · obtain ⟨ba, off, rfl, hba, hc⟩ := HS.out (by omega)
      obtain ⟨x, c1, c2, hx⟩ := hc k hlt
      clear hc
      obtain ⟨A', cap', rfl, hcap', hmax'⟩ := hx.form
      have e1 := hbw.keep c1
      have e2 := hbw.keep c2
      have HX := Lib.hid hx
      clear c1 c2 hx
      have hsz := hbw.size
      have HCB := Lib.hid (hbw.keep HB.out)
      go_wp2_with fail
      (with_reducible refine (bad1_any _ _ _ _ b n _ HCB.out (by omega)).mono ?_)
      rintro e w1 ⟨rfl, hb1⟩
      have hbb := hbw.trans hb1
      have hts := any_take_succ (badWrite n) l k hlt
      have HTS := Lib.hid hts
      clear hts
      cases hbad : (decide (l[k].1 < 0) || decide ((n : Int) ≤ l[k].1) || !decide (l[k].2.length = 128))
      · go_wp2
        go_roundw
        case rel => exact ⟨k + 1, by omega, by go_num, hbb, by show _ = _; rw [HTS.out, hno.out]; exact hbad⟩
        case measure => simp [intOf]; omega
      · go_wp2
        go_ret
        refine ⟨k, rfl, hbb, ?_⟩
        rw [any_of_take _ l (k + 1) (by rw [HTS.out]; rw [Bool.or_eq_true]; exact .inr hbad)]
        simp
    · go_wp2_with fail
      go_ret
      refine ⟨-1, rfl, hbw, ?_⟩
      have := hno.out
      rw [List.take_of_length_le (by omega)] at this
      rw [this]; rfl

set_option maxHeartbeats 400000 in
theorem indexB_any (v : Value) (l : List (List UInt8)) (w : World)
    (hs : RBss S w v l) :
    Calls Try.prog 71 #[v, .func (.func 59) #[] #[]] w (RIdx w (l.any badSector)) := by
  obtain ⟨A, cap, rfl, hcap, hmax⟩ := hs.form
  have HS := Lib.hid hs.at.2.2; clear hs
  go_enter Try.func71, Try.ntmps71
  go_wp2
  go_loopw [8] (fun i wr => ∃ k : Nat, k ≤ l.length ∧ i = .int .i64 k ∧ w = wr ∧ Hid ((l.take k).any badSector = false)) (fun i _ => l.length - (intOf i).toNat)
  case atStart => exact ⟨0, Nat.zero_le _, rfl, rfl, by show _ = _; simp⟩
  case round =>
    obtain ⟨k, hk, rfl, rfl, hno⟩ := hrel
    by_cases hlt : k < l.length
    · obtain ⟨ba, off, rfl, hba, hc⟩ := HS.out (by omega)
      obtain ⟨x, c1, hx⟩ := hc k hlt
      clear hc
      obtain ⟨A', cap', rfl, hcap', hmax'⟩ := hx.form
      have HX := Lib.hid hx
      clear hx
      go_wp2_with fail
      (with_reducible refine (bad2_any _ _ _ _).mono ?_)
      rintro e w1 ⟨rfl, rfl⟩
      have HTS := Lib.hid (any_take_succ badSector l k hlt)
      cases hbad : (!decide (l[k].length = 128))
      · go_wp2
        go_roundw
        case rel => exact ⟨k + 1, by omega, by go_num, by trivial, by show _ = _; rw [HTS.out, hno.out]; exact hbad⟩
        case measure => simp [intOf]; omega
      · go_wp2
        go_ret
        refine ⟨k, rfl, Ext.refl _, ?_⟩
        rw [any_of_take _ l (k + 1) (by rw [HTS.out]; rw [Bool.or_eq_true]; exact .inr hbad)]
        simp
    · go_wp2_with fail
      go_ret
      refine ⟨-1, rfl, Ext.refl _, ?_⟩
      have := hno.out
      rw [List.take_of_length_le (by omega)] at this
      rw [this]; rfl

set_option maxHeartbeats 400000 in
theorem containsW_any (v : Value) (l : List (Int × List UInt8)) (b : Nat) (n : Nat) (w : World) (hb : w.cell? ⟨b, 0, none⟩ = some (.int .i64 n)) (hbl : b < w.heap.size)
    (hs : RWs S w v l) :
    Calls Try.prog 57 #[v, .func (.func 55) #[] #[.pointer (some ⟨b, 0, none⟩)]] w (RB w (l.any (badWrite n))) := by
  have HB := Lib.hid hb; clear hb
  have HS := Lib.hid hs; clear hs
  go_enter Try.func57, Try.ntmps57
  go_wp2_with fail
  (with_reducible refine (indexW_any _ l b n _ HB.out hbl HS.out).mono ?_)
  rintro e w1 ⟨r, rfl, hx, hr⟩
  have HR := Lib.hid hr; clear hr
  go_wp2
  go_ret
  exact ⟨ret_bool HR.out, hx⟩

set_option maxHeartbeats 400000 in
theorem containsB_any (v : Value) (l : List (List UInt8)) (w : World)
    (hs : RBss S w v l) :
    Calls Try.prog 58 #[v, .func (.func 59) #[] #[]] w (RB w (l.any badSector)) := by
  have HS := Lib.hid hs; clear hs
  go_enter Try.func58, Try.ntmps58
  go_wp2_with fail
  (with_reducible refine (indexB_any _ l _ HS.out).mono ?_)
  rintro e w1 ⟨r, rfl, hx, hr⟩
  have HR := Lib.hid hr; clear hr
  go_wp2
  go_ret
  exact ⟨ret_bool HR.out, hx⟩

end Go.Proofs.Ytfmhnplkpohogaa

namespace Go.Proofs.Ytfmhnplkpohogaa
open Go.RowKit

variable {S S' : Nat → Prop}

/-- returned a disk (and nothing else); nothing that was there has changed. -/
def RD (S : Nat → Prop) (w : World) (d : Dk) (e : Ending) (w' : World) : Prop := ∃ v, e = .returned v ∧ RDk (Fr S w) w' v d ∧ Ext w w'
/-- returned a disk and a number. -/
def RDE (S : Nat → Prop) (w : World) (d : Dk) (n : Int) (e : Ending) (w' : World) : Prop := ∃ v, e = .returned (.tuple #[v, .int .i64 n]) ∧ RDk (Fr S w) w' v d ∧ Ext w w'

def Dk.zero : Dk := ⟨[], [], 0, false⟩

theorem RDk.len {w : World} {A B : Option Addr} {n c m e : Nat} {l : Int} {s : Bool} {d : Dk} (h : RDk S w (.agg #[.slice A n c, .slice B m e, .int .i64 l, .bool s]) d) :
    RBss S w (.slice A d.sectors.length c) d.sectors ∧ RWs S w (.slice B d.pending.length e) d.pending ∧ n = d.sectors.length ∧ m = d.pending.length ∧ l = d.left ∧ s = d.stopped := by
  obtain ⟨A', n', c', B', m', e', hv, h1, h2⟩ := h
  cases hv
  obtain ⟨rfl, _⟩ := h1.at
  obtain ⟨rfl, _⟩ := h2.at
  exact ⟨h1, h2, rfl, rfl, rfl, rfl⟩

theorem RDk.form {w : World} {v : Value} {d : Dk} (h : RDk S w v d) : ∃ A c B e, v = .agg #[.slice A d.sectors.length c, .slice B d.pending.length e, .int .i64 d.left, .bool d.stopped] ∧ RBss S w (.slice A d.sectors.length c) d.sectors ∧ RWs S w (.slice B d.pending.length e) d.pending := by
  obtain ⟨A', n', c', B', m', e', rfl, h1, h2⟩ := h
  obtain ⟨rfl, _⟩ := h1.at
  obtain ⟨rfl, _⟩ := h2.at
  exact ⟨A', c', B', e', rfl, h1, h2⟩

theorem RDk.mk {w : World} {A B : Option Addr} {n c m e : Nat} {l : Int} {s : Bool} {ss : List (List UInt8)} {pp : List (Int × List UInt8)} (h1 : RBss S w (.slice A n c) ss) (h2 : RWs S w (.slice B m e) pp) : RDk S w (.agg #[.slice A n c, .slice B m e, .int .i64 l, .bool s]) ⟨ss, pp, l, s⟩ :=
  ⟨A, n, c, B, m, e, rfl, h1, h2⟩

theorem check_bad {d : Dk} (h : d.sectors.length < 1 ∨ 4096 < d.sectors.length ∨ 4096 < d.pending.length ∨ d.left < -1 ∨ 65536 < d.left) : (380 : Int) = d.check := by
  unfold Dk.check
  rw [if_pos]
  unfold Dk.bad
  simp only [Bool.or_eq_true, decide_eq_true_eq]
  omega
theorem check_bad2 {d : Dk} (h : d.pending.any (badWrite d.sectors.length) = true ∨ d.sectors.any badSector = true) : (380 : Int) = d.check := by
  unfold Dk.check
  rw [if_pos]
  unfold Dk.bad
  simp only [Bool.or_eq_true]
  rcases h with h | h
  · exact .inl (.inr h)
  · exact .inr h
theorem check_good {d : Dk} (h : ¬ (d.sectors.length < 1 ∨ 4096 < d.sectors.length ∨ 4096 < d.pending.length ∨ d.left < -1 ∨ 65536 < d.left)) (h1 : d.pending.any (badWrite d.sectors.length) = false) (h2 : d.sectors.any badSector = false) : (0 : Int) = d.check := by
  unfold Dk.check
  rw [if_neg]
  unfold Dk.bad
  rw [h1, h2]
  simp only [Bool.or_eq_true, decide_eq_true_eq, Bool.or_false]
  omega

set_option maxHeartbeats 1000000 in
theorem check_any (v : Value) (d : Dk) (w : World) (hd : RDk S w v d) :
    Calls Try.prog 31 #[v] w (RI w d.check) := by
  obtain ⟨A, c, B, e, rfl, h1, h2⟩ := hd.form
  obtain ⟨f1, f1'⟩ := h1.at.2.1
  obtain ⟨f2, f2'⟩ := h2.at.2.1
  have H1 := Lib.hid h1
  have H2 := Lib.hid h2
  have hb : d.check = if d.bad then 380 else 0 := rfl
  have HB := Lib.hid hb
  clear h1 h2 hd hb
  obtain ⟨ss, pp, left, stopped⟩ := d
  dsimp only at *
  go_enter Try.func31, Try.ntmps31
  go_wp2_with fail
  case' _ => skip
  rotate_left
  all_goals first
    | (go_ret; exact ⟨ret_int (check_bad (by dsimp only; omega)), ((Ext.refl _).alloc _).alloc _⟩)
    | skip
  have x0 : Ext w ((w.alloc (.cells #[.slice A ss.length c, .slice B pp.length e, .int .i64 left, .bool stopped] 25)).alloc (.cells #[.int .i64 ss.length] 3)) := ((Ext.refl _).alloc _).alloc _
  (with_reducible refine (containsW_any _ pp (w.heap.size + 1) ss.length _ (by simp [go_sem]) (by simp) (H2.out.ext x0)).mono ?_)
  rintro e1 w1 ⟨rfl, hx⟩
  have hc := hx.cells
  have hsz := hx.size
  simp only [World.size_alloc] at hsz
  cases hbad : pp.any (badWrite ss.length)
  · have H1' := Lib.hid ((H1.out.ext x0).ext hx)
    have HX := Lib.hid (x0.trans hx)
    clear x0 hx
    go_wp2_with fail
    (with_reducible refine (containsB_any _ ss _ H1'.out).mono ?_)
    rintro e2 w2 ⟨rfl, hx2⟩
    cases hbad2 : ss.any badSector
    · go_wp2
      go_ret
      exact ⟨ret_int (check_good (by dsimp only; omega) hbad hbad2), HX.out.trans hx2⟩
    · go_wp2
      go_ret
      exact ⟨ret_int (check_bad2 (.inr hbad2)), HX.out.trans hx2⟩
  · have HX := Lib.hid (x0.trans hx)
    go_wp2
    go_ret
    exact ⟨ret_int (check_bad2 (.inl hbad)), HX.out⟩

def Dk.runs (d : Dk) : Bool := decide (d.check = 0) && !d.stopped
def Dk.has (d : Dk) (at_ : Int) : Bool := decide (0 ≤ at_) && decide (at_ < d.sectors.length)

theorem check_01 (d : Dk) : d.check = 0 ∨ d.check = 380 := by unfold Dk.check; split <;> simp

set_option maxHeartbeats 1000000 in
theorem runs_any (v : Value) (d : Dk) (w : World) (hd : RDk S w v d) :
    Calls Try.prog 50 #[v] w (RB w d.runs) := by
  obtain ⟨A, c, B, e, rfl, h1, h2⟩ := hd.form
  have HD := Lib.hid hd
  have HR : Hid (d.runs = (decide (d.check = 0) && !d.stopped)) := rfl
  have h01 := check_01 d
  clear hd h1 h2
  go_enter Try.func50, Try.ntmps50
  go_wp2_with fail
  (with_reducible refine (check_any _ d _ (HD.out.ext ((Ext.refl _).alloc _))).mono ?_)
  rintro e1 w1 ⟨rfl, hx⟩
  have hx0 := Lib.hid (((Ext.refl w).alloc _).trans hx)
  have hc := hx.cells
  have hsz := hx.size
  simp only [World.size_alloc] at hsz
  clear hx
  rcases h01 with h01 | h01
  · rw [h01]
    have H01 := Lib.hid h01
    clear h01
    go_wp2
    go_ret
    exact ⟨ret_bool (by rw [HR.out, H01.out]; simp), hx0.out⟩
  · rw [h01]
    have H01 := Lib.hid h01
    clear h01
    go_wp2
    go_ret
    exact ⟨ret_bool (by rw [HR.out, H01.out]; simp), hx0.out⟩

set_option maxHeartbeats 1000000 in
theorem has_any (v : Value) (d : Dk) (at_ : Int) (w : World) (hd : RDk S w v d) :
    Calls Try.prog 51 #[v, .int .i64 at_] w (RB w (d.has at_)) := by
  obtain ⟨A, c, B, e, rfl, h1, h2⟩ := hd.form
  have HR : Hid (d.has at_ = (decide (0 ≤ at_) && decide (at_ < d.sectors.length))) := rfl
  clear hd h1 h2
  go_enter Try.func51, Try.ntmps51
  go_wp2
  all_goals
    go_ret
    exact ⟨ret_bool (by rw [HR.out, Bool.eq_iff_iff]; simp; omega), (Ext.refl _).alloc _⟩

def Dk.restart (d : Dk) : Dk := ⟨d.sectors, [], -1, false⟩

set_option maxHeartbeats 1000000 in
theorem restart_any (v : Value) (d : Dk) (w : World) (hd : RDk S w v d) :
    Calls Try.prog 30 #[v] w (RD S w d.restart) := by
  obtain ⟨A, c, B, e, rfl, h1, h2⟩ := hd.form
  have H1 := Lib.hid h1
  clear hd h1 h2
  go_enter Try.func30, Try.ntmps30
  go_wp2
  refine bodyPost_ret (v := .agg #[.slice A d.sectors.length c, .slice none 0 0, .int .i64 (-1), .bool false]) (by simp [results, Try.results30, go_sem]) rfl ?_
  exact ⟨_, rfl, RDk.mk (H1.out.ext (((Ext.refl _).alloc _).alloc _)).up (RSl.nil _), ((Ext.refl _).alloc _).alloc _⟩

def Dk.stop (d : Dk) (left : Int) : Dk × Int := if d.runs = false then (Dk.zero, 380) else if left < 0 ∨ 65536 < left then (Dk.zero, 1) else (⟨d.sectors, d.pending, left, d.stopped⟩, 0)

theorem RDk.zero (w : World) : RDk S w (.agg #[.slice none 0 0, .slice none 0 0, .int .i64 0, .bool false]) Dk.zero := RDk.mk (RSl.nil _) (RSl.nil _)

theorem RDE.mk {w w' : World} {d : Dk} {n : Int} {v : Value} {d' : Dk × Int} (hd : d' = (d, n)) (h1 : RDk (Fr S w) w' v d) (h2 : Ext w w') : RDE S w d'.1 d'.2 (.returned (.tuple #[v, .int .i64 n])) w' := by
  subst hd; exact ⟨v, rfl, h1, h2⟩

theorem RDE.mk' {w w' : World} {d : Dk} {n : Int} {v : Value} {d' : Dk × Int} (hd : d' = (d, n)) (h2 : Ext w w') (h1 : Ext w w' → RDk (Fr S w) w' v d) : RDE S w d'.1 d'.2 (.returned (.tuple #[v, .int .i64 n])) w' :=
  RDE.mk hd (h1 h2) h2

set_option maxHeartbeats 1000000 in
theorem stop_any (v : Value) (d : Dk) (left : Int) (w : World) (hd : RDk S w v d) :
    Calls Try.prog 29 #[v, .int .i64 left] w (RDE S w (d.stop left).1 (d.stop left).2) := by
  obtain ⟨A, c, B, e, rfl, h1, h2⟩ := hd.form
  have HD := Lib.hid hd
  clear hd h1 h2
  go_enter Try.func29, Try.ntmps29
  go_wp2_with fail
  (with_reducible refine (runs_any _ d _ (HD.out.ext (((Ext.refl _).alloc _).alloc _))).mono ?_)
  rintro e1 w1 ⟨rfl, hx⟩
  have hx0 := Lib.hid ((((Ext.refl w).alloc _).alloc _).trans hx)
  have k0 := hx.loc w.heap.size (by simp only [World.size_alloc]; omega)
  have k1 := hx.loc (w.heap.size + 1) (by simp only [World.size_alloc]; omega)
  simp [go_sem] at k0 k1
  have hsz := hx.size
  simp only [World.size_alloc] at hsz
  clear hx
  obtain ⟨k0, z0⟩ := k0
  obtain ⟨k1, z1⟩ := k1
  cases hr : d.runs
  · have HR := Lib.hid hr
    clear hr
    go_wp2
    refine bodyPost_ret (v := .tuple #[.agg #[.slice none 0 0, .slice none 0 0, .int .i64 0, .bool false], .int .i64 380]) (by simp [results, Try.results29, go_sem, k1, z1]) rfl ?_
    exact RDE.mk (by unfold Dk.stop; rw [if_pos HR.out]) (RDk.zero _) ((((hx0.out.setCell (p := ⟨w.heap.size + 1, 0, none⟩) (Nat.le_succ _) _).setCell (p := ⟨w.heap.size + 1, 1, none⟩) (Nat.le_succ _) _).setCell (p := ⟨w.heap.size + 1, 2, none⟩) (Nat.le_succ _) _).setCell (p := ⟨w.heap.size + 1, 3, none⟩) (Nat.le_succ _) _)
  · have HR := Lib.hid hr
    clear hr
    rcases (by omega : left < 0 ∨ 65536 < left ∨ (0 ≤ left ∧ left ≤ 65536)) with hl | hl | ⟨hl, hl'⟩
    · go_wp2
      refine bodyPost_ret (v := .tuple #[.agg #[.slice none 0 0, .slice none 0 0, .int .i64 0, .bool false], .int .i64 1]) (by simp [results, Try.results29, go_sem, k1, z1]) rfl ?_
      exact RDE.mk (by unfold Dk.stop; rw [if_neg (by rw [HR.out]; simp), if_pos (by omega)]) (RDk.zero _) ((((hx0.out.setCell (p := ⟨w.heap.size + 1, 0, none⟩) (Nat.le_succ _) _).setCell (p := ⟨w.heap.size + 1, 1, none⟩) (Nat.le_succ _) _).setCell (p := ⟨w.heap.size + 1, 2, none⟩) (Nat.le_succ _) _).setCell (p := ⟨w.heap.size + 1, 3, none⟩) (Nat.le_succ _) _)
    · go_wp2
      refine bodyPost_ret (v := .tuple #[.agg #[.slice none 0 0, .slice none 0 0, .int .i64 0, .bool false], .int .i64 1]) (by simp [results, Try.results29, go_sem, k1, z1]) rfl ?_
      exact RDE.mk (by unfold Dk.stop; rw [if_neg (by rw [HR.out]; simp), if_pos (by omega)]) (RDk.zero _) ((((hx0.out.setCell (p := ⟨w.heap.size + 1, 0, none⟩) (Nat.le_succ _) _).setCell (p := ⟨w.heap.size + 1, 1, none⟩) (Nat.le_succ _) _).setCell (p := ⟨w.heap.size + 1, 2, none⟩) (Nat.le_succ _) _).setCell (p := ⟨w.heap.size + 1, 3, none⟩) (Nat.le_succ _) _)
    · go_wp2
      refine bodyPost_ret (v := .tuple #[.agg #[.slice A d.sectors.length c, .slice B d.pending.length e, .int .i64 left, .bool d.stopped], .int .i64 0]) (by simp [results, Try.results29, go_sem, k0, z0, k1, z1]) rfl ?_
      exact RDE.mk' (by unfold Dk.stop; rw [if_neg (by rw [HR.out]; simp), if_neg (by omega)]) (((((hx0.out.setCell (p := ⟨w.heap.size, 2, none⟩) (Nat.le_refl _) _).setCell (p := ⟨w.heap.size + 1, 0, none⟩) (Nat.le_succ _) _).setCell (p := ⟨w.heap.size + 1, 1, none⟩) (Nat.le_succ _) _).setCell (p := ⟨w.heap.size + 1, 2, none⟩) (Nat.le_succ _) _).setCell (p := ⟨w.heap.size + 1, 3, none⟩) (Nat.le_succ _) _) (fun hE => RDk.mk (HD.out.len.1.ext hE).up (HD.out.len.2.1.ext hE).up)

end Go.Proofs.Ytfmhnplkpohogaa

namespace Go.Proofs.Ytfmhnplkpohogaa
open Go.RowKit

variable {S S' : Nat → Prop}

theorem elBytes : El Try.prog 35 5 (.int .u8 0) 1 1 := ⟨Try.underlying35, by kernel_rfl, rfl, by omega⟩
theorem elBss : El Try.prog 22 35 (.slice none 0 0) 1 24 := ⟨Try.underlying22, by kernel_rfl, rfl, by omega⟩
theorem elWs : El Try.prog 23 76 (.agg #[.int .i64 0, .slice none 0 0]) 2 32 := ⟨Try.underlying23, by kernel_rfl, rfl, by omega⟩

theorem eqnilW (w : World) (A : Option Addr) (n c : Nat) : (binOp .eql 23 (.slice A n c) (.slice none 0 0)).run Try.prog w = .ok (.bool A.isNone) w := Lib.run_eql_slice_nil w _ _ A n c 0 0 Try.underlying23
theorem eqnilB (w : World) (A : Option Addr) (n c : Nat) : (binOp .eql 35 (.slice A n c) (.slice none 0 0)).run Try.prog w = .ok (.bool A.isNone) w := Lib.run_eql_slice_nil w _ _ A n c 0 0 Try.underlying35
theorem eqnilBs (w : World) (A : Option Addr) (n c : Nat) : (binOp .eql 22 (.slice A n c) (.slice none 0 0)).run Try.prog w = .ok (.bool A.isNone) w := Lib.run_eql_slice_nil w _ _ A n c 0 0 Try.underlying22
attribute [local go_sem] eqnilW eqnilB eqnilBs

/-- returned a row of the call's own with these cells. -/
def RCl (w : World) (e : TypeId) (k n : Nat) (xs : List Value) (en : Ending) (w' : World) : Prop := ∃ v, en = .returned v ∧ w'.ownsRow w.heap.size e k v n xs ∧ Ext w w'

set_option maxHeartbeats 1000000 in
theorem cloneW_any (A : Option Addr) (n cap : Nat) (xs : List Value) (w : World) (hc : Cel w 2 A n xs) (hn : n ≤ 4398046511104) :
    Calls Try.prog 53 #[.slice A n cap] w (RCl w 76 2 n xs) := by
  rcases A with _ | ad
  · have hn0 : n = 0 := by
      rcases Nat.eq_zero_or_pos n with h | h
      · exact h
      · obtain ⟨b, off, h, _⟩ := hc.2.2 h; cases h
    subst hn0
    have hx : xs = [] := List.eq_nil_of_length_eq_zero (by have := hc.1; omega)
    have HX := Lib.hid hx
    clear hx hc
    go_enter Try.func53, Try.ntmps53
    go_wp2
    go_ret
    exact ⟨_, rfl, by rw [HX.out]; exact World.ownsRow_nil _ _ _ _, Ext.refl _⟩
  · have HC := Lib.hid hc
    clear hc
    go_enter Try.func53, Try.ntmps53
    go_wp2_with (with_reducible refine stop_append ?_)
    refine Lib.hid (wpList_app elWs rfl rfl rfl rfl (World.ownsRow_lit w #[] 0 (Nat.le_refl _) (Nat.zero_le _) (by simp)) (HC.out.ext ((Ext.refl _).alloc _)) (by simp) (by omega) (by omega) ?_)
    intro v' w' hown hg hat
    have HO := Lib.hid hown
    have HE : Hid (Ext w w') := ((Ext.refl w).alloc _).grown hg (fun k hk => by have hk : some w.heap.size = some k := hk; injection hk; omega)
    clear hown hg hat
    go_wp2
    go_ret
    exact ⟨_, rfl, by simpa using HO.out, HE.out⟩

set_option maxHeartbeats 1000000 in
theorem cloneB_any (A : Option Addr) (n cap : Nat) (xs : List Value) (w : World) (hc : Cel w 1 A n xs) (hn : n ≤ 140737488355328) :
    Calls Try.prog 38 #[.slice A n cap] w (RCl w 5 1 n xs) := by
  rcases A with _ | ad
  · have hn0 : n = 0 := by
      rcases Nat.eq_zero_or_pos n with h | h
      · exact h
      · obtain ⟨b, off, h, _⟩ := hc.2.2 h; cases h
    subst hn0
    have hx : xs = [] := List.eq_nil_of_length_eq_zero (by have := hc.1; omega)
    have HX := Lib.hid hx
    clear hx hc
    go_enter Try.func38, Try.ntmps38
    go_wp2
    go_ret
    exact ⟨_, rfl, by rw [HX.out]; exact World.ownsRow_nil _ _ _ _, Ext.refl _⟩
  · have HC := Lib.hid hc
    clear hc
    go_enter Try.func38, Try.ntmps38
    go_wp2_with (with_reducible refine stop_append ?_)
    refine Lib.hid (wpList_app elBytes rfl rfl rfl rfl (World.ownsRow_lit w #[] 0 (Nat.le_refl _) (Nat.zero_le _) (by simp)) (HC.out.ext ((Ext.refl _).alloc _)) (by simp) (by omega) (by omega) ?_)
    intro v' w' hown hg hat
    have HO := Lib.hid hown
    have HE : Hid (Ext w w') := ((Ext.refl w).alloc _).grown hg (fun k hk => by have hk : some w.heap.size = some k := hk; injection hk; omega)
    clear hown hg hat
    go_wp2
    go_ret
    exact ⟨_, rfl, by simpa using HO.out, HE.out⟩

set_option maxHeartbeats 1000000 in
theorem cloneBs_any (A : Option Addr) (n cap : Nat) (xs : List Value) (w : World) (hc : Cel w 1 A n xs) (hn : n ≤ 4398046511104) :
    Calls Try.prog 69 #[.slice A n cap] w (RCl w 35 1 n xs) := by
  rcases A with _ | ad
  · have hn0 : n = 0 := by
      rcases Nat.eq_zero_or_pos n with h | h
      · exact h
      · obtain ⟨b, off, h, _⟩ := hc.2.2 h; cases h
    subst hn0
    have hx : xs = [] := List.eq_nil_of_length_eq_zero (by have := hc.1; omega)
    have HX := Lib.hid hx
    clear hx hc
    go_enter Try.func69, Try.ntmps69
    go_wp2
    go_ret
    exact ⟨_, rfl, by rw [HX.out]; exact World.ownsRow_nil _ _ _ _, Ext.refl _⟩
  · have HC := Lib.hid hc
    clear hc
    go_enter Try.func69, Try.ntmps69
    go_wp2_with (with_reducible refine stop_append ?_)
    refine Lib.hid (wpList_app elBss rfl rfl rfl rfl (World.ownsRow_lit w #[] 0 (Nat.le_refl _) (Nat.zero_le _) (by simp)) (HC.out.ext ((Ext.refl _).alloc _)) (by simp) (by omega) (by omega) ?_)
    intro v' w' hown hg hat
    have HO := Lib.hid hown
    have HE : Hid (Ext w w') := ((Ext.refl w).alloc _).grown hg (fun k hk => by have hk : some w.heap.size = some k := hk; injection hk; omega)
    clear hown hg hat
    go_wp2
    go_ret
    exact ⟨_, rfl, by simpa using HO.out, HE.out⟩

set_option maxHeartbeats 1000000 in
theorem clipW_any (A : Option Addr) (n cap : Nat) (w : World) (hn : n ≤ cap) :
    Calls Try.prog 52 #[.slice A n cap] w (fun e w' => e = .returned (.slice A n n) ∧ w = w') := by
  go_enter Try.func52, Try.ntmps52
  go_wp2
  go_ret
  exact ⟨rfl, rfl⟩

end Go.Proofs.Ytfmhnplkpohogaa

namespace Go.Proofs.Ytfmhnplkpohogaa
open Go.RowKit

variable {S S' : Nat → Prop}

/-- The sectors after some writes. -/
def performL (ss : List (List UInt8)) (l : List (Int × List UInt8)) : List (List UInt8) := l.foldl (fun s x => s.set x.1.toNat x.2) ss
theorem performL_length (l : List (Int × List UInt8)) : ∀ ss : List (List UInt8), (performL ss l).length = ss.length := by
  induction l with
  | nil => intro ss; rfl
  | cons x l ih => intro ss; show (performL (ss.set x.1.toNat x.2) l).length = _; rw [ih]; simp
theorem performL_snoc (ss : List (List UInt8)) (l : List (Int × List UInt8)) (x : Int × List UInt8) : performL ss (l ++ [x]) = (performL ss l).set x.1.toNat x.2 := by
  simp [performL]

/-- returned a new row of slices (they read at the world w0) -/
def RPf (S : Nat → Prop) (w0 w : World) (l : List (List UInt8)) (en : Ending) (w' : World) : Prop :=
  ∃ v vs, en = .returned v ∧ w'.ownsRow w.heap.size 35 1 v l.length vs ∧ (∀ i (h : i < l.length) (h' : i < vs.length), RBs S w0 vs[i] l[i]) ∧ Ext w w'

set_option maxHeartbeats 1000000 in
theorem perform_any (v u : Value) (ss : List (List UInt8)) (l : List (Int × List UInt8)) (w0 w : World) (h0 : Ext w0 w) (hs : RBss S w0 v ss) (hl : RWs S w0 u l)
    (hb : ss.length ≤ 65536) (hb2 : l.length ≤ 65536) (hin : ∀ i (h : i < l.length), 0 ≤ l[i].1 ∧ l[i].1 < ss.length) :
    Calls Try.prog 54 #[v, u] w (RPf S w0 w (performL ss l)) := by
  obtain ⟨A, cap, rfl, hcap, hmax⟩ := hs.form
  obtain ⟨B, cap2, rfl, hcap2, hmax2⟩ := hl.form
  obtain ⟨_, _, xs, hcel, hrs⟩ := RSl.cel hs
  have HL := Lib.hid hl.at.2.2
  have HC := Lib.hid hcel
  have HR := Lib.hid hrs
  have HIN := Lib.hid hin
  clear hs hl hcel hrs hin
  go_enter Try.func54, Try.ntmps54
  go_wp2_with fail
  (with_reducible refine (cloneBs_any _ _ _ xs _ (HC.out.ext h0) (by omega)).mono ?_)
  rintro e1 w1 ⟨v1, rfl, hown, hx1⟩
  have HO := Lib.hid hown
  have HX := Lib.hid hx1
  clear hown hx1
  go_wp2_with fail
  go_loopw [12] (fun i wr => ∃ (k : Nat) (vs : List Value), k ≤ l.length ∧ i = .int .i64 k ∧ Ext w wr ∧ Hid (wr.ownsRow w.heap.size 35 1 v1 ss.length vs) ∧ Hid (∀ i (h : i < (performL ss (l.take k)).length) (h' : i < vs.length), RBs S w0 vs[i] (performL ss (l.take k))[i])) (fun i _ => l.length - (intOf i).toNat)
  case atStart =>
    refine ⟨0, xs, Nat.zero_le _, rfl, HX.out, HO, fun i h h' => ?_⟩
    have h : i < ss.length := h
    obtain ⟨x, hx, hr⟩ := HR.out i h
    rw [chunk_one h'] at hx
    injection hx with hx
    rw [hx]; exact hr
  case round =>
    obtain ⟨k, vs, hk, rfl, hbw, hown, hrd⟩ := hrel
    by_cases hlt : k < l.length
    · obtain ⟨bb, off, rfl, hbb, hc⟩ := HL.out (by omega)
      obtain ⟨x, c1, c2, hx⟩ := hc k hlt
      obtain ⟨i0, i1⟩ := HIN.out k hlt
      obtain ⟨g, cap3, rfl, hg1, hg2, hg3, hg4⟩ := own_form hown.out (by omega)
      obtain ⟨at_, hat⟩ : ∃ at_ : Nat, l[k].1 = at_ := ⟨l[k].1.toNat, by omega⟩
      have e1 := (h0.trans hbw).keep c1
      have e2 := (h0.trans hbw).keep c2
      rw [hat] at e1 i0 i1
      have HAT := Lib.hid hat
      have hsz := hbw.size
      have hvl : vs.length = ss.length := by have := hown.out.1; omega
      obtain ⟨u0, q1⟩ : ∃ u0, wr.cell? ⟨g, at_, none⟩ = some u0 := ⟨vs[at_]'(by omega), by rw [hown.out.cellAt at_ (by omega), List.getElem?_eq_getElem (by omega)]⟩
      have q2 := hown.out.frozenAt at_
      have HXX := Lib.hid hx
      have HVL := Lib.hid hvl
      obtain ⟨A', cap', hxf, hcap', hmax'⟩ := hx.form
      rw [hxf] at e2
      have HXF := Lib.hid hxf
      clear hc c1 c2 hat hx hvl hxf
      go_wp2
      go_roundw
      case rel =>
        refine ⟨k + 1, vs.set at_ x, by omega, by go_num, ?_, ?_, ?_⟩
        · exact (hbw.setCell (p := ⟨g, at_, none⟩) hg1 _).alloc _
        · rw [← HXF.out]; exact Lib.hid ((hown.out.stored at_ x).1.alloc _)
        · intro i h h'
          have hts : l.take (k + 1) = l.take k ++ [l[k]] := by rw [List.take_succ_eq_append_getElem hlt]
          simp only [hts, performL_snoc, HAT.out, Int.toNat_natCast] at h ⊢
          rw [List.getElem_set, List.getElem_set]
          split
          · exact HXX.out
          · exact hrd.out i (by simpa using h) (by simpa using h')
      case measure => simp [intOf]; omega
    · go_wp2
      go_ret
      refine ⟨v1, vs, rfl, ?_, ?_, hbw⟩
      · rw [performL_length]; exact hown.out
      · have := hrd.out
        rw [List.take_of_length_le (by omega)] at this
        exact this

end Go.Proofs.Ytfmhnplkpohogaa

namespace Go.Proofs.Ytfmhnplkpohogaa
open Go.RowKit

variable {S S' : Nat → Prop}

/-- Bytes filled up with zeros to a sector. -/
def fill128 (b : List UInt8) : List UInt8 := b ++ List.replicate (128 - b.length) 0
def Dk.write (d : Dk) (at_ : Int) (b : List UInt8) : Dk × Int :=
  if (d.runs && d.has at_) = false then (Dk.zero, 380) else if 128 < b.length then (Dk.zero, 1) else if d.pending.length = 4096 then (Dk.zero, 2)
  else (⟨d.sectors, d.pending ++ [(at_, fill128 b)], d.left, d.stopped⟩, 0)

/-- The cells of 128 zero bytes. -/
def zeros128 : List Value := byteVals (List.replicate 128 0)
theorem make128 (w : World) : (Instr.makeSlice 35 (.int .i64 128) (.int .i64 128)).run Try.prog w = .ok (.slice (some ⟨w.heap.size, 0, none⟩) 128 128) (w.alloc (.cells zeros128.toArray 5)) := by
  kernel_rfl

attribute [local go_sem] make128

theorem fill_vals (b : List UInt8) (h : b.length ≤ 128) : splice zeros128 0 (List.take (min b.length 128) (byteVals b)) = byteVals (fill128 b) := by
  have hl : (byteVals b).length = b.length := by simp [byteVals]
  rw [Nat.min_eq_left h, ← hl, List.take_length]
  simp only [splice, zeros128, fill128, byteVals, List.take_zero, List.nil_append, List.map_append, Nat.zero_add, List.length_map, List.map_replicate, List.drop_replicate]

theorem write_fin {w w' : World} {d : Dk} {A B : Option Addr} {c n cap : Nat} {e : TypeId} {xs : List Value} {at_ : Int} {b : List UInt8} {g base : Nat} (hx : Ext w w') (hs : RBss S w (.slice A d.sectors.length c) d.sectors)
    (pr : ∀ i (h : i < d.pending.length), RWr S w (chunk 2 xs i) d.pending[i]) (p0 : xs.length = d.pending.length * 2) (p1 : ∀ u ∈ xs, u.oneCell' = true)
    (ho : w'.ownsRow base e 2 (.slice B (d.pending.length + 1) cap) (d.pending.length + 1) (xs ++ [.int .i64 at_, .slice (some ⟨g, 0, none⟩) 128 128]))
    (hg : Blk w' g n (splice zeros128 0 (List.take (min b.length 128) (byteVals b)))) (hb : b.length ≤ 128) (hgw : w.heap.size ≤ g) (hbw : w.heap.size ≤ base) :
    RDE S w ⟨d.sectors, d.pending ++ [(at_, fill128 b)], d.left, d.stopped⟩ 0 (.returned (.tuple #[.agg #[.slice A d.sectors.length c, .slice B (d.pending.length + 1) cap, .int .i64 d.left, .bool d.stopped], .int .i64 0])) w' := by
  refine ⟨_, rfl, RDk.mk (hs.ext hx).up ?_, hx⟩
  rw [fill_vals b hb] at hg
  have hfl : (fill128 b).length = 128 := by simp [fill128]; omega
  have hdata : RBs (Fr S w) w' (.slice (some ⟨g, 0, none⟩) 128 128) (fill128 b) := by
    have := own_of_blk (n := 128) (cap := 128) (k := 1) hg (Nat.le_refl _) (by omega) (by simp [byteVals, hfl]) (Nat.le_refl _)
    rw [List.take_of_length_le (by simp [byteVals, hfl])] at this
    exact RBs.own this (fun b hb => .inr (Nat.le_trans hgw hb))
  refine RSl.own ho (fun b hb => .inr (Nat.le_trans hbw hb)) (by simp) (fun u hu => ?_) (fun i hi => ?_)
  · rcases List.mem_append.1 hu with h | h
    · exact p1 u h
    · simp at h
      rcases h with rfl | rfl <;> rfl
  · rcases Nat.lt_or_ge i d.pending.length with h | h
    · rw [chunk_append_left p0 h, List.getElem_append_left h]
      exact ((pr i h).ext hx).sub fun _ => .inl
    · have hi' : i = d.pending.length := by simp at hi; omega
      subst hi'
      rw [chunk_append_right p0 (Nat.le_refl _), Nat.sub_self, chunk_self (by rfl)]
      simp only [List.getElem_append_right (Nat.le_refl _), Nat.sub_self, List.getElem_cons_zero]
      exact ⟨_, rfl, hdata⟩

set_option maxHeartbeats 2000000 in
theorem write_ok (v u : Value) (d : Dk) (at_ : Int) (b : List UInt8) (w : World) (hd : RDk S w v d) (hu : RBs S w u b)
    (h1 : d.runs = true) (h2 : d.has at_ = true) (h3 : b.length ≤ 128) (h4 : d.pending.length ≠ 4096) (h5 : d.pending.length ≤ 4096) :
    Calls Try.prog 26 #[v, .int .i64 at_, u] w (RDE S w ⟨d.sectors, d.pending ++ [(at_, fill128 b)], d.left, d.stopped⟩ 0) := by
  obtain ⟨A, c, B, e, rfl, q1, q2⟩ := hd.form
  obtain ⟨C, f, rfl, q3, q4⟩ := hu.form
  have HD := Lib.hid hd
  have HU := Lib.hid hu
  have H1 := Lib.hid h1
  have H2 := Lib.hid h2
  have HS := Lib.hid q1
  have HP := Lib.hid q2
  have h4' : ((d.pending.length : Int) == 4096) = false := by simp; omega
  clear hd hu h1 h2 q1 q2 h4
  go_enter Try.func26, Try.ntmps26
  go_wp2_with fail
  (with_reducible refine (runs_any _ d _ (HD.out.ext (((Ext.refl _).alloc _).alloc _))).mono ?_)
  rintro e1 w1 ⟨rfl, hx1⟩
  have B0 := Lib.hid (((Blk.new w w.heap.size _ _ rfl).alloc _).ext hx1)
  have B1 := Lib.hid ((Blk.new _ (w.heap.size + 1) _ _ (by simp)).ext hx1)
  have HX1 := Lib.hid ((((Ext.refl w).alloc _).alloc _).trans hx1)
  clear hx1
  obtain ⟨k0, z0⟩ := B0.out.rule
  rw [H1.out]
  go_wp2_with fail
  (with_reducible refine (has_any _ d _ _ (HD.out.ext HX1.out)).mono ?_)
  rintro e2 w2 ⟨rfl, hx2⟩
  have C0 := Lib.hid (B0.out.ext hx2)
  have C1 := Lib.hid (B1.out.ext hx2)
  have HX2 := Lib.hid (HX1.out.trans hx2)
  clear hx2 k0 z0 B0 B1 HX1
  obtain ⟨k0, z0⟩ := C0.out.rule
  rw [H2.out]
  go_wp2_with (with_reducible refine stop_copy ?_)
  obtain ⟨_, _, hcel⟩ := HU.out.vals
  have HM := Lib.hid ((hcel.ext HX2.out).ext ((Ext.refl _).alloc (.cells zeros128.toArray 5)))
  refine Lib.hid (wpList_cpy elBytes rfl rfl rfl rfl (heap_alloc_new w2 _) HM.out (by simp [zeros128, byteVals]; omega) ?_)
  intro w3 hg3 hgr
  have D0 := Lib.hid ((C0.out.alloc _).grown hgr (by have := C0.out.lt; simp; omega))
  have D1 := Lib.hid ((C1.out.alloc _).grown hgr (by have := C1.out.lt; simp; omega))
  have HX3 := Lib.hid (ext_of_grown (HX2.out.alloc _) hgr (by intro k hk; injection hk with hk; subst hk; exact HX2.out.size))
  have HG3 := Lib.hid hg3
  clear k0 z0 hg3 hgr hcel
  obtain ⟨k0, z0⟩ := D0.out.rule
  go_wp2_with fail
  obtain ⟨_, _, xs, pcel, pr⟩ := RSl.cel HP.out
  have PR := Lib.hid pr
  (with_reducible refine (cloneW_any _ _ _ xs _ (pcel.ext HX3.out) (by omega)).mono ?_)
  rintro e4 w4 ⟨v4, rfl, hown, hx4⟩
  obtain ⟨A4, cap4, rfl, hc4, hm4⟩ := own_any hown
  obtain ⟨_, _, hcel4⟩ := own_cel hown pcel.2.1
  have HC4 := Lib.hid hcel4
  have E0 := Lib.hid (D0.out.ext hx4)
  have E1 := Lib.hid (D1.out.ext hx4)
  have HX4 := Lib.hid (HX3.out.trans hx4)
  have HG4 := Lib.hid (Blk.ext HG3.out hx4)
  have P1 := Lib.hid pcel.2.1
  have P0 := Lib.hid pcel.1
  clear k0 z0 D0 D1 HX3 HG3 hown hx4 pcel pr hcel4
  go_wp2_with fail
  (with_reducible refine (clipW_any _ _ _ _ hc4).mono ?_)
  rintro e5 w5 ⟨rfl, rfl⟩
  obtain ⟨k0, z0⟩ := E0.out.rule
  go_wp2_with (with_reducible refine stop_append ?_)
  refine Lib.hid (wpList_app_full elWs rfl rfl rfl rfl (HC4.out.ext ((Ext.refl _).alloc _)) (ys := [.int .i64 at_, .slice (some ⟨w2.heap.size, 0, none⟩) 128 128]) ?_ (by omega) (by omega) (by omega) ?_)
  · refine ⟨rfl, ?_, fun _ => ⟨w4.heap.size, 0, rfl, by simp, fun j u hu => ?_⟩⟩
    · intro u hu
      simp at hu
      rcases hu with rfl | rfl <;> rfl
    · rw [Nat.zero_add, World.cell?_alloc_new]
      simpa using hu
  intro v6 w6 hown6 hx6 hat6
  obtain ⟨A6, cap6, rfl, hc6, hm6⟩ := own_any hown6
  have HO6 := Lib.hid hown6
  have F0 := Lib.hid ((E0.out.alloc _).ext hx6)
  have F1 := Lib.hid ((E1.out.alloc _).ext hx6)
  have HX6 := Lib.hid ((HX4.out.alloc _).trans hx6)
  have HG6 := Lib.hid ((Blk.alloc HG4.out _).ext hx6)
  have hb4 := E1.out.lt
  have hb2 := C1.out.lt
  clear k0 z0 E0 E1 HX4 HG4 hown6 hx6 hat6 HC4
  obtain ⟨k0, z0⟩ := F0.out.rule
  obtain ⟨k1, z1⟩ := F1.out.rule
  have hlt := F0.out.lt
  have hlt1 := F1.out.lt
  go_wp2
  refine bodyPost_ret (v := .tuple #[.agg #[.slice A d.sectors.length c, .slice A6 (d.pending.length + 1) cap6, .int .i64 d.left, .bool d.stopped], .int .i64 0]) (by simp [results, Try.results26, go_sem, k0, z0, k1, z1]) rfl ?_
  have g0 : w.heap.size < (w4.alloc (.cells #[.int .i64 at_, .slice (some ⟨w2.heap.size, 0, none⟩) 128 128] 76)).heap.size := by simp only [World.size_alloc]; omega
  have g1 : w.heap.size + 1 < (w4.alloc (.cells #[.int .i64 at_, .slice (some ⟨w2.heap.size, 0, none⟩) 128 128] 76)).heap.size := by simp only [World.size_alloc]; omega
  have r0 : w.heap.size ≤ w.heap.size := Nat.le_refl _
  have r1 : w.heap.size ≤ w.heap.size + 1 := Nat.le_succ _
  have n0 : w2.heap.size ≠ w.heap.size := by omega
  have n1 : w2.heap.size ≠ w.heap.size + 1 := by omega
  exact write_fin (((((HX6.out.setC r0).setC r1).setC r1).setC r1).setC r1) HS.out PR.out P0.out P1.out (own_setC (own_setC (own_setC (own_setC (own_setC HO6.out g0) g1) g1) g1) g1) (((((HG6.out.farC n0).farC n1).farC n1).farC n1).farC n1) h3 (by omega) (by simp only [World.size_alloc]; omega)

/-- What a disk that runs is like. -/
theorem runs_facts {d : Dk} (h : d.runs = true) : 1 ≤ d.sectors.length ∧ d.sectors.length ≤ 4096 ∧ d.pending.length ≤ 4096 ∧ -1 ≤ d.left ∧ d.left ≤ 65536 ∧ d.stopped = false ∧
    (∀ x ∈ d.pending, 0 ≤ x.1 ∧ x.1 < d.sectors.length ∧ x.2.length = 128) ∧ (∀ x ∈ d.sectors, x.length = 128) := by
  unfold Dk.runs at h
  simp only [Bool.and_eq_true, decide_eq_true_eq, Bool.not_eq_true'] at h
  obtain ⟨hc, hs⟩ := h
  unfold Dk.check at hc
  split at hc
  · cases hc
  · rename_i hb
    unfold Dk.bad at hb
    simp only [Bool.or_eq_true, decide_eq_true_eq, not_or, List.any_eq_true, not_exists, not_and, badWrite, badSector, Bool.not_eq_true', decide_eq_false_iff_not, Decidable.not_not] at hb
    obtain ⟨⟨⟨⟨⟨⟨b1, b2⟩, b3⟩, b4⟩, b5⟩, b6⟩, b7⟩ := hb
    refine ⟨by omega, by omega, by omega, by omega, by omega, hs, fun x hx => ?_, fun x hx => b7 x hx⟩
    have := b6 x hx
    exact ⟨by omega, by omega, this.2⟩

set_option maxHeartbeats 2000000 in
theorem write_bad (v u : Value) (d : Dk) (at_ : Int) (b : List UInt8) (w : World) (hd : RDk S w v d) (hu : RBs S w u b) (n : Int)
    (hn : d.runs = false ∧ n = 380 ∨ d.runs = true ∧ d.has at_ = false ∧ n = 380 ∨ d.runs = true ∧ d.has at_ = true ∧ 128 < b.length ∧ n = 1 ∨ d.runs = true ∧ d.has at_ = true ∧ b.length ≤ 128 ∧ d.pending.length = 4096 ∧ n = 2) :
    Calls Try.prog 26 #[v, .int .i64 at_, u] w (RDE S w Dk.zero n) := by
  obtain ⟨A, c, B, e, rfl, q1, q2⟩ := hd.form
  obtain ⟨C, f, rfl, q3, q4⟩ := hu.form
  have HD := Lib.hid hd
  have HN := Lib.hid hn
  clear hd hu q1 q2 hn
  go_enter Try.func26, Try.ntmps26
  go_wp2_with fail
  (with_reducible refine (runs_any _ d _ (HD.out.ext (((Ext.refl _).alloc _).alloc _))).mono ?_)
  rintro e1 w1 ⟨rfl, hx1⟩
  have B0 := Lib.hid (((Blk.new w w.heap.size _ _ rfl).alloc _).ext hx1)
  have B1 := Lib.hid ((Blk.new _ (w.heap.size + 1) _ _ (by simp)).ext hx1)
  have HX1 := Lib.hid ((((Ext.refl w).alloc _).alloc _).trans hx1)
  have r1 : w.heap.size ≤ w.heap.size + 1 := Nat.le_succ _
  clear hx1
  obtain ⟨k0, z0⟩ := B0.out.rule
  rcases HN.out with ⟨hr, rfl⟩ | hn
  · rw [hr]
    clear hr HN k0 z0
    obtain ⟨k1, z1⟩ := B1.out.rule
    go_wp2
    refine bodyPost_ret (v := .tuple #[.agg #[.slice none 0 0, .slice none 0 0, .int .i64 0, .bool false], .int .i64 380]) (by simp [results, Try.results26, go_sem, k1, z1]) rfl ?_
    exact ⟨_, rfl, RDk.zero _, (((HX1.out.setC r1).setC r1).setC r1).setC r1⟩
  have hr : d.runs = true := by rcases hn with h | h | h <;> exact h.1
  rw [hr]
  have HR := Lib.hid hr
  have HN' := Lib.hid hn
  clear hr hn HN
  go_wp2_with fail
  (with_reducible refine (has_any _ d _ _ (HD.out.ext HX1.out)).mono ?_)
  rintro e2 w2 ⟨rfl, hx2⟩
  have C0 := Lib.hid (B0.out.ext hx2)
  have C1 := Lib.hid (B1.out.ext hx2)
  have HX2 := Lib.hid (HX1.out.trans hx2)
  clear hx2 k0 z0 B0 B1 HX1
  obtain ⟨k0, z0⟩ := C0.out.rule
  obtain ⟨k1, z1⟩ := C1.out.rule
  rcases HN'.out with ⟨_, hh, rfl⟩ | ⟨_, hh, hl, rfl⟩ | ⟨_, hh, hl, hp, rfl⟩
  · rw [hh]
    clear hh HN'
    go_wp2
    refine bodyPost_ret (v := .tuple #[.agg #[.slice none 0 0, .slice none 0 0, .int .i64 0, .bool false], .int .i64 380]) (by simp [results, Try.results26, go_sem, k1, z1]) rfl ?_
    exact ⟨_, rfl, RDk.zero _, (((HX2.out.setC r1).setC r1).setC r1).setC r1⟩
  · rw [hh]
    clear hh HN'
    go_wp2
    refine bodyPost_ret (v := .tuple #[.agg #[.slice none 0 0, .slice none 0 0, .int .i64 0, .bool false], .int .i64 1]) (by simp [results, Try.results26, go_sem, k1, z1]) rfl ?_
    exact ⟨_, rfl, RDk.zero _, (((HX2.out.setC r1).setC r1).setC r1).setC r1⟩
  · rw [hh]
    have h4' : ((d.pending.length : Int) == 4096) = true := by simp; omega
    clear hh HN' hp
    go_wp2
    refine bodyPost_ret (v := .tuple #[.agg #[.slice none 0 0, .slice none 0 0, .int .i64 0, .bool false], .int .i64 2]) (by simp [results, Try.results26, go_sem, k1, z1]) rfl ?_
    exact ⟨_, rfl, RDk.zero _, (((HX2.out.setC r1).setC r1).setC r1).setC r1⟩

theorem write_any (v u : Value) (d : Dk) (at_ : Int) (b : List UInt8) (w : World) (hd : RDk S w v d) (hu : RBs S w u b) :
    Calls Try.prog 26 #[v, .int .i64 at_, u] w (RDE S w (d.write at_ b).1 (d.write at_ b).2) := by
  unfold Dk.write
  cases hr : d.runs
  · simp only [Bool.false_and, if_true]
    exact write_bad v u d at_ b w hd hu 380 (.inl ⟨hr, rfl⟩)
  cases hh : d.has at_
  · simp only [Bool.and_false, if_true]
    exact write_bad v u d at_ b w hd hu 380 (.inr (.inl ⟨hr, hh, rfl⟩))
  simp only [Bool.and_self, Bool.true_eq_false, if_false]
  by_cases hl : 128 < b.length
  · rw [if_pos hl]
    exact write_bad v u d at_ b w hd hu 1 (.inr (.inr (.inl ⟨hr, hh, hl, rfl⟩)))
  rw [if_neg hl]
  by_cases hp : d.pending.length = 4096
  · rw [if_pos hp]
    exact write_bad v u d at_ b w hd hu 2 (.inr (.inr (.inr ⟨hr, hh, by omega, hp, rfl⟩)))
  rw [if_neg hp]
  exact write_ok v u d at_ b w hd hu hr hh (by omega) hp (runs_facts hr).2.2.1

end Go.Proofs.Ytfmhnplkpohogaa
