/- Arrays of ints and bools; parts and joints of flat lists; rows beside other rows; lengths, capacities, minima. No program in sight. -/
import Derived.Test.YtjmdodgmoehfkaaWk6
namespace Go.Proofs.Ytjmdodgmoehfkaa
open Go.RowKit

variable {S S' : Nat → Prop}
def intVals (l : List Int) : List Value := l.map fun c => .int .i64 c
def boolVals (l : List Bool) : List Value := l.map fun c => .bool c
theorem byteVals_take1 (a : List UInt8) (n : Nat) : (byteVals a).take (n * 1) = byteVals (a.take n) := by simp [byteVals, List.map_take]
theorem byteVals_drop1 (a : List UInt8) (n : Nat) : (byteVals a).drop (n * 1) = byteVals (a.drop n) := by simp [byteVals, List.map_drop]
theorem u32Vals_app (a b : List UInt32) : u32Vals a ++ u32Vals b = u32Vals (a ++ b) := by simp [u32Vals]
theorem u32Vals_take1 (a : List UInt32) (n : Nat) : (u32Vals a).take (n * 1) = u32Vals (a.take n) := by simp [u32Vals, List.map_take]
theorem u32Vals_drop1 (a : List UInt32) (n : Nat) : (u32Vals a).drop (n * 1) = u32Vals (a.drop n) := by simp [u32Vals, List.map_drop]
theorem intVals_one (l : List Int) : ∀ u ∈ intVals l, u.oneCell' = true := by
  intro u hu
  simp only [intVals, List.mem_map] at hu
  obtain ⟨c, _, rfl⟩ := hu; rfl
theorem intVals_len {l : List Int} {n : Nat} (h : l.length = n) : (intVals l).length = n := by simp [intVals, h]
theorem intVals_set {l : List Int} {j i : Nat} {x : Int} (hj : j = i) : (intVals l).set j (.int .i64 x) = intVals (l.set i x) := by
  subst hj; simp [intVals, List.map_set]
theorem intVals_at {l : List Int} {i : Nat} (h : i < l.length) : (intVals l)[i]? = some (.int .i64 (l.getD i 0)) := by
  simp [intVals, List.getD_eq_getElem?_getD, List.getElem?_eq_getElem h]
theorem blk_intVals {W : World} {g : Nat} {t : TypeId} {l : List Int} (h : Blk W g t (intVals l)) {j i : Nat} (hj : j = i) (hi : i < l.length) : W.cell? ⟨g, j, none⟩ = some (.int .i64 (l.getD i 0)) := by
  subst hj
  rw [h.rule.1]
  exact intVals_at hi
theorem intVals_app (a b : List Int) : intVals a ++ intVals b = intVals (a ++ b) := by simp [intVals]
theorem intVals_take1 (a : List Int) (n : Nat) : (intVals a).take (n * 1) = intVals (a.take n) := by simp [intVals, List.map_take]
theorem intVals_drop1 (a : List Int) (n : Nat) : (intVals a).drop (n * 1) = intVals (a.drop n) := by simp [intVals, List.map_drop]
theorem boolVals_one (l : List Bool) : ∀ u ∈ boolVals l, u.oneCell' = true := by
  intro u hu
  simp only [boolVals, List.mem_map] at hu
  obtain ⟨c, _, rfl⟩ := hu; rfl
theorem boolVals_len {l : List Bool} {n : Nat} (h : l.length = n) : (boolVals l).length = n := by simp [boolVals, h]
theorem boolVals_set {l : List Bool} {j i : Nat} {x : Bool} (hj : j = i) : (boolVals l).set j (.bool x) = boolVals (l.set i x) := by
  subst hj; simp [boolVals, List.map_set]
theorem boolVals_at {l : List Bool} {i : Nat} (h : i < l.length) : (boolVals l)[i]? = some (.bool (l.getD i false)) := by
  simp [boolVals, List.getD_eq_getElem?_getD, List.getElem?_eq_getElem h]
theorem blk_boolVals {W : World} {g : Nat} {t : TypeId} {l : List Bool} (h : Blk W g t (boolVals l)) {j i : Nat} (hj : j = i) (hi : i < l.length) : W.cell? ⟨g, j, none⟩ = some (.bool (l.getD i false)) := by
  subst hj
  rw [h.rule.1]
  exact boolVals_at hi
theorem boolVals_app (a b : List Bool) : boolVals a ++ boolVals b = boolVals (a ++ b) := by simp [boolVals]
theorem boolVals_take1 (a : List Bool) (n : Nat) : (boolVals a).take (n * 1) = boolVals (a.take n) := by simp [boolVals, List.map_take]
theorem boolVals_drop1 (a : List Bool) (n : Nat) : (boolVals a).drop (n * 1) = boolVals (a.drop n) := by simp [boolVals, List.map_drop]

theorem Pres.row {a w w' : World} {base : Nat} {e : TypeId} {k n : Nat} {v : Value} {xs : List Value} (h : Pres S a w) (hg : w.grownBy w' v.ownBlock) (ho : w.ownsRow base e k v n xs) (hn : ∀ b, base ≤ b → ¬ S b) : Pres S a w' :=
  h.trans ⟨hg.size, fun b hb hl => hg.block b hl (fun e => hn b (ho.lt b e.symm).1 hb)⟩
theorem grow_row {w w1 w2 : World} {g base : Nat} {e : TypeId} {k n : Nat} {v : Value} {xs : List Value} (h : w.grownBy w1 (some g)) (hg : w1.grownBy w2 v.ownBlock) (ho : w1.ownsRow base e k v n xs) (hn : w.heap.size ≤ base) : w.grownBy w2 (some g) :=
  ⟨hg.os.trans h.os, hg.tape.trans h.tape, hg.output.trans h.output, Nat.le_trans h.size hg.size, fun i hi hne => (hg.block i (Nat.lt_of_lt_of_le hi h.size) (fun e => by have := (ho.lt i e.symm).1; omega)).trans (h.block i hi hne)⟩
/-- two rows of the call's own lie apart -/
def Apart (v u : Value) : Prop := ∀ g, v.ownBlock = some g → u.ownBlock ≠ some g
theorem Apart.nil (v : Value) (n c : Nat) : Apart v (.slice none n c) := fun _ _ h => by cases h
theorem Apart.symm {v u : Value} (h : Apart v u) : Apart u v := fun g h1 h2 => h g h2 h1
theorem own_grownR {w w' : World} {base : Nat} {e : TypeId} {k n : Nat} {v u : Value} {xs : List Value} (h : w.ownsRow base e k v n xs) (hg : w.grownBy w' u.ownBlock) (ha : Apart v u) : w'.ownsRow base e k v n xs :=
  h.kept hg (by
    cases hv : v.ownBlock with
    | none => exact .inl rfl
    | some g => exact .inr fun e => ha g hv e.symm)
theorem own_grownT {w w' : World} {base : Nat} {e t : TypeId} {k n b : Nat} {v : Value} {xs cs : List Value} (h : w.ownsRow base e k v n xs) (hb : Blk w b t cs) (hg : w.grownBy w' (some b)) (hte : t ≠ e) : w'.ownsRow base e k v n xs :=
  h.kept hg (by
    cases hv : v.ownBlock with
    | none => exact .inl rfl
    | some g =>
      obtain ⟨cur, hc⟩ := own_heap h hv
      exact .inr fun e1 => hb.ne_tag hc hte (Option.some.inj e1).symm)
theorem Fl.digblk {w : World} {g : Nat} {t : TypeId} {l : List (List UInt8)} {cs : List Value} {n : Nat} (h : Blk w g t cs) (h32 : All32 l) (hc : cs = digVals l) (hn : l.length = n := by rfl) (hm : n ≤ 9223372036854775807 := by omega) (hS : S g := by rfl) : Fl S w 32 (.slice (some ⟨g, 0, none⟩) n n) n (digVals l) := by
  subst hn
  exact Fl.blk (hc ▸ h) (digVals_len h32) (digVals_one l) ⟨Nat.le_refl _, hm⟩ hS
section
variable {P : Program} {ρ : Operand → Value} {W : World} {d : Option Tmp} {t : TypeId} {p : String} {af : Array Edge} {g : Option (Nat × Bool)}
theorem rn_cap {x : Operand} {s e : TypeId} {A : Option Addr} {n c : Nat} (hu : P.underlying s = some (.slice e)) (hx : ρ x = .slice A n c) : (execOp ρ ⟨d, .call { callee := .builtin .cap, args := #[x], argTypes := #[s] }, t, p, af, g⟩).run P W = .ok (.value (.int .i64 c)) W := by
  simp [execOp, resolve, invoke, builtin, hx, Builtin.cap_, goInt, run_underlying hu]
theorem rn_lenS {x : Operand} {st : TypeId} {l : List UInt8} (hu : P.underlying st = some .string) (hx : ρ x = strOf l) : (execOp ρ ⟨d, .call { callee := .builtin .len, args := #[x], argTypes := #[st] }, t, p, af, g⟩).run P W = .ok (.value (.int .i64 (l.length : Nat))) W := by
  have := rn_len_str (P := P) (ρ := ρ) (W := W) (d := d) (t := t) (p := p) (af := af) (g := g) hu hx
  simpa [ByteArray.size] using this
theorem rn_shlN {x y : Operand} {xt yt : TypeId} {k : IntKind} {a n : Nat} (hx : ρ x = .int .i64 (a : Nat)) (hy : ρ y = .int k (n : Nat)) (h : n < 63) (hb : a * 2 ^ n ≤ 9223372036854775807) : (execOp ρ ⟨d, .binOp .shl xt x y yt, t, p, af, g⟩).run P W = .ok (.value (.int .i64 ((a * 2 ^ n : Nat) : Int))) W := by
  refine rn_bin hx hy guard_int ?_
  have hn : min n IntKind.i64.bits = n := Nat.min_eq_left (by show n ≤ 64; omega)
  have h0 : ¬ ((n : Int) < 0) := by omega
  show Sem.run P (Op.shift .shl .i64 ((a : Nat) : Int) k (n : Nat)) W = _
  unfold Op.shift
  rw [if_neg h0]
  show Sem.run P (pure (Value.int .i64 (IntKind.i64.wrap (((a : Nat) : Int) * 2 ^ (min ((n : Int)).toNat IntKind.i64.bits))))) W = _
  rw [Int.toNat_natCast, hn, Sem.run_pure]
  congr 2
  rw [show ((a : Int) * 2 ^ n) = ((a * 2 ^ n : Nat) : Int) by rw [Int.natCast_mul, Int.natCast_pow]; rfl]
  exact i64_nat _ (by omega)
theorem rn_indexE {s e : TypeId} {x y : Operand} {b off len cap k r : Nat} {kd : IntKind} {n : Int} (hu : P.underlying s = some (.slice e)) (hi : (P.info? e).map (·.size) = some k) (hx : ρ x = .slice (some ⟨b, off, none⟩) len cap) (hy : ρ y = .int kd n) (h0 : 0 ≤ n) (h1 : n < len) (hr : off + n.toNat * k = r) :
    (execOp ρ ⟨d, .indexAddr s x y, t, p, af, g⟩).run P W = .ok (.value (.pointer (some ⟨b, r, none⟩))) W := hr ▸ rn_index hu hi hx hy h0 h1
theorem rn_indexArrE {s e : TypeId} {x y : Operand} {b off L k r : Nat} {kd : IntKind} {n : Int} (hu : P.underlying s = some (.array L e)) (hi : (P.info? e).map (·.size) = some k) (hx : ρ x = .pointer (some ⟨b, off, none⟩)) (hy : ρ y = .int kd n) (h0 : 0 ≤ n) (h1 : n < L) (hr : off + n.toNat * k = r) :
    (execOp ρ ⟨d, .indexAddr s x y, t, p, af, g⟩).run P W = .ok (.value (.pointer (some ⟨b, r, none⟩))) W := by
  subst hr
  cases hq : P.info? e with
  | none => simp [hq] at hi
  | some i =>
    have hs : i.size = k := by simpa [hq] using hi
    simp [execOp, Instr.indexAt, Instr.sureAddr, hx, hy, asIntOf, run_underlying hu, sizeOf, typeInfo, hq, hs, h0, h1, addr_add]
theorem rn_sliceLH {s e : TypeId} {x y z : Operand} {b off n c sz l h m : Nat} {k k2 : IntKind} (hu : P.underlying s = some (.slice e)) (hi : (P.info? e).map (·.size) = some sz) (hx : ρ x = .slice (some ⟨b, off, none⟩) n c) (hy : ρ y = .int k (l : Int)) (hz : ρ z = .int k2 (h : Int)) (h1 : l ≤ h) (h2 : h ≤ c) (h3 : l < c) (h4 : h - l = m) :
    (execOp ρ ⟨d, .slice s x (some y) (some z) none, t, p, af, g⟩).run P W = .ok (.value (.slice (some ⟨b, off + l * sz, none⟩) m (c - l))) W := by
  subst h4
  have hb : ∀ y c', l ≤ y → (Instr.sliceBound (.int k (l : Int)) y c').run P W = .ok l W := fun y c' hy => by rw [bound_ok (by omega) (by omega)]; simp
  have hb2 : ∀ y c', h ≤ y → (Instr.sliceBound (.int k2 (h : Int)) y c').run P W = .ok h W := fun y c' hy => by rw [bound_ok (by omega) (by omega)]; simp
  have hne : ¬ c = l := by omega
  simp [execOp, Instr.sliceAt, Instr.slice, Instr.sliceBounds, run_underlying hu, hx, hy, hz, hb h _ h1, hb2 c _ h2, size_of hi, hne, addr_add]
theorem rn_subN {x y : Operand} {xt yt : TypeId} {a b : Nat} (hx : ρ x = .int .i64 (a : Nat)) (hy : ρ y = .int .i64 (b : Nat)) (h : b ≤ a) (hb : a ≤ 9223372036854775807) : (execOp ρ ⟨d, .binOp .sub xt x y yt, t, p, af, g⟩).run P W = .ok (.value (.int .i64 ((a - b : Nat) : Int))) W :=
  rn_sub hx hy (by omega) (by omega)
end
theorem ret_then {K : Act → World → Prop} {Q : Exit → Act → World → Prop} {a : Act} {w : World} (h : Q .ret a w) : Exit.then K Q .ret a w := h
theorem ret_block {id : Nat} {Q : Exit → Act → World → Prop} {a : Act} {w : World} (h : Q .ret a w) : Exit.inBlock id Q .ret a w := h
theorem own_blk0 {w : World} {g : Nat} {t : TypeId} {k : Nat} (h : Blk w g t []) : w.ownsRow g t k (.slice (some ⟨g, 0, none⟩) 0 0) 0 [] :=
  ⟨by simp, .inr ⟨g, 0, #[], rfl, Nat.le_refl _, h, Nat.le_refl _, by unfold maxLen; omega, by simp, by simp⟩⟩
theorem Fl.mid_eq {w : World} {k n m c b off : Nat} {A : Option Addr} {xs ys : List Value} (h : Fl S w k (.slice A m c) n xs) (hA : A = some ⟨b, off, none⟩) {j m' : Nat} (hj : j ≤ n) (hm : m' ≤ n - j) (e : (xs.drop (j * k)).take (m' * k) = ys) : Fl S w k (.slice (some ⟨b, off + j * k, none⟩) m' (c - j)) m' ys := by
  subst hA
  exact e ▸ (h.drop hj).take hm
theorem Fl.blen {w : World} {v : Value} {n : Nat} {l : List UInt8} (h : Fl S w 1 v n (byteVals l)) : l.length = n := by
  have := h.len; simp [byteVals] at this; omega
theorem Fl.dlen {w : World} {v : Value} {n : Nat} {l : List (List UInt8)} (h : Fl S w 32 v n (digVals l)) (h32 : All32 l) : l.length = n := by
  have := h.len; rw [digVals_len h32] at this; omega
theorem nth_of_lt {α : Type} (l : List α) (k : Nat) (h : k < l.length) : ∃ x, l[k]? = some x ∧ x ∈ l := ⟨l[k], List.getElem?_eq_getElem h, List.getElem_mem h⟩
theorem flat_step {l : List (List UInt8)} {k : Nat} {x : List UInt8} (hx : l[k]? = some x) : (l.take (k + 1)).flatten = (l.take k).flatten ++ x := by
  rw [List.take_add_one, hx]; simp
theorem flat_le {l : List (List UInt8)} {k : Nat} {x : List UInt8} (hx : l[k]? = some x) : (l.take k).flatten.length + x.length ≤ l.flatten.length ∧ (l.take (k + 1)).flatten.length = (l.take k).flatten.length + x.length := by
  have h := flat_step hx
  have h2 : l.flatten = (l.take (k + 1)).flatten ++ (l.drop (k + 1)).flatten := by rw [← List.flatten_append, List.take_append_drop]
  rw [h2, List.length_append, h, List.length_append]
  omega

end Go.Proofs.Ytjmdodgmoehfkaa
