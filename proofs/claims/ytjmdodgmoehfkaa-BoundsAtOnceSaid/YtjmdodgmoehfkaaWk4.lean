/- More laws of single operations: pointers that are not nil, quotients, words of 64 bits, conversions of words, arrays of words, function values, slices of arrays, copies. No program in sight. -/
import Derived.Test.YtjmdodgmoehfkaaWk3
import Derived.Test.YtjmdodgmoehfkaaU32
namespace Go.Proofs.Ytjmdodgmoehfkaa
open Go.RowKit

variable {S S' : Nat → Prop}

theorem wrap64 (n : Nat) (h : n < 18446744073709551616) : IntKind.u64.wrap (n : Int) = n := by
  show (let m := (n : Int) % (2 ^ 64 : Int); if false && m ≥ (2 ^ 63 : Int) then m - (2 ^ 64 : Int) else m) = n
  simp
  omega
theorem wrap64m (n : Int) : IntKind.u64.wrap n = n % 18446744073709551616 := by
  show (let m := (n : Int) % (2 ^ 64 : Int); if false && m ≥ (2 ^ 63 : Int) then m - (2 ^ 64 : Int) else m) = _
  simp
theorem wrap8m (n : Int) : IntKind.u8.wrap n = n % 256 := by
  show (let m := (n : Int) % (2 ^ 8 : Int); if false && m ≥ (2 ^ 7 : Int) then m - (2 ^ 8 : Int) else m) = _
  simp
section
variable {P : Program} {W : World} {t : TypeId}
theorem b_add64 (a b : UInt64) : (binOp .add t (.int .u64 (a.toNat : Nat)) (.int .u64 (b.toNat : Nat))).run P W = .ok (.int .u64 ((a + b).toNat : Nat)) W := by
  simp only [binOp, Op.intArith, ne_eq, not_true_eq_false, if_false, Sem.run_pure]
  rw [wrap64m, UInt64.toNat_add]
  rfl
theorem b_shr64 (a : UInt64) (k : IntKind) (n : Nat) (h : n < 64) : (binOp .shr t (.int .u64 (a.toNat : Nat)) (.int k (n : Nat))).run P W = .ok (.int .u64 ((a >>> UInt64.ofNat n).toNat : Nat)) W := by
  have hn : min n IntKind.u64.bits = n := Nat.min_eq_left (by show n ≤ 64; omega)
  have h0 : ¬ ((n : Int) < 0) := by omega
  show Sem.run P (Op.shift .shr .u64 ((a.toNat : Nat) : Int) k (n : Nat)) W = _
  unfold Op.shift
  rw [if_neg h0]
  show Sem.run P (pure (Value.int .u64 (Int.fdiv ((a.toNat : Nat) : Int) (2 ^ (min ((n : Int)).toNat IntKind.u64.bits))))) W = _
  rw [Int.toNat_natCast, hn, Sem.run_pure]
  congr 2
  rw [UInt64.toNat_shiftRight, UInt64.toNat_ofNat_of_lt' (by show n < 18446744073709551616; omega), Nat.mod_eq_of_lt h, Nat.shiftRight_eq_div_pow, Int.fdiv_eq_ediv_of_nonneg _ (by exact Int.pow_nonneg (by omega))]
  rw [Int.natCast_ediv, Int.natCast_pow]
  rfl
end

section
variable {P : Program} {ρ : Operand → Value} {W : World} {d : Option Tmp} {t xt yt : TypeId} {p : String} {af : Array Edge} {g : Option (Nat × Bool)} {x y : Operand}
theorem rn_nil {a : Addr} (hx : ρ x = .pointer (some a)) : (execOp ρ ⟨d, .nilCheck x, t, p, af, g⟩).run P W = .ok (.value (.pointer (some a))) W := by simp [execOp, hx]
theorem rn_quo {n1 n2 : Int} (hx : ρ x = .int .i64 n1) (hy : ρ y = .int .i64 n2) (h1 : 0 ≤ n1) (h2 : 0 < n2) (h3 : n1 ≤ 9223372036854775807) : (execOp ρ ⟨d, .binOp .quo xt x y yt, t, p, af, g⟩).run P W = .ok (.value (.int .i64 (n1 / n2))) W :=
  rn_bin hx hy guard_int (by
    have ha : 0 ≤ n1 / n2 := Int.ediv_nonneg h1 (by omega)
    have hb : n1 / n2 ≤ n1 := Int.ediv_le_self _ h1
    simp only [binOp, Op.intDiv, if_neg (by omega : ¬ n2 = 0), Int.tdiv_eq_ediv_of_nonneg h1, ne_eq, not_true_eq_false, if_false, Sem.run_pure, IntWalk.i64_in _ (⟨by omega, by omega⟩ : -9223372036854775808 ≤ n1 / n2 ∧ n1 / n2 ≤ 9223372036854775807)])
theorem rn_add64 {a b : UInt64} (hx : ρ x = .int .u64 (a.toNat : Nat)) (hy : ρ y = .int .u64 (b.toNat : Nat)) : (execOp ρ ⟨d, .binOp .add xt x y yt, t, p, af, g⟩).run P W = .ok (.value (.int .u64 ((a + b).toNat : Nat))) W := rn_bin hx hy guard_int (b_add64 a b)
theorem rn_shr64 {a : UInt64} {k : IntKind} {n : Nat} (hx : ρ x = .int .u64 (a.toNat : Nat)) (hy : ρ y = .int k (n : Nat)) (h : n < 64) : (execOp ρ ⟨d, .binOp .shr xt x y yt, t, p, af, g⟩).run P W = .ok (.value (.int .u64 ((a >>> UInt64.ofNat n).toNat : Nat))) W := rn_bin hx hy guard_int (b_shr64 a k n h)
theorem rn_convW {src dst : TypeId} {k k2 : IntKind} {n m : Int} {td : TypeDesc} (hs : P.underlying src = some td) (hu : P.underlying dst = some (.int k2)) (hx : ρ x = .int k n) (hw : k2.wrap n = m) :
    (execOp ρ ⟨d, .convert src dst x, t, p, af, g⟩).run P W = .ok (.value (.int k2 m)) W := by
  simp [execOp, hx, convert, run_underlying hs, run_underlying hu, Conv.intToInt, hw]
theorem rn_callv {f : FuncId} {xs : Array Operand} {ts : Array TypeId} {first vs : Array Value} (hf : ρ x = .func (.func f) first #[]) (ha : first ++ xs.map ρ = vs) (hc : (callFunc f vs).run P W = .ok (.enter f vs) W) :
    (execOp ρ ⟨d, .call { callee := .value x, args := xs, argTypes := ts }, t, p, af, g⟩).run P W = .ok (.enter f vs) W := by
  simp [execOp, resolve, hf, ha, Deferred.ofValue, invoke, hc]
theorem rn_makeFunc {fn : Fn} {xs ys : Array Operand} {vs us : Array Value} (hx : xs.map ρ = vs) (hy : ys.map ρ = us) : (execOp ρ ⟨d, .makeFunc fn xs ys, t, p, af, g⟩).run P W = .ok (.value (.func fn vs us)) W := by
  simp [execOp, Instr.makeFunc, hx, hy]
end
theorem cv8_32 (c : UInt8) : IntKind.u32.wrap ((c.toNat : Nat) : Int) = ((c.toUInt32.toNat : Nat) : Int) := by
  rw [wrap32m, UInt8.toNat_toUInt32]; have := c.toNat_lt; omega
theorem cv64_32 (c : UInt64) : IntKind.u32.wrap ((c.toNat : Nat) : Int) = ((c.toUInt32.toNat : Nat) : Int) := by
  rw [wrap32m, UInt64.toNat_toUInt32]; omega
theorem cv32_8 (c : UInt32) : IntKind.u8.wrap ((c.toNat : Nat) : Int) = ((c.toUInt8.toNat : Nat) : Int) := by
  rw [wrap8m, UInt32.toNat_toUInt8]; omega
theorem cvi_64 (n : Nat) (h : n < 18446744073709551616) : IntKind.u64.wrap (n : Int) = (((UInt64.ofNat n).toNat : Nat) : Int) := by
  rw [wrap64 n h, UInt64.toNat_ofNat_of_lt' h]

theorem ret0 {N : Nat} {m : List (Nat × Value)} {a : Act} {P : Program} {fn : Func} {R : Ending → World → Prop} {w : World} (hF : Sl N m a) (hr : fn.results = #[]) (h : R (.returned (.tuple #[])) w) : bodyPost P fn R .normal a w :=
  ⟨hF.2.1, .tuple #[], by simp [results, hr], h⟩

/-! arrays of words -/
def u32Vals (l : List UInt32) : List Value := l.map fun c => .int .u32 (c.toNat : Nat)
theorem u32Vals_one (l : List UInt32) : ∀ u ∈ u32Vals l, u.oneCell' = true := by
  intro u hu
  simp only [u32Vals, List.mem_map] at hu
  obtain ⟨c, _, rfl⟩ := hu; rfl
theorem u32Vals_len {l : List UInt32} {n : Nat} (h : l.length = n) : (u32Vals l).length = n := by simp [u32Vals, h]
theorem blk_word {W : World} {g : Nat} {t : TypeId} {l : List UInt32} (h : Blk W g t (u32Vals l)) {j i : Nat} (hj : j = i) (hi : i < l.length) : W.cell? ⟨g, j, none⟩ = some (.int .u32 ((l.getD i 0).toNat : Nat)) := by
  subst hj
  rw [h.rule.1]
  simp [u32Vals, List.getD_eq_getElem?_getD, List.getElem?_eq_getElem hi]
theorem u32Vals_set {l : List UInt32} {j i : Nat} {x : UInt32} (hj : j = i) : (u32Vals l).set j (.int .u32 (x.toNat : Nat)) = u32Vals (l.set i x) := by
  subst hj; simp [u32Vals, List.map_set]

end Go.Proofs.Ytjmdodgmoehfkaa
