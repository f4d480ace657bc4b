/- Laws of the operations on numbers of 32 bits. No program in sight. -/
import Derived.Test.YtjmdodgmoehfkaaWk2
namespace Go.Proofs.Ytjmdodgmoehfkaa
open Go.RowKit

theorem ofInt32 (a : UInt32) : BitVec.ofInt IntKind.u32.bits ((a.toNat : Nat) : Int) = a.toBitVec := by
  show BitVec.ofInt 32 ((a.toNat : Nat) : Int) = a.toBitVec
  rw [BitVec.ofInt_natCast]
  exact (BitVec.ofNat_toNat 32 a.toBitVec).trans (by simp)
theorem wrap32 (n : Nat) (h : n < 4294967296) : IntKind.u32.wrap (n : Int) = n := by
  show (let m := (n : Int) % (2 ^ 32 : Int); if false && m ≥ (2 ^ 31 : Int) then m - (2 ^ 32 : Int) else m) = n
  simp
  omega
theorem wrap32m (n : Int) : IntKind.u32.wrap n = n % 4294967296 := by
  show (let m := (n : Int) % (2 ^ 32 : Int); if false && m ≥ (2 ^ 31 : Int) then m - (2 ^ 32 : Int) else m) = _
  simp

section
variable {P : Program} {W : World} {t : TypeId}
theorem b_add32 (a b : UInt32) : (binOp .add t (.int .u32 (a.toNat : Nat)) (.int .u32 (b.toNat : Nat))).run P W = .ok (.int .u32 ((a + b).toNat : Nat)) W := by
  simp only [binOp, Op.intArith, ne_eq, not_true_eq_false, if_false, Sem.run_pure]
  rw [wrap32m, UInt32.toNat_add]
  rfl
theorem b_xor32 (a b : UInt32) : (binOp .xor t (.int .u32 (a.toNat : Nat)) (.int .u32 (b.toNat : Nat))).run P W = .ok (.int .u32 ((a ^^^ b).toNat : Nat)) W := by
  simp only [binOp, Op.intBits, ne_eq, not_true_eq_false, if_false, Sem.run_pure, ofInt32]
  congr 2
  exact wrap32 _ (a ^^^ b).toNat_lt
theorem b_or32 (a b : UInt32) : (binOp .or t (.int .u32 (a.toNat : Nat)) (.int .u32 (b.toNat : Nat))).run P W = .ok (.int .u32 ((a ||| b).toNat : Nat)) W := by
  simp only [binOp, Op.intBits, ne_eq, not_true_eq_false, if_false, Sem.run_pure, ofInt32]
  congr 2
  exact wrap32 _ (a ||| b).toNat_lt
theorem b_and32 (a b : UInt32) : (binOp .and t (.int .u32 (a.toNat : Nat)) (.int .u32 (b.toNat : Nat))).run P W = .ok (.int .u32 ((a &&& b).toNat : Nat)) W := by
  simp only [binOp, Op.intBits, ne_eq, not_true_eq_false, if_false, Sem.run_pure, ofInt32]
  congr 2
  exact wrap32 _ (a &&& b).toNat_lt
theorem b_not32 (a : UInt32) : (Op.unary .xor (.int .u32 (a.toNat : Nat))).run P W = .ok (.int .u32 ((~~~ a).toNat : Nat)) W := by
  have h : BitVec.ofInt IntKind.u32.bits (if IntKind.u32.signed = true then (-1 : Int) else IntKind.u32.max) = (0xffffffff : UInt32).toBitVec := rfl
  show Sem.run P (pure (Value.int .u32 (IntKind.u32.wrap ((BitVec.ofInt IntKind.u32.bits (if IntKind.u32.signed = true then (-1 : Int) else IntKind.u32.max) ^^^ BitVec.ofInt IntKind.u32.bits ((a.toNat : Nat) : Int)).toNat : Nat)))) W = _
  rw [h, ofInt32, Sem.run_pure]
  congr 2
  rw [show (~~~ a) = (0xffffffff : UInt32) ^^^ a from UInt32.toBitVec_inj.1 (BitVec.allOnes_xor (x := a.toBitVec)).symm]
  exact wrap32 _ ((0xffffffff : UInt32) ^^^ a).toNat_lt
/-- shift by a number below 32 -/
theorem b_shl32 (a : UInt32) (k : IntKind) (n : Nat) (h : n < 32) : (binOp .shl t (.int .u32 (a.toNat : Nat)) (.int k (n : Nat))).run P W = .ok (.int .u32 ((a <<< UInt32.ofNat n).toNat : Nat)) W := by
  have hn : min n IntKind.u32.bits = n := Nat.min_eq_left (by show n ≤ 32; omega)
  have h0 : ¬ ((n : Int) < 0) := by omega
  show Sem.run P (Op.shift .shl .u32 ((a.toNat : Nat) : Int) k (n : Nat)) W = _
  unfold Op.shift
  rw [if_neg h0]
  show Sem.run P (pure (Value.int .u32 (IntKind.u32.wrap (((a.toNat : Nat) : Int) * 2 ^ (min ((n : Int)).toNat IntKind.u32.bits))))) W = _
  rw [Int.toNat_natCast, hn, Sem.run_pure]
  congr 2
  rw [wrap32m, UInt32.toNat_shiftLeft, UInt32.toNat_ofNat_of_lt' (by show n < 4294967296; omega), Nat.mod_eq_of_lt h, Nat.shiftLeft_eq]
  rw [Int.natCast_emod, Int.natCast_mul, Int.natCast_pow]
  rfl
theorem b_shr32 (a : UInt32) (k : IntKind) (n : Nat) (h : n < 32) : (binOp .shr t (.int .u32 (a.toNat : Nat)) (.int k (n : Nat))).run P W = .ok (.int .u32 ((a >>> UInt32.ofNat n).toNat : Nat)) W := by
  have hn : min n IntKind.u32.bits = n := Nat.min_eq_left (by show n ≤ 32; omega)
  have h0 : ¬ ((n : Int) < 0) := by omega
  show Sem.run P (Op.shift .shr .u32 ((a.toNat : Nat) : Int) k (n : Nat)) W = _
  unfold Op.shift
  rw [if_neg h0]
  show Sem.run P (pure (Value.int .u32 (Int.fdiv ((a.toNat : Nat) : Int) (2 ^ (min ((n : Int)).toNat IntKind.u32.bits))))) W = _
  rw [Int.toNat_natCast, hn, Sem.run_pure]
  congr 2
  rw [UInt32.toNat_shiftRight, UInt32.toNat_ofNat_of_lt' (by show n < 4294967296; omega), Nat.mod_eq_of_lt h, Nat.shiftRight_eq_div_pow, Int.fdiv_eq_ediv_of_nonneg _ (by exact Int.pow_nonneg (by omega))]
  rw [Int.natCast_ediv, Int.natCast_pow]
  rfl
end

section
variable {P : Program} {ρ : Operand → Value} {W : World} {d : Option Tmp} {t xt yt : TypeId} {p : String} {af : Array Edge} {g : Option (Nat × Bool)} {x y : Operand}
theorem rn_add32 {a b : UInt32} (hx : ρ x = .int .u32 (a.toNat : Nat)) (hy : ρ y = .int .u32 (b.toNat : Nat)) : (execOp ρ ⟨d, .binOp .add xt x y yt, t, p, af, g⟩).run P W = .ok (.value (.int .u32 ((a + b).toNat : Nat))) W := rn_bin hx hy guard_int (b_add32 a b)
theorem rn_xor32 {a b : UInt32} (hx : ρ x = .int .u32 (a.toNat : Nat)) (hy : ρ y = .int .u32 (b.toNat : Nat)) : (execOp ρ ⟨d, .binOp .xor xt x y yt, t, p, af, g⟩).run P W = .ok (.value (.int .u32 ((a ^^^ b).toNat : Nat))) W := rn_bin hx hy guard_int (b_xor32 a b)
theorem rn_or32 {a b : UInt32} (hx : ρ x = .int .u32 (a.toNat : Nat)) (hy : ρ y = .int .u32 (b.toNat : Nat)) : (execOp ρ ⟨d, .binOp .or xt x y yt, t, p, af, g⟩).run P W = .ok (.value (.int .u32 ((a ||| b).toNat : Nat))) W := rn_bin hx hy guard_int (b_or32 a b)
theorem rn_and32 {a b : UInt32} (hx : ρ x = .int .u32 (a.toNat : Nat)) (hy : ρ y = .int .u32 (b.toNat : Nat)) : (execOp ρ ⟨d, .binOp .and xt x y yt, t, p, af, g⟩).run P W = .ok (.value (.int .u32 ((a &&& b).toNat : Nat))) W := rn_bin hx hy guard_int (b_and32 a b)
theorem rn_shl32 {a : UInt32} {k : IntKind} {n : Nat} (hx : ρ x = .int .u32 (a.toNat : Nat)) (hy : ρ y = .int k (n : Nat)) (h : n < 32) : (execOp ρ ⟨d, .binOp .shl xt x y yt, t, p, af, g⟩).run P W = .ok (.value (.int .u32 ((a <<< UInt32.ofNat n).toNat : Nat))) W := rn_bin hx hy guard_int (b_shl32 a k n h)
theorem rn_shr32 {a : UInt32} {k : IntKind} {n : Nat} (hx : ρ x = .int .u32 (a.toNat : Nat)) (hy : ρ y = .int k (n : Nat)) (h : n < 32) : (execOp ρ ⟨d, .binOp .shr xt x y yt, t, p, af, g⟩).run P W = .ok (.value (.int .u32 ((a >>> UInt32.ofNat n).toNat : Nat))) W := rn_bin hx hy guard_int (b_shr32 a k n h)
theorem rn_not32 {a : UInt32} (hx : ρ x = .int .u32 (a.toNat : Nat)) : (execOp ρ ⟨d, .unOp .xor xt x, t, p, af, g⟩).run P W = .ok (.value (.int .u32 ((~~~ a).toNat : Nat))) W := by
  simp [execOp, hx, b_not32 a]
end

end Go.Proofs.Ytjmdodgmoehfkaa
