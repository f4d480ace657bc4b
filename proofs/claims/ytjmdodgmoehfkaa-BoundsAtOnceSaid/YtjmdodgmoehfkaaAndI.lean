/- The bits of two numbers. -/
import Derived.Test.YtjmdodgmoehfkaaWk11
namespace Go.Proofs.Ytjmdodgmoehfkaa
open Go.RowKit

variable {S S' : Nat → Prop}

/-- the bits that two numbers have both -/
def andI (a b : Int) : Int := IntKind.i64.wrap ((BitVec.ofInt IntKind.i64.bits a &&& BitVec.ofInt IntKind.i64.bits b).toNat : Nat)
theorem rn_andI {P : Program} {ρ : Operand → Value} {W : World} {d : Option Tmp} {t xt yt : TypeId} {p : String} {af : Array Edge} {g : Option (Nat × Bool)} {x y : Operand} {a b : Int} (hx : ρ x = .int .i64 a) (hy : ρ y = .int .i64 b) : (execOp ρ ⟨d, .binOp .and xt x y yt, t, p, af, g⟩).run P W = .ok (.value (.int .i64 (andI a b))) W :=
  rn_bin hx hy guard_int (by simp only [binOp, Op.intBits, ne_eq, not_true_eq_false, if_false, Sem.run_pure]; rfl)
end Go.Proofs.Ytjmdodgmoehfkaa
