/- Small words for the laws of chapter 38. -/
import Derived.Test.YtklhgghlkidfjaaRefA
import Derived.Test.YtklhgghlkidfjaaRefB
import Derived.Test.YtklhgghlkidfjaaWk2
import Derived.Test.YtklhgghlkidfjaaFrame
import Derived.KernelRfl
namespace Go.Proofs.Ytklhgghlkidfjaa
open Go.RowKit

variable {S S' : Nat → Prop}

/-- A footprint, of the blocks that are there. -/
def Clip (S : Nat → Prop) (w : World) (b : Nat) : Prop := S b ∧ b < w.heap.size
theorem RDk.clip {w : World} {v : Value} {d : Dk} (h : RDk S w v d) : RDk (Clip S w) w v d := h.subB fun _ hb hs => ⟨hs, hb⟩
theorem RBs.clip {w : World} {v : Value} {l : List UInt8} (h : RBs S w v l) : RBs (Clip S w) w v l := h.subB fun _ hb hs => ⟨hs, hb⟩
theorem RDk.all {w : World} {v : Value} {d : Dk} (h : RDk S w v d) : RDk (fun _ => True) w v d := h.sub fun _ _ => trivial
theorem RBs.all {w : World} {v : Value} {l : List UInt8} (h : RBs S w v l) : RBs (fun _ => True) w v l := h.sub fun _ _ => trivial

theorem rbs_blk {w : World} {g n : Nat} {t : TypeId} {cs : List Value} {l : List UInt8} (h : Blk w g t cs) (hl : cs = byteVals l) (hn : n = l.length) (hS : S g) (hm : n ≤ 9223372036854775807) : RBs S w (.slice (some ⟨g, 0, none⟩) n n) l := by
  subst hl
  subst hn
  refine ⟨some ⟨g, 0, none⟩, l.length, byteVals l, rfl, ⟨Nat.le_refl _, hm⟩, h.cel (by simp [byteVals]) (byteVals_one l), fun i hi => ?_, fun _ => ⟨g, 0, rfl, hS⟩⟩
  unfold RByte
  rw [chunk_one (by simpa [byteVals] using hi)]
  simp [byteVals]

section
variable {ρ : Operand → Value} {W : World} {d : Option Tmp} {t : TypeId} {p : String} {af : Array Edge} {g : Option (Nat × Bool)}
theorem rn_str {P : Program} {x : Operand} {s u e : TypeId} {A : Option Addr} {n c : Nat} {l : List UInt8} (hx : ρ x = .slice A n c) (h : RBs S W (.slice A n c) l) (hs : P.underlying s = some (.slice e)) (he : P.underlying e = some (.int .u8)) (hu : P.underlying u = some .string) :
    (execOp ρ ⟨d, .convert s u x, t, p, af, g⟩).run P W = .ok (.value (strOf l)) W := by
  simp [execOp, hx, conv_str h hs he hu]
theorem rn_eqs {x y : Operand} {xt yt : TypeId} {l m : List UInt8} (hx : ρ x = strOf l) (hy : ρ y = strOf m) (hu : xt = 9) : (execOp ρ ⟨d, .binOp .eql xt x y yt, t, p, af, g⟩).run Try.prog W = .ok (.value (.bool (decide (l = m)))) W := by
  subst hu; exact rn_bin hx hy guard_str (eql_str W l m)
theorem rn_nes {x y : Operand} {xt yt : TypeId} {l m : List UInt8} (hx : ρ x = strOf l) (hy : ρ y = strOf m) (hu : xt = 9) : (execOp ρ ⟨d, .binOp .neq xt x y yt, t, p, af, g⟩).run Try.prog W = .ok (.value (.bool (!decide (l = m)))) W := by
  subst hu; exact rn_bin hx hy guard_str (neq_str W l m)
end
theorem same_self (d : Dk) : d.same d = true := by simp [Dk.same]
theorem same_of {a b : Dk} (h : a = b) : a.same b = true := by subst h; exact same_self a

/-- The bytes of a slice that is not empty. -/
theorem RBs.nth {w : World} {v : Value} {l : List UInt8} (h : RBs S w v l) (h0 : 0 < l.length) : ∃ b off cap, v = .slice (some ⟨b, off, none⟩) l.length cap ∧ b < w.heap.size ∧ ∀ i, i < l.length → w.cell? ⟨b, off + i, none⟩ = some (.int .u8 (l.getD i 0).toNat) := by
  obtain ⟨A, cap, rfl, _, _⟩ := h.form
  obtain ⟨_, _, hx⟩ := h.at
  obtain ⟨b, off, rfl, hb, hc⟩ := hx h0
  refine ⟨b, off, cap, rfl, hb, fun i hi => ?_⟩
  rw [hc i hi, List.getD_eq_getElem?_getD, List.getElem?_eq_getElem hi, Option.getD_some]

end Go.Proofs.Ytklhgghlkidfjaa
