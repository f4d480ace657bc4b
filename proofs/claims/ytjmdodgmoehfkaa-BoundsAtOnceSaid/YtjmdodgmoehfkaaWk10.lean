/- A slice of bytes that is marked as a string's; remainders of bytes; numbers as bytes; slices made of a number that is no constant. No program in sight. -/
import Derived.Test.YtjmdodgmoehfkaaWk9
import Derived.Laws.MakeOwn
namespace Go.Proofs.Ytjmdodgmoehfkaa
open Go.RowKit

variable {S S' : Nat → Prop}
theorem freeze_at_old (w : World) (g n j : Nat) (hj : j ≠ g) : (w.freeze ⟨g, n, none⟩ 1).heap[j]? = w.heap[j]? := by
  simp [World.freeze, Array.getElem?_modify, Ne.symm hj]
theorem freeze_at {w : World} {g n : Nat} {cs : Array Value} {t : TypeId} (h : w.heap[g]? = some (.cells cs t (0, 0))) : ∃ z, (w.freeze ⟨g, n, none⟩ 1).heap[g]? = some (.cells cs t z) := by
  refine ⟨(cs.size, cs.size + 1) |> fun _ => (n, n + 1), ?_⟩
  simp [World.freeze, Array.getElem?_modify, h]
section
variable {N : Nat} {m : List (Nat × Value)} {a : Act} {P : Program} {ops : Array Oper} {Q : Exit → Act → World → Prop} {i : Nat} {w : World} {o : Oper} {K : Act → World → Prop} {d : Nat}
/-- a conversion of bytes to bytes: the block is marked, what it holds stays -/
theorem o_mark {src e : TypeId} {x : Operand} {l : List UInt8} {g n c : Nat} {t : TypeId} (hF : Sl N m a) (ho : ops[i]? = some o) (hw : Region.wanted o (yielded ops a.tmps) = true) (hd : o.dst = some d) (hN : Nat.blt d N = true) (hop : o.op = .convert src src x) (hx : a.eval x = .slice (some ⟨g, 0, none⟩) n c)
    (hs : P.underlying src = some (.slice e)) (he : P.underlying e = some (.int .u8)) (hg : Blk w g t (byteVals l)) (hl : l.length = n) (hc : n ≤ c) (hm : c ≤ 9223372036854775807)
    (h : ∀ w' a', Sl N ((d, .slice (some ⟨g, 0, none⟩) n c) :: m) a' → Fl (fun b => b = g) w' 1 (.slice (some ⟨g, 0, none⟩) n c) n (byteVals l) → w.grownBy w' (some g) → K a' w') : wpOp P ops Q i K a w := by
  have hsh : w.shape? g = some (t, (byteVals l).toArray.size) := by unfold World.shape?; rw [show w.heap[g]? = _ from hg]
  have hrun : (convert src src (.slice (some ⟨g, 0, none⟩) n c)).run P w = .ok (.slice (some ⟨g, 0, none⟩) n c) (w.freeze ⟨g, (byteVals l).toArray.size, none⟩ 1) := by
    simp [convert, run_underlying hs, run_underlying he, markStringish, hsh, Result.andThen]
  obtain ⟨z, hz⟩ := freeze_at (n := (byteVals l).toArray.size) hg
  refine op_run ho hw (v := .slice (some ⟨g, 0, none⟩) n c) (w' := w.freeze ⟨g, (byteVals l).toArray.size, none⟩ 1) ?_ (h _ _ (by rw [hd]; exact hF.put hN) ?_ ⟨rfl, rfl, rfl, by simp [World.freeze], fun j _ hj => freeze_at_old w g _ j (fun e => hj (by rw [e]))⟩)
  · unfold execOp
    simp only [hop, hx, Sem.run_bind, hrun, Result.andThen_ok, Sem.run_pure]
  · refine ⟨_, _, rfl, ⟨hc, hm⟩, ⟨by rw [byteVals_len hl]; omega, byteVals_one _, fun _ => ⟨g, 0, rfl, by simp [World.freeze]; exact hg.lt, fun j u hu => ?_⟩⟩, fun _ => ⟨g, 0, rfl, rfl⟩⟩
    rw [Nat.zero_add]
    simp only [World.cell?, hz]
    simpa using hu
end
section
variable {P : Program} {ρ : Operand → Value} {W : World} {d : Option Tmp} {t xt yt : TypeId} {p : String} {af : Array Edge} {g : Option (Nat × Bool)} {x y : Operand}
theorem rn_rem8 {a b : UInt8} (hx : ρ x = .int .u8 (a.toNat : Nat)) (hy : ρ y = .int .u8 (b.toNat : Nat)) (h : 0 < b.toNat) : (execOp ρ ⟨d, .binOp .rem xt x y yt, t, p, af, g⟩).run P W = .ok (.value (.int .u8 ((a % b).toNat : Nat))) W := by
  rw [rn_rem hx hy (by omega) (by omega), UInt8.toNat_mod, Int.natCast_emod]
theorem rn_add8 {a b : UInt8} (hx : ρ x = .int .u8 (a.toNat : Nat)) (hy : ρ y = .int .u8 (b.toNat : Nat)) : (execOp ρ ⟨d, .binOp .add xt x y yt, t, p, af, g⟩).run P W = .ok (.value (.int .u8 ((a + b).toNat : Nat))) W :=
  rn_bin hx hy guard_int (by
    simp only [binOp, Op.intArith, ne_eq, not_true_eq_false, if_false, Sem.run_pure]
    rw [wrap8m, UInt8.toNat_add]
    rfl)
end
theorem cvi_8 (n : Nat) : IntKind.u8.wrap (n : Int) = (((UInt8.ofNat n).toNat : Nat) : Int) := by
  rw [wrap8m, UInt8.toNat_ofNat']; omega
theorem cv8_64 (c : UInt8) : IntKind.i64.wrap ((c.toNat : Nat) : Int) = ((c.toNat : Nat) : Int) := by
  have := c.toNat_lt
  exact i64_nat _ (by omega)
theorem made_one (z : Value) (n : Nat) : madeCells #[z] (n * 1) = (List.replicate n z).toArray := by
  rw [Nat.mul_one]
  apply Array.ext
  · simp [madeCells]
  · intro i h1 h2
    simp [madeCells, Nat.mod_one]
/-- make of a number of elements of one cell -/
theorem rn_makeN {P : Program} {ρ : Operand → Value} {W : World} {d : Option Tmp} {t : TypeId} {p : String} {af : Array Edge} {g : Option (Nat × Bool)} {s e : TypeId} {z : Value} {bytes : Nat} (E : El P s e z 1 bytes) (hz : z.cells = #[z]) {x y : Operand} {kx ky : IntKind} {n : Nat} {cs : List Value} (hx : ρ x = .int kx n) (hy : ρ y = .int ky n) (h : n * bytes ≤ 140737488355328) (h2 : n ≤ 9223372036854775807) (hc : List.replicate n z = cs) :
    (execOp ρ ⟨d, .makeSlice s x y, t, p, af, g⟩).run P W = .ok (.value (.slice (some ⟨W.heap.size, 0, none⟩) n n)) (W.alloc (.cells cs.toArray e)) := by
  obtain ⟨ii, hi, hz0, hz1, hz2⟩ := info_parts E.hi
  have hb : (ii.bytes : Int) * (n : Int) ≤ 281474976710656 := by
    rw [← Int.natCast_mul, hz2, Nat.mul_comm]; omega
  have hr := run_make (P := P) W s e ii z E.ht hi hz0 kx ky n n (by omega) (Int.le_refl _) hb (by omega)
  refine rn_make hx hy (hr.trans ?_)
  rw [Int.toNat_natCast, hz1, hz, made_one, hc]

end Go.Proofs.Ytjmdodgmoehfkaa
