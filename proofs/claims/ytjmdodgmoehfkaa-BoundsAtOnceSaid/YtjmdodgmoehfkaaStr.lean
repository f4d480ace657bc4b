/- Slices of bytes as strings; footprints that are clipped. -/
import Derived.Test.YtjmdodgmoehfkaaProg
import Derived.Test.YtjmdodgmoehfkaaWk2
import Derived.KernelRfl
namespace Go.Proofs.Ytjmdodgmoehfkaa
open Go.RowKit

variable {S S' : Nat → Prop}

theorem foldl_push (l : List UInt8) : ∀ s : ByteArray, (l.map fun c => (c.toNat : Int)).foldl (fun r n => r.push (UInt8.ofNat n.toNat)) s = ⟨s.data ++ l.toArray⟩ := by
  induction l with
  | nil => intro s; simp
  | cons c l ih =>
    intro s
    simp only [List.map_cons, List.foldl_cons]
    rw [ih]
    simp [ByteArray.push]

/-- The string of some bytes. -/
abbrev strOf (l : List UInt8) : Value := .string ⟨l.toArray⟩

theorem conv_str {P : Program} {w : World} {src dst e : TypeId} {A : Option Addr} {n c : Nat} {l : List UInt8} (h : RBs S w (.slice A n c) l)
    (hs : P.underlying src = some (.slice e)) (he : P.underlying e = some (.int .u8)) (hd : P.underlying dst = some .string) :
    (convert src dst (.slice A n c)).run P w = .ok (strOf l) w := by
  rw [run_convert_bytes_string w src dst e A n c hs he hd]
  obtain ⟨hn, _, h1, h2, h3⟩ := h.vals
  rcases A with _ | ad
  · have h0 : n = 0 := by
      rcases Nat.eq_zero_or_pos n with h | h
      · exact h
      · obtain ⟨b, off, h, _⟩ := h3 h; cases h
    have hl : l = [] := List.eq_nil_of_length_eq_zero (by omega)
    subst hl
    simp [Conv.bytesToString, strOf]
    rfl
  · have hc : (loadCells ad n).run P w = .ok ((l.map fun c => (c.toNat : Int)).map (Value.int .u8)).toArray w := by
      have hbl : (byteVals l).length = n := by rw [h1]; omega
      have := run_loadCells_list (P := P) w ad (byteVals l) (fun j v hv => by
        rcases Nat.eq_zero_or_pos n with h0 | h0
        · rw [List.getElem?_eq_none (by omega)] at hv; cases hv
        · obtain ⟨b, off, ha, _, hx⟩ := h3 h0
          injection ha with ha
          subst ha
          rw [addr_add]
          exact hx j v hv)
      rw [hbl] at this
      rw [this]
      simp [byteVals]
    rw [run_bytesToString w ad n c _ hc, foldl_push]
    simp [strOf]

theorem neq_str (w : World) (a b : List UInt8) : (binOp .neq 9 (strOf a) (strOf b)).run Try.prog w = .ok (.bool (!decide (a = b))) w := by
  have h : (binOp .neq 9 (.string ⟨a.toArray⟩) (.string ⟨b.toArray⟩)).run Try.prog w = .ok (.bool (!(a == b))) w := by simp [go_sem]
  unfold strOf
  rw [h]
  congr 2
  rw [Bool.eq_iff_iff]
  simp
theorem eql_str (w : World) (a b : List UInt8) : (binOp .eql 9 (strOf a) (strOf b)).run Try.prog w = .ok (.bool (decide (a = b))) w := by
  have h : (binOp .eql 9 (.string ⟨a.toArray⟩) (.string ⟨b.toArray⟩)).run Try.prog w = .ok (.bool (a == b)) w := by simp [go_sem]
  unfold strOf
  rw [h]
  congr 2
  rw [Bool.eq_iff_iff]
  simp

/-- A footprint, of the blocks that are there. -/
def Clip (S : Nat → Prop) (w : World) (b : Nat) : Prop := S b ∧ b < w.heap.size
theorem RBs.clip {w : World} {v : Value} {l : List UInt8} (h : RBs S w v l) : RBs (Clip S w) w v l := h.subB fun _ hb hs => ⟨hs, hb⟩
theorem RBs.all {w : World} {v : Value} {l : List UInt8} (h : RBs S w v l) : RBs (fun _ => True) w v l := h.sub fun _ _ => trivial

theorem rbs_blk {w : World} {g n : Nat} {t : TypeId} {cs : List Value} {l : List UInt8} (h : Blk w g t cs) (hl : cs = byteVals l) (hn : n = l.length) (hS : S g) (hm : n ≤ 9223372036854775807) : RBs S w (.slice (some ⟨g, 0, none⟩) n n) l := by
  subst hl
  subst hn
  refine ⟨some ⟨g, 0, none⟩, l.length, byteVals l, rfl, ⟨Nat.le_refl _, hm⟩, h.cel (by simp [byteVals]) (byteVals_one l), fun i hi => ?_, fun _ => ⟨g, 0, rfl, hS⟩⟩
  unfold RByte
  rw [chunk_one (by simpa [byteVals] using hi)]
  simp [byteVals]

section
variable {ρ : Operand → Value} {W : World} {d : Option Tmp} {t : TypeId} {p : String} {af : Array Edge} {g : Option (Nat × Bool)}
theorem rn_str {P : Program} {x : Operand} {s u e : TypeId} {A : Option Addr} {n c : Nat} {l : List UInt8} (hx : ρ x = .slice A n c) (h : RBs S W (.slice A n c) l) (hs : P.underlying s = some (.slice e)) (he : P.underlying e = some (.int .u8)) (hu : P.underlying u = some .string) :
    (execOp ρ ⟨d, .convert s u x, t, p, af, g⟩).run P W = .ok (.value (strOf l)) W := by
  simp [execOp, hx, conv_str h hs he hu]
theorem rn_eqs {x y : Operand} {xt yt : TypeId} {l m : List UInt8} (hx : ρ x = strOf l) (hy : ρ y = strOf m) (hu : xt = 9) : (execOp ρ ⟨d, .binOp .eql xt x y yt, t, p, af, g⟩).run Try.prog W = .ok (.value (.bool (decide (l = m)))) W := by
  subst hu; exact rn_bin hx hy guard_str (eql_str W l m)
theorem rn_nes {x y : Operand} {xt yt : TypeId} {l m : List UInt8} (hx : ρ x = strOf l) (hy : ρ y = strOf m) (hu : xt = 9) : (execOp ρ ⟨d, .binOp .neq xt x y yt, t, p, af, g⟩).run Try.prog W = .ok (.value (.bool (!decide (l = m)))) W := by
  subst hu; exact rn_bin hx hy guard_str (neq_str W l m)
end
/-- The bytes of a slice that is not empty. -/
theorem RBs.nth {w : World} {v : Value} {l : List UInt8} (h : RBs S w v l) (h0 : 0 < l.length) : ∃ b off cap, v = .slice (some ⟨b, off, none⟩) l.length cap ∧ b < w.heap.size ∧ ∀ i, i < l.length → w.cell? ⟨b, off + i, none⟩ = some (.int .u8 (l.getD i 0).toNat) := by
  obtain ⟨A, cap, rfl, _, _⟩ := h.form
  obtain ⟨_, _, hx⟩ := h.at
  obtain ⟨b, off, rfl, hb, hc⟩ := hx h0
  refine ⟨b, off, cap, rfl, hb, fun i hi => ?_⟩
  rw [hc i hi, List.getD_eq_getElem?_getD, List.getElem?_eq_getElem hi, Option.getD_some]

end Go.Proofs.Ytjmdodgmoehfkaa
