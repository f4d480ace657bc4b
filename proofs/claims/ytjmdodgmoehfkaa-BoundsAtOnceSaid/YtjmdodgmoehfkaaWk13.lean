/- Slices with three indices; lists that are filled by copies; rows of any values. No program in sight. -/
import Derived.Test.YtjmdodgmoehfkaaWk12
namespace Go.Proofs.Ytjmdodgmoehfkaa
open Go.RowKit

variable {S S' : Nat → Prop}
section
variable {P : Program} {ρ : Operand → Value} {W : World} {d : Option Tmp} {t : TypeId} {p : String} {af : Array Edge} {g : Option (Nat × Bool)}
theorem rn_slice3 {s e : TypeId} {x y z u : Operand} {b off n c sz l h mx m c' r : Nat} {k k2 k3 : IntKind} (hu : P.underlying s = some (.slice e)) (hi : (P.info? e).map (·.size) = some sz) (hx : ρ x = .slice (some ⟨b, off, none⟩) n c) (hy : ρ y = .int k (l : Int)) (hz : ρ z = .int k2 (h : Int)) (hv : ρ u = .int k3 (mx : Int)) (h1 : l ≤ h) (h2 : h ≤ mx) (h3 : l < mx) (h4 : mx ≤ c) (h5 : h - l = m) (h6 : mx - l = c') (h7 : off + l * sz = r) :
    (execOp ρ ⟨d, .slice s x (some y) (some z) (some u), t, p, af, g⟩).run P W = .ok (.value (.slice (some ⟨b, r, none⟩) m c')) W := by
  subst h5 h6 h7
  have hb : ∀ y c', l ≤ y → (Instr.sliceBound (.int k (l : Int)) y c').run P W = .ok l W := fun y c' hy => by rw [bound_ok (by omega) (by omega)]; simp
  have hb2 : ∀ y c', h ≤ y → (Instr.sliceBound (.int k2 (h : Int)) y c').run P W = .ok h W := fun y c' hy => by rw [bound_ok (by omega) (by omega)]; simp
  have hb3 : ∀ y c', mx ≤ y → (Instr.sliceBound (.int k3 (mx : Int)) y c').run P W = .ok mx W := fun y c' hy => by rw [bound_ok (by omega) (by omega)]; simp
  have hne : ¬ mx = l := by omega
  simp [execOp, Instr.sliceAt, Instr.slice, Instr.sliceBounds, run_underlying hu, hx, hy, hz, hv, hb h _ h1, hb2 mx _ h2, hb3 c _ h4, size_of hi, hne, addr_add]
end
def slLen : Value → Nat
  | .slice _ n _ => n
  | _ => 0
/-- the first k are u -/
def RepI (u : Int) (m k : Nat) (cur : List Int) : Prop := cur.length = m ∧ ∀ i, i < k → cur.getD i 0 = u
theorem RepI.zero (u : Int) (m : Nat) : RepI u m 0 (List.replicate m 0) := ⟨by simp, fun i hi => by omega⟩
theorem RepI.step {u : Int} {m k n : Nat} {cur ys : List Int} (h : RepI u m k cur) (hk : k + n ≤ m) (hl : n ≤ ys.length) (hy : ∀ i, i < n → ys.getD i 0 = u) : RepI u m (k + n) (splice cur k (ys.take n)) := by
  have hn : (ys.take n).length = n := by rw [List.length_take]; omega
  have hk' : (cur.take k).length = k := by rw [List.length_take, h.1]; omega
  refine ⟨by rw [splice_len (by rw [hn, h.1]; exact hk)]; exact h.1, fun i hi => ?_⟩
  unfold splice
  by_cases hc : i < k
  · have := h.2 i hc
    rw [List.getD_eq_getElem?_getD] at this ⊢
    rw [List.getElem?_append_left (by omega), List.getElem?_take, if_pos hc]
    exact this
  · have := hy (i - k) (by omega)
    rw [List.getD_eq_getElem?_getD] at this ⊢
    rw [List.getElem?_append_right (by omega), hk', List.getElem?_append_left (by omega), List.getElem?_take, if_pos (by omega)]
    exact this
theorem RepI.one {u : Int} {m k : Nat} {cur : List Int} (h : RepI u m k cur) (hk : k < m) : RepI u m (k + 1) (cur.set k u) := by
  refine ⟨by rw [List.length_set]; exact h.1, fun i hi => ?_⟩
  by_cases hc : i = k
  · subst hc
    rw [List.getD_eq_getElem?_getD, List.getElem?_set_self (by rw [h.1]; exact hk)]; rfl
  · have := h.2 i (by omega)
    rw [List.getD_eq_getElem?_getD] at this ⊢
    rw [List.getElem?_set_ne (fun e => hc e.symm)]
    exact this
theorem RepI.take {u : Int} {m k n : Nat} {cur : List Int} (h : RepI u m k cur) (hn : n ≤ k) (hk : k ≤ m) : n ≤ ((cur.drop 0).take k).length ∧ ∀ i, i < n → ((cur.drop 0).take k).getD i 0 = u := by
  refine ⟨by rw [List.length_take, List.length_drop, h.1]; omega, fun i hi => ?_⟩
  have := h.2 i (by omega)
  rw [List.getD_eq_getElem?_getD] at this ⊢
  rw [List.getElem?_take, if_pos (by omega), List.getElem?_drop, Nat.zero_add]
  exact this
theorem RepI.all {u : Int} {m : Nat} {cur : List Int} (h : RepI u m m cur) : cur = List.replicate m u := by
  apply List.ext_getElem (by rw [h.1, List.length_replicate])
  intro i h1 h2
  have := h.2 i (by rw [← h.1]; exact h1)
  rw [List.getD_eq_getElem?_getD, List.getElem?_eq_getElem h1, Option.getD_some] at this
  rw [this, List.getElem_replicate]
theorem own_some {w : World} {base : Nat} {e : TypeId} {k n c : Nat} {A : Option Addr} {xs : List Value} (h : w.ownsRow base e k (.slice A n c) n xs) (h0 : 0 < n) : ∃ g, A = some ⟨g, 0, none⟩ ∧ base ≤ g := by
  obtain ⟨g, cap', hv, hb, _⟩ := own_form h h0
  cases hv
  exact ⟨g, rfl, hb⟩
theorem one_slices {l : List Value} (h : ∀ u ∈ l, ∃ A n c, u = .slice A n c) : ∀ u ∈ l, u.oneCell' = true := fun u hu => by
  obtain ⟨A, n, c, rfl⟩ := h u hu; rfl
theorem own_blkN {w : World} {g : Nat} {t : TypeId} {k n : Nat} {cs : List Value} (h : Blk w g t cs) (hl : cs.length = n * k) (hn : n ≤ 9223372036854775807) : w.ownsRow g t k (.slice (some ⟨g, 0, none⟩) n n) n cs :=
  ⟨hl, .inr ⟨g, n, cs.toArray, rfl, Nat.le_refl _, h, Nat.le_refl _, by unfold maxLen; omega, by simp [hl], by simpa using List.take_of_length_le (by omega)⟩⟩
theorem parts5 {ρ : Operand → Value} {x0 x1 x2 x3 x4 : Operand} {v0 v1 v2 v3 v4 : Value} {i0 i1 i2 i3 i4 : Nat} (h0 : ρ x0 = v0) (h1 : ρ x1 = v1) (h2 : ρ x2 = v2) (h3 : ρ x3 = v3) (h4 : ρ x4 = v4) : #[(i0, x0), (i1, x1), (i2, x2), (i3, x3), (i4, x4)].map (fun x => (x.1, ρ x.2)) = #[(i0, v0), (i1, v1), (i2, v2), (i3, v3), (i4, v4)] := by simp [h0, h1, h2, h3, h4]
theorem parts6 {ρ : Operand → Value} {x0 x1 x2 x3 x4 x5 : Operand} {v0 v1 v2 v3 v4 v5 : Value} {i0 i1 i2 i3 i4 i5 : Nat} (h0 : ρ x0 = v0) (h1 : ρ x1 = v1) (h2 : ρ x2 = v2) (h3 : ρ x3 = v3) (h4 : ρ x4 = v4) (h5 : ρ x5 = v5) : #[(i0, x0), (i1, x1), (i2, x2), (i3, x3), (i4, x4), (i5, x5)].map (fun x => (x.1, ρ x.2)) = #[(i0, v0), (i1, v1), (i2, v2), (i3, v3), (i4, v4), (i5, v5)] := by simp [h0, h1, h2, h3, h4, h5]
theorem parts7 {ρ : Operand → Value} {x0 x1 x2 x3 x4 x5 x6 : Operand} {v0 v1 v2 v3 v4 v5 v6 : Value} {i0 i1 i2 i3 i4 i5 i6 : Nat} (h0 : ρ x0 = v0) (h1 : ρ x1 = v1) (h2 : ρ x2 = v2) (h3 : ρ x3 = v3) (h4 : ρ x4 = v4) (h5 : ρ x5 = v5) (h6 : ρ x6 = v6) : #[(i0, x0), (i1, x1), (i2, x2), (i3, x3), (i4, x4), (i5, x5), (i6, x6)].map (fun x => (x.1, ρ x.2)) = #[(i0, v0), (i1, v1), (i2, v2), (i3, v3), (i4, v4), (i5, v5), (i6, v6)] := by simp [h0, h1, h2, h3, h4, h5, h6]
/-! rows of any values -/
abbrev rawVals (l : List Value) : List Value := l
theorem rawVals_app (a b : List Value) : rawVals a ++ rawVals b = rawVals (a ++ b) := rfl

end Go.Proofs.Ytjmdodgmoehfkaa
