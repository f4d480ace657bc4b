/- How the arguments of chapter 03's laws open. -/
import Derived.Test.YtgodliookpgliaaDoorFrame
import Derived.Test.YtgodliookpgliaaDoorLaidA
import Derived.Test.YtgodliookpgliaaDoorWk10
import Derived.Test.YtgodliookpgliaaDoorProg
import Derived.KernelRfl
import Derived.ChangeMaps5
namespace Go.Proofs.YtgodliookpgliaaDoor
open Go.RowKit Go.ChangeShapes Go.WideShapes Go.ChangeAt Go.Deep Go.ChangeMaps

section
variable {H : Type} {enc : TypeId × Value → H} {W : World}
theorem open_barg {b0 : Nat} {v : Value} {dd : DataW H} {p : List MemPlace} (hv : Value.okWide Tryd.prog W .any b0 22 v) (h : DataW.Trod enc Tryd.prog W 0 (fun _ => true) true 22 v dd p) (hr : Reach Tryd.prog 22 dd) :
    ∃ C f l, v = .slice C l.length f ∧ Fl (Old W) W 1 (.slice C l.length f) l.length (byteVals l) ∧ l.length ≤ 140737488355328 := by
  obtain ⟨C, n, c, rfl⟩ := okWide_slice Tryd.underlying22 hv
  obtain ⟨fuel, hf⟩ := h
  obtain ⟨v, l, hv, h1, h2, h3⟩ := open_bytes Tryd.underlying22 Tryd.underlying5 (by kernel_rfl) (by kernel_rfl) hf hr
  simp [Value.cells] at hv
  subst hv
  obtain ⟨A, cap, hf, _, _⟩ := h1.form
  rw [hf] at h1
  exact ⟨A, cap, l, hf, h1.fl, by omega⟩
theorem open_sarg {b0 : Nat} {v : Value} {dd : DataW H} {p : List MemPlace} (hv : Value.okWide Tryd.prog W .any b0 9 v) (h : DataW.Trod enc Tryd.prog W 0 (fun _ => true) true 9 v dd p) :
    ∃ l : List UInt8, v = strOf l ∧ l.length ≤ 9223372036854775807 := by
  obtain ⟨s, rfl, _, _, hs⟩ := open_string Tryd.underlying9 hv h
  refine ⟨s.data.toList, by simp [strOf], ?_⟩
  rw [Array.length_toList]
  unfold maxLen at hs
  exact hs
theorem agg_of_cells {v : Value} {cs : List Value} (h : v.cells.toList = cs) (hl : cs.length ≠ 1) : v = .agg cs.toArray := by
  subst h
  cases v <;> simp_all [Value.cells]
theorem trod_bytes {P : Program} {t e : TypeId} {n fuel : Nat} {cs : List Value} {x : DataW H × List MemPlace} {base : Nat} {spare : Nat → Bool} {held : Bool} (ht : P.underlying t = some (.array n e)) (he : P.underlying e = some (.int .u8)) (hc1 : P.cellsOf e = 1) (hct : P.cellsOf t = n)
    (h : DataW.trod enc P W base spare held fuel t cs = some x) : ∃ l : List UInt8, l.length = n ∧ cs = byteVals l := by
  obtain ⟨xs, m, _, hx, hlen, hn, hel⟩ := DataW.trod_array ht h
  rw [hct] at hlen
  have key : ∀ i (h1 : i < cs.length), ∃ c : UInt8, cs[i] = .int .u8 (c.toNat : Nat) := by
    intro i h1
    have h3 := hel i (by omega)
    rw [hc1, Nat.mul_one, List.drop_eq_getElem_cons h1, List.take_succ_cons, List.take_zero, List.getElem?_eq_getElem (by omega)] at h3
    obtain ⟨z, e1, _, hw⟩ := DataW.trod_int he h3
    injection e1 with e1
    have hb : 0 ≤ z ∧ z ≤ 255 := by simpa [Lit.wf, IntKind.min, IntKind.max, IntKind.signed, IntKind.bits] using hw
    refine ⟨UInt8.ofNat z.toNat, ?_⟩
    have : (UInt8.ofNat z.toNat).toNat = z.toNat := by rw [UInt8.toNat_ofNat']; omega
    rw [e1, this, Int.toNat_of_nonneg hb.1]
  clear hel hx h
  revert n
  induction cs with
  | nil => intro n _ _ hlen _; exact ⟨[], by simpa using hlen, rfl⟩
  | cons c cs ih =>
    intro n ht hct hlen hn
    obtain ⟨b, hb⟩ := key 0 (by simp)
    have : ∃ l : List UInt8, l.length = cs.length ∧ cs = byteVals l := by
      have h2 : ∀ (l : List Value), (∀ i (h1 : i < l.length), ∃ c : UInt8, l[i] = .int .u8 (c.toNat : Nat)) → ∃ m : List UInt8, m.length = l.length ∧ l = byteVals m := by
        intro l
        induction l with
        | nil => intro _; exact ⟨[], rfl, rfl⟩
        | cons a l ih2 =>
          intro hk
          obtain ⟨a', ha⟩ := hk 0 (by simp)
          obtain ⟨m', h1, h2⟩ := ih2 (fun i hi => by have := hk (i + 1) (by simpa using hi); rwa [List.getElem_cons_succ] at this)
          exact ⟨a' :: m', by simp [h1], by rw [h2] ; simp only [List.getElem_cons_zero] at ha; rw [ha]; rfl⟩
      exact h2 cs (fun i hi => by have := key (i + 1) (by simpa using hi); rwa [List.getElem_cons_succ] at this)
    obtain ⟨l, h1, h2⟩ := this
    exact ⟨b :: l, by simp [h1] ; simpa using hlen, by simp only [List.getElem_cons_zero] at hb; rw [hb, h2]; rfl⟩
theorem open_dig {v : Value} {dd : DataW H} {p : List MemPlace} (h : DataW.Trod enc Tryd.prog W 0 (fun _ => true) true 26 v dd p) : ∃ d : List UInt8, v = .agg (byteVals d).toArray ∧ d.length = 32 := by
  obtain ⟨fuel, hf⟩ := h
  obtain ⟨l, hl, hc⟩ := trod_bytes Tryd.underlying26 Tryd.underlying5 (by kernel_rfl) (by kernel_rfl) hf
  exact ⟨l, agg_of_cells hc (by rw [byteVals_len hl]; decide), hl⟩
theorem open_byteArg {b0 : Nat} {v : Value} {dd : DataW H} {p : List MemPlace} (hv : Value.okWide Tryd.prog W .any b0 5 v) (h : DataW.Trod enc Tryd.prog W 0 (fun _ => true) true 5 v dd p) : ∃ c : UInt8, v = .int .u8 (c.toNat : Nat) := by
  obtain ⟨n, rfl, _, _, hw⟩ := open_int Tryd.underlying5 hv h
  have hb : 0 ≤ n ∧ n ≤ 255 := by simpa [Lit.wf, IntKind.min, IntKind.max, IntKind.signed, IntKind.bits] using hw
  refine ⟨UInt8.ofNat n.toNat, ?_⟩
  have : (UInt8.ofNat n.toNat).toNat = n.toNat := by rw [UInt8.toNat_ofNat']; omega
  rw [this, Int.toNat_of_nonneg hb.1]
end
end Go.Proofs.YtgodliookpgliaaDoor
