/- Systems of differences in memory: the list of edges; what Check and Holds compute; the first element that satisfies something. -/
import Derived.Test.YtjmdodgmoehfkaaProg
import Derived.Test.YtjmdodgmoehfkaaWk12
import Derived.Test.YtjmdodgmoehfkaaP15
import Derived.KernelRfl
namespace Go.Proofs.Ytjmdodgmoehfkaa
open Go.RowKit

variable {S S' : Nat → Prop}
/-- an edge as it is written: From, To, W -/
structure E3 where
  (a b w : Int)
instance : Inhabited E3 := ⟨⟨0, 0, 0⟩⟩
def edCells (x : E3) : List Value := [.int .i64 x.a, .int .i64 x.b, .int .i64 x.w]
theorem edCells_k (x : E3) : (edCells x).length = 3 := rfl
theorem edCells_1 (x : E3) : ∀ u ∈ edCells x, u.oneCell' = true := by
  intro u hu
  simp only [edCells, List.mem_cons, List.not_mem_nil, or_false] at hu
  rcases hu with rfl | rfl | rfl <;> rfl
abbrev edVals (l : List E3) : List Value := recVals edCells l
theorem edVals_one (l : List E3) : ∀ u ∈ edVals l, u.oneCell' = true := recVals_one edCells_1 l
theorem edVals_len {l : List E3} {n : Nat} (h : l.length = n) : (edVals l).length = n * 3 := by rw [← h]; exact recVals_len edCells_k l
theorem edVals_app (a b : List E3) : edVals a ++ edVals b = edVals (a ++ b) := recVals_app _ a b
theorem Fl.edlen {w : World} {v : Value} {n : Nat} {l : List E3} (h : Fl S w 3 v n (edVals l)) : l.length = n := Fl.rlen edCells_k (by omega) h
theorem El25 : El Try.prog 25 3 (.int .i64 0) 1 8 := ⟨Try.underlying25, by kernel_rfl, rfl, by decide⟩
theorem El33 : El Try.prog 33 25 (.slice none 0 0) 1 24 := ⟨Try.underlying33, by kernel_rfl, rfl, by decide⟩
theorem El22 : El Try.prog 22 41 (.agg #[.int .i64 0, .int .i64 0, .int .i64 0]) 3 24 := ⟨Try.underlying22, by kernel_rfl, rfl, by decide⟩

/-! elements one by one -/
section
variable {α : Type} {l : List α} {d : α} {p : α → Bool} {k : Nat}
theorem getD_mem (h : k < l.length) : l.getD k d ∈ l := by
  rw [List.getD_eq_getElem?_getD, List.getElem?_eq_getElem h, Option.getD_some]; exact List.getElem_mem h
theorem mem_getD {x : α} (h : x ∈ l) : ∃ k, k < l.length ∧ l.getD k d = x := by
  obtain ⟨k, hk, e⟩ := List.mem_iff_getElem.1 h
  exact ⟨k, hk, by rw [List.getD_eq_getElem?_getD, List.getElem?_eq_getElem hk, Option.getD_some, e]⟩
theorem all_of (h : ∀ j, j < l.length → p (l.getD j d) = true) : l.all p = true := by
  rw [List.all_eq_true]
  intro x hx
  obtain ⟨j, hj, rfl⟩ := mem_getD (d := d) hx
  exact h j hj
theorem not_all (hk : k < l.length) (h : p (l.getD k d) = false) : l.all p = false := by
  cases hc : l.all p with
  | false => rfl
  | true => rw [List.all_eq_true] at hc; rw [hc _ (getD_mem hk)] at h; cases h
theorem any_of (hk : k < l.length) (h : p (l.getD k d) = true) : l.any p = true := List.any_eq_true.2 ⟨_, getD_mem hk, h⟩
theorem not_any (h : ∀ j, j < l.length → p (l.getD j d) = false) : l.any p = false := by
  cases hc : l.any p with
  | false => rfl
  | true =>
    obtain ⟨x, hx, h1⟩ := List.any_eq_true.1 hc
    obtain ⟨j, hj, rfl⟩ := mem_getD (d := d) hx
    rw [h j hj] at h1; cases h1
theorem upto_step {Q : Nat → Prop} {k : Nat} (h : ∀ j, j < k → Q j) (hk : Q k) : ∀ j, j < k + 1 → Q j := fun j hj => by
  by_cases hc : j = k
  · exact hc ▸ hk
  · exact h j (by omega)
/-- the index of the first one that satisfies p, or -1 -/
def idxF (p : α → Bool) (l : List α) : Int := match l.findIdx? p with
  | some i => i
  | none => -1
theorem idxF_at (h : ∀ j, j < k → p (l.getD j d) = false) (hk : k < l.length) (hp : p (l.getD k d) = true) : idxF p l = k := by
  have : l.findIdx? p = some k := by
    rw [List.findIdx?_eq_some_iff_getElem]
    refine ⟨hk, ?_, fun j hj => ?_⟩
    · rw [List.getD_eq_getElem?_getD, List.getElem?_eq_getElem hk, Option.getD_some] at hp; exact hp
    · have := h j hj
      rw [List.getD_eq_getElem?_getD, List.getElem?_eq_getElem (by omega), Option.getD_some] at this
      simp [this]
  simp [idxF, this]
theorem idxF_none (h : ∀ j, j < l.length → p (l.getD j d) = false) : idxF p l = -1 := by
  have : l.findIdx? p = none := by
    rw [List.findIdx?_eq_none_iff]
    intro x hx
    obtain ⟨j, hj, rfl⟩ := mem_getD (d := d) hx
    exact h j hj
  simp [idxF, this]
theorem idxF_any (p : α → Bool) (l : List α) : decide ((0 : Int) ≤ idxF p l) = l.any p := by
  cases h : l.findIdx? p with
  | none =>
    have h2 : l.any p = false := by
      rw [List.findIdx?_eq_none_iff] at h
      rw [List.any_eq_false]; intro x hx; simp [h x hx]
    rw [h2]; simp [idxF, h]
  | some i =>
    have h2 : l.any p = true := by
      obtain ⟨hi, hp, _⟩ := List.findIdx?_eq_some_iff_getElem.1 h
      exact List.any_eq_true.2 ⟨_, List.getElem_mem hi, hp⟩
    rw [h2]; simp [idxF, h]
end

/-! what Check and Holds compute -/
def okE (n : Int) (x : E3) : Bool := decide ((0 ≤ x.a ∧ x.a < n) ∧ (0 ≤ x.b ∧ x.b < n) ∧ -35184372088832 ≤ x.w ∧ x.w ≤ 35184372088832)
def vOk (n : Int) (l : List E3) : Bool := decide (1 ≤ n ∧ n ≤ 512 ∧ l.length ≤ 8192) && l.all (okE n)
def chk (n : Int) (l : List E3) : Int := if vOk n l then 0 else 150
theorem okE_iff {n : Int} {x : E3} : okE n x = true ↔ ((0 ≤ x.a ∧ x.a < n) ∧ (0 ≤ x.b ∧ x.b < n) ∧ -35184372088832 ≤ x.w ∧ x.w ≤ 35184372088832) := decide_eq_true_iff
theorem okE_no {n : Int} {x : E3} (h : ¬ ((0 ≤ x.a ∧ x.a < n) ∧ (0 ≤ x.b ∧ x.b < n) ∧ -35184372088832 ≤ x.w ∧ x.w ≤ 35184372088832)) : okE n x = false := decide_eq_false h
theorem vOk_no1 {n : Int} {l : List E3} (h : ¬ (1 ≤ n ∧ n ≤ 512 ∧ l.length ≤ 8192)) : chk n l = 150 := by simp [chk, vOk, h]
theorem vOk_no2 {n : Int} {l : List E3} {k : Nat} (hk : k < l.length) (h : okE n (l.getD k default) = false) : chk n l = 150 := by simp only [chk, vOk, not_all hk h, Bool.and_false]; rfl
theorem vOk_yes {n : Int} {l : List E3} (h1 : 1 ≤ n ∧ n ≤ 512 ∧ l.length ≤ 8192) (h : ∀ j, j < l.length → okE n (l.getD j default) = true) : vOk n l = true := by rw [vOk, all_of h, decide_eq_true h1]; rfl
theorem chk_yes {n : Int} {l : List E3} (h1 : 1 ≤ n ∧ n ≤ 512 ∧ l.length ≤ 8192) (h : ∀ j, j < l.length → okE n (l.getD j default) = true) : chk n l = 0 := by rw [chk, vOk_yes h1 h]; rfl
theorem vOk_n {n : Int} {l : List E3} (h : vOk n l = true) : 1 ≤ n ∧ n ≤ 512 ∧ l.length ≤ 8192 := by
  simp only [vOk, Bool.and_eq_true] at h; exact of_decide_eq_true h.1
theorem vOk_at {n : Int} {l : List E3} (h : vOk n l = true) {j : Nat} (hj : j < l.length) : (0 ≤ (l.getD j default).a ∧ (l.getD j default).a < n) ∧ (0 ≤ (l.getD j default).b ∧ (l.getD j default).b < n) ∧ -35184372088832 ≤ (l.getD j default).w ∧ (l.getD j default).w ≤ 35184372088832 := by
  simp only [vOk, Bool.and_eq_true, List.all_eq_true] at h
  exact okE_iff.1 (h.2 _ (getD_mem hj))
theorem chk_v {n : Int} {l : List E3} (h : chk n l = 0) : vOk n l = true := by
  cases hc : vOk n l with
  | true => rfl
  | false => simp [chk, hc] at h
theorem chk_b {n : Int} {l : List E3} (h : chk n l ≠ 0) : vOk n l = false ∧ chk n l = 150 := by
  cases hc : vOk n l with
  | true => simp [chk, hc] at h
  | false => simp [chk, hc]
def wide (x : Int) : Bool := if x < -1152921504606846976 then true else decide (1152921504606846976 < x)
def brk (v : List Int) (x : E3) : Bool := decide (v.getD x.a.toNat 0 + x.w < v.getD x.b.toNat 0)
/-- do values satisfy a valid system? -/
def hld (n : Int) (l : List E3) (v : List Int) : Bool := vOk n l && decide ((v.length : Int) = n ∧ v.getD 0 0 = 0) && !v.any wide && !l.any (brk v)
theorem wide_no {x : Int} (h : wide x = false) : -1152921504606846976 ≤ x ∧ x ≤ 1152921504606846976 := by
  unfold wide at h; split at h
  · cases h
  · have := of_decide_eq_false h; omega
theorem wide_yes {x : Int} (h : x < -1152921504606846976 ∨ 1152921504606846976 < x) : wide x = true := by
  unfold wide; split
  · rfl
  · exact decide_eq_true (by omega)
theorem wide_in {x : Int} (h1 : ¬ x < -1152921504606846976) (h2 : ¬ 1152921504606846976 < x) : wide x = false := by
  unfold wide; rw [if_neg h1]; exact decide_eq_false h2
theorem wide_at {v : List Int} (h : v.any wide = false) {j : Nat} (hj : j < v.length) : -1152921504606846976 ≤ v.getD j 0 ∧ v.getD j 0 ≤ 1152921504606846976 := by
  rw [List.any_eq_false] at h
  exact wide_no (by simpa using h _ (getD_mem hj))
theorem hld_bad {n : Int} {l : List E3} {v : List Int} (h : chk n l ≠ 0) : hld n l v = false := by simp [hld, (chk_b h).1]
theorem hld_no1 {n : Int} {l : List E3} {v : List Int} (h : ¬ ((v.length : Int) = n ∧ v.getD 0 0 = 0)) : hld n l v = false := by simp only [hld, decide_eq_false h, Bool.and_false, Bool.false_and]
theorem hld_no2 {n : Int} {l : List E3} {v : List Int} (h : v.any wide = true) : hld n l v = false := by simp [hld, h]
theorem hld_last {n : Int} {l : List E3} {v : List Int} (h0 : vOk n l = true) (h1 : (v.length : Int) = n ∧ v.getD 0 0 = 0) (h : v.any wide = false) : hld n l v = !l.any (brk v) := by simp only [hld, h0, h, decide_eq_true h1]; rfl

section
variable {ρ : Operand → Value} {x0 x1 : Operand} {v0 v1 u0 u1 : Value}
theorem argsv_1 {cap : Array Value} {arg : Value → Array Value} (harg : ∀ v, #[v] ++ cap = arg v) (h0 : ρ x0 = v0) : (#[] ++ #[x0].map ρ) ++ cap = arg v0 := by rw [← harg]; simp [h0]
theorem argsc_0_1_1 (h0 : ρ x0 = v0) : (#[] ++ #[x0].map ρ) ++ #[u0] = #[v0, u0] := by simp [h0]
end

end Go.Proofs.Ytjmdodgmoehfkaa
