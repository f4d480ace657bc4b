/- Lists of structs, each of k cells; tables of ints (slices of slices of ints). No program in sight. -/
import Derived.Test.YtjmdodgmoehfkaaWk11
namespace Go.Proofs.Ytjmdodgmoehfkaa
open Go.RowKit

variable {S S' : Nat → Prop} {α : Type}
def recVals (f : α → List Value) (l : List α) : List Value := l.flatMap f
theorem recVals_cons (f : α → List Value) (x : α) (l : List α) : recVals f (x :: l) = f x ++ recVals f l := by simp [recVals]
theorem recVals_app (f : α → List Value) (a b : List α) : recVals f a ++ recVals f b = recVals f (a ++ b) := by simp [recVals]
theorem recVals_one {f : α → List Value} (h1 : ∀ x, ∀ u ∈ f x, u.oneCell' = true) (l : List α) : ∀ u ∈ recVals f l, u.oneCell' = true := by
  intro u hu
  simp only [recVals, List.mem_flatMap] at hu
  obtain ⟨x, _, hx⟩ := hu
  exact h1 x u hx
theorem recVals_len {f : α → List Value} {k : Nat} (h : ∀ x, (f x).length = k) : ∀ l : List α, (recVals f l).length = l.length * k
  | [] => by simp [recVals]
  | x :: l => by rw [recVals_cons, List.length_append, recVals_len h l, h x, List.length_cons, Nat.add_mul, Nat.one_mul, Nat.add_comm]
theorem recVals_take {f : α → List Value} {k : Nat} (h : ∀ x, (f x).length = k) : ∀ (l : List α) (n : Nat), (recVals f l).take (n * k) = recVals f (l.take n)
  | [], n => by simp [recVals]
  | x :: l, 0 => by simp [recVals]
  | x :: l, n + 1 => by
    have hx := h x
    rw [List.take_succ_cons, recVals_cons, recVals_cons, ← recVals_take h l n, Nat.add_mul, Nat.one_mul, List.take_append, hx, List.take_of_length_le (by omega), show n * k + k - k = n * k from by omega]
theorem recVals_drop {f : α → List Value} {k : Nat} (h : ∀ x, (f x).length = k) : ∀ (l : List α) (n : Nat), (recVals f l).drop (n * k) = recVals f (l.drop n)
  | [], n => by simp [recVals]
  | x :: l, 0 => by simp
  | x :: l, n + 1 => by
    have hx := h x
    rw [List.drop_succ_cons, recVals_cons, ← recVals_drop h l n, Nat.add_mul, Nat.one_mul, List.drop_append, hx, List.drop_eq_nil_of_le (by omega), List.nil_append, show n * k + k - k = n * k from by omega]
theorem recVals_at {f : α → List Value} {k : Nat} (h : ∀ x, (f x).length = k) {l : List α} {i : Nat} {x : α} (hi : l[i]? = some x) {j : Nat} {v : Value} (hv : (f x)[j]? = some v) : (recVals f l)[i * k + j]? = some v := by
  have hj := (List.getElem?_eq_some_iff.1 hv).1
  obtain ⟨hl, he⟩ := List.getElem?_eq_some_iff.1 hi
  have h1 : (recVals f l)[i * k + j]? = ((recVals f l).drop (i * k))[j]? := by rw [List.getElem?_drop]
  rw [h1, recVals_drop h, List.drop_eq_getElem_cons hl, recVals_cons, he, List.getElem?_append_left hj]
  exact hv
theorem recVals_set {f : α → List Value} {k : Nat} (h : ∀ x, (f x).length = k) : ∀ {l : List α} {i : Nat} {x : α}, i < l.length → splice (recVals f l) (i * k) (f x) = recVals f (l.set i x)
  | [], _, _, hi => absurd hi (by simp)
  | y :: l, 0, x, _ => by
    have hy := h y; have hx := h x
    rw [List.set_cons_zero, recVals_cons, recVals_cons, splice, Nat.zero_mul, List.take_zero, List.nil_append, Nat.zero_add, hx, List.drop_append, List.drop_eq_nil_of_le (by omega), List.nil_append, hy, Nat.sub_self, List.drop_zero]
  | y :: l, i + 1, x, hi => by
    have hy := h y
    have ih := recVals_set h (l := l) (i := i) (x := x) (by simpa using hi)
    rw [List.set_cons_succ, recVals_cons, recVals_cons, ← ih, splice, splice, Nat.add_mul, Nat.one_mul, List.take_append, List.drop_append, hy, List.take_of_length_le (by omega), List.drop_eq_nil_of_le (by omega), show i * k + k - k = i * k from by omega, List.nil_append, show i * k + k + (f x).length - k = i * k + (f x).length from by omega]
    simp only [List.append_assoc]
theorem Fl.recAt {f : α → List Value} {k : Nat} (hk : ∀ x, (f x).length = k) {w : World} {n m c b off : Nat} {A : Option Addr} {l : List α} (h : Fl S w k (.slice A m c) n (recVals f l)) (hA : A = some ⟨b, off, none⟩) {i : Nat} {d : α} (hi : i < l.length) (j : Nat) (v : Value) (hv : (f (l.getD i d))[j]? = some v) : w.cell? ⟨b, off + i * k + j, none⟩ = some v := by
  rw [Nat.add_assoc]
  exact h.cellAt hA (recVals_at hk (by rw [List.getD_eq_getElem?_getD, List.getElem?_eq_getElem hi, Option.getD_some]) hv)
theorem Fl.rlen {f : α → List Value} {k : Nat} (hk : ∀ x, (f x).length = k) (h0 : 0 < k) {w : World} {v : Value} {n : Nat} {l : List α} (h : Fl S w k v n (recVals f l)) : l.length = n := by
  have := h.len; rw [recVals_len hk] at this; exact Nat.eq_of_mul_eq_mul_right h0 this
theorem Fl.ilen {w : World} {v : Value} {n : Nat} {l : List Int} (h : Fl S w 1 v n (intVals l)) : l.length = n := by
  have := h.len; simp [intVals] at this; omega

/-! tables of ints -/
def RI1 (S : Nat → Prop) (w : World) (cs : List Value) (l : List Int) : Prop := ∃ v, cs = [v] ∧ Fl S w 1 v l.length (intVals l)
theorem RI1.ext {w w' : World} {cs : List Value} {l : List Int} (h : RI1 S w cs l) (he : Ext w w') : RI1 S w' cs l := by
  obtain ⟨v, hv, h⟩ := h; exact ⟨v, hv, h.ext he⟩
def RIss (S : Nat → Prop) (w : World) (v : Value) (l : List (List Int)) : Prop := RSl S 1 (RI1 S) w v l
theorem RIss.ext {w w' : World} {v : Value} {l : List (List Int)} (h : RIss S w v l) (he : Ext w w') : RIss S w' v l := RSl.ext h he fun _ _ h => h.ext he
theorem RIss.pres {w w' : World} {v : Value} {l : List (List Int)} (h : RIss S w v l) (hp : Pres S w w') : RIss S w' v l := RSl.keep h hp.1 hp.2 fun _ _ ⟨v, hv, h⟩ => ⟨v, hv, h.pres hp⟩
theorem RIss.subB {w : World} {v : Value} {l : List (List Int)} (h : RIss S w v l) (hs : ∀ b, b < w.heap.size → S b → S' b) : RIss S' w v l := RSl.subB h hs fun _ _ ⟨v, hv, h⟩ => ⟨v, hv, h.subB hs⟩
theorem RIss.clip {w : World} {v : Value} {l : List (List Int)} (h : RIss S w v l) : RIss (Clip S w) w v l := h.subB fun _ hb hs => ⟨hs, hb⟩
theorem RIss.nil (w : World) : RIss S w (.slice none 0 0) [] := RSl.nil w
theorem RIss.form {w : World} {v : Value} {l : List (List Int)} (h : RIss S w v l) : ∃ A cap, v = .slice A l.length cap ∧ l.length ≤ cap ∧ cap ≤ 9223372036854775807 := RSl.form h
theorem RIss.get {w : World} {A : Option Addr} {n cap : Nat} {l : List (List Int)} (h : RIss S w (.slice A n cap) l) {i : Nat} (hi : i < n) :
    ∃ b off A' c, A = some ⟨b, off, none⟩ ∧ b < w.heap.size ∧ w.cell? ⟨b, off + i, none⟩ = some (.slice A' (l.getD i []).length c) ∧ Fl S w 1 (.slice A' (l.getD i []).length c) (l.getD i []).length (intVals (l.getD i [])) ∧ (l.getD i []).length ≤ c ∧ c ≤ 9223372036854775807 := by
  obtain ⟨hn, hc, h3⟩ := RSl.elem h
  obtain ⟨b, off, ha, hb, hx⟩ := h3 (by omega)
  obtain ⟨cs, hk, hcs, v, rfl, hv⟩ := hx i (by omega)
  have e : l.getD i [] = l[i]'(by omega) := by rw [List.getD_eq_getElem?_getD, List.getElem?_eq_getElem (by omega), Option.getD_some]
  rw [← e] at hv
  obtain ⟨A', c, rfl, h5, h6⟩ := hv.form
  refine ⟨b, off, A', c, ha, hb, ?_, hv, h5, h6⟩
  have := hcs 0 _ rfl
  rw [Nat.mul_one, Nat.add_zero] at this
  exact this
theorem RIss.of_fl {w : World} {v : Value} {n : Nat} {vs : List Value} {l : List (List Int)} (h : Fl S w 1 v n vs) (hn : l.length = n) (hr : ∀ i, i < n → ∃ u, vs[i]? = some u ∧ Fl S w 1 u (l.getD i []).length (intVals (l.getD i []))) : RIss S w v l := by
  subst hn
  obtain ⟨A, cap, rfl, hc, hl, hs⟩ := h
  refine ⟨A, cap, vs, rfl, hc, hl, fun i hi => ?_, hs⟩
  have hv : i < vs.length := by rw [hl.1]; omega
  rw [chunk_one hv]
  obtain ⟨u, h1, h2⟩ := hr i hi
  rw [List.getElem?_eq_getElem hv] at h1
  injection h1 with h1
  have e : l.getD i [] = l[i] := by rw [List.getD_eq_getElem?_getD, List.getElem?_eq_getElem hi, Option.getD_some]
  rw [e] at h2
  exact ⟨vs[i], rfl, h1 ▸ h2⟩
/-- a row of slices, each of ints -/
theorem RIss.own {w : World} {base : Nat} {e : TypeId} {v : Value} {n : Nat} {vs : List Value} {l : List (List Int)} (h : w.ownsRow base e 1 v n vs) (hS : ∀ b, base ≤ b → S b) (hn : l.length = n) (h1 : ∀ u ∈ vs, u.oneCell' = true) (hr : ∀ i, i < n → ∃ u, vs[i]? = some u ∧ Fl S w 1 u (l.getD i []).length (intVals (l.getD i []))) : RIss S w v l :=
  RIss.of_fl (Fl.own h hS h1) hn hr

end Go.Proofs.Ytjmdodgmoehfkaa
