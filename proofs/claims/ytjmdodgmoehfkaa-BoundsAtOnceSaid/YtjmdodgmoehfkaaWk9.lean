/- Parts of lists of digests; rows with another base; literals of nothing. No program in sight. -/
import Derived.Test.YtjmdodgmoehfkaaSeq2
namespace Go.Proofs.Ytjmdodgmoehfkaa
open Go.RowKit

variable {S S' : Nat → Prop}
/-- the bytes of one digest of a list -/
theorem Fl.digPart {w : World} {n m c b off r : Nat} {A : Option Addr} {l : List (List UInt8)} (h : Fl S w 32 (.slice A m c) n (digVals l)) (hA : A = some ⟨b, off, none⟩) (h32 : All32 l) {i : Nat} (hi : i < n) (hr : off + i * 32 = r) : Fl S w 1 (.slice (some ⟨b, r, none⟩) 32 32) 32 (byteVals (l.getD i [])) := by
  subst hr
  have hl := Fl.dlen h h32
  obtain ⟨b', off', hA', hb, hS, hx⟩ := h.at (by omega)
  rw [hA] at hA'
  cases hA'
  have hlen := dig_len h32 i (by omega)
  refine ⟨_, _, rfl, ⟨Nat.le_refl _, by omega⟩, ⟨by rw [byteVals_len hlen], byteVals_one _, fun _ => ⟨b, _, rfl, hb, fun j u hu => ?_⟩⟩, fun _ => ⟨b, _, rfl, hS⟩⟩
  exact Fl.digAt h hA h32 (by omega) j u hu
theorem own_base {w : World} {base base' : Nat} {e : TypeId} {k n : Nat} {v : Value} {xs : List Value} (h : w.ownsRow base e k v n xs) (hb : base' ≤ base) : w.ownsRow base' e k v n xs := by
  refine ⟨h.1, ?_⟩
  rcases h.2 with h0 | ⟨g, cap, cur, h1, h2, rest⟩
  · exact .inl h0
  · exact .inr ⟨g, cap, cur, h1, Nat.le_trans hb h2, rest⟩
theorem All32.ofD {l : List (List UInt8)} (h : All32 l) {i : Nat} (hi : i < l.length) : (l.getD i []).length = 32 := dig_len h i hi
/-- lists that agree up to k -/
theorem take_succ_eq {α : Type} [DecidableEq α] {d : α} {a b : List α} {k : Nat} (h : a.take k = b.take k) (ha : k < a.length) (hb : k < b.length) (he : a.getD k d = b.getD k d) : a.take (k + 1) = b.take (k + 1) := by
  rw [List.getD_eq_getElem?_getD, List.getD_eq_getElem?_getD, List.getElem?_eq_getElem ha, List.getElem?_eq_getElem hb] at he
  have he' : a[k] = b[k] := he
  rw [List.take_add_one, List.take_add_one, h, List.getElem?_eq_getElem ha, List.getElem?_eq_getElem hb, he']
theorem take_all_eq {α : Type} {a b : List α} {k : Nat} (h : a.take k = b.take k) (ha : a.length ≤ k) (hl : a.length = b.length) : a = b := by
  rwa [List.take_of_length_le ha, List.take_of_length_le (by omega)] at h
theorem ne_of_getD {α : Type} {d : α} {a b : List α} {k : Nat} (h : a.getD k d ≠ b.getD k d) : a ≠ b := fun e => h (by rw [e])
theorem ne_of_len {α : Type} {a b : List α} (h : a.length ≠ b.length) : a ≠ b := fun e => h (by rw [e])

end Go.Proofs.Ytjmdodgmoehfkaa
