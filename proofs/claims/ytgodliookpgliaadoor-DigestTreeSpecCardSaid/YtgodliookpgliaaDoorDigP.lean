/- Plain laws of the loops of BLAKE2s; what is known of the package variables. -/
import Derived.Test.YtgodliookpgliaaDoorDigC
import Derived.Test.YtgodliookpgliaaDoorWk5
namespace Go.Proofs.YtgodliookpgliaaDoor
open Go.RowKit

theorem foldl_range {α : Type} (f : α → Nat → α) (a : α) (k : Nat) : (List.range (k + 1)).foldl f a = f ((List.range k).foldl f a) k := by
  rw [List.range_succ, List.foldl_append]; rfl
theorem foldl_len {α : Type} {f : List UInt32 → α → List UInt32} {n : Nat} (hf : ∀ v i, v.length = n → (f v i).length = n) : ∀ (l : List α) (v : List UInt32), v.length = n → (l.foldl f v).length = n
  | [], _, h => h
  | x :: l, v, h => foldl_len hf l (f v x) (hf v x h)

theorem mixSeq_len (v : List UInt32) (a b c d : Nat) (x y : UInt32) : (mixSeq v a b c d x y).length = v.length := by simp [mixSeq]

def wordsTo (b : List UInt8) (k : Nat) : List UInt32 := (List.range k).foldl (word b) (List.replicate 16 0)
theorem wordsTo_len (b : List UInt8) (k : Nat) : (wordsTo b k).length = 16 := foldl_len (fun v i h => by simp [word, h]) _ _ (by simp)
theorem wordsTo_step {b : List UInt8} {k : Nat} {m v : List UInt32} (hm : m = wordsTo b k) (hv : v = m.set (k / 4) (m.getD (k / 4) 0 ||| (b.getD k 0).toUInt32 <<< UInt32.ofNat (8 * (k % 4)))) : v = wordsTo b (k + 1) := by
  rw [hv, hm, wordsTo, wordsTo, foldl_range]; rfl
theorem words_eq {b : List UInt8} {m : List UInt32} {k : Nat} (hm : m = wordsTo b k) (hk : k = b.length) : m = words b := by rw [hm, hk]; rfl

def permB : List UInt8 := perms.flatten.map UInt8.ofNat
theorem permB_len : permB.length = 160 := by decide +kernel
def permRow (r : Nat) : List Nat := perms.getD r []
theorem perm_row_all : ∀ r < 10, ∀ j < 16, (((permB.drop (r * 16)).take 16).getD j 0).toNat = (permRow r).getD j 0 ∧ (permRow r).getD j 0 < 16 := by decide +kernel
theorem perm_row {r : Nat} (hr : r < 10) {j : Nat} (hj : j < 16) : (((permB.drop (r * 16)).take 16).getD j 0).toNat = (permRow r).getD j 0 := (perm_row_all r hr j hj).1
theorem perm_lt {r : Nat} (hr : r < 10) {j : Nat} (hj : j < 16) : (((permB.drop (r * 16)).take 16).getD j 0).toNat < 16 := by rw [perm_row hr hj]; exact (perm_row_all r hr j hj).2

theorem mixv_len {v : List UInt32} {a b c d : Nat} {x y : UInt32} (h : v.length = 16) : (mixv v a b c d x y).length = 16 := by simp [mixv, put4, h]
theorem mixAt_len (m : List UInt32) (s : List Nat) {v : List UInt32} (i : Nat) (h : v.length = 16) : (mixAt m s v i).length = 16 := by
  unfold mixAt
  dsimp only
  split <;> exact mixv_len h
def mixTo (m : List UInt32) (s : List Nat) (v : List UInt32) (k : Nat) : List UInt32 := (List.range k).foldl (mixAt m s) v
theorem mixTo_len {m : List UInt32} {s : List Nat} {v : List UInt32} {k : Nat} (h : v.length = 16) : (mixTo m s v k).length = 16 := foldl_len (fun _ i h => mixAt_len m s i h) _ _ h
theorem mixTo_step1 {m : List UInt32} {r : Nat} {v0 v v' : List UInt32} {k : Nat} (hr : r < 10) (hk : k < 4) (h0 : v0.length = 16) (hv : v = mixTo m (permRow r) v0 k)
    (he : v' = mixSeq v k (4 + k) (8 + k) (12 + k) (m.getD (((permB.drop (r * 16)).take 16).getD (2 * k) 0).toNat 0) (m.getD (((permB.drop (r * 16)).take 16).getD ((2 * k) + 1) 0).toNat 0)) : v' = mixTo m (permRow r) v0 (k + 1) := by
  have hl : v.length = 16 := by rw [hv]; exact mixTo_len h0
  rw [mixTo, foldl_range, ← mixTo, ← hv, he, mixSeq_eq (by omega) (by omega) (by omega) (by omega) (by omega) (by omega) (by omega) (by omega) (by omega) (by omega), perm_row hr (by omega), perm_row hr (by omega)]
  simp [mixAt, hk, at_]
theorem mixTo_step2 {m : List UInt32} {r : Nat} {v0 v v' : List UInt32} {k : Nat} (hr : r < 10) (hk : k < 4) (h0 : v0.length = 16) (hv : v = mixTo m (permRow r) v0 (4 + k))
    (he : v' = mixSeq v k (4 + ((k + 1) % 4)) (8 + ((k + 2) % 4)) (12 + ((k + 3) % 4)) (m.getD (((permB.drop (r * 16)).take 16).getD (8 + (2 * k)) 0).toNat 0) (m.getD (((permB.drop (r * 16)).take 16).getD (9 + (2 * k)) 0).toNat 0)) : v' = mixTo m (permRow r) v0 (4 + (k + 1)) := by
  have hl : v.length = 16 := by rw [hv]; exact mixTo_len h0
  rw [← Nat.add_assoc, mixTo, foldl_range, ← mixTo, ← hv, he, mixSeq_eq (by omega) (by omega) (by omega) (by omega) (by omega) (by omega) (by omega) (by omega) (by omega) (by omega), perm_row hr (by omega), perm_row hr (by omega)]
  have h1 : ¬ (4 + k < 4) := by omega
  have h2 : (4 + k) % 4 = k := by omega
  simp only [mixAt, h1, if_false, h2, at_]
  rw [show 2 * (4 + k) = 8 + 2 * k from by omega, show 8 + 2 * k + 1 = 9 + 2 * k from by omega]
def roundTo (m v : List UInt32) (r : Nat) : List UInt32 := (perms.take r).foldl (round m) v
theorem round_len {m v : List UInt32} {s : List Nat} (h : v.length = 16) : (round m v s).length = 16 := mixTo_len h
theorem roundTo_len {m v : List UInt32} {r : Nat} (h : v.length = 16) : (roundTo m v r).length = 16 := foldl_len (fun _ s h => round_len (s := s) h) _ _ h
theorem roundTo_step {m v0 v v' : List UInt32} {r : Nat} (hr : r < 10) (hv : v = roundTo m v0 r) (he : v' = mixTo m (permRow r) v 8) : v' = roundTo m v0 (r + 1) := by
  have hl : perms.length = 10 := rfl
  have hlt : r < perms.length := by rw [hl]; exact hr
  have hg : permRow r = perms[r] := by unfold permRow; rw [List.getD_eq_getElem?_getD, List.getElem?_eq_getElem hlt, Option.getD_some]
  rw [roundTo, List.take_succ_eq_append_getElem hlt, List.foldl_append, ← roundTo, ← hv, he, hg, List.foldl_cons, List.foldl_nil, round, mixTo]
def closeTo (v h : List UInt32) (k : Nat) : List UInt32 := (List.range k).foldl (close_ v) h
theorem closeTo_len {v h : List UInt32} {k : Nat} (hh : h.length = 8) : (closeTo v h k).length = 8 := foldl_len (fun _ i h => by simp [close_, h]) _ _ hh
theorem closeTo_step {v h0 h h' : List UInt32} {k : Nat} (hh : h = closeTo v h0 k) (he : h' = h.set k (h.getD k 0 ^^^ (v.getD k 0 ^^^ v.getD (8 + k) 0))) : h' = closeTo v h0 (k + 1) := by
  rw [he, hh, closeTo, closeTo, foldl_range, ← closeTo, close_, at_, at_, at_, UInt32.xor_assoc]
theorem absorb_len {h : List UInt32} {b : List UInt8} {n : UInt64} {last : Bool} (hh : h.length = 8) : (absorb h b n last).length = 8 := closeTo_len hh
theorem absorb_eq {h h' v : List UInt32} {b : List UInt8} {n : UInt64} {last : Bool} (hv : v = roundTo (words b) (begin_ h n last) 10) (hh : h' = closeTo v h 8) : h' = absorb h b n last := by rw [hh, hv]; rfl
theorem begin_len {h : List UInt32} {n : UInt64} {last : Bool} (hh : h.length = 8) : (begin_ h n last).length = 16 := by
  unfold begin_
  dsimp only
  split <;> simp [hh, iv]
theorem begin_true {h : List UInt32} {n : UInt64} : ((((h ++ iv).set 12 ((h ++ iv).getD 12 0 ^^^ n.toUInt32)).set 13 (((h ++ iv).set 12 ((h ++ iv).getD 12 0 ^^^ n.toUInt32)).getD 13 0 ^^^ (n >>> UInt64.ofNat 32).toUInt32)).set 14 (~~~ ((((h ++ iv).set 12 ((h ++ iv).getD 12 0 ^^^ n.toUInt32)).set 13 (((h ++ iv).set 12 ((h ++ iv).getD 12 0 ^^^ n.toUInt32)).getD 13 0 ^^^ (n >>> UInt64.ofNat 32).toUInt32)).getD 14 0))) = begin_ h n true := rfl
theorem begin_false {h : List UInt32} {n : UInt64} : (((h ++ iv).set 12 ((h ++ iv).getD 12 0 ^^^ n.toUInt32)).set 13 (((h ++ iv).set 12 ((h ++ iv).getD 12 0 ^^^ n.toUInt32)).getD 13 0 ^^^ (n >>> UInt64.ofNat 32).toUInt32)) = begin_ h n false := rfl
theorem iv_len : iv.length = 8 := rfl
theorem hiv_len {h : List UInt32} (hh : h.length = 8) : (h ++ iv).length = 16 := by simp [hh, iv]
theorem h8_len {h : List UInt32} (hh : h.length = 8) : (h ++ List.replicate 8 0).length = 16 := by simp [hh]
theorem copy1 {h : List UInt32} (hh : h.length = 8) : splice (u32Vals (List.replicate 16 0)) 0 ((u32Vals h).take (min 8 8)) = u32Vals (h ++ List.replicate 8 0) := by
  have hl : (u32Vals h).length = 8 := u32Vals_len hh
  rw [show min 8 8 = 8 from rfl, List.take_of_length_le (by omega)]
  simp [splice, hh, u32Vals]
theorem copy2 {h : List UInt32} (hh : h.length = 8) : splice (u32Vals (h ++ List.replicate 8 0)) 8 ((u32Vals iv).take (min 8 8)) = u32Vals (h ++ iv) := by
  have hl : (u32Vals h).length = 8 := u32Vals_len hh
  rw [show min 8 8 = 8 from rfl, List.take_of_length_le (by decide)]
  simp [splice, hh, u32Vals, iv, List.drop_append]

/-- The package variables are as they are written. -/
structure Glob (w : World) : Prop where
  a : Cel w 1 (some ⟨0, 0, none⟩) 8 (u32Vals iv)
  b : Cel w 1 (some ⟨1, 0, none⟩) 160 (byteVals permB)
theorem Glob.ext {w w' : World} (h : Glob w) (e : Ext w w') : Glob w' := ⟨h.a.ext e, h.b.ext e⟩
theorem Glob.at0 {w : World} (h : Glob w) (j : Nat) (v : Value) (hv : (u32Vals iv)[j]? = some v) : w.cell? ⟨0, 0 + j, none⟩ = some v := by
  obtain ⟨b, off, hA, _, hx⟩ := h.a.2.2 (by omega)
  cases hA
  exact hx j v hv
theorem Glob.at1 {w : World} (h : Glob w) (j : Nat) (v : Value) (hv : (byteVals permB)[j]? = some v) : w.cell? ⟨1, 0 + j, none⟩ = some v := by
  obtain ⟨b, off, hA, _, hx⟩ := h.b.2.2 (by omega)
  cases hA
  exact hx j v hv

end Go.Proofs.YtgodliookpgliaaDoor
