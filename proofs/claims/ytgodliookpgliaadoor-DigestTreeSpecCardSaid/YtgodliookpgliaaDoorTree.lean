/- Trees of hashes, plain. -/
import Derived.Test.YtgodliookpgliaaDoorBase
namespace Go.Proofs.YtgodliookpgliaaDoor

variable (nodeD : List UInt8 → List UInt8 → List UInt8) (leafD : List UInt8 → List UInt8) (emptyD : List UInt8)
/-- the greatest power of 2 that is less than n -/
def half (n : Nat) : Nat := 2 ^ Nat.log2 (n - 1)
theorem half_pos (n : Nat) : 1 ≤ half n := Nat.one_le_two_pow
theorem half_lt {n : Nat} (h : 2 ≤ n) : half n < n := by
  have := Nat.log2_self_le (n := n - 1) (by omega)
  unfold half; omega
theorem half_ge {n : Nat} (h : 2 ≤ n) : n ≤ 2 * half n := by
  have := Nat.lt_log2_self (n := n - 1)
  unfold half; rw [Nat.pow_succ] at this; omega
theorem half_unique {n k : Nat} (j : Nat) (hk : k = 2 ^ j) (h1 : k < n) (h2 : n ≤ 2 * k) : k = half n := by
  subst hk
  unfold half
  congr 1
  have : (n - 1).log2 = j := by
    apply (Nat.log2_eq_iff (by have := Nat.one_le_two_pow (n := j); omega)).2
    rw [Nat.pow_succ]; omega
  exact this.symm
def tree (l : List (List UInt8)) : List UInt8 :=
  if l.length = 0 then emptyD else if _h : l.length = 1 then leafD (l.getD 0 []) else nodeD (tree (l.take (half l.length))) (tree (l.drop (half l.length)))
termination_by l.length
decreasing_by
  · have := half_lt (n := l.length) (by omega); simp; omega
  · have := half_pos l.length; simp; omega
theorem tree_eq {l : List (List UInt8)} (h : 2 ≤ l.length) : tree nodeD leafD emptyD l = nodeD (tree nodeD leafD emptyD (l.take (half l.length))) (tree nodeD leafD emptyD (l.drop (half l.length))) := by
  rw [tree, if_neg (by omega), dif_neg (by omega)]
theorem tree_one {l : List (List UInt8)} (h : l.length = 1) : tree nodeD leafD emptyD l = leafD (l.getD 0 []) := by
  rw [tree, if_neg (by omega), dif_pos h]
theorem tree_nil : tree nodeD leafD emptyD [] = emptyD := by
  rw [tree]; rfl
def pathL (l : List (List UInt8)) (at_ : Nat) : List (List UInt8) :=
  if _h : l.length ≤ 1 then [] else
    if at_ < half l.length then pathL (l.take (half l.length)) at_ ++ [tree nodeD leafD emptyD (l.drop (half l.length))]
    else pathL (l.drop (half l.length)) (at_ - half l.length) ++ [tree nodeD leafD emptyD (l.take (half l.length))]
termination_by l.length
decreasing_by
  · have := half_lt (n := l.length) (by omega); simp; omega
  · have := half_pos l.length; simp; omega
/-- from the top: whether the element is in the first half -/
def dirs (at_ n : Nat) : List Bool :=
  if _h : n ≤ 1 then [] else if at_ < half n then true :: dirs at_ (half n) else false :: dirs (at_ - half n) (n - half n)
termination_by n
decreasing_by
  · have := half_lt (n := n) (by omega); omega
  · have := half_pos n; omega
def step1 (x : List UInt8) (q : List UInt8 × Bool) : List UInt8 := if q.2 then nodeD x q.1 else nodeD q.1 x
def climbL (d : List UInt8) (at_ n : Nat) (p : List (List UInt8)) : List UInt8 := (p.zip (dirs at_ n).reverse).foldl (step1 nodeD) (leafD d)
theorem path_len (l : List (List UInt8)) (at_ : Nat) : (pathL nodeD leafD emptyD l at_).length = (dirs at_ l.length).length := by
  fun_induction pathL nodeD leafD emptyD l at_ with
  | case1 l at_ h => rw [dirs, dif_pos h]; rfl
  | case2 l at_ h h2 ih =>
    rw [dirs, dif_neg h, if_pos h2]
    have := half_lt (n := l.length) (by omega)
    simp only [List.length_append, List.length_cons, List.length_nil, ih, List.length_take]
    rw [Nat.min_eq_left (by omega)]
  | case3 l at_ h h2 ih =>
    rw [dirs, dif_neg h, if_neg h2]
    simp only [List.length_append, List.length_cons, List.length_nil, ih, List.length_drop]
theorem climbs (l : List (List UInt8)) (at_ : Nat) (h : at_ < l.length) : climbL nodeD leafD (l.getD at_ []) at_ l.length (pathL nodeD leafD emptyD l at_) = tree nodeD leafD emptyD l := by
  fun_induction pathL nodeD leafD emptyD l at_ with
  | case1 l at_ h1 =>
    have : at_ = 0 := by omega
    subst this
    unfold climbL
    rw [dirs, dif_pos h1, tree_one nodeD leafD emptyD (by omega)]; rfl
  | case2 l at_ h1 h2 ih =>
    have hl := half_lt (n := l.length) (by omega)
    have hlen := path_len nodeD leafD emptyD (l.take (half l.length)) at_
    have ht : (l.take (half l.length)).length = half l.length := by simp; omega
    rw [ht] at hlen ih
    have ih := ih h2
    unfold climbL at ih ⊢
    rw [dirs, dif_neg h1, if_pos h2, List.reverse_cons, List.zip_append (by simpa using hlen), List.foldl_append]
    rw [tree_eq nodeD leafD emptyD (l := l) (by omega), ← ih]
    rw [show (l.take (half l.length)).getD at_ [] = l.getD at_ [] by simp [List.getD_eq_getElem?_getD, h2]]
    rfl
  | case3 l at_ h1 h2 ih =>
    have hl := half_lt (n := l.length) (by omega)
    have hlen := path_len nodeD leafD emptyD (l.drop (half l.length)) (at_ - half l.length)
    have ht : (l.drop (half l.length)).length = l.length - half l.length := by simp
    rw [ht] at hlen ih
    have ih := ih (by omega)
    unfold climbL at ih ⊢
    rw [dirs, dif_neg h1, if_neg h2, List.reverse_cons, List.zip_append (by simpa using hlen), List.foldl_append]
    rw [tree_eq nodeD leafD emptyD (l := l) (by omega), ← ih]
    rw [show (l.drop (half l.length)).getD (at_ - half l.length) [] = l.getD at_ [] by simp [List.getD_eq_getElem?_getD, List.getElem?_drop]; rw [Nat.add_sub_cancel' (by omega)]]
    rfl
/-- the reference's climb -/
theorem climb_first {d : List UInt8} {at_ n : Nat} {p : List (List UInt8)} {x : List UInt8} (h : 2 ≤ n) (h2 : at_ < half n) (hp : (p ++ [x]).length = (dirs at_ n).length) :
    climbL nodeD leafD d at_ n (p ++ [x]) = nodeD (climbL nodeD leafD d at_ (half n) p) x := by
  unfold climbL
  rw [dirs, dif_neg (by omega), if_pos h2] at hp ⊢
  rw [List.reverse_cons, List.zip_append (by simpa using hp), List.foldl_append]
  rfl
theorem climb_second {d : List UInt8} {at_ n : Nat} {p : List (List UInt8)} {x : List UInt8} (h : 2 ≤ n) (h2 : ¬ at_ < half n) (hp : (p ++ [x]).length = (dirs at_ n).length) :
    climbL nodeD leafD d at_ n (p ++ [x]) = nodeD x (climbL nodeD leafD d (at_ - half n) (n - half n) p) := by
  unfold climbL
  rw [dirs, dif_neg (by omega), if_neg h2] at hp ⊢
  rw [List.reverse_cons, List.zip_append (by simpa using hp), List.foldl_append]
  rfl
theorem climb_one {d : List UInt8} {at_ n : Nat} (_h : n ≤ 1) : climbL nodeD leafD d at_ n [] = leafD d := rfl
theorem dirs_one {at_ n : Nat} (h : n ≤ 1) : dirs at_ n = [] := by rw [dirs, dif_pos h]
theorem dirs_first {at_ n : Nat} (h : 2 ≤ n) (h2 : at_ < half n) : dirs at_ n = true :: dirs at_ (half n) := by rw [dirs, dif_neg (by omega), if_pos h2]
theorem dirs_second {at_ n : Nat} (h : 2 ≤ n) (h2 : ¬ at_ < half n) : dirs at_ n = false :: dirs (at_ - half n) (n - half n) := by rw [dirs, dif_neg (by omega), if_neg h2]
theorem path_one {l : List (List UInt8)} {at_ : Nat} (h : l.length ≤ 1) : pathL nodeD leafD emptyD l at_ = [] := by rw [pathL, dif_pos h]
theorem path_first {l : List (List UInt8)} {at_ : Nat} (h : 2 ≤ l.length) (h2 : at_ < half l.length) : pathL nodeD leafD emptyD l at_ = pathL nodeD leafD emptyD (l.take (half l.length)) at_ ++ [tree nodeD leafD emptyD (l.drop (half l.length))] := by rw [pathL, dif_neg (by omega), if_pos h2]
theorem path_second {l : List (List UInt8)} {at_ : Nat} (h : 2 ≤ l.length) (h2 : ¬ at_ < half l.length) : pathL nodeD leafD emptyD l at_ = pathL nodeD leafD emptyD (l.drop (half l.length)) (at_ - half l.length) ++ [tree nodeD leafD emptyD (l.take (half l.length))] := by rw [pathL, dif_neg (by omega), if_neg h2]
/-- the number of steps is at most the logarithm -/
theorem dirs_len : ∀ (k at_ n : Nat), n ≤ 2 ^ k → (dirs at_ n).length ≤ k := by
  intro k
  induction k with
  | zero => intro at_ n h; rw [dirs_one (by simpa using h)]; simp
  | succ k ih =>
    intro at_ n h
    by_cases h1 : n ≤ 1
    · rw [dirs_one h1]; simp
    · have hl := half_lt (n := n) (by omega)
      have hg := half_ge (n := n) (by omega)
      have hh : half n ≤ 2 ^ k := by
        unfold half
        apply Nat.pow_le_pow_right (by omega)
        have : (n - 1).log2 < k + 1 := (Nat.log2_lt (by omega)).2 (by omega)
        omega
      by_cases h2 : at_ < half n
      · rw [dirs_first (by omega) h2]; have := ih at_ (half n) hh; simp; omega
      · rw [dirs_second (by omega) h2]; have := ih (at_ - half n) (n - half n) (by omega); simp; omega
/-- a power of 2 and one more -/
theorem half_pow_succ (j : Nat) : half (2 ^ j + 1) = 2 ^ j := by unfold half; rw [Nat.add_sub_cancel, Nat.log2_two_pow]


end Go.Proofs.YtgodliookpgliaaDoor
