/- Plain laws of paths and climbs. -/
import Derived.Test.YtgodliookpgliaaDoorDigJ
import Derived.Test.YtgodliookpgliaaDoorWk9
namespace Go.Proofs.YtgodliookpgliaaDoor
open Go.RowKit

variable {S S' : Nat → Prop}

theorem pathD_one' {l : List (List UInt8)} {a : Nat} (h : l.length ≤ 1) : pathD l a = [] := by rw [pathD, path_one _ _ _ h]
theorem pathD_first' {l : List (List UInt8)} {a : Nat} (h : 2 ≤ l.length) (h2 : a < half l.length) : pathD l a = pathD (l.take (half l.length)) a ++ [treeD (l.drop (half l.length))] := by rw [pathD, path_first _ _ _ h h2]; rfl
theorem pathD_second' {l : List (List UInt8)} {a : Nat} (h : 2 ≤ l.length) (h2 : ¬ a < half l.length) : pathD l a = pathD (l.drop (half l.length)) (a - half l.length) ++ [treeD (l.take (half l.length))] := by rw [pathD, path_second _ _ _ h h2]; rfl
theorem dirs_le : ∀ (N a n : Nat), n ≤ N → (dirs a n).length ≤ n := by
  intro N
  induction N with
  | zero => intro a n h; rw [dirs_one (by omega)]; simp
  | succ N ih =>
    intro a n h
    by_cases h1 : n ≤ 1
    · rw [dirs_one h1]; simp
    · have hl := half_lt (n := n) (by omega)
      have hp := half_pos n
      by_cases h2 : a < half n
      · rw [dirs_first (by omega) h2]; have := ih a (half n) (by omega); simp; omega
      · rw [dirs_second (by omega) h2]; have := ih (a - half n) (n - half n) (by omega); simp; omega
theorem pathD_len (l : List (List UInt8)) (a : Nat) : (pathD l a).length ≤ l.length := by
  rw [pathD, path_len]; exact dirs_le _ _ _ (Nat.le_refl _)
theorem pathD_32 : ∀ (N : Nat) (l : List (List UInt8)) (a : Nat), l.length ≤ N → All32 (pathD l a) := by
  intro N
  induction N with
  | zero => intro l a h; rw [pathD_one' (by omega)]; exact All32.nil
  | succ N ih =>
    intro l a h
    by_cases h1 : l.length ≤ 1
    · rw [pathD_one' h1]; exact All32.nil
    · have hl := half_lt (n := l.length) (by omega)
      have hp := half_pos l.length
      by_cases h2 : a < half l.length
      · rw [pathD_first' (by omega) h2]; exact (ih _ _ (by rw [List.length_take]; omega)).app (All32.sing (treeD_len _))
      · rw [pathD_second' (by omega) h2]; exact (ih _ _ (by rw [List.length_drop]; omega)).app (All32.sing (treeD_len _))

theorem climb_one' {d : List UInt8} {a n : Nat} {p : List (List UInt8)} (h : n ≤ 1) : climbL nodeD leafD d a n p = leafD d := by rw [climbL, dirs_one h]; simp
theorem climbL_len (d : List UInt8) (a n : Nat) (p : List (List UInt8)) : (climbL nodeD leafD d a n p).length = 32 := by
  unfold climbL
  generalize p.zip (dirs a n).reverse = l
  have : ∀ (l : List (List UInt8 × Bool)) (x : List UInt8), x.length = 32 → (l.foldl (step1 nodeD) x).length = 32 := by
    intro l
    induction l with
    | nil => intro x h; exact h
    | cons q l ih => intro x h; exact ih _ (by unfold step1; split <;> exact nodeD_len _ _)
  exact this l _ (leafD_len d)
end Go.Proofs.YtgodliookpgliaaDoor
