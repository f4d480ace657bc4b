/- Several texts in one: JrC, JrD, JrJ, DiskA, DiskB, DiskC, DiskD, DiskE, DiskF, JrO, DiskG, DiskH, DiskI, DiskJ, DiskK, DiskN, DiskO. -/
import Derived.Test.YtfmhnplkpohogaaBvgB
import Derived.Test.YtfmhnplkpohogaaProg
import Derived.Test.YtfmhnplkpohogaaBvgA
import Derived.Handy
import Derived.WalkSpells
import Derived.Deep.RegionHeld3
import Derived.Deep.RegionLaw
import Derived.Deep.DeepCutAuto
import Derived.Test.YtfmhnplkpohogaaShelf
import Derived.Deep.OwnRows
import Derived.RangeFuncNested
import Derived.RangeFuncBound
import Derived.RangeFuncCalls
import Derived.RangeFuncLeaves
import Derived.Shelf.Abstract
import Derived.Shelf.RegionOpen
import Derived.OwnWalkIn
import Derived.TacticsInMore
import Derived.LoopNIn
import Derived.LoopIn
import Derived.Deep.QuietTactic
import Derived.BigQuiet
set_option linter.unusedVariables false
set_option linter.unusedSimpArgs false
namespace Go.Proofs.Ytfmhnplkpohogaa

theorem encL_take {g k : Nat} {q : UInt8} {b : List UInt8} : (encL g k q b).take 4 = numL g 4 := by
  rw [encL, List.append_assoc, List.append_assoc, List.take_append_of_le_length (by rw [numL_len]; omega), List.take_of_length_le (by rw [numL_len]; omega)]
theorem encL_drop {g k : Nat} {q : UInt8} {b : List UInt8} (h : b.length ≤ 112) : (encL g k q b).drop 124 = numL g 4 := by
  rw [encL, List.drop_append, List.drop_eq_nil_of_le (by simp [numL_len, bodyL_len h]), List.nil_append]
  simp [numL_len, bodyL_len h]
theorem encL_sum {g k : Nat} {q : UInt8} {b : List UInt8} : ((encL g k q b).drop 4).take 4 = numL (crc (bodyL k q b)).toNat 4 := by
  rw [encL, List.append_assoc, List.append_assoc, List.drop_append, List.drop_eq_nil_of_le (by rw [numL_len]; omega), List.nil_append, numL_len, Nat.sub_self, List.drop_zero, List.take_append_of_le_length (by rw [numL_len]; omega), List.take_of_length_le (by rw [numL_len]; omega)]
theorem encL_body {g k : Nat} {q : UInt8} {b : List UInt8} (h : b.length ≤ 112) : ((encL g k q b).drop 8).take 116 = bodyL k q b := by
  rw [encL, List.append_assoc, List.drop_append, List.drop_eq_nil_of_le (by simp [numL_len]), List.nil_append]
  simp only [List.length_append, numL_len, Nat.reduceAdd, Nat.sub_self, List.drop_zero]
  rw [List.take_append_of_le_length (by rw [bodyL_len h]; omega), List.take_of_length_le (by rw [bodyL_len h]; omega)]
theorem getD_drop8 (l : List UInt8) (i j : Nat) : l.getD (i + j) 0 = (l.drop i).getD j 0 := by simp [List.getD_eq_getElem?_getD, List.getElem?_drop]
theorem encL_at {g k : Nat} {q : UInt8} {b : List UInt8} (h : b.length ≤ 112) {i : Nat} (hi : i < 116) : (encL g k q b).getD (8 + i) 0 = (bodyL k q b).getD i 0 := by
  rw [getD_drop8, ← encL_body (g := g) (k := k) (q := q) h, List.getD_eq_getElem?_getD, List.getD_eq_getElem?_getD, List.getElem?_take, if_pos hi]
theorem encL_kd {g k : Nat} {q : UInt8} {b : List UInt8} (h : b.length ≤ 112) : kd (encL g k q b) = q := by
  rw [kd, show 10 = 8 + 2 from rfl, encL_at h (by omega), bodyL]
  simp [numL]
theorem encL_cnt {g k : Nat} {q : UInt8} {b : List UInt8} (h : b.length ≤ 112) : cnt (encL g k q b) = b.length := by
  rw [cnt, show 11 = 8 + 3 from rfl, encL_at h (by omega), bodyL]
  simp [numL]
  omega
theorem encL_data {g k : Nat} {q : UInt8} {b : List UInt8} (h : b.length ≤ 112) : dataL (encL g k q b) = b := by
  rw [dataL, encL_cnt h]
  have e : ((encL g k q b).drop 12).take b.length = ((((encL g k q b).drop 8).take 116).drop 4).take b.length := by
    rw [List.drop_take, List.drop_drop, List.take_take, Nat.min_eq_left (by omega)]
  rw [e, encL_body h, bodyL]
  simp [numL]
theorem encL_gen {g k : Nat} {q : UInt8} {b : List UInt8} (h : g < 4294967296) : gen (encL g k q b) = g := by
  rw [gen, encL_take, num_numL]; omega
theorem encL_gen2 {g k : Nat} {q : UInt8} {b : List UInt8} (h : g < 4294967296) (hb : b.length ≤ 112) : gen2 (encL g k q b) = g := by
  rw [gen2, encL_drop hb, num_numL]; omega
theorem gen_lt {s : List UInt8} : gen s < 4294967296 := by
  have h := num_lt (s.take 4)
  have h2 : 256 ^ (s.take 4).length ≤ 256 ^ 4 := Nat.pow_le_pow_right (by omega) (by rw [List.length_take]; omega)
  exact Nat.lt_of_lt_of_le h h2
theorem encL_good {g k : Nat} {q : UInt8} {b : List UInt8} (h : kindOk b.length q) (h0 : 0 < g) (hg : g < 4294967296) : goodS (encL g k q b) k = true := by
  unfold goodS
  have hb := h.1
  rw [encL_kd hb, encL_cnt hb, encL_data hb, encL_gen hg]
  exact decide_eq_true ⟨h, h0, rfl⟩
theorem getD_set_ne' {l : List UInt8} {i j : Nat} {c : UInt8} (h : i ≠ j) : (l.set i c).getD j 0 = l.getD j 0 := by
  simp [List.getD_eq_getElem?_getD, List.getElem?_set_ne h]
theorem getD_take' {l : List UInt8} {i n : Nat} (h : i < n) : (l.take n).getD i 0 = l.getD i 0 := by
  simp [List.getD_eq_getElem?_getD, List.getElem?_take, h]
/-- another byte in one place of a good sector: it is not good -/
theorem changed_bad {s : List UInt8} {k i : Nat} {c : UInt8} (hs : goodS s k = true) (hi : i < 128) (hc : c ≠ s.getD i 0) : goodS (s.set i c) k = false := by
  rw [Bool.eq_false_iff]
  intro ht
  have hl := goodS_len hs
  obtain ⟨t, hte⟩ : ∃ t, t = s.set i c := ⟨_, rfl⟩
  have hti : t.getD i 0 = c := by
    rw [hte, List.getD_eq_getElem?_getD, List.getElem?_set_self (by omega)]; rfl
  have htj : ∀ j, i ≠ j → t.getD j 0 = s.getD j 0 := fun j hj => by rw [hte]; exact getD_set_ne' hj
  rw [← hte] at ht
  have g1 := of_decide_eq_true hs
  have g2 := of_decide_eq_true ht
  have b1 : (dataL s).length ≤ 112 := by rw [data_len hs]; exact g1.1.1
  have b2 : (dataL t).length ≤ 112 := by rw [data_len ht]; exact g2.1.1
  -- the generation stands at the beginning and at the end
  have tw : ∀ {s : List UInt8}, goodS s k = true → ∀ j, j < 4 → s.getD (124 + j) 0 = s.getD j 0 := fun {s} hs j hj => by
    have g := of_decide_eq_true hs
    have b : (dataL s).length ≤ 112 := by rw [data_len hs]; exact g.1.1
    rw [getD_drop8, ← getD_take' (l := s) hj]
    have e1 : s.drop 124 = numL (gen s) 4 := by rw [congrArg (List.drop 124) g.2.2]; exact encL_drop b
    have e2 : s.take 4 = numL (gen s) 4 := by rw [congrArg (List.take 4) g.2.2]; exact encL_take
    rw [e1, e2]
  have n1 : ¬ i < 4 := fun h => hc (by rw [← hti, ← tw ht i h, ← tw hs i h]; exact htj _ (by omega))
  have n2 : ¬ 124 ≤ i := fun h => hc (by
    have e := tw ht (i - 124) (by omega)
    have e' := tw hs (i - 124) (by omega)
    rw [show 124 + (i - 124) = i by omega] at e e'
    rw [← hti, e, e']; exact htj _ (by omega))
  have sm : ∀ {s : List UInt8}, goodS s k = true → (s.drop 4).take 4 = numL (crc ((s.drop 8).take 116)).toNat 4 := fun {s} hs => by
    have g := of_decide_eq_true hs
    have b : (dataL s).length ≤ 112 := by rw [data_len hs]; exact g.1.1
    have e := encL_sum (g := gen s) (k := k) (q := kd s) (b := dataL s)
    rw [← encL_body (g := gen s) (k := k) (q := kd s) b, ← g.2.2] at e
    exact e
  have s1 := sm hs
  have s2 := sm ht
  by_cases h8 : i < 8
  · have e : (t.drop 8).take 116 = (s.drop 8).take 116 := by rw [hte, List.drop_set_of_lt (by omega)]
    rw [e, ← s1] at s2
    have := congrArg (fun l => List.getD l (i - 4) 0) s2
    rw [getD_take' (by omega), getD_take' (by omega), ← getD_drop8, ← getD_drop8, show 4 + (i - 4) = i by omega, hti] at this
    exact hc this
  · have e : (t.drop 4).take 4 = (s.drop 4).take 4 := by
      rw [hte, List.drop_set, if_neg (by omega), List.take_set_of_le (by omega)]
    have e2 : (t.drop 8).take 116 = ((s.drop 8).take 116).set (i - 8) c := by
      rw [hte, List.drop_set, if_neg (by omega), List.take_set]
    rw [e, e2, s1] at s2
    have hi' := congrArg num s2
    rw [num_numL, num_numL] at hi'
    have l1 := (crc ((s.drop 8).take 116)).toNat_lt
    have l2 := (crc (((s.drop 8).take 116).set (i - 8) c)).toNat_lt
    have hcr : crc (((s.drop 8).take 116).set (i - 8) c) = crc ((s.drop 8).take 116) := by
      rw [← UInt32.toNat_inj]; omega
    have := crc_set (by rw [List.length_take, List.length_drop]; omega) hcr
    rw [getD_take' (by omega), ← getD_drop8, show 8 + (i - 8) = i by omega] at this
    exact hc this

/-! the sectors that records lead to -/
theorem succ_b (n : Nat) : (n + 1 == 0) = false := rfl
def kindOf (first last : Bool) : UInt8 := match first, last with | true, true => 3 | true, false => 1 | false, true => 2 | false, false => 0
def pieces (g : Nat) : Nat → Nat → Bool → List UInt8 → List (List UInt8)
  | 0, _, _, _ => []
  | n + 1, k, first, b => encL g k (kindOf first (n == 0)) (b.take 112) :: pieces g n (k + 1) false (b.drop 112)
def allSecs (g : Nat) : Nat → List (List UInt8) → List (List UInt8)
  | _, [] => []
  | k, b :: rs => pieces g (secs b.length) k true b ++ allSecs g (k + secs b.length) rs
theorem pieces_len (g : Nat) : ∀ (n k : Nat) (first : Bool) (b : List UInt8), (pieces g n k first b).length = n
  | 0, _, _, _ => rfl
  | n + 1, k, first, b => by rw [pieces, List.length_cons, pieces_len g n]
theorem allSecs_len (g : Nat) : ∀ (k : Nat) (rs : List (List UInt8)), (allSecs g k rs).length = usedL rs
  | _, [] => rfl
  | k, b :: rs => by rw [allSecs, List.length_append, pieces_len, allSecs_len g _ rs, usedL_cons]
theorem pieces_128 (g : Nat) : ∀ (n k : Nat) (first : Bool) (b : List UInt8), ∀ s ∈ pieces g n k first b, s.length = 128
  | 0, _, _, _, s, h => by cases h
  | n + 1, k, first, b, s, h => by
    rcases List.mem_cons.1 h with rfl | h
    · exact encL_len (by rw [List.length_take]; omega)
    · exact pieces_128 g n _ _ _ s h
theorem allSecs_128 (g : Nat) : ∀ (k : Nat) (rs : List (List UInt8)), ∀ s ∈ allSecs g k rs, s.length = 128
  | _, [], s, h => by cases h
  | k, b :: rs, s, h => by
    rcases List.mem_append.1 h with h | h
    · exact pieces_128 g _ _ _ _ s h
    · exact allSecs_128 g _ rs s h
theorem pieces_gen {g : Nat} (hg : g < 4294967296) : ∀ (n k : Nat) (first : Bool) (b : List UInt8), ∀ s ∈ pieces g n k first b, gen s = g ∧ gen2 s = g
  | 0, _, _, _, s, h => by cases h
  | n + 1, k, first, b, s, h => by
    rcases List.mem_cons.1 h with rfl | h
    · exact ⟨encL_gen hg, encL_gen2 hg (by rw [List.length_take]; omega)⟩
    · exact pieces_gen hg n _ _ _ s h
theorem allSecs_gen {g : Nat} (hg : g < 4294967296) : ∀ (k : Nat) (rs : List (List UInt8)), ∀ s ∈ allSecs g k rs, gen s = g ∧ gen2 s = g
  | _, [], s, h => by cases h
  | k, b :: rs, s, h => by
    rcases List.mem_append.1 h with h | h
    · exact pieces_gen hg _ _ _ _ s h
    · exact allSecs_gen hg _ rs s h
theorem kind_ok {n : Nat} {first : Bool} {b : List UInt8} (hn : n + 1 = secs b.length) (hb : first = false → b ≠ []) : kindOk (b.take 112).length (kindOf first (n == 0)) := by
  have hp : first = false → 1 ≤ b.length := fun h => by
    rcases b with _ | ⟨x, y⟩
    · exact absurd rfl (hb h)
    · simp
  rw [List.length_take]
  unfold secs at hn
  rcases n with _ | n
  · cases first
    · have := hp rfl; simp only [kindOf, kindOk]; refine ⟨by omega, by decide, fun h => absurd h (by decide), fun _ => by omega⟩
    · simp only [kindOf, kindOk]; exact ⟨by omega, by decide, fun h => absurd h (by decide), fun h => absurd h (by decide)⟩
  · rw [succ_b]
    cases first
    · simp only [kindOf, kindOk]; exact ⟨by omega, by decide, fun _ => by omega, fun _ => by omega⟩
    · simp only [kindOf, kindOk]; exact ⟨by omega, by decide, fun _ => by omega, fun h => absurd h (by decide)⟩
theorem recFrom_pieces {g : Nat} (h0 : 0 < g) (hg : g < 4294967296) : ∀ (n k : Nat) (first : Bool) (b : List UInt8) (r : List (List UInt8)), n + 1 = secs b.length → (first = false → b ≠ []) → recFrom g (pieces g (n + 1) k first b ++ r) k first = some (b, n + 1)
  | 0, k, first, b, r, hn, hb => by
    have hk := kind_ok hn hb
    have hl : (b.take 112).length ≤ 112 := by rw [List.length_take]; omega
    have h1 : b.length ≤ 112 := by unfold secs at hn; omega
    rw [pieces, List.cons_append, recFrom, if_pos ⟨encL_good hk h0 hg, by rw [encL_kd hl]; cases first <;> rfl, encL_gen hg⟩, if_pos (by rw [encL_kd hl]; cases first <;> decide), encL_data hl, List.take_of_length_le h1]
  | n + 1, k, first, b, r, hn, hb => by
    have hk := kind_ok hn hb
    have hl : (b.take 112).length ≤ 112 := by rw [List.length_take]; omega
    have h1 : 112 < b.length := by unfold secs at hn; omega
    have ih := recFrom_pieces h0 hg n (k + 1) false (b.drop 112) r (by rw [List.length_drop]; have := secs_gt h1; omega) (fun _ he => by have := congrArg List.length he; rw [List.length_drop] at this; simp at this; omega)
    rw [pieces, List.cons_append, recFrom, if_pos ⟨encL_good hk h0 hg, by rw [encL_kd hl]; cases first <;> rfl, encL_gen hg⟩, if_neg (by rw [encL_kd hl, succ_b]; cases first <;> decide), ih, encL_data hl]
    simp only [List.take_append_drop]
theorem pieces_head {g : Nat} (hg : g < 4294967296) {n k : Nat} {first : Bool} {b : List UInt8} (h : 0 < n) (r : List (List UInt8)) : gen ((pieces g n k first b ++ r).headD []) = g := by
  obtain ⟨m, rfl⟩ : ∃ m, n = m + 1 := ⟨n - 1, by omega⟩
  exact encL_gen hg
/-- what was written is read -/
theorem reads_all {g : Nat} (h0 : 0 < g) (hg : g < 4294967296) : ∀ (rs : List (List UInt8)) (k last : Nat), last ≤ g → Reads (allSecs g k rs) k last rs (if rs = [] then last else g)
  | [], k, last, _ => .nil _ _
  | b :: rs, k, last, hl => by
    have hp := secs_pos b.length
    have e := recFrom_pieces h0 hg (secs b.length - 1) k true b [] (by omega) (fun h => by cases h)
    rw [show secs b.length - 1 + 1 = secs b.length by omega, List.append_nil] at e
    have hh := pieces_head hg (k := k) (first := true) (b := b) (show 0 < secs b.length by omega) []
    rw [List.append_nil] at hh
    rw [if_neg (by simp)]
    have ih := reads_all h0 hg rs (k + secs b.length) g (Nat.le_refl _)
    have ih' : Reads (allSecs g (k + secs b.length) rs) (k + secs b.length) g rs g := by
      split at ih <;> exact ih
    exact .cons (by rw [hh, pieces_len]; exact e) (by rw [hh]; omega) (by rw [hh, pieces_len]; exact ih')
theorem recFrom_stop {g : Nat} {t : List UInt8} {r : List (List UInt8)} : ∀ {a : List (List UInt8)} {n : Nat} {first : Bool}, (∀ s ∈ a, (kd s).toNat < 2) → goodS t (n + a.length) = false → recFrom g (a ++ t :: r) n first = none
  | [], n, first, _, h => by
    rw [List.nil_append, recFrom, if_neg]
    rw [List.length_nil, Nat.add_zero] at h
    rw [h]; simp
  | s :: a, n, first, hk, h => by
    rw [List.cons_append, recFrom]
    split
    · rw [if_neg (by have := hk s (by simp); omega), recFrom_stop (fun x hx => hk x (by simp [hx])) (by rw [List.length_cons] at h; rw [← h]; congr 1; omega)]
    · rfl
theorem pieces_kd {g : Nat} : ∀ {n k : Nat} {first : Bool} {b : List UInt8} {j : Nat}, j < n → ∀ s ∈ (pieces g n k first b).take j, (kd s).toNat < 2
  | 0, _, _, _, _, h => absurd h (by omega)
  | n + 1, k, first, b, 0, h => by simp
  | n + 1, k, first, b, j + 1, h => by
    intro s hs
    rw [pieces, List.take_succ_cons] at hs
    rcases List.mem_cons.1 hs with rfl | hs
    · rw [encL_kd (by rw [List.length_take]; omega)]
      obtain ⟨m, rfl⟩ : ∃ m, n = m + 1 := ⟨n - 1, by omega⟩
      rw [succ_b]
      cases first <;> decide
    · exact pieces_kd (by omega) s hs
/-- how many records end in the first k sectors -/
def ended : Nat → List (List UInt8) → Nat
  | _, [] => 0
  | k, b :: rs => if secs b.length ≤ k then ended (k - secs b.length) rs + 1 else 0
/-- of what was written, up to a sector that is not good, the records before it are read -/
theorem recs_bad {g : Nat} (h0 : 0 < g) (hg : g < 4294967296) {t : List UInt8} {r : List (List UInt8)} : ∀ (rs : List (List UInt8)) (n last k : Nat), last ≤ g → k < usedL rs → goodS t (n + k) = false → recsAt ((allSecs g n rs).take k ++ t :: r) n last = rs.take (ended k rs)
  | [], n, last, k, _, hk, _ => by simp [usedL] at hk
  | b :: rs, n, last, k, hl, hk, ht => by
    have hp := secs_pos b.length
    have pl := pieces_len g (secs b.length) n true b
    rw [usedL_cons] at hk
    by_cases hc : secs b.length ≤ k
    · have e := recFrom_pieces h0 hg (secs b.length - 1) n true b [] (by omega) (fun h => by cases h)
      rw [show secs b.length - 1 + 1 = secs b.length by omega, List.append_nil] at e
      have hh := pieces_head hg (k := n) (first := true) (b := b) (show 0 < secs b.length by omega)
      have ih := recs_bad h0 hg (t := t) (r := r) rs (n + secs b.length) g (k - secs b.length) (Nat.le_refl _) (by omega) (by rw [← ht]; congr 1; omega)
      rw [ended, if_pos hc, List.take_succ_cons, ← ih, allSecs, List.take_append, pl, List.take_of_length_le (by omega), List.append_assoc]
      rw [recsAt_some (b := b) (m := secs b.length) (by rw [hh]; exact recFrom_app _ e) (by rw [hh]; omega), hh, List.drop_append, pl, Nat.sub_self, List.drop_zero, List.drop_eq_nil_of_le (by omega), List.nil_append]
    · rw [ended, if_neg hc, List.take_zero, allSecs, List.take_append, pl, show k - secs b.length = 0 by omega, List.take_zero, List.append_nil]
      exact recsAt_none (recFrom_stop (pieces_kd (by omega)) (by rw [List.length_take, pl, Nat.min_eq_left (by omega)]; exact ht))

end Go.Proofs.Ytfmhnplkpohogaa

namespace Go.Proofs.Ytfmhnplkpohogaa

theorem num_lt4 {l : List UInt8} (h : l.length ≤ 4) : num l < 4294967296 :=
  Nat.lt_of_lt_of_le (num_lt l) (Nat.le_trans (Nat.pow_le_pow_right (by omega) h) (by decide))
theorem take_snoc {l : List UInt8} {k : Nat} (h : k < l.length) : l.take k ++ [l.getD k 0] = l.take (k + 1) := by
  rw [List.take_add_one, List.getD_eq_getElem?_getD, List.getElem?_eq_getElem h]; rfl
/-- what put makes of bytes: after k of the m bytes -/
def putTo (l : List UInt8) (o m n : Nat) : Nat → List UInt8
  | 0 => l
  | k + 1 => (putTo l o m n k).set (o + (m - 1 - k)) (UInt8.ofNat (n / 2 ^ (8 * k)))
def putL (l : List UInt8) (o m n : Nat) : List UInt8 := putTo l o m n m
theorem putTo_len (l : List UInt8) (o m n : Nat) : ∀ k, (putTo l o m n k).length = l.length
  | 0 => rfl
  | k + 1 => by rw [putTo, List.length_set, putTo_len l o m n k]
theorem putTo_getD (l : List UInt8) (o m n : Nat) (hl : o + m ≤ l.length) : ∀ k, k ≤ m → ∀ j, (putTo l o m n k).getD j 0 = if o + m - k ≤ j ∧ j < o + m then UInt8.ofNat (n / 256 ^ (o + m - 1 - j)) else l.getD j 0
  | 0, _, j => by rw [putTo, if_neg (by omega)]
  | k + 1, hk, j => by
    rw [putTo, List.getD_eq_getElem?_getD, List.getElem?_set, putTo_len]
    by_cases hj : o + (m - 1 - k) = j
    · rw [if_pos hj, if_pos (by omega), if_pos (by omega), show o + m - 1 - j = k by omega, Nat.pow_mul]; rfl
    · rw [if_neg hj, ← List.getD_eq_getElem?_getD, putTo_getD l o m n hl k (by omega) j]
      by_cases h2 : o + m - k ≤ j ∧ j < o + m
      · rw [if_pos h2, if_pos (by omega)]
      · rw [if_neg h2, if_neg (by omega)]
theorem ext_getD {a b : List UInt8} (hl : a.length = b.length) (h : ∀ j, j < a.length → a.getD j 0 = b.getD j 0) : a = b := by
  refine List.ext_getElem hl fun j h1 h2 => ?_
  have := h j h1
  rwa [List.getD_eq_getElem?_getD, List.getD_eq_getElem?_getD, List.getElem?_eq_getElem h1, List.getElem?_eq_getElem h2] at this
theorem putL_app (a b c : List UInt8) (n : Nat) : putL (a ++ b ++ c) a.length b.length n = a ++ numL n b.length ++ c := by
  refine ext_getD (by rw [putL, putTo_len]; simp [numL_len]) fun j hj => ?_
  rw [putL, putTo_len] at hj
  rw [putL, putTo_getD _ _ _ _ (by simp) _ (Nat.le_refl _)]
  by_cases h : a.length + b.length - b.length ≤ j ∧ j < a.length + b.length
  · rw [if_pos h]
    have e := numL_getD n b.length (a.length + b.length - 1 - j) (by omega)
    rw [show b.length - 1 - (a.length + b.length - 1 - j) = j - a.length by omega] at e
    rw [← e, List.getD_eq_getElem?_getD, List.getD_eq_getElem?_getD, List.append_assoc, List.getElem?_append_right (by omega), List.getElem?_append_left (by rw [numL_len]; omega)]
  · rw [if_neg h]
    simp only [List.getD_eq_getElem?_getD, List.append_assoc]
    by_cases h2 : j < a.length
    · rw [List.getElem?_append_left h2, List.getElem?_append_left h2]
    · rw [List.getElem?_append_right (by omega), List.getElem?_append_right (by omega), List.getElem?_append_right (by omega), List.getElem?_append_right (by rw [numL_len]; omega), numL_len]
theorem putL_len (l : List UInt8) (o m n : Nat) : (putL l o m n).length = l.length := putTo_len _ _ _ _ _
/-- the sector that encode builds step by step -/
theorem enc_eq {g k : Nat} {q : UInt8} {b : List UInt8} (hb : b.length ≤ 112) {s1 s2 s3 s4 s5 s6 s7 : List UInt8} (e1 : s1 = putL (List.replicate 128 0) 0 4 g) (e2 : s2 = putL s1 8 2 k) (e3 : s3 = s2.set 10 q) (e4 : s4 = s3.set 11 (UInt8.ofNat b.length)) (e5 : s5 = s4.take 12 ++ b ++ s4.drop (12 + b.length)) (e6 : s6 = putL s5 124 4 g) (e7 : s7 = putL s6 4 4 (crc ((s6.drop 8).take 116)).toNat) : s7 = encL g k q b := by
  have h1 : s1 = numL g 4 ++ List.replicate 4 0 ++ ([0, 0] ++ [0, 0] ++ (List.replicate 112 0 ++ List.replicate 4 0)) := by
    rw [e1, show List.replicate 128 (0 : UInt8) = [] ++ List.replicate 4 0 ++ (List.replicate 4 0 ++ ([0, 0] ++ [0, 0] ++ (List.replicate 112 0 ++ List.replicate 4 0))) from rfl]
    have := putL_app [] (List.replicate 4 0) (List.replicate 4 0 ++ ([0, 0] ++ [0, 0] ++ (List.replicate 112 0 ++ List.replicate 4 0))) g
    rw [List.append_assoc (numL g 4)]
    simpa using this
  have h2 : s2 = (numL g 4 ++ List.replicate 4 0) ++ numL k 2 ++ ([0, 0] ++ (List.replicate 112 0 ++ List.replicate 4 0)) := by
    have := putL_app (numL g 4 ++ List.replicate 4 0) [0, 0] ([0, 0] ++ (List.replicate 112 0 ++ List.replicate 4 0)) k
    rw [e2, h1, show numL g 4 ++ List.replicate 4 0 ++ ([0, 0] ++ [0, 0] ++ (List.replicate 112 0 ++ List.replicate 4 0)) = (numL g 4 ++ List.replicate 4 0) ++ [0, 0] ++ ([0, 0] ++ (List.replicate 112 0 ++ List.replicate 4 0)) by simp only [List.append_assoc]]
    rw [List.length_append, numL_len, List.length_replicate] at this
    exact this
  have hx : ((numL g 4 ++ List.replicate 4 0) ++ numL k 2).length = 10 := by simp [numL_len]
  have h4 : s4 = ((numL g 4 ++ List.replicate 4 0) ++ numL k 2 ++ [q, UInt8.ofNat b.length]) ++ (List.replicate 112 0 ++ List.replicate 4 0) := by
    rw [e4, e3, h2, List.set_append_right _ _ (by rw [hx]; omega), hx, List.set_append_right _ _ (by rw [hx]; omega), hx, List.append_assoc _ [q, _]]
    rfl
  have hy : ((numL g 4 ++ List.replicate 4 0) ++ numL k 2 ++ [q, UInt8.ofNat b.length]).length = 12 := by rw [List.length_append, hx]; rfl
  have h5 : s5 = ((numL g 4 ++ List.replicate 4 0) ++ bodyL k q b) ++ List.replicate 4 0 := by
    rw [e5, h4, List.take_left' hy, List.drop_append, hy, List.drop_eq_nil_of_le (by rw [hy]; omega), List.nil_append, show 12 + b.length - 12 = b.length by omega, List.drop_append, List.drop_replicate, List.length_replicate, show b.length - 112 = 0 by omega, List.drop_zero, bodyL]
    simp only [List.append_assoc]
  have hz : ((numL g 4 ++ List.replicate 4 0) ++ bodyL k q b).length = 124 := by simp [numL_len, bodyL_len hb]
  have h6 : s6 = numL g 4 ++ List.replicate 4 0 ++ (bodyL k q b ++ numL g 4) := by
    have := putL_app ((numL g 4 ++ List.replicate 4 0) ++ bodyL k q b) (List.replicate 4 0) [] g
    rw [List.append_nil, List.append_nil, hz, List.length_replicate] at this
    rw [e6, h5, this]; simp only [List.append_assoc]
  have hc : (s6.drop 8).take 116 = bodyL k q b := by
    rw [h6, List.drop_append, List.drop_eq_nil_of_le (by simp [numL_len]), List.nil_append]
    simp only [List.length_append, numL_len, List.length_replicate, Nat.reduceAdd, Nat.sub_self, List.drop_zero]
    rw [List.take_append_of_le_length (by rw [bodyL_len hb]; omega), List.take_of_length_le (by rw [bodyL_len hb]; omega)]
  have h7 := putL_app (numL g 4) (List.replicate 4 0) (bodyL k q b ++ numL g 4) (crc (bodyL k q b)).toNat
  rw [numL_len, List.length_replicate] at h7
  rw [e7, hc, h6, h7, encL]; simp only [List.append_assoc]
theorem and2_fact (q : UInt8) : (q &&& 2).toNat = 0 ↔ q.toNat % 4 < 2 := by
  rw [UInt8.toNat_and]
  have h : ∀ x, x < 256 → (x &&& 2 = 0 ↔ x % 4 < 2) := by decide +kernel
  exact h _ q.toNat_lt
theorem and1_fact (q : UInt8) : (q &&& 1).toNat = 0 ↔ q.toNat % 2 = 0 := by
  rw [UInt8.toNat_and]
  have h : ∀ x, x < 256 → (x &&& 1 = 0 ↔ x % 2 = 0) := by decide +kernel
  exact h _ q.toNat_lt
theorem goodS_bad {s : List UInt8} {k : Nat} (h : ¬ kindOk (cnt s) (kd s)) : goodS s k = false := decide_eq_false fun e => h e.1
theorem goodS_zero {s : List UInt8} {k : Nat} (h : gen s = 0) : goodS s k = false := decide_eq_false fun e => by omega
theorem goodS_eq {s : List UInt8} {k : Nat} (h : kindOk (cnt s) (kd s)) (h2 : 0 < gen s) : goodS s k = decide (s = encL (gen s) k (kd s) (dataL s)) := by
  unfold goodS; exact decide_eq_decide.2 ⟨fun e => e.2.2, fun e => ⟨h, h2, e⟩⟩

end Go.Proofs.Ytfmhnplkpohogaa

namespace Go.Proofs.Ytfmhnplkpohogaa

def recAt (L : List (List UInt8)) (p : Nat) : Option (List UInt8 × Nat) := recFrom (gen (L.getD p [])) (L.drop p) p true
theorem headD_drop (L : List (List UInt8)) (p : Nat) : (L.drop p).headD [] = L.getD p [] := by
  rw [List.headD_eq_head?_getD, List.head?_drop, List.getD_eq_getElem?_getD]
theorem recAt_eq (L : List (List UInt8)) (p : Nat) : recFrom (gen ((L.drop p).headD [])) (L.drop p) p true = recAt L p := by rw [headD_drop]; rfl
/-- where the reading of the record from p on stands: n sectors are read, with the bytes b -/
def Rd (L : List (List UInt8)) (p n : Nat) (b : List UInt8) : Prop :=
  recAt L p = (recFrom (gen (L.getD p [])) (L.drop (p + n)) (p + n) (decide (n = 0))).map fun x => (b ++ x.1, n + x.2)
theorem Rd.start (L : List (List UInt8)) (p : Nat) : Rd L p 0 [] := by
  unfold Rd
  rw [Nat.add_zero]
  have e : ∀ o : Option (List UInt8 × Nat), o = o.map fun x => ([] ++ x.1, 0 + x.2) := fun o => by cases o <;> simp
  exact e _
theorem drop_get {L : List (List UInt8)} {i : Nat} {s : List UInt8} (h : L[i]? = some s) : L.drop i = s :: L.drop (i + 1) := by
  obtain ⟨hi, e⟩ := List.getElem?_eq_some_iff.1 h
  rw [List.drop_eq_getElem_cons hi, e]
theorem getD_get {L : List (List UInt8)} {i : Nat} {s : List UInt8} (h : L[i]? = some s) : L.getD i [] = s := by rw [List.getD_eq_getElem?_getD, h]; rfl
theorem Rd.over {L : List (List UInt8)} {p n : Nat} {b : List UInt8} (h : Rd L p n b) (hn : L.length ≤ p + n) : recAt L p = none := by
  rw [h, List.drop_eq_nil_of_le hn]; rfl
/-- what lets a sector go on with the record -/
def RdOk (L : List (List UInt8)) (p n : Nat) (s : List UInt8) : Prop := goodS s (p + n) = true ∧ ((kd s).toNat % 2 = 1 ↔ n = 0) ∧ gen s = gen (L.getD p [])
theorem rd_iff {L : List (List UInt8)} {p n : Nat} {s : List UInt8} : (goodS s (p + n) = true ∧ decide ((kd s).toNat % 2 = 1) = decide (n = 0) ∧ gen s = gen (L.getD p [])) ↔ RdOk L p n s := by
  unfold RdOk
  rw [decide_eq_decide]
theorem Rd.bad {L : List (List UInt8)} {p n : Nat} {b s : List UInt8} (h : Rd L p n b) (hs : L[p + n]? = some s) (hb : ¬ RdOk L p n s) : recAt L p = none := by
  rw [h, drop_get hs, recFrom, if_neg (by rw [rd_iff]; exact hb)]; rfl
theorem Rd.fin {L : List (List UInt8)} {p n : Nat} {b s : List UInt8} (h : Rd L p n b) (hs : L[p + n]? = some s) (hb : RdOk L p n s) (he : 2 ≤ (kd s).toNat) : recAt L p = some (b ++ dataL s, n + 1) := by
  rw [h, drop_get hs, recFrom, if_pos (rd_iff.2 hb), if_pos he]; rfl
theorem Rd.next {L : List (List UInt8)} {p n : Nat} {b s : List UInt8} (h : Rd L p n b) (hs : L[p + n]? = some s) (hb : RdOk L p n s) (he : ¬ 2 ≤ (kd s).toNat) : Rd L p (n + 1) (b ++ dataL s) := by
  unfold Rd
  rw [h, drop_get hs, recFrom, if_pos (rd_iff.2 hb), if_neg he, show decide (n + 1 = 0) = false from rfl, show p + (n + 1) = p + n + 1 by omega]
  cases recFrom (gen (L.getD p [])) (L.drop (p + n + 1)) (p + n + 1) false with
  | none => rfl
  | some x => simp [List.append_assoc]; omega
theorem gen_at {L : List (List UInt8)} {p : Nat} {s : List UInt8} (h : L[p]? = some s) : gen (L.getD p []) = gen s := by rw [getD_get h]

/-! the records, one by one -/
def Rc (L out : List (List UInt8)) (p last : Nat) : Prop := recsOf L = out ++ recsAt (L.drop p) p last
theorem Rc.start (L : List (List UInt8)) : Rc L [] 0 0 := rfl
theorem Rc.none {L out : List (List UInt8)} {p last : Nat} (h : Rc L out p last) (hr : recAt L p = none) : recsOf L = out := by
  rw [h, recsAt_none (by rw [recAt_eq]; exact hr), List.append_nil]
theorem Rc.old {L out : List (List UInt8)} {p last : Nat} {s : List UInt8} (h : Rc L out p last) (hs : L[p]? = some s) (ho : gen s < last) : recsOf L = out := by
  rw [h, recsAt_old (by rw [headD_drop, getD_get hs]; exact ho), List.append_nil]
theorem Rc.next {L out : List (List UInt8)} {p last : Nat} {s b : List UInt8} {m : Nat} (h : Rc L out p last) (hs : L[p]? = some s) (hr : recAt L p = some (b, m)) (ho : ¬ gen s < last) : Rc L (out ++ [b]) (p + m) (gen s) := by
  unfold Rc
  rw [h, recsAt_some (b := b) (m := m) (by rw [recAt_eq]; exact hr) (by rw [headD_drop, getD_get hs]; exact ho), headD_drop, getD_get hs, List.drop_drop, List.append_assoc]
  rfl

/-! generations -/
def maxG (L : List (List UInt8)) : Nat := L.foldl (fun n s => max (max n (gen s)) (gen2 s)) 0
theorem maxG_app (L : List (List UInt8)) (s : List UInt8) : maxG (L ++ [s]) = max (max (maxG L) (gen s)) (gen2 s) := by simp [maxG, List.foldl_append]
theorem maxG_take {L : List (List UInt8)} {k : Nat} {s : List UInt8} (h : L[k]? = some s) : maxG (L.take (k + 1)) = max (max (maxG (L.take k)) (gen s)) (gen2 s) := by
  rw [List.take_add_one, h]; exact maxG_app _ _
theorem gen2_lt {s : List UInt8} (h : s.length ≤ 128) : gen2 s < 4294967296 := by
  have h1 := num_lt (s.drop 124)
  have h2 : 256 ^ (s.drop 124).length ≤ 256 ^ 4 := Nat.pow_le_pow_right (by omega) (by rw [List.length_drop]; omega)
  exact Nat.lt_of_lt_of_le h1 h2
theorem maxG_lt : ∀ {L : List (List UInt8)}, (∀ x ∈ L, x.length = 128) → maxG L < 4294967296 := fun {L} => snoc_ind (P := fun L => (∀ x ∈ L, x.length = 128) → maxG L < 4294967296) (fun _ => by simp [maxG]) (fun a c ih h => by
  have h1 := ih fun x hx => h x (by simp [hx])
  have h2 := gen_lt (s := c)
  have h3 := gen2_lt (s := c) (by have := h c (by simp); omega)
  rw [maxG_app]; omega) L
theorem maxG_le {G : Nat} : ∀ {L : List (List UInt8)}, (∀ x ∈ L, gen x ≤ G ∧ gen2 x ≤ G) → maxG L ≤ G := fun {L} => snoc_ind (P := fun L => (∀ x ∈ L, gen x ≤ G ∧ gen2 x ≤ G) → maxG L ≤ G) (fun _ => by simp [maxG]) (fun a c ih h => by
  have h1 := ih fun x hx => h x (by simp [hx])
  have h2 := h c (by simp)
  rw [maxG_app]; omega) L
theorem le_maxG : ∀ {L : List (List UInt8)}, ∀ x ∈ L, gen x ≤ maxG L ∧ gen2 x ≤ maxG L := fun {L} => snoc_ind (P := fun L => ∀ x ∈ L, gen x ≤ maxG L ∧ gen2 x ≤ maxG L) (fun x h => by cases h) (fun a c ih x hx => by
  rw [maxG_app]
  rcases List.mem_append.1 hx with hx | hx
  · have := ih x hx; omega
  · rw [List.mem_singleton.1 hx]; omega) L
theorem mod8 (q : UInt8) : (q % 2).toNat = q.toNat % 2 := by rw [UInt8.toNat_mod]; rfl

end Go.Proofs.Ytfmhnplkpohogaa

namespace Go.Proofs.Ytfmhnplkpohogaa
open Go.RowKit

variable {S S' : Nat → Prop}

/-- A write: where, and the bytes. -/
def RWr (S : Nat → Prop) (w : World) (cs : List Value) (x : Int × List UInt8) : Prop := ∃ v, cs = [.int .i64 x.1, v] ∧ RBs S w v x.2
theorem RWr.ext {w w' : World} {cs : List Value} {x : Int × List UInt8} (h : RWr S w cs x) (he : Ext w w') : RWr S w' cs x := by
  obtain ⟨v, hv, h⟩ := h; exact ⟨v, hv, h.ext he⟩
def RWs (S : Nat → Prop) (w : World) (v : Value) (l : List (Int × List UInt8)) : Prop := RSl S 2 (RWr S) w v l
theorem RWs.ext {w w' : World} {v : Value} {l : List (Int × List UInt8)} (h : RWs S w v l) (he : Ext w w') : RWs S w' v l := RSl.ext h he fun _ _ h => h.ext he
theorem RWs.form {w : World} {v : Value} {l : List (Int × List UInt8)} (h : RWs S w v l) : ∃ A cap, v = .slice A l.length cap ∧ l.length ≤ cap ∧ cap ≤ 9223372036854775807 := RSl.form h
theorem RWs.at {w : World} {A : Option Addr} {n cap : Nat} {l : List (Int × List UInt8)} (h : RWs S w (.slice A n cap) l) : n = l.length ∧ (n ≤ cap ∧ cap ≤ 9223372036854775807) ∧
    (0 < n → ∃ b off, A = some ⟨b, off, none⟩ ∧ b < w.heap.size ∧ ∀ i (h : i < l.length), ∃ v, w.cell? ⟨b, off + i * 2, none⟩ = some (.int .i64 l[i].1) ∧ w.cell? ⟨b, off + i * 2 + 1, none⟩ = some v ∧ RBs S w v l[i].2) := by
  obtain ⟨hn, hc, hl⟩ := RSl.elem h
  refine ⟨hn, hc, fun h0 => ?_⟩
  obtain ⟨b, off, ha, hb, hx⟩ := hl h0
  refine ⟨b, off, ha, hb, fun i hi => ?_⟩
  obtain ⟨cs, hk, hcs, v, rfl, hr⟩ := hx i hi
  exact ⟨v, by simpa using hcs 0 _ rfl, by simpa using hcs 1 _ rfl, hr⟩

/-- A disk. -/
structure Dk where
  sectors : List (List UInt8)
  pending : List (Int × List UInt8)
  left : Int
  stopped : Bool

def RDk (S : Nat → Prop) (w : World) (v : Value) (d : Dk) : Prop :=
  ∃ A n c B m e, v = .agg #[.slice A n c, .slice B m e, .int .i64 d.left, .bool d.stopped] ∧ RBss S w (.slice A n c) d.sectors ∧ RWs S w (.slice B m e) d.pending
theorem RDk.ext {w w' : World} {v : Value} {d : Dk} (h : RDk S w v d) (he : Ext w w') : RDk S w' v d := by
  obtain ⟨A, n, c, B, m, e, hv, h1, h2⟩ := h; exact ⟨A, n, c, B, m, e, hv, h1.ext he, h2.ext he⟩

theorem RWr.keep {w w' : World} {cs : List Value} {x : Int × List UInt8} (h : RWr S w cs x) (hz : w.heap.size ≤ w'.heap.size) (hk : ∀ b, S b → b < w.heap.size → w'.heap[b]? = w.heap[b]?) : RWr S w' cs x := by
  obtain ⟨v, hv, h⟩ := h; exact ⟨v, hv, h.keep hz hk⟩
theorem RWr.sub {w : World} {cs : List Value} {x : Int × List UInt8} (h : RWr S w cs x) (hs : ∀ b, S b → S' b) : RWr S' w cs x := by
  obtain ⟨v, hv, h⟩ := h; exact ⟨v, hv, h.sub hs⟩
theorem RWs.keep {w w' : World} {v : Value} {l : List (Int × List UInt8)} (h : RWs S w v l) (hz : w.heap.size ≤ w'.heap.size) (hk : ∀ b, S b → b < w.heap.size → w'.heap[b]? = w.heap[b]?) : RWs S w' v l := RSl.keep h hz hk fun _ _ h => h.keep hz hk
theorem RWs.sub {w : World} {v : Value} {l : List (Int × List UInt8)} (h : RWs S w v l) (hs : ∀ b, S b → S' b) : RWs S' w v l := RSl.sub h hs fun _ _ h => h.sub hs
theorem RWs.up {w w0 : World} {v : Value} {l : List (Int × List UInt8)} (h : RWs S w v l) : RWs (Fr S w0) w v l := h.sub fun _ => .inl
theorem RDk.keep {w w' : World} {v : Value} {d : Dk} (h : RDk S w v d) (hz : w.heap.size ≤ w'.heap.size) (hk : ∀ b, S b → b < w.heap.size → w'.heap[b]? = w.heap[b]?) : RDk S w' v d := by
  obtain ⟨A, n, c, B, m, e, hv, h1, h2⟩ := h; exact ⟨A, n, c, B, m, e, hv, h1.keep hz hk, h2.keep hz hk⟩
theorem RDk.sub {w : World} {v : Value} {d : Dk} (h : RDk S w v d) (hs : ∀ b, S b → S' b) : RDk S' w v d := by
  obtain ⟨A, n, c, B, m, e, hv, h1, h2⟩ := h; exact ⟨A, n, c, B, m, e, hv, h1.sub hs, h2.sub hs⟩
theorem RDk.up {w w0 : World} {v : Value} {d : Dk} (h : RDk S w v d) : RDk (Fr S w0) w v d := h.sub fun _ => .inl

/-- returned b; nothing that was there has changed. -/
def RB (w : World) (b : Bool) (e : Ending) (w' : World) : Prop := e = .returned (.bool b) ∧ Ext w w'
def RI (w : World) (n : Int) (e : Ending) (w' : World) : Prop := e = .returned (.int .i64 n) ∧ Ext w w'

/-! plain functions -/
def badWrite (n : Nat) (x : Int × List UInt8) : Bool := decide (x.1 < 0) || decide ((n : Int) ≤ x.1) || !decide (x.2.length = 128)
def badSector (x : List UInt8) : Bool := !decide (x.length = 128)
def Dk.bad (d : Dk) : Bool := decide (d.sectors.length < 1) || decide (4096 < d.sectors.length) || decide (4096 < d.pending.length) || decide (d.left < -1) || decide (65536 < d.left) || d.pending.any (badWrite d.sectors.length) || d.sectors.any badSector
def Dk.check (d : Dk) : Int := if d.bad then 380 else 0

set_option maxHeartbeats 400000 in
theorem isSector_any (a : Option Addr) (len cap : Nat) (w : World) :
    Calls Try.prog 56 #[.slice a len cap] w fun e w' => e = .returned (.bool (decide (len = 128))) ∧ w = w' := by
  go_enter Try.func56, Try.ntmps56
  go_wp2
  go_ret
  exact ⟨ret_bool (by rw [Bool.eq_iff_iff]; simp; omega), rfl⟩

set_option maxHeartbeats 400000 in
theorem bad1_any (at_ : Int) (a : Option Addr) (len cap : Nat) (b : Nat) (n : Int) (w : World) (hb : w.cell? ⟨b, 0, none⟩ = some (.int .i64 n)) (hbl : b < w.heap.size) :
    Calls Try.prog 55 #[.agg #[.int .i64 at_, .slice a len cap], .pointer (some ⟨b, 0, none⟩)] w (RB w (decide (at_ < 0) || decide (n ≤ at_) || !decide (len = 128))) := by
  go_enter Try.func55, Try.ntmps55
  go_wp2_with (go_at_call 56; refine (isSector_any _ _ _ _).mono ?_; rintro e w' ⟨rfl, rfl⟩)
  all_goals
    go_ret
    exact ⟨ret_bool (by simp [*]), (Ext.refl _).alloc _⟩

set_option maxHeartbeats 400000 in
theorem bad2_any (a : Option Addr) (len cap : Nat) (w : World) :
    Calls Try.prog 59 #[.slice a len cap] w fun e w' => e = .returned (.bool (!decide (len = 128))) ∧ w = w' := by
  go_enter Try.func59, Try.ntmps59
  go_wp2_with (go_at_call 56; refine (isSector_any _ _ _ _).mono ?_; rintro e w' ⟨rfl, rfl⟩)
  go_ret
  exact ⟨rfl, rfl⟩

/-- IndexFunc over writes: at least 0 exactly if one is bad. -/
def RIdx (w : World) (b : Bool) (e : Ending) (w' : World) : Prop := ∃ r : Int, e = .returned (.int .i64 r) ∧ Ext w w' ∧ decide (0 ≤ r) = b

theorem any_take_succ {α : Type} (p : α → Bool) (l : List α) (k : Nat) (h : k < l.length) : (l.take (k + 1)).any p = ((l.take k).any p || p l[k]) := by
  rw [List.take_succ_eq_append_getElem h, List.any_append]; simp only [List.any_cons, List.any_nil, Bool.or_false]

theorem any_of_take {α : Type} (p : α → Bool) (l : List α) (k : Nat) (h : (l.take k).any p = true) : l.any p = true := by
  rw [List.any_eq_true] at *
  obtain ⟨x, hx, hp⟩ := h
  exact ⟨x, List.mem_of_mem_take hx, hp⟩

set_option maxHeartbeats 400000 in
theorem indexW_any (v : Value) (l : List (Int × List UInt8)) (b : Nat) (n : Nat) (w : World) (hb : w.cell? ⟨b, 0, none⟩ = some (.int .i64 n)) (hbl : b < w.heap.size)
    (hs : RWs S w v l) :
    Calls Try.prog 70 #[v, .func (.func 55) #[] #[.pointer (some ⟨b, 0, none⟩)]] w (RIdx w (l.any (badWrite n))) := by
  obtain ⟨A, cap, rfl, hcap, hmax⟩ := hs.form
  have HS := Lib.hid hs.at.2.2; clear hs
  have HB := Lib.hid hb; clear hb
  go_enter Try.func70, Try.ntmps70
  go_wp2
  go_loopw [8] (fun i wr => ∃ k : Nat, k ≤ l.length ∧ i = .int .i64 k ∧ Ext w wr ∧ Hid ((l.take k).any (badWrite n) = false)) (fun i _ => l.length - (intOf i).toNat)
  case atStart => exact ⟨0, Nat.zero_le _, rfl, Ext.refl _, by show _ = _; simp⟩
  case round =>
    obtain ⟨k, hk, rfl, hbw, hno⟩ := hrel
    by_cases hlt : k < l.length
    · obtain ⟨ba, off, rfl, hba, hc⟩ := HS.out (by omega)
      obtain ⟨x, c1, c2, hx⟩ := hc k hlt
      clear hc
      obtain ⟨A', cap', rfl, hcap', hmax'⟩ := hx.form
      have e1 := hbw.keep c1
      have e2 := hbw.keep c2
      have HX := Lib.hid hx
      clear c1 c2 hx
      have hsz := hbw.size
      have HCB := Lib.hid (hbw.keep HB.out)
      go_wp2_with fail
      (with_reducible refine (bad1_any _ _ _ _ b n _ HCB.out (by omega)).mono ?_)
      rintro e w1 ⟨rfl, hb1⟩
      have hbb := hbw.trans hb1
      have hts := any_take_succ (badWrite n) l k hlt
      have HTS := Lib.hid hts
      clear hts
      cases hbad : (decide (l[k].1 < 0) || decide ((n : Int) ≤ l[k].1) || !decide (l[k].2.length = 128))
      · go_wp2
        go_roundw
        case rel => exact ⟨k + 1, by omega, by go_num, hbb, by show _ = _; rw [HTS.out, hno.out]; exact hbad⟩
        case measure => simp [intOf]; omega
      · go_wp2
        go_ret
        refine ⟨k, rfl, hbb, ?_⟩
        rw [any_of_take _ l (k + 1) (by rw [HTS.out]; rw [Bool.or_eq_true]; exact .inr hbad)]
        simp
    · go_wp2_with fail
      go_ret
      refine ⟨-1, rfl, hbw, ?_⟩
      have := hno.out
      rw [List.take_of_length_le (by omega)] at this
      rw [this]; rfl

set_option maxHeartbeats 400000 in
theorem indexB_any (v : Value) (l : List (List UInt8)) (w : World)
    (hs : RBss S w v l) :
    Calls Try.prog 71 #[v, .func (.func 59) #[] #[]] w (RIdx w (l.any badSector)) := by
  obtain ⟨A, cap, rfl, hcap, hmax⟩ := hs.form
  have HS := Lib.hid hs.at.2.2; clear hs
  go_enter Try.func71, Try.ntmps71
  go_wp2
  go_loopw [8] (fun i wr => ∃ k : Nat, k ≤ l.length ∧ i = .int .i64 k ∧ w = wr ∧ Hid ((l.take k).any badSector = false)) (fun i _ => l.length - (intOf i).toNat)
  case atStart => exact ⟨0, Nat.zero_le _, rfl, rfl, by show _ = _; simp⟩
  case round =>
    obtain ⟨k, hk, rfl, rfl, hno⟩ := hrel
    by_cases hlt : k < l.length
    · obtain ⟨ba, off, rfl, hba, hc⟩ := HS.out (by omega)
      obtain ⟨x, c1, hx⟩ := hc k hlt
      clear hc
      obtain ⟨A', cap', rfl, hcap', hmax'⟩ := hx.form
      have HX := Lib.hid hx
      clear hx
      go_wp2_with fail
      (with_reducible refine (bad2_any _ _ _ _).mono ?_)
      rintro e w1 ⟨rfl, rfl⟩
      have HTS := Lib.hid (any_take_succ badSector l k hlt)
      cases hbad : (!decide (l[k].length = 128))
      · go_wp2
        go_roundw
        case rel => exact ⟨k + 1, by omega, by go_num, by trivial, by show _ = _; rw [HTS.out, hno.out]; exact hbad⟩
        case measure => simp [intOf]; omega
      · go_wp2
        go_ret
        refine ⟨k, rfl, Ext.refl _, ?_⟩
        rw [any_of_take _ l (k + 1) (by rw [HTS.out]; rw [Bool.or_eq_true]; exact .inr hbad)]
        simp
    · go_wp2_with fail
      go_ret
      refine ⟨-1, rfl, Ext.refl _, ?_⟩
      have := hno.out
      rw [List.take_of_length_le (by omega)] at this
      rw [this]; rfl

set_option maxHeartbeats 400000 in
theorem containsW_any (v : Value) (l : List (Int × List UInt8)) (b : Nat) (n : Nat) (w : World) (hb : w.cell? ⟨b, 0, none⟩ = some (.int .i64 n)) (hbl : b < w.heap.size)
    (hs : RWs S w v l) :
    Calls Try.prog 57 #[v, .func (.func 55) #[] #[.pointer (some ⟨b, 0, none⟩)]] w (RB w (l.any (badWrite n))) := by
  have HB := Lib.hid hb; clear hb
  have HS := Lib.hid hs; clear hs
  go_enter Try.func57, Try.ntmps57
  go_wp2_with fail
  (with_reducible refine (indexW_any _ l b n _ HB.out hbl HS.out).mono ?_)
  rintro e w1 ⟨r, rfl, hx, hr⟩
  have HR := Lib.hid hr; clear hr
  go_wp2
  go_ret
  exact ⟨ret_bool HR.out, hx⟩

set_option maxHeartbeats 400000 in
theorem containsB_any (v : Value) (l : List (List UInt8)) (w : World)
    (hs : RBss S w v l) :
    Calls Try.prog 58 #[v, .func (.func 59) #[] #[]] w (RB w (l.any badSector)) := by
  have HS := Lib.hid hs; clear hs
  go_enter Try.func58, Try.ntmps58
  go_wp2_with fail
  (with_reducible refine (indexB_any _ l _ HS.out).mono ?_)
  rintro e w1 ⟨r, rfl, hx, hr⟩
  have HR := Lib.hid hr; clear hr
  go_wp2
  go_ret
  exact ⟨ret_bool HR.out, hx⟩

end Go.Proofs.Ytfmhnplkpohogaa

namespace Go.Proofs.Ytfmhnplkpohogaa
open Go.RowKit

variable {S S' : Nat → Prop}

/-- returned a disk and a number. -/
def RDE (S : Nat → Prop) (w : World) (d : Dk) (n : Int) (e : Ending) (w' : World) : Prop := ∃ v, e = .returned (.tuple #[v, .int .i64 n]) ∧ RDk (Fr S w) w' v d ∧ Ext w w'

def Dk.zero : Dk := ⟨[], [], 0, false⟩

theorem RDk.len {w : World} {A B : Option Addr} {n c m e : Nat} {l : Int} {s : Bool} {d : Dk} (h : RDk S w (.agg #[.slice A n c, .slice B m e, .int .i64 l, .bool s]) d) :
    RBss S w (.slice A d.sectors.length c) d.sectors ∧ RWs S w (.slice B d.pending.length e) d.pending ∧ n = d.sectors.length ∧ m = d.pending.length ∧ l = d.left ∧ s = d.stopped := by
  obtain ⟨A', n', c', B', m', e', hv, h1, h2⟩ := h
  cases hv
  obtain ⟨rfl, _⟩ := h1.at
  obtain ⟨rfl, _⟩ := h2.at
  exact ⟨h1, h2, rfl, rfl, rfl, rfl⟩

theorem RDk.form {w : World} {v : Value} {d : Dk} (h : RDk S w v d) : ∃ A c B e, v = .agg #[.slice A d.sectors.length c, .slice B d.pending.length e, .int .i64 d.left, .bool d.stopped] ∧ RBss S w (.slice A d.sectors.length c) d.sectors ∧ RWs S w (.slice B d.pending.length e) d.pending := by
  obtain ⟨A', n', c', B', m', e', rfl, h1, h2⟩ := h
  obtain ⟨rfl, _⟩ := h1.at
  obtain ⟨rfl, _⟩ := h2.at
  exact ⟨A', c', B', e', rfl, h1, h2⟩

theorem RDk.mk {w : World} {A B : Option Addr} {n c m e : Nat} {l : Int} {s : Bool} {ss : List (List UInt8)} {pp : List (Int × List UInt8)} (h1 : RBss S w (.slice A n c) ss) (h2 : RWs S w (.slice B m e) pp) : RDk S w (.agg #[.slice A n c, .slice B m e, .int .i64 l, .bool s]) ⟨ss, pp, l, s⟩ :=
  ⟨A, n, c, B, m, e, rfl, h1, h2⟩

theorem check_bad {d : Dk} (h : d.sectors.length < 1 ∨ 4096 < d.sectors.length ∨ 4096 < d.pending.length ∨ d.left < -1 ∨ 65536 < d.left) : (380 : Int) = d.check := by
  unfold Dk.check
  rw [if_pos]
  unfold Dk.bad
  simp only [Bool.or_eq_true, decide_eq_true_eq]
  omega
theorem check_bad2 {d : Dk} (h : d.pending.any (badWrite d.sectors.length) = true ∨ d.sectors.any badSector = true) : (380 : Int) = d.check := by
  unfold Dk.check
  rw [if_pos]
  unfold Dk.bad
  simp only [Bool.or_eq_true]
  rcases h with h | h
  · exact .inl (.inr h)
  · exact .inr h
theorem check_good {d : Dk} (h : ¬ (d.sectors.length < 1 ∨ 4096 < d.sectors.length ∨ 4096 < d.pending.length ∨ d.left < -1 ∨ 65536 < d.left)) (h1 : d.pending.any (badWrite d.sectors.length) = false) (h2 : d.sectors.any badSector = false) : (0 : Int) = d.check := by
  unfold Dk.check
  rw [if_neg]
  unfold Dk.bad
  rw [h1, h2]
  simp only [Bool.or_eq_true, decide_eq_true_eq, Bool.or_false]
  omega

set_option maxHeartbeats 1000000 in
theorem check_any (v : Value) (d : Dk) (w : World) (hd : RDk S w v d) :
    Calls Try.prog 31 #[v] w (RI w d.check) := by
  obtain ⟨A, c, B, e, rfl, h1, h2⟩ := hd.form
  obtain ⟨f1, f1'⟩ := h1.at.2.1
  obtain ⟨f2, f2'⟩ := h2.at.2.1
  have H1 := Lib.hid h1
  have H2 := Lib.hid h2
  have hb : d.check = if d.bad then 380 else 0 := rfl
  have HB := Lib.hid hb
  clear h1 h2 hd hb
  obtain ⟨ss, pp, left, stopped⟩ := d
  dsimp only at *
  go_enter Try.func31, Try.ntmps31
  go_wp2_with fail
  case' _ => skip
  rotate_left
  all_goals first
    | (go_ret; exact ⟨ret_int (check_bad (by dsimp only; omega)), ((Ext.refl _).alloc _).alloc _⟩)
    | skip
  have x0 : Ext w ((w.alloc (.cells #[.slice A ss.length c, .slice B pp.length e, .int .i64 left, .bool stopped] 25)).alloc (.cells #[.int .i64 ss.length] 3)) := ((Ext.refl _).alloc _).alloc _
  (with_reducible refine (containsW_any _ pp (w.heap.size + 1) ss.length _ (by simp [go_sem]) (by simp) (H2.out.ext x0)).mono ?_)
  rintro e1 w1 ⟨rfl, hx⟩
  have hc := hx.cells
  have hsz := hx.size
  simp only [World.size_alloc] at hsz
  cases hbad : pp.any (badWrite ss.length)
  · have H1' := Lib.hid ((H1.out.ext x0).ext hx)
    have HX := Lib.hid (x0.trans hx)
    clear x0 hx
    go_wp2_with fail
    (with_reducible refine (containsB_any _ ss _ H1'.out).mono ?_)
    rintro e2 w2 ⟨rfl, hx2⟩
    cases hbad2 : ss.any badSector
    · go_wp2
      go_ret
      exact ⟨ret_int (check_good (by dsimp only; omega) hbad hbad2), HX.out.trans hx2⟩
    · go_wp2
      go_ret
      exact ⟨ret_int (check_bad2 (.inr hbad2)), HX.out.trans hx2⟩
  · have HX := Lib.hid (x0.trans hx)
    go_wp2
    go_ret
    exact ⟨ret_int (check_bad2 (.inl hbad)), HX.out⟩

def Dk.runs (d : Dk) : Bool := decide (d.check = 0) && !d.stopped
def Dk.has (d : Dk) (at_ : Int) : Bool := decide (0 ≤ at_) && decide (at_ < d.sectors.length)

theorem check_01 (d : Dk) : d.check = 0 ∨ d.check = 380 := by unfold Dk.check; split <;> simp

set_option maxHeartbeats 1000000 in
theorem runs_any (v : Value) (d : Dk) (w : World) (hd : RDk S w v d) :
    Calls Try.prog 50 #[v] w (RB w d.runs) := by
  obtain ⟨A, c, B, e, rfl, h1, h2⟩ := hd.form
  have HD := Lib.hid hd
  have HR : Hid (d.runs = (decide (d.check = 0) && !d.stopped)) := rfl
  have h01 := check_01 d
  clear hd h1 h2
  go_enter Try.func50, Try.ntmps50
  go_wp2_with fail
  (with_reducible refine (check_any _ d _ (HD.out.ext ((Ext.refl _).alloc _))).mono ?_)
  rintro e1 w1 ⟨rfl, hx⟩
  have hx0 := Lib.hid (((Ext.refl w).alloc _).trans hx)
  have hc := hx.cells
  have hsz := hx.size
  simp only [World.size_alloc] at hsz
  clear hx
  rcases h01 with h01 | h01
  · rw [h01]
    have H01 := Lib.hid h01
    clear h01
    go_wp2
    go_ret
    exact ⟨ret_bool (by rw [HR.out, H01.out]; simp), hx0.out⟩
  · rw [h01]
    have H01 := Lib.hid h01
    clear h01
    go_wp2
    go_ret
    exact ⟨ret_bool (by rw [HR.out, H01.out]; simp), hx0.out⟩

set_option maxHeartbeats 1000000 in
theorem has_any (v : Value) (d : Dk) (at_ : Int) (w : World) (hd : RDk S w v d) :
    Calls Try.prog 51 #[v, .int .i64 at_] w (RB w (d.has at_)) := by
  obtain ⟨A, c, B, e, rfl, h1, h2⟩ := hd.form
  have HR : Hid (d.has at_ = (decide (0 ≤ at_) && decide (at_ < d.sectors.length))) := rfl
  clear hd h1 h2
  go_enter Try.func51, Try.ntmps51
  go_wp2
  all_goals
    go_ret
    exact ⟨ret_bool (by rw [HR.out, Bool.eq_iff_iff]; simp; omega), (Ext.refl _).alloc _⟩

def Dk.stop (d : Dk) (left : Int) : Dk × Int := if d.runs = false then (Dk.zero, 380) else if left < 0 ∨ 65536 < left then (Dk.zero, 1) else (⟨d.sectors, d.pending, left, d.stopped⟩, 0)

theorem RDk.zero (w : World) : RDk S w (.agg #[.slice none 0 0, .slice none 0 0, .int .i64 0, .bool false]) Dk.zero := RDk.mk (RSl.nil _) (RSl.nil _)

theorem RDE.mk {w w' : World} {d : Dk} {n : Int} {v : Value} {d' : Dk × Int} (hd : d' = (d, n)) (h1 : RDk (Fr S w) w' v d) (h2 : Ext w w') : RDE S w d'.1 d'.2 (.returned (.tuple #[v, .int .i64 n])) w' := by
  subst hd; exact ⟨v, rfl, h1, h2⟩

end Go.Proofs.Ytfmhnplkpohogaa

namespace Go.Proofs.Ytfmhnplkpohogaa
open Go.RowKit

variable {S S' : Nat → Prop}

theorem elBytes : El Try.prog 35 5 (.int .u8 0) 1 1 := ⟨Try.underlying35, by kernel_rfl, rfl, by omega⟩
theorem elBss : El Try.prog 22 35 (.slice none 0 0) 1 24 := ⟨Try.underlying22, by kernel_rfl, rfl, by omega⟩
theorem elWs : El Try.prog 23 76 (.agg #[.int .i64 0, .slice none 0 0]) 2 32 := ⟨Try.underlying23, by kernel_rfl, rfl, by omega⟩

theorem eqnilW (w : World) (A : Option Addr) (n c : Nat) : (binOp .eql 23 (.slice A n c) (.slice none 0 0)).run Try.prog w = .ok (.bool A.isNone) w := Lib.run_eql_slice_nil w _ _ A n c 0 0 Try.underlying23
theorem eqnilB (w : World) (A : Option Addr) (n c : Nat) : (binOp .eql 35 (.slice A n c) (.slice none 0 0)).run Try.prog w = .ok (.bool A.isNone) w := Lib.run_eql_slice_nil w _ _ A n c 0 0 Try.underlying35
theorem eqnilBs (w : World) (A : Option Addr) (n c : Nat) : (binOp .eql 22 (.slice A n c) (.slice none 0 0)).run Try.prog w = .ok (.bool A.isNone) w := Lib.run_eql_slice_nil w _ _ A n c 0 0 Try.underlying22
attribute [local go_sem] eqnilW eqnilB eqnilBs

/-- returned a row of the call's own with these cells. -/
def RCl (w : World) (e : TypeId) (k n : Nat) (xs : List Value) (en : Ending) (w' : World) : Prop := ∃ v, en = .returned v ∧ w'.ownsRow w.heap.size e k v n xs ∧ Ext w w'

set_option maxHeartbeats 1000000 in
theorem cloneW_any (A : Option Addr) (n cap : Nat) (xs : List Value) (w : World) (hc : Cel w 2 A n xs) (hn : n ≤ 4398046511104) :
    Calls Try.prog 53 #[.slice A n cap] w (RCl w 76 2 n xs) := by
  rcases A with _ | ad
  · have hn0 : n = 0 := by
      rcases Nat.eq_zero_or_pos n with h | h
      · exact h
      · obtain ⟨b, off, h, _⟩ := hc.2.2 h; cases h
    subst hn0
    have hx : xs = [] := List.eq_nil_of_length_eq_zero (by have := hc.1; omega)
    have HX := Lib.hid hx
    clear hx hc
    go_enter Try.func53, Try.ntmps53
    go_wp2
    go_ret
    exact ⟨_, rfl, by rw [HX.out]; exact World.ownsRow_nil _ _ _ _, Ext.refl _⟩
  · have HC := Lib.hid hc
    clear hc
    go_enter Try.func53, Try.ntmps53
    go_wp2_with (with_reducible refine stop_append ?_)
    refine Lib.hid (wpList_app elWs rfl rfl rfl rfl (World.ownsRow_lit w #[] 0 (Nat.le_refl _) (Nat.zero_le _) (by simp)) (HC.out.ext ((Ext.refl _).alloc _)) (by simp) (by omega) (by omega) ?_)
    intro v' w' hown hg hat
    have HO := Lib.hid hown
    have HE : Hid (Ext w w') := ((Ext.refl w).alloc _).grown hg (fun k hk => by have hk : some w.heap.size = some k := hk; injection hk; omega)
    clear hown hg hat
    go_wp2
    go_ret
    exact ⟨_, rfl, by simpa using HO.out, HE.out⟩

set_option maxHeartbeats 1000000 in
theorem cloneB_any (A : Option Addr) (n cap : Nat) (xs : List Value) (w : World) (hc : Cel w 1 A n xs) (hn : n ≤ 140737488355328) :
    Calls Try.prog 38 #[.slice A n cap] w (RCl w 5 1 n xs) := by
  rcases A with _ | ad
  · have hn0 : n = 0 := by
      rcases Nat.eq_zero_or_pos n with h | h
      · exact h
      · obtain ⟨b, off, h, _⟩ := hc.2.2 h; cases h
    subst hn0
    have hx : xs = [] := List.eq_nil_of_length_eq_zero (by have := hc.1; omega)
    have HX := Lib.hid hx
    clear hx hc
    go_enter Try.func38, Try.ntmps38
    go_wp2
    go_ret
    exact ⟨_, rfl, by rw [HX.out]; exact World.ownsRow_nil _ _ _ _, Ext.refl _⟩
  · have HC := Lib.hid hc
    clear hc
    go_enter Try.func38, Try.ntmps38
    go_wp2_with (with_reducible refine stop_append ?_)
    refine Lib.hid (wpList_app elBytes rfl rfl rfl rfl (World.ownsRow_lit w #[] 0 (Nat.le_refl _) (Nat.zero_le _) (by simp)) (HC.out.ext ((Ext.refl _).alloc _)) (by simp) (by omega) (by omega) ?_)
    intro v' w' hown hg hat
    have HO := Lib.hid hown
    have HE : Hid (Ext w w') := ((Ext.refl w).alloc _).grown hg (fun k hk => by have hk : some w.heap.size = some k := hk; injection hk; omega)
    clear hown hg hat
    go_wp2
    go_ret
    exact ⟨_, rfl, by simpa using HO.out, HE.out⟩

set_option maxHeartbeats 1000000 in
theorem cloneBs_any (A : Option Addr) (n cap : Nat) (xs : List Value) (w : World) (hc : Cel w 1 A n xs) (hn : n ≤ 4398046511104) :
    Calls Try.prog 69 #[.slice A n cap] w (RCl w 35 1 n xs) := by
  rcases A with _ | ad
  · have hn0 : n = 0 := by
      rcases Nat.eq_zero_or_pos n with h | h
      · exact h
      · obtain ⟨b, off, h, _⟩ := hc.2.2 h; cases h
    subst hn0
    have hx : xs = [] := List.eq_nil_of_length_eq_zero (by have := hc.1; omega)
    have HX := Lib.hid hx
    clear hx hc
    go_enter Try.func69, Try.ntmps69
    go_wp2
    go_ret
    exact ⟨_, rfl, by rw [HX.out]; exact World.ownsRow_nil _ _ _ _, Ext.refl _⟩
  · have HC := Lib.hid hc
    clear hc
    go_enter Try.func69, Try.ntmps69
    go_wp2_with (with_reducible refine stop_append ?_)
    refine Lib.hid (wpList_app elBss rfl rfl rfl rfl (World.ownsRow_lit w #[] 0 (Nat.le_refl _) (Nat.zero_le _) (by simp)) (HC.out.ext ((Ext.refl _).alloc _)) (by simp) (by omega) (by omega) ?_)
    intro v' w' hown hg hat
    have HO := Lib.hid hown
    have HE : Hid (Ext w w') := ((Ext.refl w).alloc _).grown hg (fun k hk => by have hk : some w.heap.size = some k := hk; injection hk; omega)
    clear hown hg hat
    go_wp2
    go_ret
    exact ⟨_, rfl, by simpa using HO.out, HE.out⟩

set_option maxHeartbeats 1000000 in
theorem clipW_any (A : Option Addr) (n cap : Nat) (w : World) (hn : n ≤ cap) :
    Calls Try.prog 52 #[.slice A n cap] w (fun e w' => e = .returned (.slice A n n) ∧ w = w') := by
  go_enter Try.func52, Try.ntmps52
  go_wp2
  go_ret
  exact ⟨rfl, rfl⟩

end Go.Proofs.Ytfmhnplkpohogaa

namespace Go.Proofs.Ytfmhnplkpohogaa
open Go.RowKit

variable {S S' : Nat → Prop}

/-- The sectors after some writes. -/
def performL (ss : List (List UInt8)) (l : List (Int × List UInt8)) : List (List UInt8) := l.foldl (fun s x => s.set x.1.toNat x.2) ss
theorem performL_length (l : List (Int × List UInt8)) : ∀ ss : List (List UInt8), (performL ss l).length = ss.length := by
  induction l with
  | nil => intro ss; rfl
  | cons x l ih => intro ss; show (performL (ss.set x.1.toNat x.2) l).length = _; rw [ih]; simp
theorem performL_snoc (ss : List (List UInt8)) (l : List (Int × List UInt8)) (x : Int × List UInt8) : performL ss (l ++ [x]) = (performL ss l).set x.1.toNat x.2 := by
  simp [performL]

/-- returned a new row of slices (they read at the world w0) -/
def RPf (S : Nat → Prop) (w0 w : World) (l : List (List UInt8)) (en : Ending) (w' : World) : Prop :=
  ∃ v vs, en = .returned v ∧ w'.ownsRow w.heap.size 35 1 v l.length vs ∧ (∀ i (h : i < l.length) (h' : i < vs.length), RBs S w0 vs[i] l[i]) ∧ Ext w w'

set_option maxHeartbeats 1000000 in
theorem perform_any (v u : Value) (ss : List (List UInt8)) (l : List (Int × List UInt8)) (w0 w : World) (h0 : Ext w0 w) (hs : RBss S w0 v ss) (hl : RWs S w0 u l)
    (hb : ss.length ≤ 65536) (hb2 : l.length ≤ 65536) (hin : ∀ i (h : i < l.length), 0 ≤ l[i].1 ∧ l[i].1 < ss.length) :
    Calls Try.prog 54 #[v, u] w (RPf S w0 w (performL ss l)) := by
  obtain ⟨A, cap, rfl, hcap, hmax⟩ := hs.form
  obtain ⟨B, cap2, rfl, hcap2, hmax2⟩ := hl.form
  obtain ⟨_, _, xs, hcel, hrs⟩ := RSl.cel hs
  have HL := Lib.hid hl.at.2.2
  have HC := Lib.hid hcel
  have HR := Lib.hid hrs
  have HIN := Lib.hid hin
  clear hs hl hcel hrs hin
  go_enter Try.func54, Try.ntmps54
  go_wp2_with fail
  (with_reducible refine (cloneBs_any _ _ _ xs _ (HC.out.ext h0) (by omega)).mono ?_)
  rintro e1 w1 ⟨v1, rfl, hown, hx1⟩
  have HO := Lib.hid hown
  have HX := Lib.hid hx1
  clear hown hx1
  go_wp2_with fail
  go_loopw [12] (fun i wr => ∃ (k : Nat) (vs : List Value), k ≤ l.length ∧ i = .int .i64 k ∧ Ext w wr ∧ Hid (wr.ownsRow w.heap.size 35 1 v1 ss.length vs) ∧ Hid (∀ i (h : i < (performL ss (l.take k)).length) (h' : i < vs.length), RBs S w0 vs[i] (performL ss (l.take k))[i])) (fun i _ => l.length - (intOf i).toNat)
  case atStart =>
    refine ⟨0, xs, Nat.zero_le _, rfl, HX.out, HO, fun i h h' => ?_⟩
    have h : i < ss.length := h
    obtain ⟨x, hx, hr⟩ := HR.out i h
    rw [chunk_one h'] at hx
    injection hx with hx
    rw [hx]; exact hr
  case round =>
    obtain ⟨k, vs, hk, rfl, hbw, hown, hrd⟩ := hrel
    by_cases hlt : k < l.length
    · obtain ⟨bb, off, rfl, hbb, hc⟩ := HL.out (by omega)
      obtain ⟨x, c1, c2, hx⟩ := hc k hlt
      obtain ⟨i0, i1⟩ := HIN.out k hlt
      obtain ⟨g, cap3, rfl, hg1, hg2, hg3, hg4⟩ := own_form hown.out (by omega)
      obtain ⟨at_, hat⟩ : ∃ at_ : Nat, l[k].1 = at_ := ⟨l[k].1.toNat, by omega⟩
      have e1 := (h0.trans hbw).keep c1
      have e2 := (h0.trans hbw).keep c2
      rw [hat] at e1 i0 i1
      have HAT := Lib.hid hat
      have hsz := hbw.size
      have hvl : vs.length = ss.length := by have := hown.out.1; omega
      obtain ⟨u0, q1⟩ : ∃ u0, wr.cell? ⟨g, at_, none⟩ = some u0 := ⟨vs[at_]'(by omega), by rw [hown.out.cellAt at_ (by omega), List.getElem?_eq_getElem (by omega)]⟩
      have q2 := hown.out.frozenAt at_
      have HXX := Lib.hid hx
      have HVL := Lib.hid hvl
      obtain ⟨A', cap', hxf, hcap', hmax'⟩ := hx.form
      rw [hxf] at e2
      have HXF := Lib.hid hxf
      clear hc c1 c2 hat hx hvl hxf
      go_wp2
      go_roundw
      case rel =>
        refine ⟨k + 1, vs.set at_ x, by omega, by go_num, ?_, ?_, ?_⟩
        · exact (hbw.setCell (p := ⟨g, at_, none⟩) hg1 _).alloc _
        · rw [← HXF.out]; exact Lib.hid ((hown.out.stored at_ x).1.alloc _)
        · intro i h h'
          have hts : l.take (k + 1) = l.take k ++ [l[k]] := by rw [List.take_succ_eq_append_getElem hlt]
          simp only [hts, performL_snoc, HAT.out, Int.toNat_natCast] at h ⊢
          rw [List.getElem_set, List.getElem_set]
          split
          · exact HXX.out
          · exact hrd.out i (by simpa using h) (by simpa using h')
      case measure => simp [intOf]; omega
    · go_wp2
      go_ret
      refine ⟨v1, vs, rfl, ?_, ?_, hbw⟩
      · rw [performL_length]; exact hown.out
      · have := hrd.out
        rw [List.take_of_length_le (by omega)] at this
        exact this

end Go.Proofs.Ytfmhnplkpohogaa

namespace Go.Proofs.Ytfmhnplkpohogaa
open Go.RowKit

variable {S S' : Nat → Prop}

/-- Bytes filled up with zeros to a sector. -/
def fill128 (b : List UInt8) : List UInt8 := b ++ List.replicate (128 - b.length) 0
def Dk.write (d : Dk) (at_ : Int) (b : List UInt8) : Dk × Int :=
  if (d.runs && d.has at_) = false then (Dk.zero, 380) else if 128 < b.length then (Dk.zero, 1) else if d.pending.length = 4096 then (Dk.zero, 2)
  else (⟨d.sectors, d.pending ++ [(at_, fill128 b)], d.left, d.stopped⟩, 0)

/-- The cells of 128 zero bytes. -/
def zeros128 : List Value := byteVals (List.replicate 128 0)
theorem make128 (w : World) : (Instr.makeSlice 35 (.int .i64 128) (.int .i64 128)).run Try.prog w = .ok (.slice (some ⟨w.heap.size, 0, none⟩) 128 128) (w.alloc (.cells zeros128.toArray 5)) := by
  kernel_rfl

attribute [local go_sem] make128

theorem fill_vals (b : List UInt8) (h : b.length ≤ 128) : splice zeros128 0 (List.take (min b.length 128) (byteVals b)) = byteVals (fill128 b) := by
  have hl : (byteVals b).length = b.length := by simp [byteVals]
  rw [Nat.min_eq_left h, ← hl, List.take_length]
  simp only [splice, zeros128, fill128, byteVals, List.take_zero, List.nil_append, List.map_append, Nat.zero_add, List.length_map, List.map_replicate, List.drop_replicate]

theorem write_fin {w w' : World} {d : Dk} {A B : Option Addr} {c n cap : Nat} {e : TypeId} {xs : List Value} {at_ : Int} {b : List UInt8} {g base : Nat} (hx : Ext w w') (hs : RBss S w (.slice A d.sectors.length c) d.sectors)
    (pr : ∀ i (h : i < d.pending.length), RWr S w (chunk 2 xs i) d.pending[i]) (p0 : xs.length = d.pending.length * 2) (p1 : ∀ u ∈ xs, u.oneCell' = true)
    (ho : w'.ownsRow base e 2 (.slice B (d.pending.length + 1) cap) (d.pending.length + 1) (xs ++ [.int .i64 at_, .slice (some ⟨g, 0, none⟩) 128 128]))
    (hg : Blk w' g n (splice zeros128 0 (List.take (min b.length 128) (byteVals b)))) (hb : b.length ≤ 128) (hgw : w.heap.size ≤ g) (hbw : w.heap.size ≤ base) :
    RDE S w ⟨d.sectors, d.pending ++ [(at_, fill128 b)], d.left, d.stopped⟩ 0 (.returned (.tuple #[.agg #[.slice A d.sectors.length c, .slice B (d.pending.length + 1) cap, .int .i64 d.left, .bool d.stopped], .int .i64 0])) w' := by
  refine ⟨_, rfl, RDk.mk (hs.ext hx).up ?_, hx⟩
  rw [fill_vals b hb] at hg
  have hfl : (fill128 b).length = 128 := by simp [fill128]; omega
  have hdata : RBs (Fr S w) w' (.slice (some ⟨g, 0, none⟩) 128 128) (fill128 b) := by
    have := own_of_blk (n := 128) (cap := 128) (k := 1) hg (Nat.le_refl _) (by omega) (by simp [byteVals, hfl]) (Nat.le_refl _)
    rw [List.take_of_length_le (by simp [byteVals, hfl])] at this
    exact RBs.own this (fun b hb => .inr (Nat.le_trans hgw hb))
  refine RSl.own ho (fun b hb => .inr (Nat.le_trans hbw hb)) (by simp) (fun u hu => ?_) (fun i hi => ?_)
  · rcases List.mem_append.1 hu with h | h
    · exact p1 u h
    · simp at h
      rcases h with rfl | rfl <;> rfl
  · rcases Nat.lt_or_ge i d.pending.length with h | h
    · rw [chunk_append_left p0 h, List.getElem_append_left h]
      exact ((pr i h).ext hx).sub fun _ => .inl
    · have hi' : i = d.pending.length := by simp at hi; omega
      subst hi'
      rw [chunk_append_right p0 (Nat.le_refl _), Nat.sub_self, chunk_self (by rfl)]
      simp only [List.getElem_append_right (Nat.le_refl _), Nat.sub_self, List.getElem_cons_zero]
      exact ⟨_, rfl, hdata⟩

set_option maxHeartbeats 2000000 in
theorem write_ok (v u : Value) (d : Dk) (at_ : Int) (b : List UInt8) (w : World) (hd : RDk S w v d) (hu : RBs S w u b)
    (h1 : d.runs = true) (h2 : d.has at_ = true) (h3 : b.length ≤ 128) (h4 : d.pending.length ≠ 4096) (h5 : d.pending.length ≤ 4096) :
    Calls Try.prog 26 #[v, .int .i64 at_, u] w (RDE S w ⟨d.sectors, d.pending ++ [(at_, fill128 b)], d.left, d.stopped⟩ 0) := by
  obtain ⟨A, c, B, e, rfl, q1, q2⟩ := hd.form
  obtain ⟨C, f, rfl, q3, q4⟩ := hu.form
  have HD := Lib.hid hd
  have HU := Lib.hid hu
  have H1 := Lib.hid h1
  have H2 := Lib.hid h2
  have HS := Lib.hid q1
  have HP := Lib.hid q2
  have h4' : ((d.pending.length : Int) == 4096) = false := by simp; omega
  clear hd hu h1 h2 q1 q2 h4
  go_enter Try.func26, Try.ntmps26
  go_wp2_with fail
  (with_reducible refine (runs_any _ d _ (HD.out.ext (((Ext.refl _).alloc _).alloc _))).mono ?_)
  rintro e1 w1 ⟨rfl, hx1⟩
  have B0 := Lib.hid (((Blk.new w w.heap.size _ _ rfl).alloc _).ext hx1)
  have B1 := Lib.hid ((Blk.new _ (w.heap.size + 1) _ _ (by simp)).ext hx1)
  have HX1 := Lib.hid ((((Ext.refl w).alloc _).alloc _).trans hx1)
  clear hx1
  obtain ⟨k0, z0⟩ := B0.out.rule
  rw [H1.out]
  go_wp2_with fail
  (with_reducible refine (has_any _ d _ _ (HD.out.ext HX1.out)).mono ?_)
  rintro e2 w2 ⟨rfl, hx2⟩
  have C0 := Lib.hid (B0.out.ext hx2)
  have C1 := Lib.hid (B1.out.ext hx2)
  have HX2 := Lib.hid (HX1.out.trans hx2)
  clear hx2 k0 z0 B0 B1 HX1
  obtain ⟨k0, z0⟩ := C0.out.rule
  rw [H2.out]
  go_wp2_with (with_reducible refine stop_copy ?_)
  obtain ⟨_, _, hcel⟩ := HU.out.vals
  have HM := Lib.hid ((hcel.ext HX2.out).ext ((Ext.refl _).alloc (.cells zeros128.toArray 5)))
  refine Lib.hid (wpList_cpy elBytes rfl rfl rfl rfl (heap_alloc_new w2 _) HM.out (by simp [zeros128, byteVals]; omega) ?_)
  intro w3 hg3 hgr
  have D0 := Lib.hid ((C0.out.alloc _).grown hgr (by have := C0.out.lt; simp; omega))
  have D1 := Lib.hid ((C1.out.alloc _).grown hgr (by have := C1.out.lt; simp; omega))
  have HX3 := Lib.hid (ext_of_grown (HX2.out.alloc _) hgr (by intro k hk; injection hk with hk; subst hk; exact HX2.out.size))
  have HG3 := Lib.hid hg3
  clear k0 z0 hg3 hgr hcel
  obtain ⟨k0, z0⟩ := D0.out.rule
  go_wp2_with fail
  obtain ⟨_, _, xs, pcel, pr⟩ := RSl.cel HP.out
  have PR := Lib.hid pr
  (with_reducible refine (cloneW_any _ _ _ xs _ (pcel.ext HX3.out) (by omega)).mono ?_)
  rintro e4 w4 ⟨v4, rfl, hown, hx4⟩
  obtain ⟨A4, cap4, rfl, hc4, hm4⟩ := own_any hown
  obtain ⟨_, _, hcel4⟩ := own_cel hown pcel.2.1
  have HC4 := Lib.hid hcel4
  have E0 := Lib.hid (D0.out.ext hx4)
  have E1 := Lib.hid (D1.out.ext hx4)
  have HX4 := Lib.hid (HX3.out.trans hx4)
  have HG4 := Lib.hid (Blk.ext HG3.out hx4)
  have P1 := Lib.hid pcel.2.1
  have P0 := Lib.hid pcel.1
  clear k0 z0 D0 D1 HX3 HG3 hown hx4 pcel pr hcel4
  go_wp2_with fail
  (with_reducible refine (clipW_any _ _ _ _ hc4).mono ?_)
  rintro e5 w5 ⟨rfl, rfl⟩
  obtain ⟨k0, z0⟩ := E0.out.rule
  go_wp2_with (with_reducible refine stop_append ?_)
  refine Lib.hid (wpList_app_full elWs rfl rfl rfl rfl (HC4.out.ext ((Ext.refl _).alloc _)) (ys := [.int .i64 at_, .slice (some ⟨w2.heap.size, 0, none⟩) 128 128]) ?_ (by omega) (by omega) (by omega) ?_)
  · refine ⟨rfl, ?_, fun _ => ⟨w4.heap.size, 0, rfl, by simp, fun j u hu => ?_⟩⟩
    · intro u hu
      simp at hu
      rcases hu with rfl | rfl <;> rfl
    · rw [Nat.zero_add, World.cell?_alloc_new]
      simpa using hu
  intro v6 w6 hown6 hx6 hat6
  obtain ⟨A6, cap6, rfl, hc6, hm6⟩ := own_any hown6
  have HO6 := Lib.hid hown6
  have F0 := Lib.hid ((E0.out.alloc _).ext hx6)
  have F1 := Lib.hid ((E1.out.alloc _).ext hx6)
  have HX6 := Lib.hid ((HX4.out.alloc _).trans hx6)
  have HG6 := Lib.hid ((Blk.alloc HG4.out _).ext hx6)
  have hb4 := E1.out.lt
  have hb2 := C1.out.lt
  clear k0 z0 E0 E1 HX4 HG4 hown6 hx6 hat6 HC4
  obtain ⟨k0, z0⟩ := F0.out.rule
  obtain ⟨k1, z1⟩ := F1.out.rule
  have hlt := F0.out.lt
  have hlt1 := F1.out.lt
  go_wp2
  refine bodyPost_ret (v := .tuple #[.agg #[.slice A d.sectors.length c, .slice A6 (d.pending.length + 1) cap6, .int .i64 d.left, .bool d.stopped], .int .i64 0]) (by simp [results, Try.results26, go_sem, k0, z0, k1, z1]) rfl ?_
  have g0 : w.heap.size < (w4.alloc (.cells #[.int .i64 at_, .slice (some ⟨w2.heap.size, 0, none⟩) 128 128] 76)).heap.size := by simp only [World.size_alloc]; omega
  have g1 : w.heap.size + 1 < (w4.alloc (.cells #[.int .i64 at_, .slice (some ⟨w2.heap.size, 0, none⟩) 128 128] 76)).heap.size := by simp only [World.size_alloc]; omega
  have r0 : w.heap.size ≤ w.heap.size := Nat.le_refl _
  have r1 : w.heap.size ≤ w.heap.size + 1 := Nat.le_succ _
  have n0 : w2.heap.size ≠ w.heap.size := by omega
  have n1 : w2.heap.size ≠ w.heap.size + 1 := by omega
  exact write_fin (((((HX6.out.setC r0).setC r1).setC r1).setC r1).setC r1) HS.out PR.out P0.out P1.out (own_setC (own_setC (own_setC (own_setC (own_setC HO6.out g0) g1) g1) g1) g1) (((((HG6.out.farC n0).farC n1).farC n1).farC n1).farC n1) h3 (by omega) (by simp only [World.size_alloc]; omega)

/-- What a disk that runs is like. -/
theorem runs_facts {d : Dk} (h : d.runs = true) : 1 ≤ d.sectors.length ∧ d.sectors.length ≤ 4096 ∧ d.pending.length ≤ 4096 ∧ -1 ≤ d.left ∧ d.left ≤ 65536 ∧ d.stopped = false ∧
    (∀ x ∈ d.pending, 0 ≤ x.1 ∧ x.1 < d.sectors.length ∧ x.2.length = 128) ∧ (∀ x ∈ d.sectors, x.length = 128) := by
  unfold Dk.runs at h
  simp only [Bool.and_eq_true, decide_eq_true_eq, Bool.not_eq_true'] at h
  obtain ⟨hc, hs⟩ := h
  unfold Dk.check at hc
  split at hc
  · cases hc
  · rename_i hb
    unfold Dk.bad at hb
    simp only [Bool.or_eq_true, decide_eq_true_eq, not_or, List.any_eq_true, not_exists, not_and, badWrite, badSector, Bool.not_eq_true', decide_eq_false_iff_not, Decidable.not_not] at hb
    obtain ⟨⟨⟨⟨⟨⟨b1, b2⟩, b3⟩, b4⟩, b5⟩, b6⟩, b7⟩ := hb
    refine ⟨by omega, by omega, by omega, by omega, by omega, hs, fun x hx => ?_, fun x hx => b7 x hx⟩
    have := b6 x hx
    exact ⟨by omega, by omega, this.2⟩

set_option maxHeartbeats 2000000 in
theorem write_bad (v u : Value) (d : Dk) (at_ : Int) (b : List UInt8) (w : World) (hd : RDk S w v d) (hu : RBs S w u b) (n : Int)
    (hn : d.runs = false ∧ n = 380 ∨ d.runs = true ∧ d.has at_ = false ∧ n = 380 ∨ d.runs = true ∧ d.has at_ = true ∧ 128 < b.length ∧ n = 1 ∨ d.runs = true ∧ d.has at_ = true ∧ b.length ≤ 128 ∧ d.pending.length = 4096 ∧ n = 2) :
    Calls Try.prog 26 #[v, .int .i64 at_, u] w (RDE S w Dk.zero n) := by
  obtain ⟨A, c, B, e, rfl, q1, q2⟩ := hd.form
  obtain ⟨C, f, rfl, q3, q4⟩ := hu.form
  have HD := Lib.hid hd
  have HN := Lib.hid hn
  clear hd hu q1 q2 hn
  go_enter Try.func26, Try.ntmps26
  go_wp2_with fail
  (with_reducible refine (runs_any _ d _ (HD.out.ext (((Ext.refl _).alloc _).alloc _))).mono ?_)
  rintro e1 w1 ⟨rfl, hx1⟩
  have B0 := Lib.hid (((Blk.new w w.heap.size _ _ rfl).alloc _).ext hx1)
  have B1 := Lib.hid ((Blk.new _ (w.heap.size + 1) _ _ (by simp)).ext hx1)
  have HX1 := Lib.hid ((((Ext.refl w).alloc _).alloc _).trans hx1)
  have r1 : w.heap.size ≤ w.heap.size + 1 := Nat.le_succ _
  clear hx1
  obtain ⟨k0, z0⟩ := B0.out.rule
  rcases HN.out with ⟨hr, rfl⟩ | hn
  · rw [hr]
    clear hr HN k0 z0
    obtain ⟨k1, z1⟩ := B1.out.rule
    go_wp2
    refine bodyPost_ret (v := .tuple #[.agg #[.slice none 0 0, .slice none 0 0, .int .i64 0, .bool false], .int .i64 380]) (by simp [results, Try.results26, go_sem, k1, z1]) rfl ?_
    exact ⟨_, rfl, RDk.zero _, (((HX1.out.setC r1).setC r1).setC r1).setC r1⟩
  have hr : d.runs = true := by rcases hn with h | h | h <;> exact h.1
  rw [hr]
  have HR := Lib.hid hr
  have HN' := Lib.hid hn
  clear hr hn HN
  go_wp2_with fail
  (with_reducible refine (has_any _ d _ _ (HD.out.ext HX1.out)).mono ?_)
  rintro e2 w2 ⟨rfl, hx2⟩
  have C0 := Lib.hid (B0.out.ext hx2)
  have C1 := Lib.hid (B1.out.ext hx2)
  have HX2 := Lib.hid (HX1.out.trans hx2)
  clear hx2 k0 z0 B0 B1 HX1
  obtain ⟨k0, z0⟩ := C0.out.rule
  obtain ⟨k1, z1⟩ := C1.out.rule
  rcases HN'.out with ⟨_, hh, rfl⟩ | ⟨_, hh, hl, rfl⟩ | ⟨_, hh, hl, hp, rfl⟩
  · rw [hh]
    clear hh HN'
    go_wp2
    refine bodyPost_ret (v := .tuple #[.agg #[.slice none 0 0, .slice none 0 0, .int .i64 0, .bool false], .int .i64 380]) (by simp [results, Try.results26, go_sem, k1, z1]) rfl ?_
    exact ⟨_, rfl, RDk.zero _, (((HX2.out.setC r1).setC r1).setC r1).setC r1⟩
  · rw [hh]
    clear hh HN'
    go_wp2
    refine bodyPost_ret (v := .tuple #[.agg #[.slice none 0 0, .slice none 0 0, .int .i64 0, .bool false], .int .i64 1]) (by simp [results, Try.results26, go_sem, k1, z1]) rfl ?_
    exact ⟨_, rfl, RDk.zero _, (((HX2.out.setC r1).setC r1).setC r1).setC r1⟩
  · rw [hh]
    have h4' : ((d.pending.length : Int) == 4096) = true := by simp; omega
    clear hh HN' hp
    go_wp2
    refine bodyPost_ret (v := .tuple #[.agg #[.slice none 0 0, .slice none 0 0, .int .i64 0, .bool false], .int .i64 2]) (by simp [results, Try.results26, go_sem, k1, z1]) rfl ?_
    exact ⟨_, rfl, RDk.zero _, (((HX2.out.setC r1).setC r1).setC r1).setC r1⟩

theorem write_any (v u : Value) (d : Dk) (at_ : Int) (b : List UInt8) (w : World) (hd : RDk S w v d) (hu : RBs S w u b) :
    Calls Try.prog 26 #[v, .int .i64 at_, u] w (RDE S w (d.write at_ b).1 (d.write at_ b).2) := by
  unfold Dk.write
  cases hr : d.runs
  · simp only [Bool.false_and, if_true]
    exact write_bad v u d at_ b w hd hu 380 (.inl ⟨hr, rfl⟩)
  cases hh : d.has at_
  · simp only [Bool.and_false, if_true]
    exact write_bad v u d at_ b w hd hu 380 (.inr (.inl ⟨hr, hh, rfl⟩))
  simp only [Bool.and_self, Bool.true_eq_false, if_false]
  by_cases hl : 128 < b.length
  · rw [if_pos hl]
    exact write_bad v u d at_ b w hd hu 1 (.inr (.inr (.inl ⟨hr, hh, hl, rfl⟩)))
  rw [if_neg hl]
  by_cases hp : d.pending.length = 4096
  · rw [if_pos hp]
    exact write_bad v u d at_ b w hd hu 2 (.inr (.inr (.inr ⟨hr, hh, by omega, hp, rfl⟩)))
  rw [if_neg hp]
  exact write_ok v u d at_ b w hd hu hr hh (by omega) hp (runs_facts hr).2.2.1

end Go.Proofs.Ytfmhnplkpohogaa

namespace Go.Proofs.Ytfmhnplkpohogaa
open Go.RowKit

variable {S S' : Nat → Prop}

/-- A torn sector: the first half of the new bytes, the second half of the old ones. -/
def torn (new old : List UInt8) : List UInt8 := new.take 64 ++ old.drop 64
def Dk.syncStop (d : Dk) (k : Nat) (x : Int × List UInt8) : Dk :=
  ⟨(performL d.sectors (d.pending.take k)).set x.1.toNat (torn x.2 ((performL d.sectors (d.pending.take k)).getD x.1.toNat [])), [], 0, true⟩
def Dk.syncOk (d : Dk) : Dk := ⟨performL d.sectors d.pending, [], if 0 ≤ d.left then d.left - d.pending.length else d.left, false⟩
def Dk.sync (d : Dk) : Dk × Int :=
  if d.runs = false then (Dk.zero, 380)
  else if 0 ≤ d.left ∧ d.left < d.pending.length then (d.syncStop d.left.toNat (d.pending.getD d.left.toNat (0, [])), 380)
  else (d.syncOk, 0)

theorem RPf.read {w w' : World} {l : List (List UInt8)} {v : Value} {vs : List Value} {base : Nat} (ho : w'.ownsRow base 35 1 v l.length vs)
    (hr : ∀ i (h : i < l.length) (h' : i < vs.length), RBs S w vs[i] l[i]) (hx : Ext w w') (hb : w.heap.size ≤ base) : RBss (Fr S w) w' v l := by
  have hl : vs.length = l.length := by have := ho.1; omega
  refine RSl.own ho (fun b h => .inr (Nat.le_trans hb h)) rfl (fun u hu => ?_) (fun i hi => ?_)
  · obtain ⟨i, hi, rfl⟩ := List.getElem_of_mem hu
    obtain ⟨A, cap, h, _⟩ := (hr i (by omega) hi).form
    rw [h]; rfl
  · rw [chunk_one (by omega)]
    exact ⟨_, rfl, ((hr i hi (by omega)).ext hx).up⟩

set_option maxHeartbeats 2000000 in
theorem sync_ok (v : Value) (d : Dk) (w : World) (hd : RDk S w v d) (h1 : d.runs = true) (h2 : d.left < 0 ∨ d.pending.length ≤ d.left) :
    Calls Try.prog 27 #[v] w (RDE S w d.syncOk 0) := by
  obtain ⟨A, c, B, e, rfl, q1, q2⟩ := hd.form
  obtain ⟨f1, f2, f3, f4, f5, f6, f7, f8⟩ := runs_facts h1
  have HD := Lib.hid hd
  have H1 := Lib.hid h1
  have HS := Lib.hid q1
  have HP := Lib.hid q2
  have H7 := Lib.hid f7
  have H6 := Lib.hid f6
  clear hd h1 q1 q2 f7 f8 f6
  go_enter Try.func27, Try.ntmps27
  go_wp2_with fail
  (with_reducible refine (runs_any _ d _ (HD.out.ext (((Ext.refl _).alloc _).alloc _))).mono ?_)
  rintro e1 w1 ⟨rfl, hx1⟩
  have B0 := Lib.hid (((Blk.new w w.heap.size _ _ rfl).alloc _).ext hx1)
  have B1 := Lib.hid ((Blk.new _ (w.heap.size + 1) _ _ (by simp)).ext hx1)
  have HX1 := Lib.hid ((((Ext.refl w).alloc _).alloc _).trans hx1)
  have r1 : w.heap.size ≤ w.heap.size + 1 := Nat.le_succ _
  clear hx1
  obtain ⟨k0, z0⟩ := B0.out.rule
  obtain ⟨k1, z1⟩ := B1.out.rule
  rw [H1.out]
  have P0 := Lib.hid (fun (W : World) (hW : Ext w W) => perform_any (.slice A d.sectors.length c) (.slice B d.pending.length e) d.sectors d.pending w W hW HS.out HP.out (by omega) (by omega) (fun i hi => by have := H7.out _ (List.getElem_mem hi); omega))
  rcases h2 with h2 | h2
  · go_wp2_with fail
    go_region_held3 (fun W => W.cell? ⟨w.heap.size, 0, none⟩ = some (.slice A d.sectors.length c) ∧ W.cell? ⟨w.heap.size, 1, none⟩ = some (.slice B d.pending.length e) ∧ W.cell? ⟨w.heap.size, 2, none⟩ = some (.int .i64 d.left)) (go_keep)
      (first | (go_at_call 54; refine (P0.out _ HX1.out.drew).mono ?_; rintro e2 w2 ⟨v2, vs, rfl, hown, hr, hx2⟩; have C0 := Lib.hid (B0.out.drew.ext hx2); have C1 := Lib.hid (B1.out.drew.ext hx2); have HX2 := Lib.hid (HX1.out.drew.trans hx2); clear k0 z0 k1 z1; obtain ⟨k0, z0⟩ := C0.out.rule; obtain ⟨k1, z1⟩ := C1.out.rule; obtain ⟨A2, cap2, rfl, hc2, hm2⟩ := own_any hown; have HO := Lib.hid hown; have HR := Lib.hid hr; have HX := Lib.hid hx2; clear hown hr hx2))
    rename_i hheld
    clear hheld
    obtain ⟨w3, e3, D1, hg3⟩ := set4 C1.out (.slice A2 (performL d.sectors d.pending).length cap2) (.slice none 0 0) (.int .i64 d.left) (.bool false)
    rw [e3]
    have g1 : w.heap.size + 1 < w1.drew.heap.size := B1.out.lt
    have D0 := Lib.hid (C0.out.grownN hg3 (by omega))
    have HX3 := Lib.hid (HX2.out.grownN hg3 r1)
    have HO3 := Lib.hid (own_grownN HO.out hg3 g1)
    have HD1 := Lib.hid D1
    clear k0 z0 k1 z1 e3 D1 hg3
    obtain ⟨k1, z1⟩ := HD1.out.rule
    go_wp2
    obtain ⟨w4, e4, E1, hg4⟩ := set4 HD1.out (.slice A2 (performL d.sectors d.pending).length cap2) (.slice none 0 0) (.int .i64 d.left) (.bool false)
    rw [e4]
    obtain ⟨k2, z2⟩ := E1.rule
    refine bodyPost_ret (v := .tuple #[.agg #[.slice A2 (performL d.sectors d.pending).length cap2, .slice none 0 0, .int .i64 d.left, .bool false], .int .i64 0]) (by simp [results, Try.results27, go_sem, k2, z2]) rfl ?_
    have hl : d.syncOk = ⟨performL d.sectors d.pending, [], d.left, false⟩ := by unfold Dk.syncOk; rw [if_neg (by omega)]
    refine ⟨_, rfl, ?_, HX3.out.grownN hg4 r1⟩
    rw [hl]
    exact RDk.mk (RPf.read (w := w) (own_grownN HO3.out hg4 g1) HR.out (HX3.out.grownN hg4 r1) (by omega)) (RSl.nil _)
  · go_wp2_with fail
    go_region_held3 (fun W => W.cell? ⟨w.heap.size, 0, none⟩ = some (.slice A d.sectors.length c) ∧ W.cell? ⟨w.heap.size, 1, none⟩ = some (.slice B d.pending.length e) ∧ W.cell? ⟨w.heap.size, 2, none⟩ = some (.int .i64 d.left)) (go_keep)
      (first | (go_at_call 54; refine (P0.out _ HX1.out.drew).mono ?_; rintro e2 w2 ⟨v2, vs, rfl, hown, hr, hx2⟩; have C0 := Lib.hid (B0.out.drew.ext hx2); have C1 := Lib.hid (B1.out.drew.ext hx2); have HX2 := Lib.hid (HX1.out.drew.trans hx2); clear k0 z0 k1 z1; obtain ⟨k0, z0⟩ := C0.out.rule; obtain ⟨k1, z1⟩ := C1.out.rule; obtain ⟨A2, cap2, rfl, hc2, hm2⟩ := own_any hown; have HO := Lib.hid hown; have HR := Lib.hid hr; have HX := Lib.hid hx2; clear hown hr hx2))
    rename_i hheld
    clear hheld
    obtain ⟨w3, e3, D1, hg3⟩ := set4 C1.out (.slice A2 (performL d.sectors d.pending).length cap2) (.slice none 0 0) (.int .i64 d.left) (.bool false)
    rw [e3]
    have g1 : w.heap.size + 1 < w1.drew.heap.size := B1.out.lt
    have D0 := Lib.hid (C0.out.grownN hg3 (by omega))
    have HX3 := Lib.hid (HX2.out.grownN hg3 r1)
    have HO3 := Lib.hid (own_grownN HO.out hg3 g1)
    have HD1 := Lib.hid D1
    clear k0 z0 k1 z1 e3 D1 hg3
    obtain ⟨k1, z1⟩ := HD1.out.rule
    have hsub : IntKind.i64.wrap (d.left - d.pending.length) = d.left - d.pending.length := IntWalk.i64_in _ (by omega)
    have D1' := Lib.hid HD1.out
    go_wp2
    obtain ⟨w4, e4, E1, hg4⟩ := set4 (p := .slice A2 (performL d.sectors d.pending).length cap2) (q := .slice none 0 0) (r := .int .i64 (d.left - d.pending.length)) (s := .bool false) (HD1.out.set 2 (.int .i64 (d.left - d.pending.length))) (.slice A2 (performL d.sectors d.pending).length cap2) (.slice none 0 0) (.int .i64 (d.left - d.pending.length)) (.bool false)
    rw [e4]
    obtain ⟨k2, z2⟩ := E1.rule
    have hgA := grown_setC (i := 2) (u := .int .i64 (d.left - d.pending.length)) (grown_rfl w3 (some (w.heap.size + 1)))
    refine bodyPost_ret (v := .tuple #[.agg #[.slice A2 (performL d.sectors d.pending).length cap2, .slice none 0 0, .int .i64 (d.left - d.pending.length), .bool false], .int .i64 0]) (by simp [results, Try.results27, go_sem, k2, z2]) rfl ?_
    have hl : d.syncOk = ⟨performL d.sectors d.pending, [], d.left - d.pending.length, false⟩ := by unfold Dk.syncOk; rw [if_pos (by omega)]
    have HX4 := ((HX3.out.grownN hgA r1).grownN hg4 r1)
    refine ⟨_, rfl, ?_, HX4⟩
    rw [hl]
    exact RDk.mk (RPf.read (w := w) (own_grownN (own_grownN HO3.out hgA g1) hg4 g1) HR.out HX4 (by omega)) (RSl.nil _)

set_option maxHeartbeats 2000000 in
theorem sync_bad (v : Value) (d : Dk) (w : World) (hd : RDk S w v d) (h1 : d.runs = false) :
    Calls Try.prog 27 #[v] w (RDE S w Dk.zero 380) := by
  obtain ⟨A, c, B, e, rfl, q1, q2⟩ := hd.form
  have HD := Lib.hid hd
  have H1 := Lib.hid h1
  clear hd h1 q1 q2
  go_enter Try.func27, Try.ntmps27
  go_wp2_with fail
  (with_reducible refine (runs_any _ d _ (HD.out.ext (((Ext.refl _).alloc _).alloc _))).mono ?_)
  rintro e1 w1 ⟨rfl, hx1⟩
  have B1 := Lib.hid ((Blk.new _ (w.heap.size + 1) _ _ (by simp)).ext hx1)
  have HX1 := Lib.hid ((((Ext.refl w).alloc _).alloc _).trans hx1)
  have r1 : w.heap.size ≤ w.heap.size + 1 := Nat.le_succ _
  clear hx1
  obtain ⟨k1, z1⟩ := B1.out.rule
  rw [H1.out]
  go_wp2
  obtain ⟨w4, e4, E1, hg4⟩ := set4 B1.out (.slice none 0 0) (.slice none 0 0) (.int .i64 0) (.bool false)
  rw [e4]
  obtain ⟨k2, z2⟩ := E1.rule
  refine bodyPost_ret (v := .tuple #[.agg #[.slice none 0 0, .slice none 0 0, .int .i64 0, .bool false], .int .i64 380]) (by simp [results, Try.results27, go_sem, k2, z2]) rfl ?_
  exact ⟨_, rfl, RDk.zero _, HX1.out.grownN hg4 r1⟩

end Go.Proofs.Ytfmhnplkpohogaa

namespace Go.Proofs.Ytfmhnplkpohogaa

/-- a sum of 64 bits: it may go around -/
def usedW (l : List (List UInt8)) : Int := l.foldl (fun n b => IntKind.i64.wrap (n + (secs b.length : Nat))) 0
theorem usedW_app (l : List (List UInt8)) (b : List UInt8) : usedW (l ++ [b]) = IntKind.i64.wrap (usedW l + (secs b.length : Nat)) := by simp [usedW, List.foldl_append]
theorem usedW_take {l : List (List UInt8)} {k : Nat} {b : List UInt8} (h : l[k]? = some b) : usedW (l.take (k + 1)) = IntKind.i64.wrap (usedW (l.take k) + (secs b.length : Nat)) := by
  rw [List.take_add_one, h]; exact usedW_app _ _
theorem wrapI64 (n : Int) : IntKind.i64.wrap n = (n + 9223372036854775808) % 18446744073709551616 - 9223372036854775808 := by
  rw [IntKind.wrap_i64]
theorem usedW_small : ∀ {l : List (List UInt8)}, usedL l < 9223372036854775808 → usedW l = (usedL l : Nat) := fun {l} => snoc_ind (P := fun l => usedL l < 9223372036854775808 → usedW l = (usedL l : Nat)) (fun _ => rfl) (fun a c ih h => by
  rw [usedL_app, usedL_cons, usedL_nil] at h ⊢
  rw [usedW_app, ih (by omega), wrapI64]
  omega) l
structure Lg where
  many : Int
  recs : List (List UInt8)
  synced : Int
def Lg.zero : Lg := ⟨0, [], 0⟩
def Lg.check (l : Lg) : Int := if l.many < 1 ∨ 4096 < l.many ∨ l.synced < 0 ∨ (l.recs.length : Nat) < l.synced ∨ l.many < usedW l.recs then 1 else 0
def Lg.left (l : Lg) : Int := IntKind.i64.wrap (l.many - usedW l.recs)
def Lg.room (l : Lg) : Int := if l.check = 0 then IntKind.i64.wrap (112 * l.left) else 0
def Lg.append (l : Lg) (b : List UInt8) : Lg × Int := if l.check = 0 then (if l.left < (secs b.length : Nat) then (Lg.zero, 2) else (⟨l.many, l.recs ++ [b], l.synced⟩, 0)) else (Lg.zero, 1)
/-! what Open answers -/
def openE (d : Dk) : Int := if d.check ≠ 0 then d.check else if d.stopped = true then 380 else if 0 < d.pending.length then 1 else 0
def openR (d : Dk) : List (List UInt8) := if openE d = 0 then recsOf d.sectors else []
def openM (d : Dk) : Int := if openE d = 0 then d.sectors.length else 0
theorem openE_1 {d : Dk} (h : d.check ≠ 0) : openE d = d.check := if_pos h
theorem openE_2 {d : Dk} (h : d.check = 0) (h2 : d.stopped = true) : openE d = 380 := by rw [openE, if_neg (by omega), if_pos h2]
theorem openE_3 {d : Dk} (h : d.check = 0) (h2 : d.stopped = false) (h3 : 0 < d.pending.length) : openE d = 1 := by rw [openE, if_neg (by omega), if_neg (by rw [h2]; decide), if_pos h3]
theorem openE_0 {d : Dk} (h : d.check = 0) (h2 : d.stopped = false) (h3 : ¬ 0 < d.pending.length) : openE d = 0 := by rw [openE, if_neg (by omega), if_neg (by rw [h2]; decide), if_neg h3]
theorem open_bad {d : Dk} {n : Int} (h : openE d = n) (h0 : n ≠ 0) : openR d = [] ∧ openM d = 0 := by
  rw [openR, openM, h, if_neg h0, if_neg h0]; exact ⟨rfl, rfl⟩
theorem open_good {d : Dk} (h : openE d = 0) : openR d = recsOf d.sectors ∧ openM d = d.sectors.length := by
  rw [openR, openM, h, if_pos rfl, if_pos rfl]; exact ⟨rfl, rfl⟩
theorem runs_of_check {d : Dk} (h : d.check = 0) (h2 : d.stopped = false) : d.runs = true := by unfold Dk.runs; rw [h, h2]; rfl

abbrev wrapI (n : Int) : Int := IntKind.i64.wrap n
theorem Lg.check_bad (m : Int) (R : List (List UInt8)) (s : Int) (h : m < 1 ∨ 4096 < m ∨ s < 0 ∨ ((R.length : Nat) : Int) < s ∨ m < usedW R) : (Lg.mk m R s).check = 1 := if_pos h
theorem Lg.check_ok (m : Int) (R : List (List UInt8)) (s : Int) (h : ¬ (m < 1 ∨ 4096 < m ∨ s < 0 ∨ ((R.length : Nat) : Int) < s ∨ m < usedW R)) : (Lg.mk m R s).check = 0 := if_neg h
theorem Lg.room_bad {l : Lg} (h : l.check ≠ 0) : l.room = 0 := if_neg h
theorem Lg.room_ok {l : Lg} (h : l.check = 0) : l.room = IntKind.i64.wrap (112 * l.left) := if_pos h
theorem Lg.append_1 {l : Lg} {b : List UInt8} (h : l.check ≠ 0) : l.append b = (Lg.zero, l.check) := by
  rw [Lg.append, if_neg h]
  unfold Lg.check at h ⊢
  split
  · rfl
  · rename_i c; rw [if_neg c] at h; exact absurd rfl h
theorem Lg.append_2 {l : Lg} {b : List UInt8} (h : l.check = 0) (h2 : l.left < (secs b.length : Nat)) : l.append b = (Lg.zero, 2) := by rw [Lg.append, if_pos h, if_pos h2]
theorem Lg.append_ok {l : Lg} {b : List UInt8} (h : l.check = 0) (h2 : ¬ l.left < (secs b.length : Nat)) : l.append b = (⟨l.many, l.recs ++ [b], l.synced⟩, 0) := by rw [Lg.append, if_pos h, if_neg h2]
theorem Lg.check_01 (l : Lg) : l.check = 0 ∨ l.check = 1 := by unfold Lg.check; split <;> simp

end Go.Proofs.Ytfmhnplkpohogaa

namespace Go.Proofs.Ytfmhnplkpohogaa
open Go.RowKit

variable {S S' : Nat → Prop}

theorem RWs.take {w : World} {A : Option Addr} {n cap : Nat} {l : List (Int × List UInt8)} (h : RWs S w (.slice A n cap) l) {m c : Nat} (hm : m ≤ n) (hc : m ≤ c) (hc2 : c ≤ 9223372036854775807) : RWs S w (.slice A m c) (l.take m) := RSl.take h hm hc hc2

theorem perform_len (l : List (Int × List UInt8)) : ∀ (ss : List (List UInt8)), (∀ x ∈ ss, x.length = 128) → (∀ x ∈ l, x.2.length = 128) → ∀ x ∈ performL ss l, x.length = 128 := by
  induction l with
  | nil => intro ss h _ x hx; exact h x hx
  | cons y l ih =>
    intro ss h h2 x hx
    refine ih (ss.set y.1.toNat y.2) (fun z hz => ?_) (fun z hz => h2 z (List.mem_cons_of_mem _ hz)) x hx
    rcases List.mem_or_eq_of_mem_set hz with hz | hz
    · exact h z hz
    · rw [hz]; exact h2 y (List.mem_cons_self ..)

theorem row_at {w w3 : World} {base g n cap : Nat} {e : TypeId} {vs : List Value} {ps : List (List UInt8)} (ho : w3.ownsRow base e 1 (.slice (some ⟨g, 0, none⟩) n cap) n vs)
    (hr : ∀ i (h : i < ps.length) (h' : i < vs.length), RBs S w vs[i] ps[i]) (hp : ps.length = n) {at_ : Nat} (h : at_ < n) :
    ∃ A c old, ps[at_]? = some old ∧ w3.cell? ⟨g, at_, none⟩ = some (.slice A old.length c) ∧ w3.frozen? ⟨g, at_, none⟩ = false ∧ RBs S w (.slice A old.length c) old ∧ old.length ≤ c ∧ c ≤ 9223372036854775807 := by
  have hv : vs.length = n := by have := ho.1; omega
  have h1 := hr at_ (by omega) (by omega)
  obtain ⟨A, c, hf, h2, h3⟩ := h1.form
  refine ⟨A, c, ps[at_], List.getElem?_eq_getElem (by omega), ?_, ho.frozenAt at_, ?_, h2, h3⟩
  · rw [ho.cellAt at_ (by omega), List.getElem?_eq_getElem (by omega), hf]
  · rw [← hf]; exact h1

theorem copy_src {w : World} {A : Option Addr} {cs : List Value} (h : ∃ ad, A = some ad) (hp : ∀ j v, cs[j]? = some v → ∃ ad, A = some ad ∧ w.cell? (ad.add j) = some v) : ∃ ad, A = some ad ∧ ∀ j v, cs[j]? = some v → w.cell? (ad.add j) = some v := by
  obtain ⟨ad, ha⟩ := h
  refine ⟨ad, ha, fun j v hv => ?_⟩
  obtain ⟨ad', ha', h⟩ := hp j v hv
  rw [ha] at ha'
  injection ha' with ha'
  rw [ha']; exact h

theorem torn_vals {cur : List Value} {data old : List UInt8} {c : Nat} (hct : cur.take (128 * 1) = byteVals old) (hd : data.length = 128) (ho : old.length = 128) (hc : cur.length = c * 1) (hcc : 128 ≤ c) :
    (splice cur 0 (byteVals (data.take 64))).take (128 * 1) = byteVals (torn data old) := by
  have h64 : (byteVals (data.take 64)).length = 64 := by simp [byteVals]; omega
  unfold splice
  rw [List.take_zero, List.nil_append, h64, List.take_append, h64, List.take_of_length_le (by omega)]
  have : List.take (128 * 1 - 64) (List.drop (0 + 64) cur) = (cur.take (128 * 1)).drop 64 := by rw [List.drop_take]
  rw [this, hct]
  simp [torn, byteVals]

theorem stop_fin {w w' : World} {base g n cap : Nat} {vs : List Value} {ps : List (List UInt8)} {at_ g4 cap4 : Nat} {cur : List Value} {data old : List UInt8} {e e4 : TypeId}
    (ho : w'.ownsRow base e 1 (.slice (some ⟨g, 0, none⟩) n cap) n (vs.set at_ (.slice (some ⟨g4, 0, none⟩) 128 cap4)))
    (hr : ∀ i (h : i < ps.length) (h' : i < vs.length), RBs S w vs[i] ps[i]) (hx : Ext w w') (hp : ps.length = n)
    (hg : Blk w' g4 e4 (splice cur 0 (byteVals (data.take 64)))) (hct : cur.take (128 * 1) = byteVals old) (hc : 128 ≤ cap4) (hm : cap4 ≤ 9223372036854775807) (hd : data.length = 128) (hol : old.length = 128)
    (hcur : cur.length = cap4 * 1) (hgw : w.heap.size ≤ g4) (hbw : w.heap.size ≤ base) : RBss (Fr S w) w' (.slice (some ⟨g, 0, none⟩) n cap) (ps.set at_ (torn data old)) := by
  have hv : vs.length = n := by have := ho.1; simp at this; omega
  have htl : (torn data old).length = 128 := by simp [torn]; omega
  have hdata : RBs (Fr S w) w' (.slice (some ⟨g4, 0, none⟩) 128 cap4) (torn data old) := by
    have := own_of_blk (n := 128) (cap := cap4) (k := 1) hg hc hm (by rw [length_splice _ _ _ (by simp [byteVals]; omega)]; exact hcur) (Nat.le_refl _)
    rw [torn_vals hct hd hol hcur hc] at this
    exact RBs.own this (fun b h => .inr (Nat.le_trans hgw h))
  refine RSl.own ho (fun b h => .inr (Nat.le_trans hbw h)) (by simp [hp]) (fun u hu => ?_) (fun i hi => ?_)
  · rcases List.mem_or_eq_of_mem_set hu with h | h
    · obtain ⟨i, hi, rfl⟩ := List.getElem_of_mem h
      obtain ⟨A, c, hf, _⟩ := (hr i (by omega) hi).form
      rw [hf]; rfl
    · rw [h]; rfl
  · simp at hi
    rw [chunk_one (by simp; omega)]
    refine ⟨_, rfl, ?_⟩
    rw [List.getElem_set, List.getElem_set]
    split
    · exact hdata
    · exact ((hr i hi (by omega)).ext hx).up

set_option maxHeartbeats 2000000 in
theorem sync_stop (v : Value) (d : Dk) (w : World) (k : Nat) (hd : RDk S w v d) (h1 : d.runs = true) (h2 : d.left = k) (h3 : k < d.pending.length) :
    Calls Try.prog 27 #[v] w (RDE S w (d.syncStop k d.pending[k]) 380) := by
  obtain ⟨A, c, B, e, rfl, q1, q2⟩ := hd.form
  obtain ⟨f1, f2, f3, f4, f5, f6, f7, f8⟩ := runs_facts h1
  have HD := Lib.hid hd
  have H1 := Lib.hid h1
  have HS := Lib.hid q1
  have HP := Lib.hid q2
  have H7 := Lib.hid f7
  have H8 := Lib.hid f8
  obtain ⟨hqa, hqb⟩ := q2.at.2.1
  obtain ⟨bp, offp, rfl, hbp, hcp⟩ := q2.at.2.2 (by omega)
  obtain ⟨x, c1, c2, hx⟩ := hcp k h3
  obtain ⟨x1, x2, x3⟩ := f7 _ (List.getElem_mem h3)
  obtain ⟨at_, hat⟩ : ∃ at_ : Nat, d.pending[k].1 = at_ := ⟨d.pending[k].1.toNat, by omega⟩
  obtain ⟨data, hdata⟩ : ∃ data, d.pending[k].2 = data := ⟨_, rfl⟩
  rw [hat] at c1 x1 x2
  rw [hdata] at hx x3
  obtain ⟨Ax, cx, rfl, hcx, hmx⟩ := hx.form
  have HX := Lib.hid hx
  have HAT := Lib.hid hat
  have HDA := Lib.hid hdata
  have C1 := Lib.hid c1
  have C2 := Lib.hid c2
  rw [h2] at *
  have H2 := Lib.hid h2
  have X3 := Lib.hid x3
  clear hd h1 h2 q1 q2 f7 f8 f6 hcp hx hat hdata c1 c2 x3
  go_enter Try.func27, Try.ntmps27
  go_wp2_with fail
  (with_reducible refine (runs_any _ d _ (HD.out.ext (((Ext.refl _).alloc _).alloc _))).mono ?_)
  rintro e1 w1 ⟨rfl, hx1⟩
  have B0 := Lib.hid (((Blk.new w w.heap.size _ _ rfl).alloc _).ext hx1)
  have B1 := Lib.hid ((Blk.new _ (w.heap.size + 1) _ _ (by simp)).ext hx1)
  have HX1 := Lib.hid ((((Ext.refl w).alloc _).alloc _).trans hx1)
  have r1 : w.heap.size ≤ w.heap.size + 1 := Nat.le_succ _
  clear hx1
  obtain ⟨k0, z0⟩ := B0.out.rule
  obtain ⟨k1, z1⟩ := B1.out.rule
  rw [H1.out]
  go_wp2_with fail
  (with_reducible refine (perform_any _ _ d.sectors (d.pending.take k) w _ HX1.out HS.out (HP.out.take (Nat.le_of_lt h3) (Nat.le_refl _) (by omega)) (by omega) (by rw [List.length_take]; omega) (fun i hi => by
    have hm : (d.pending.take k)[i] ∈ d.pending := List.mem_of_mem_take (List.getElem_mem hi)
    have := H7.out _ hm; omega)).mono ?_)
  rintro e2 w2 ⟨v2, vs, rfl, hown, hr, hx2⟩
  have hpl : (performL d.sectors (d.pending.take k)).length = d.sectors.length := performL_length _ _
  obtain ⟨ps, hps⟩ : ∃ ps, performL d.sectors (d.pending.take k) = ps := ⟨_, rfl⟩
  rw [hps] at hown hr hpl
  have HPS := Lib.hid hps
  rw [hpl] at hown
  obtain ⟨g, cap2, rfl, hg1, hg2, hc2, hm2⟩ := own_form hown (by omega)
  have hvl : vs.length = d.sectors.length := by have := hown.1; omega
  have HPL := Lib.hid hpl
  have HVL := Lib.hid hvl
  have C0 := Lib.hid (B0.out.ext hx2)
  have D1 := Lib.hid (B1.out.ext hx2)
  have HX2 := Lib.hid (HX1.out.trans hx2)
  have g1 := B1.out.lt
  have HO := Lib.hid hown
  have HR := Lib.hid hr
  clear k0 z0 k1 z1 hown hr hx2 hps hpl hvl B0 B1
  obtain ⟨k0, z0⟩ := C0.out.rule
  obtain ⟨k1, z1⟩ := D1.out.rule
  have hlt1 := D1.out.lt
  have e1 := HX2.out.keep C1.out
  have e2 := HX2.out.keep C2.out
  go_upto_region 7 with (fail)
  obtain ⟨w3, e3, E1, hg3⟩ := set4 D1.out (.slice (some ⟨g, 0, none⟩) d.sectors.length cap2) (.slice none 0 0) (.int .i64 0) (.bool true)
  rw [e3]
  have F0 := Lib.hid (C0.out.grownN hg3 (by omega))
  have F1 := Lib.hid E1
  have HX3 := Lib.hid (HX2.out.grownN hg3 r1)
  have HO3 := Lib.hid (own_grownN HO.out hg3 g1)
  have hz3 := hg3.size
  clear k0 z0 k1 z1 e1 e2 e3 E1 hg3 HX2 C0 D1 HO
  obtain ⟨k0, z0⟩ := F0.out.rule
  obtain ⟨k1, z1⟩ := F1.out.rule
  have e1 := HX3.out.keep C1.out
  have e2 := HX3.out.keep C2.out
  have hlt1 := F1.out.lt
  obtain ⟨Ay, cy, old, hold, q1, q2, hrat, hcy, hmy⟩ := row_at HO3.out HR.out HPL.out (at_ := at_) (by omega)
  have HOLD := Lib.hid hold
  have hll : old.length = 128 := by
    rw [← HPS.out] at hold
    exact perform_len _ _ (fun x hx => H8.out x hx) (fun x hx => (H7.out x (List.mem_of_mem_take hx)).2.2) _ (List.mem_of_getElem? hold)
  rw [hll] at q1 hrat hcy
  have HLL := Lib.hid hll
  have HRAT := Lib.hid hrat
  clear hrat hold hll
  have hgl : g < w3.heap.size := by omega
  go_wp2_with fail
  obtain ⟨-, -, hcel⟩ := HRAT.out.vals
  (with_reducible refine (cloneB_any _ _ _ (byteVals old) _ (hcel.ext (HX3.out.alloc _)) (by omega)).mono ?_)
  rintro e4 w4 ⟨v4, rfl, hown4, hx4⟩
  obtain ⟨g4, cap4, rfl, hg41, hg42, hc4, hm4⟩ := own_form hown4 (by omega)
  have G0 := Lib.hid ((F0.out.alloc _).ext hx4)
  have G1 := Lib.hid ((F1.out.alloc _).ext hx4)
  have G2 := Lib.hid ((Blk.new w3 w3.heap.size _ _ rfl).ext hx4)
  have HX4 := Lib.hid ((HX3.out.alloc _).trans hx4)
  have HO4 := Lib.hid (own_ext (HO3.out.alloc _) hx4)
  have HN4 := Lib.hid hown4
  simp only [World.size_alloc] at hg41
  clear k0 z0 k1 z1 e1 e2 q1 q2 hown4 hx4 hcel F0 F1 HX3 HO3
  obtain ⟨k0, z0⟩ := G0.out.rule
  obtain ⟨k1, z1⟩ := G1.out.rule
  obtain ⟨k2, z2⟩ := G2.out.rule
  have h64 : (0 : Int) ≤ 64 ∧ (64 : Int) ≤ (cap4 : Int) := by omega
  obtain ⟨cur4, hcur4, hcl4, hct4⟩ := own_blk HN4.out
  have HCUR := Lib.hid hcur4
  have HCT := Lib.hid hct4
  obtain ⟨-, -, hdc⟩ := (HX.out.ext HX4.out).vals
  have hd128 := X3.out
  have hs1 : ((Try.prog.info? 5).map (·.size)) = some 1 := by kernel_rfl
  have HCS : Hid ((byteVals (data.take 64)).length = Nat.min data.length 64) := by show _ = _; rw [hd128]; simp [byteVals, hd128]
  have HPOS : Hid (∀ j v, (byteVals (data.take 64))[j]? = some v → ∃ ad, Ax = some ad ∧ w4.drew.cell? (ad.add j) = some v) := by
    intro j v hv
    obtain ⟨b, off, ha, hb, hx⟩ := hdc.2.2 (by omega)
    refine ⟨_, ha, ?_⟩
    rw [addr_add]
    refine hx j v ?_
    simp only [byteVals, List.map_take, List.getElem?_take] at hv
    split at hv
    · exact hv
    · cases hv
  have HAX : Hid (∃ ad, Ax = some ad) := by
    obtain ⟨b, off, ha, _⟩ := hdc.2.2 (by omega)
    exact ⟨_, ha⟩
  have HLE : Hid (0 + (byteVals (data.take 64)).length ≤ cur4.length) := by show _ ≤ _; rw [hcl4]; simp [byteVals]; omega
  have HBW : Hid (Below (w3.heap.size + 1) w4 w4.drew) := (Below.refl _ _).drew
  have HCL := Lib.hid hcl4
  clear hdc hd128 hcur4 hct4 hcl4
  go_wp2_with fail
  go_region_law (refine step_copy_splice rfl (.tmp 50) (.tmp 52) 35 35 rfl 5 Try.underlying35 hs1 _ _ _ _ _ _ rfl rfl g4 0 cur4 5 HCUR.out (byteVals (data.take 64)) HCS.out (fun _ => ⟨rfl, copy_src HAX.out HPOS.out⟩) HLE.out (byteVals_one _) (w3.heap.size + 1) w4 HBW.out hg41 ?_; intro w5 HG5 hb5)
  have hz0 := G0.out.lt
  have hz1 := G1.out.lt
  have hz2 := G2.out.lt
  have I0 := Lib.hid (G0.out.below hb5 (by omega))
  have I1 := Lib.hid (G1.out.below hb5 (by omega))
  have I2 := Lib.hid (G2.out.below hb5 (by omega))
  have HX5 := Lib.hid (HX4.out.belowN hb5 (by omega))
  have HO5 := Lib.hid (own_below HO4.out hb5 (by omega))
  have hz5 := hb5.size
  clear k0 z0 k1 z1 k2 z2 G0 G1 G2 HX4 HO4 hb5
  obtain ⟨k0, z0⟩ := I0.out.rule
  obtain ⟨k1, z1⟩ := I1.out.rule
  obtain ⟨k2, z2⟩ := I2.out.rule
  obtain ⟨Az, cz, old', hold', q1, q2, -, -, -⟩ := row_at HO5.out HR.out HPL.out (at_ := at_) (by omega)
  clear hold'
  have hgne : g ≠ w.heap.size + 1 := by omega
  go_upto_region 11 with (fail)
  obtain ⟨hown6, hg6⟩ := HO5.out.stored at_ (.slice (some ⟨g4, 0, none⟩) 128 cap4)
  obtain ⟨w6, e6⟩ : ∃ w6, w5.setCell ⟨g, at_, none⟩ (.slice (some ⟨g4, 0, none⟩) 128 cap4) = w6 := ⟨_, rfl⟩
  rw [e6] at hown6 hg6
  rw [e6]
  have J1 := Lib.hid (I1.out.grownN hg6 (by omega))
  have HX6 := Lib.hid (HX5.out.grownN hg6 (by omega))
  have HG6 := Lib.hid (Blk.grownN HG5.out hg6 (by omega))
  have HO6 := Lib.hid hown6
  clear k0 z0 k1 z1 k2 z2 q1 q2 e6 hown6 hg6 I0 I1 I2 HX5 HG5 HO5
  obtain ⟨k1, z1⟩ := J1.out.rule
  go_wp2
  obtain ⟨w7, e7, L1, hg7⟩ := set4 J1.out (.slice (some ⟨g, 0, none⟩) d.sectors.length cap2) (.slice none 0 0) (.int .i64 0) (.bool true)
  rw [e7]
  obtain ⟨k2, z2⟩ := L1.rule
  refine bodyPost_ret (v := .tuple #[.agg #[.slice (some ⟨g, 0, none⟩) d.sectors.length cap2, .slice none 0 0, .int .i64 0, .bool true], .int .i64 380]) (by simp [results, Try.results27, go_sem, k2, z2]) rfl ?_
  have HX7 := HX6.out.grownN hg7 r1
  refine ⟨_, rfl, ?_, HX7⟩
  unfold Dk.syncStop
  rw [HPS.out, HAT.out, HDA.out, Int.toNat_natCast, List.getD_eq_getElem?_getD, HOLD.out, Option.getD_some]
  exact RDk.mk (stop_fin (own_grownN HO6.out hg7 g1) HR.out HX7 HPL.out (Blk.grownN HG6.out hg7 (by omega)) HCT.out hc4 hm4 X3.out HLL.out HCL.out (by omega) (by omega)) (RSl.nil _)

theorem sync_any (v : Value) (d : Dk) (w : World) (hd : RDk S w v d) : Calls Try.prog 27 #[v] w (RDE S w d.sync.1 d.sync.2) := by
  unfold Dk.sync
  cases hr : d.runs
  · simp only [if_true]
    exact sync_bad v d w hd hr
  · simp only [Bool.true_eq_false, if_false]
    by_cases hl : 0 ≤ d.left ∧ d.left < d.pending.length
    · rw [if_pos hl]
      have hk : d.left.toNat < d.pending.length := by omega
      rw [List.getD_eq_getElem?_getD, List.getElem?_eq_getElem hk, Option.getD_some]
      exact sync_stop v d w d.left.toNat hd hr (by omega) hk
    · rw [if_neg hl]
      exact sync_ok v d w hd hr (by omega)

end Go.Proofs.Ytfmhnplkpohogaa

namespace Go.Proofs.Ytfmhnplkpohogaa
set_option maxRecDepth 100000
open Go.RowKit

variable {S S' : Nat → Prop}

theorem rep_splice (u : Value) (cur : List Value) (n k : Nat) (hl : cur.length = n) (hk : k ≤ n) (h : ∀ i, i < k → cur[i]? = some u) (m : Nat) (hm : k + m ≤ n) : (splice cur k (List.replicate m u)).length = n ∧ ∀ i, i < k + m → (splice cur k (List.replicate m u))[i]? = some u := by
  refine ⟨by rw [length_splice _ _ _ (by simp; omega)]; exact hl, fun i hi => ?_⟩
  unfold splice
  rw [List.getElem?_append]
  split
  · rename_i h1
    simp at h1
    rw [List.getElem?_take, if_pos (by omega)]
    exact h i (by omega)
  · rename_i h1
    simp at h1
    have hk' : min k cur.length = k := Nat.min_eq_left (by omega)
    rw [List.getElem?_append_left (by simp [hk']; omega), List.getElem?_replicate, if_pos (by rw [List.length_take, hk']; omega)]

theorem mul_one_any (n : Nat) (hn : n ≤ 4096) (w : World) : Calls Try.prog 68 #[.int .u64 1, .int .u64 n] w (fun e w' => e = .returned (.tuple #[.int .u64 0, .int .u64 n]) ∧ w = w') := by
  refine (Try.bits_Mul 1 n (by omega) (by omega) w).mono ?_
  rintro e w' ⟨rfl, rfl⟩
  refine ⟨?_, rfl⟩
  rw [Nat.one_mul, Nat.div_eq_of_lt (by omega), Nat.mod_eq_of_lt (by omega)]
  rfl

set_option maxHeartbeats 2000000 in
theorem repeat_any (b off cap : Nat) (u : Value) (n : Nat) (w : World) (hc : w.cell? ⟨b, off, none⟩ = some u) (hu : u.oneCell' = true) (h1 : 1 ≤ n) (h2 : n ≤ 4096) :
    Calls Try.prog 49 #[.slice (some ⟨b, off, none⟩) 1 cap, .int .i64 n] w (RCl w 35 1 n (List.replicate n u)) := by
  have HC := Lib.hid hc
  have HU := Lib.hid hu
  clear hc hu
  have hmk := fun (W : World) => run_make_row' (P := Try.prog) 22 35 (.slice none 0 0) 24 Try.underlying22 elBss.hi rfl .i64 .i64 n (by omega) (by omega) W
  go_enter Try.func49, Try.ntmps49
  go_wp2_with fail
  (with_reducible refine (mul_one_any n h2 _).mono ?_)
  rintro e1 w1 ⟨rfl, rfl⟩
  go_wp2_with (with_reducible refine stop_copy ?_)
  have hblk : Blk (w.alloc (.cells (madeCells #[.slice none 0 0] n) 35)) w.heap.size 35 (List.replicate n (.slice none 0 0)) := by
    have := heap_alloc_new w (.cells (madeCells #[.slice none 0 0] n) 35)
    unfold Blk
    rw [this, ← toList_madeCells_one]
  refine Lib.hid (wpList_cpy elBss rfl rfl rfl rfl hblk (ys := [u]) ?_ (by simp; omega) ?_)
  · refine ⟨rfl, ?_, fun _ => ⟨b, off, rfl, ?_, fun j v hv => ?_⟩⟩
    · intro x hx; simp at hx; subst hx; exact HU.out
    · have hlt : b < w.heap.size := World.block_lt_of_cell? w _ HC.out
      simp; omega
    · have hlt : b < w.heap.size := World.block_lt_of_cell? w _ HC.out
      rw [World.cell?_alloc_lt _ _ _ hlt]
      cases j with
      | zero => simp at hv; subst hv; exact HC.out
      | succ j => simp at hv
  intro w2 hg2 hgr
  have HX2 : Hid (Ext w w2) := Lib.hid (((Ext.refl w).alloc _).grownN hgr (Nat.le_refl _))
  have HG2 : Hid (∃ cur : List Value, Blk w2 w.heap.size 35 cur ∧ cur.length = n ∧ ∀ i, i < 1 → cur[i]? = some u) := by
    refine ⟨_, hg2, ?_⟩
    have hm : List.take (min 1 n) [u] = List.replicate 1 u := by rw [Nat.min_eq_left h1]; rfl
    rw [hm]
    have := rep_splice u (List.replicate n (.slice none 0 0)) n 0 (by simp) (by omega) (fun i hi => by omega) 1 (by omega)
    exact this
  rw [Nat.min_eq_left h1]
  clear hg2 hgr hblk hmk
  go_wp2_with fail
  go_loopw [8] (fun i wr => ∃ k : Nat, 1 ≤ k ∧ k ≤ n ∧ i = .int .i64 k ∧ Ext w wr ∧ Hid (∃ cur : List Value, Blk wr w.heap.size 35 cur ∧ cur.length = n ∧ ∀ i, i < k → cur[i]? = some u)) (fun i _ => n - (intOf i).toNat)
  case atStart => exact ⟨1, Nat.le_refl _, h1, rfl, HX2.out, HG2⟩
  case round =>
    obtain ⟨k, hk1, hk2, rfl, hx, hcur⟩ := hrel
    by_cases hlt : k < n
    · obtain ⟨cur, hb, hl, hcu⟩ := hcur.out
      have HB := Lib.hid hb
      have HL := Lib.hid hl
      have HCU := Lib.hid hcu
      clear hb hl hcu hcur
      have i1 : (0 : Int) ≤ (k : Int) := Int.natCast_nonneg _
      have i2 : (k : Int) ≤ (n : Int) := by omega
      have hne : ¬ n = k := by omega
      have hs1 : ((Try.prog.info? 35).map (·.size)) = some 1 := by kernel_rfl
      have HM : Hid ((List.replicate (Nat.min k (n - k)) u).length = Nat.min k (n - k)) := by show _ = _; simp
      have HLE : Hid (k + (List.replicate (Nat.min k (n - k)) u).length ≤ cur.length) := by
        show _ ≤ _
        rw [HL.out, List.length_replicate]
        have : Nat.min k (n - k) ≤ n - k := Nat.min_le_right _ _
        omega
      have HU1 : Hid (∀ v ∈ List.replicate (Nat.min k (n - k)) u, v.oneCell' = true) := by
        intro v hv
        rw [List.eq_of_mem_replicate hv]; exact HU.out
      have HSRC : Hid (∀ j v, (List.replicate (Nat.min k (n - k)) u)[j]? = some v → wr.drew.cell? ((⟨w.heap.size, 0, none⟩ : Addr).add j) = some v) := by
        intro j v hv
        rw [List.getElem?_replicate] at hv
        split at hv
        · rename_i hj
          injection hv with hv
          subst hv
          have : Nat.min k (n - k) ≤ k := Nat.min_le_left _ _
          rw [addr_add, Nat.zero_add]
          have := (HB.out.rule).1 j
          rw [World.cell?_drew, this]
          exact HCU.out j (by omega)
        · cases hv
      have HBW : Hid (Below w.heap.size w wr.drew) := hx.drew
      go_wp2_with fail
      go_region_held3 (fun _ => True) (trivial) ((refine step_copy_splice rfl (.tmp 41) (.tmp 44) 22 22 rfl 35 Try.underlying22 hs1 _ _ _ _ _ _ rfl rfl w.heap.size k cur 35 HB.out (List.replicate (Nat.min k (n - k)) u) HM.out (fun _ => ⟨rfl, _, rfl, HSRC.out⟩) HLE.out HU1.out w.heap.size w HBW.out (Nat.le_refl _) ?_; intro w5 HG5 hb5))
      have hmle : Nat.min k (n - k) ≤ n - k := Nat.min_le_right _ _
      have hmpos : 1 ≤ Nat.min k (n - k) := Nat.le_min.2 ⟨hk1, by omega⟩
      have hnew : Hid (∃ cur : List Value, Blk w5 w.heap.size 35 cur ∧ cur.length = n ∧ ∀ i, i < k + Nat.min k (n - k) → cur[i]? = some u) :=
        ⟨_, HG5.out, rep_splice u cur n k HL.out hk2 HCU.out _ (by omega)⟩
      obtain ⟨m, hm⟩ : ∃ m, Nat.min k (n - k) = m := ⟨_, rfl⟩
      rw [hm] at hmle hmpos hnew
      rw [hm, show IntKind.i64.wrap ((k : Int) + (m : Int)) = ((k + m : Nat) : Int) from by rw [IntWalk.i64_in _ (by omega)]; omega]
      clear HM HLE HU1 HSRC HBW HG5 hm hs1 HB HL HCU
      go_wp2
      go_roundw
      case rel => exact ⟨k + m, by omega, by omega, rfl, hb5, hnew⟩
      case measure => simp [intOf]; omega
    · obtain rfl : k = n := by omega
      go_wp2
      go_ret
      obtain ⟨cur, hb, hl, hcu⟩ := hcur.out
      have hcr : cur = List.replicate k u := by
        apply List.ext_getElem?
        intro i
        by_cases hi : i < k
        · rw [hcu i hi, List.getElem?_replicate, if_pos hi]
        · rw [List.getElem?_eq_none (by omega), List.getElem?_replicate, if_neg hi]
      refine ⟨_, rfl, ?_, hx⟩
      have := own_of_blk (n := k) (cap := k) (k := 1) hb (Nat.le_refl _) (by omega) (by omega) (Nat.le_refl w.heap.size)
      rw [List.take_of_length_le (by omega), hcr] at this
      exact this

def Dk.new (n : Int) : Dk × Int := if n < 1 ∨ 4096 < n then (Dk.zero, 1) else (⟨List.replicate n.toNat (List.replicate 128 0), [], -1, false⟩, 0)

attribute [local go_sem] make128

set_option maxHeartbeats 2000000 in
theorem new_any (n : Int) (w : World) : Calls Try.prog 25 #[.int .i64 n] w (RDE S w (Dk.new n).1 (Dk.new n).2) := by
  have r0 : w.heap.size ≤ w.heap.size := Nat.le_refl _
  rcases (by omega : n < 1 ∨ 4096 < n ∨ (1 ≤ n ∧ n ≤ 4096)) with h | h | ⟨h, h'⟩
  · have HD : Hid (Dk.new n = (Dk.zero, 1)) := if_pos (.inl h)
    go_enter Try.func25, Try.ntmps25
    go_wp2
    refine bodyPost_ret (v := .tuple #[.agg #[.slice none 0 0, .slice none 0 0, .int .i64 0, .bool false], .int .i64 1]) (by simp [results, Try.results25, go_sem]) rfl ?_
    exact RDE.mk HD.out (RDk.zero _) ((Ext.refl w).alloc _)
  · have HD : Hid (Dk.new n = (Dk.zero, 1)) := if_pos (.inr h)
    go_enter Try.func25, Try.ntmps25
    go_wp2
    refine bodyPost_ret (v := .tuple #[.agg #[.slice none 0 0, .slice none 0 0, .int .i64 0, .bool false], .int .i64 1]) (by simp [results, Try.results25, go_sem]) rfl ?_
    exact RDE.mk HD.out (RDk.zero _) ((Ext.refl w).alloc _)
  · have HD : Hid (Dk.new n = (⟨List.replicate n.toNat (List.replicate 128 0), [], -1, false⟩, 0)) := if_neg (by omega)
    obtain ⟨k, rfl⟩ : ∃ k : Nat, n = k := ⟨n.toNat, by omega⟩
    go_enter Try.func25, Try.ntmps25
    go_wp2_with fail
    (with_reducible refine (repeat_any _ _ _ (.slice (some ⟨w.heap.size + 1, 0, none⟩) 128 128) k _ (by simp [go_sem]) rfl (by omega) (by omega)).mono ?_)
    rintro e1 w1 ⟨v1, rfl, hown, hx1⟩
    obtain ⟨A1, cap1, rfl, hc1, hm1⟩ := own_any hown
    have B0 := Lib.hid ((((Blk.new w w.heap.size _ _ rfl).alloc _).alloc _).ext hx1)
    have B1 := Lib.hid (((Blk.new (w.alloc (.cells #[.slice none 0 0, .slice none 0 0, .int .i64 0, .bool false] 25)) (w.heap.size + 1) 5 zeros128 (by simp)).alloc _).ext hx1)
    have HX1 := Lib.hid (((((Ext.refl w).alloc _).alloc _).alloc _).trans hx1)
    have HO := Lib.hid hown
    simp only [World.size_alloc] at HO
    clear hown hx1
    obtain ⟨k0, z0⟩ := B0.out.rule
    go_wp2
    obtain ⟨w2, e2, C0, hg2⟩ := set4 B0.out (.slice A1 k cap1) (.slice none 0 0) (.int .i64 (-1)) (.bool false)
    rw [e2]
    obtain ⟨k2, z2⟩ := C0.rule
    refine bodyPost_ret (v := .tuple #[.agg #[.slice A1 k cap1, .slice none 0 0, .int .i64 (-1), .bool false], .int .i64 0]) (by simp [results, Try.results25, go_sem, k2, z2]) rfl ?_
    refine RDE.mk HD.out (RDk.mk ?_ (RSl.nil _)) (HX1.out.grownN hg2 r0)
    have hz : RBs (Fr S w) w2 (.slice (some ⟨w.heap.size + 1, 0, none⟩) 128 128) (List.replicate 128 0) := by
      have := own_of_blk (n := 128) (cap := 128) (k := 1) (B1.out.grownN hg2 (by omega)) (Nat.le_refl _) (by omega) (by simp [zeros128, byteVals]) (Nat.le_refl _)
      rw [List.take_of_length_le (by simp [zeros128, byteVals])] at this
      exact RBs.own this (fun b h => .inr (by omega))
    refine RSl.own (own_grownN HO.out hg2 (by omega)) (fun b h => .inr (by omega)) (by simp) (fun u hu => by rw [List.eq_of_mem_replicate hu]; rfl) (fun i hi => ?_)
    rw [chunk_one (by simpa using hi)]
    exact ⟨_, rfl, by simpa using hz⟩

end Go.Proofs.Ytfmhnplkpohogaa

namespace Go.Proofs.Ytfmhnplkpohogaa
set_option maxRecDepth 100000
open Go.RowKit Go.Shelf

variable {S S' : Nat → Prop}

attribute [local go_sem] Oper.semAt_some

/-- An element that the iterator hands out: the index, where, and the slice's header. -/
structure It where
  i : Int
  at_ : Int
  a : Option Addr
  n : Nat
  c : Nat

abbrev It.enc (x : It) : Array Value := #[.int .i64 x.i, .agg #[.int .i64 x.at_, .slice x.a x.n x.c]]

end Go.Proofs.Ytfmhnplkpohogaa

namespace Go.Proofs.Ytfmhnplkpohogaa
set_option maxRecDepth 100000
open Go.RowKit Go.Shelf

variable {S S' : Nat → Prop}

attribute [local go_sem] Oper.semAt_some

def Dk.look (d : Dk) (at_ : Int) : List UInt8 := match d.pending.reverse.find? (fun x => x.1 == at_) with | some x => x.2 | none => d.sectors.getD at_.toNat []
def Dk.read (d : Dk) (at_ : Int) : List UInt8 × Int := if (d.runs && d.has at_) = false then ([], 380) else (d.look at_, 0)

/-- The elements as_ they lie in memory. -/
theorem its {w : World} {A : Option Addr} {n cap : Nat} {l : List (Int × List UInt8)} (h : RWs S w (.slice A n cap) l) :
    ∃ f : Nat → It, (∀ j, (f j).i = j) ∧ (∀ j (hj : j < l.length), (f j).at_ = l[j].1 ∧ RBs S w (.slice (f j).a (f j).n (f j).c) l[j].2) ∧
      (0 < n → ∃ b off, A = some ⟨b, off, none⟩ ∧ b < w.heap.size ∧ ∀ j, j < n → w.cell? ⟨b, off + j * 2, none⟩ = some (.int .i64 (f j).at_) ∧ w.cell? ⟨b, off + j * 2 + 1, none⟩ = some (.slice (f j).a (f j).n (f j).c)) := by
  obtain ⟨hn, _, hx⟩ := h.at
  rcases Nat.eq_zero_or_pos n with h0 | h0
  · refine ⟨fun j => ⟨j, 0, none, 0, 0⟩, fun _ => rfl, fun j hj => by omega, fun h => by omega⟩
  · obtain ⟨b, off, ha, hb, hc⟩ := hx h0
    have hex : ∀ j : Nat, ∃ x : It, x.i = j ∧ ∀ hj : j < l.length, x.at_ = l[j].1 ∧ RBs S w (.slice x.a x.n x.c) l[j].2 ∧ w.cell? ⟨b, off + j * 2, none⟩ = some (.int .i64 x.at_) ∧ w.cell? ⟨b, off + j * 2 + 1, none⟩ = some (.slice x.a x.n x.c) := by
      intro j
      by_cases hj : j < l.length
      · obtain ⟨v, c1, c2, c3⟩ := hc j hj
        obtain ⟨A', cap', rfl, _⟩ := c3.form
        exact ⟨⟨j, l[j].1, A', l[j].2.length, cap'⟩, rfl, fun _ => ⟨rfl, c3, c1, c2⟩⟩
      · exact ⟨⟨j, 0, none, 0, 0⟩, rfl, fun h => absurd h hj⟩
    obtain ⟨f, hf⟩ := Classical.axiomOfChoice hex
    exact ⟨f, fun j => (hf j).1, fun j hj => ⟨((hf j).2 hj).1, ((hf j).2 hj).2.1⟩, fun _ => ⟨b, off, ha, hb, fun j hj => ((hf j).2 (by omega)).2.2⟩⟩

end Go.Proofs.Ytfmhnplkpohogaa

namespace Go.Proofs.Ytfmhnplkpohogaa
set_option maxRecDepth 100000
open Go.RowKit

variable {S S' : Nat → Prop}

theorem RWs.get {w : World} {A : Option Addr} {n cap : Nat} {l : List (Int × List UInt8)} (h : RWs S w (.slice A n cap) l) {i : Nat} {x : Int × List UInt8} (hi : l[i]? = some x) :
    ∃ b off A' c', A = some ⟨b, off, none⟩ ∧ b < w.heap.size ∧ w.cell? ⟨b, off + i * 2, none⟩ = some (.int .i64 x.1) ∧ w.cell? ⟨b, off + i * 2 + 1, none⟩ = some (.slice A' x.2.length c') ∧ RBs S w (.slice A' x.2.length c') x.2 ∧ x.2.length ≤ c' ∧ c' ≤ 9223372036854775807 := by
  obtain ⟨hl, rfl⟩ := List.getElem?_eq_some_iff.1 hi
  obtain ⟨hn, _, hx⟩ := h.at
  obtain ⟨b, off, ha, hb, hc⟩ := hx (by omega)
  obtain ⟨v, c0, c1, c2⟩ := hc i hl
  obtain ⟨A', c', rfl, h1, h2⟩ := c2.form
  exact ⟨b, off, A', c', ha, hb, c0, c1, c2, h1, h2⟩

end Go.Proofs.Ytfmhnplkpohogaa

namespace Go.Proofs.Ytfmhnplkpohogaa
set_option maxRecDepth 100000
open Go.RowKit

variable {S S' : Nat → Prop}

def Dk.same (a b : Dk) : Bool := decide (a.sectors = b.sectors ∧ a.pending = b.pending ∧ a.left = b.left ∧ a.stopped = b.stopped)

end Go.Proofs.Ytfmhnplkpohogaa

namespace Go.Proofs.Ytfmhnplkpohogaa
set_option maxRecDepth 100000
open Go.RowKit

variable {S S' : Nat → Prop}

attribute [local go_sem] make128

/-- Some disks that read; some blocks that are known whole: carried from world to world in one go. -/
def AllD (W : World) (l : List ((Nat → Prop) × Value × Dk)) : Prop := ∀ x ∈ l, RDk x.1 W x.2.1 x.2.2
def AllB (W : World) (l : List (Nat × TypeId × List Value)) : Prop := ∀ x ∈ l, Blk W x.1 x.2.1 x.2.2

theorem AllD.nil (W : World) : AllD W [] := fun _ h => by cases h
theorem AllB.nil (W : World) : AllB W [] := fun _ h => by cases h
theorem AllD.cons {W : World} {l : List ((Nat → Prop) × Value × Dk)} (h : AllD W l) {v : Value} {d : Dk} (hd : RDk S W v d) : AllD W ((S, v, d) :: l) := fun x hx => by
  cases hx with
  | head => exact hd
  | tail _ hx => exact h x hx
theorem AllB.cons {W : World} {l : List (Nat × TypeId × List Value)} (h : AllB W l) {n : Nat} {t : TypeId} {cs : List Value} (hb : Blk W n t cs) : AllB W ((n, t, cs) :: l) := fun x hx => by
  cases hx with
  | head => exact hb
  | tail _ hx => exact h x hx
theorem AllD.ext {W W' : World} {l : List ((Nat → Prop) × Value × Dk)} (h : AllD W l) (hx : Ext W W') : AllD W' l := fun x hm => (h x hm).ext hx
theorem AllB.ext {W W' : World} {l : List (Nat × TypeId × List Value)} (h : AllB W l) (hx : Ext W W') : AllB W' l := fun x hm => (h x hm).ext hx
theorem AllD.alloc {W : World} {l : List ((Nat → Prop) × Value × Dk)} (h : AllD W l) (o : Obj) : AllD (W.alloc o) l := h.ext ((Ext.refl _).alloc _)
theorem AllB.alloc {W : World} {l : List (Nat × TypeId × List Value)} (h : AllB W l) (o : Obj) : AllB (W.alloc o) l := h.ext ((Ext.refl _).alloc _)
theorem AllD.d0 {W : World} {x : (Nat → Prop) × Value × Dk} {l : List ((Nat → Prop) × Value × Dk)} (h : AllD W (x :: l)) : RDk x.1 W x.2.1 x.2.2 := h x (List.mem_cons_self ..)
theorem AllD.tl {W : World} {x : (Nat → Prop) × Value × Dk} {l : List ((Nat → Prop) × Value × Dk)} (h : AllD W (x :: l)) : AllD W l := fun y hy => h y (List.mem_cons_of_mem _ hy)
theorem AllB.b0 {W : World} {x : Nat × TypeId × List Value} {l : List (Nat × TypeId × List Value)} (h : AllB W (x :: l)) : Blk W x.1 x.2.1 x.2.2 := h x (List.mem_cons_self ..)
theorem AllB.tl {W : World} {x : Nat × TypeId × List Value} {l : List (Nat × TypeId × List Value)} (h : AllB W (x :: l)) : AllB W l := fun y hy => h y (List.mem_cons_of_mem _ hy)

end Go.Proofs.Ytfmhnplkpohogaa
