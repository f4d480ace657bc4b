/- Shortest distances: the plain theory of chapter 15. -/
import Derived.Test.YtjmdodgmoehfkaaBase
namespace Go.Proofs.Ytjmdodgmoehfkaa
/- Relaxation of edges (Bellman, Ford): what holds while edges are relaxed; that a variable which changes in round n lies behind a cycle that is shorter than 0. No program in sight. -/
namespace P15
/-- the value that stands for no path -/
def none_ : Int := 1152921504606846976
def cap : Int := 35184372088832
structure Ed where
  (a b : Nat)
  (w : Int)
instance : Inhabited Ed := ⟨⟨0, 0, 0⟩⟩

/-- a walk, with its length -/
inductive Walk (E : List Ed) : Nat → Nat → Int → Prop
  | nil (v : Nat) : Walk E v v 0
  | snoc {u v : Nat} {W : Int} {x : Ed} (h : Walk E u v W) (hx : x ∈ E) (ha : x.a = v) : Walk E u x.b (W + x.w)
theorem Walk.trans {E : List Ed} {u v w : Nat} {A B : Int} (h : Walk E u v A) (k : Walk E v w B) : Walk E u w (A + B) := by
  induction k with
  | nil => simpa using h
  | snoc k hx ha ih => rw [← Int.add_assoc]; exact .snoc ih hx ha
theorem Walk.one {E : List Ed} {x : Ed} (hx : x ∈ E) : Walk E x.a x.b x.w := by
  have := Walk.snoc (.nil (E := E) x.a) hx rfl
  simpa using this
def Neg (E : List Ed) : Prop := ∃ v W, Walk E v v W ∧ W < 0
/-- a potential: no walk is shorter than it says -/
theorem pot {E : List Ed} {F : Nat → Int} (hF : ∀ x ∈ E, F x.b ≤ F x.a + x.w) {u v : Nat} {W : Int} (h : Walk E u v W) : F v ≤ F u + W := by
  induction h with
  | nil => omega
  | snoc h hx ha ih => have := hF _ hx; rw [ha] at this; omega
theorem not_neg {E : List Ed} {F : Nat → Int} (hF : ∀ x ∈ E, F x.b ≤ F x.a + x.w) : ¬ Neg E := fun ⟨v, W, h, hW⟩ => by
  have := pot hF h; omega

def upd {α : Type} (f : Nat → α) (v : Nat) (x : α) : Nat → α := fun u => if u = v then x else f u
theorem upd_same {α : Type} (f : Nat → α) (v : Nat) (x : α) : upd f v x v = x := by simp [upd]
theorem upd_ne {α : Type} (f : Nat → α) {u v : Nat} (x : α) (h : u ≠ v) : upd f v x u = f u := by simp [upd, h]

/-- What holds while edges are relaxed: s changes were made, in round r the edges before q are done; F: the distances; e: the edge that led to a variable last; t: when, l: in which round it changed last. -/
structure Inv (E : List Ed) (F : Nat → Int) (e t l : Nat → Nat) (s r q : Nat) : Prop where
  tle : ∀ v, t v ≤ s
  lle : ∀ v, l v ≤ r
  bnd : ∀ v, F v = none_ ∨ (-(s * cap) ≤ F v ∧ F v ≤ s * cap)
  pre : ∀ v, 0 < l v → ∃ x, E[e v]? = some x ∧ x.b = v ∧ F x.a ≠ none_ ∧ F v ≠ none_ ∧ F x.a + x.w ≤ F v ∧ (t v ≤ t x.a → F x.a + x.w < F v) ∧ l v ≤ l x.a + 1
  sat : ∀ j x, E[j]? = some x → (F x.a = none_ ∨ F x.b ≤ F x.a + x.w) ∨ (if j < q then r ≤ l x.a else r ≤ l x.a + 1)

theorem Inv.start {E : List Ed} {F : Nat → Int} {e : Nat → Nat} (h : ∀ v, F v = none_ ∨ F v = 0) : Inv E F e (fun _ => 0) (fun _ => 0) 0 1 0 where
  tle := fun _ => Nat.le_refl _
  lle := fun _ => by omega
  bnd := fun v => by rcases h v with h | h <;> simp [h]
  pre := fun v h => by omega
  sat := fun j x _ => .inr (by simp)
theorem Inv.next {E : List Ed} {F : Nat → Int} {e t l : Nat → Nat} {s r q : Nat} (h : Inv E F e t l s r q) (hq : E.length ≤ q) : Inv E F e t l s (r + 1) 0 where
  tle := h.tle
  lle := fun v => Nat.le_succ_of_le (h.lle v)
  bnd := h.bnd
  pre := h.pre
  sat := fun j x hj => by
    have hl := (List.getElem?_eq_some_iff.1 hj).1
    rcases h.sat j x hj with h1 | h1
    · exact .inl h1
    · rw [if_pos (by omega)] at h1
      exact .inr (by simp; omega)
theorem Inv.skip {E : List Ed} {F : Nat → Int} {e t l : Nat → Nat} {s r q : Nat} {x : Ed} (h : Inv E F e t l s r q) (hx : E[q]? = some x) (hc : F x.a = none_ ∨ F x.b ≤ F x.a + x.w) : Inv E F e t l s r (q + 1) where
  tle := h.tle
  lle := h.lle
  bnd := h.bnd
  pre := h.pre
  sat := fun j y hj => by
    by_cases hjq : j = q
    · subst hjq; rw [hx] at hj; injection hj with hj; subst hj; exact .inl hc
    · rcases h.sat j y hj with h1 | h1
      · exact .inl h1
      · refine .inr ?_
        by_cases h2 : j < q
        · rw [if_pos h2] at h1; rw [if_pos (by omega)]; exact h1
        · rw [if_neg h2] at h1; rw [if_neg (by omega)]; exact h1
theorem Inv.relax {E : List Ed} {F : Nat → Int} {e t l : Nat → Nat} {s r q : Nat} {x : Ed} (h : Inv E F e t l s r q) (hx : E[q]? = some x) (hn : F x.a ≠ none_) (hc : F x.a + x.w < F x.b) (hw : -cap ≤ x.w ∧ x.w ≤ cap) (hs : (s + 1 : Int) * cap < none_) :
    Inv E (upd F x.b (F x.a + x.w)) (upd e x.b q) (upd t x.b (s + 1)) (upd l x.b r) (s + 1) r (q + 1) := by
  have hb : -(s * cap) ≤ F x.a ∧ F x.a ≤ s * cap := by rcases h.bnd x.a with h1 | h1; exact absurd h1 hn; exact h1
  have hs1 : ((s + 1 : Nat) : Int) * cap = s * cap + cap := by rw [Int.natCast_add, Int.add_mul]; simp
  have hs2 : (s + 1 : Int) * cap = s * cap + cap := by rw [Int.add_mul, Int.one_mul]
  have hcap : cap = 35184372088832 := rfl
  have hnone : none_ = 1152921504606846976 := rfl
  have hnew : F x.a + x.w ≠ none_ := by omega
  have hle : ∀ v, upd F x.b (F x.a + x.w) v ≤ F v := fun v => by
    by_cases hv : v = x.b
    · subst hv; rw [upd_same]; omega
    · rw [upd_ne _ _ hv]; omega
  have hnn : ∀ v, F v ≠ none_ → upd F x.b (F x.a + x.w) v ≠ none_ := fun v hv => by
    by_cases h1 : v = x.b
    · subst h1; rw [upd_same]; exact hnew
    · rw [upd_ne _ _ h1]; exact hv
  have hll : ∀ v, l v ≤ upd l x.b r v := fun v => by
    by_cases h1 : v = x.b
    · subst h1; rw [upd_same]; exact h.lle _
    · rw [upd_ne _ _ h1]; omega
  constructor
  · intro v
    by_cases h1 : v = x.b
    · subst h1; rw [upd_same]; omega
    · rw [upd_ne _ _ h1]; have := h.tle v; omega
  · intro v
    by_cases h1 : v = x.b
    · subst h1; rw [upd_same]; omega
    · rw [upd_ne _ _ h1]; exact h.lle v
  · intro v
    by_cases h1 : v = x.b
    · subst h1; rw [upd_same]; right; omega
    · rw [upd_ne _ _ h1]; rcases h.bnd v with h2 | h2
      · exact .inl h2
      · right; omega
  · intro v hv
    by_cases h1 : v = x.b
    · subst h1
      refine ⟨x, by rw [upd_same]; exact hx, rfl, hnn _ hn, by rw [upd_same]; exact hnew, ?_, ?_, ?_⟩
      · rw [upd_same]; have := hle x.a; omega
      · intro ht
        rw [upd_same] at ht
        by_cases h2 : x.a = x.b
        · rw [upd_same, h2, upd_same]; rw [h2] at hc; omega
        · rw [upd_ne _ _ h2] at ht; have := h.tle x.a; omega
      · rw [upd_same]
        have h3 : r ≤ l x.a + 1 := by
          rcases h.sat q x hx with h4 | h4
          · rcases h4 with h4 | h4
            · exact absurd h4 hn
            · omega
          · rw [if_neg (by omega)] at h4; exact h4
        have := hll x.a
        omega
    · rw [upd_ne _ _ h1] at hv
      obtain ⟨y, h2, h3, h4, h5, h6, h7, h8⟩ := h.pre v hv
      refine ⟨y, by rw [upd_ne _ _ h1]; exact h2, h3, hnn _ h4, hnn _ h5, ?_, ?_, ?_⟩
      · rw [upd_ne _ _ h1]; have := hle y.a; omega
      · intro ht
        rw [upd_ne _ _ h1] at ht ⊢
        by_cases h9 : y.a = x.b
        · rw [h9, upd_same]; rw [h9] at h6; omega
        · rw [upd_ne _ _ h9] at ht ⊢; exact h7 ht
      · rw [upd_ne _ _ h1]; have := hll y.a; omega
  · intro j y hj
    by_cases h1 : y.a = x.b
    · right
      rw [h1, upd_same]
      split <;> omega
    · rw [upd_ne _ _ h1, upd_ne _ _ h1]
      by_cases hjq : j = q
      · subst hjq
        rw [hx] at hj; injection hj with hj; subst hj
        left; right; rw [upd_same]; omega
      · rcases h.sat j y hj with h2 | h2
        · left
          rcases h2 with h2 | h2
          · exact .inl h2
          · right; have := hle y.b; omega
        · right
          by_cases h3 : j < q
          · rw [if_pos h3] at h2; rw [if_pos (by omega)]; exact h2
          · rw [if_neg h3] at h2; rw [if_neg (by omega)]; exact h2

/-- one step back along the edge that led here last -/
def back (E : List Ed) (e : Nat → Nat) (v : Nat) : Nat := (E.getD (e v) default).a
def backN (E : List Ed) (e : Nat → Nat) : Nat → Nat → Nat
  | 0, v => v
  | k + 1, v => back E e (backN E e k v)
theorem backN_add (E : List Ed) (e : Nat → Nat) (v : Nat) (i : Nat) : ∀ j, backN E e (i + j) v = backN E e j (backN E e i v)
  | 0 => rfl
  | j + 1 => by rw [← Nat.add_assoc, backN, backN_add E e v i j]; rfl
theorem getD_of {E : List Ed} {i : Nat} {x : Ed} (h : E[i]? = some x) : E.getD i default = x := by rw [List.getD_eq_getElem?_getD, h]; rfl
/-- two of n + 1 numbers below n are equal -/
theorem pigeon : ∀ (n : Nat) (f : Nat → Nat), (∀ k, k ≤ n → f k < n) → ∃ i j, i < j ∧ j ≤ n ∧ f i = f j
  | 0, f, h => absurd (h 0 (Nat.le_refl _)) (by omega)
  | n + 1, f, h => by
    by_cases hex : ∃ i, i ≤ n ∧ f i = f (n + 1)
    · obtain ⟨i, hi, he⟩ := hex
      exact ⟨i, n + 1, by omega, Nat.le_refl _, he⟩
    · -- rename the value n to f (n+1)
      have hne : ∀ i, i ≤ n → f i ≠ f (n + 1) := fun i hi he => hex ⟨i, hi, he⟩
      obtain ⟨i, j, hij, hj, he⟩ := pigeon n (fun k => if f k = n then f (n + 1) else f k) (fun k hk => by
        have h1 := h k (by omega)
        have h2 := h (n + 1) (Nat.le_refl _)
        have h3 := hne k hk
        split
        · rename_i h4; omega
        · omega)
      refine ⟨i, j, hij, by omega, ?_⟩
      have hi := hne i (by omega)
      have hj' := hne j hj
      split at he <;> split at he <;> omega
def sumW (E : List Ed) (e : Nat → Nat) (v : Nat) : Nat → Int
  | 0 => 0
  | k + 1 => sumW E e v k + (E.getD (e (backN E e k v)) default).w
/-- a variable that changed in round n lies behind a cycle of changed ones -/
theorem Inv.onCycle {E : List Ed} {n : Nat} (hE : ∀ x ∈ E, x.a < n ∧ x.b < n) {F : Nat → Int} {e t l : Nat → Nat} {s q : Nat} (h : Inv E F e t l s n q) {v : Nat} (hv : v < n) (hl : l v = n) :
    (∀ k, k ≤ n → backN E e k v < n) ∧ (∀ k, k < n → 0 < l (backN E e k v)) ∧ ∃ d, 0 < d ∧ d ≤ n ∧ backN E e d (backN E e n v) = backN E e n v ∧ ∀ k, 0 < l (backN E e k (backN E e n v)) := by
  have hk : ∀ k, k ≤ n → n - k ≤ l (backN E e k v) ∧ backN E e k v < n := by
    intro k
    induction k with
    | zero => intro _; exact ⟨by rw [backN, hl]; omega, hv⟩
    | succ k ih =>
      intro hk
      obtain ⟨h1, h2⟩ := ih (by omega)
      obtain ⟨x, h3, h4, _, _, _, _, h5⟩ := h.pre (backN E e k v) (by omega)
      have h6 : backN E e (k + 1) v = x.a := by rw [backN, back, getD_of h3]
      have h7 : x ∈ E := List.mem_of_getElem? h3
      exact ⟨by rw [h6]; omega, by rw [h6]; exact (hE x h7).1⟩
  refine ⟨fun k h1 => (hk k h1).2, fun k h1 => by have := (hk k (by omega)).1; omega, ?_⟩
  obtain ⟨i, j, hij, hj, he⟩ := pigeon n (fun k => backN E e k v) (fun k h1 => (hk k h1).2)
  have he' : backN E e i v = backN E e j v := he
  -- from i on, the steps repeat with period j - i
  have per : ∀ k, backN E e (i + k + (j - i)) v = backN E e (i + k) v := by
    intro k
    induction k with
    | zero => rw [Nat.add_zero, show i + (j - i) = j by omega, he']
    | succ k ih => rw [show i + (k + 1) + (j - i) = (i + k + (j - i)) + 1 by omega, backN, ih]; rfl
  have red : ∀ N k, k ≤ N → ∃ m, m < j - i ∧ backN E e (i + k) v = backN E e (i + m) v := by
    intro N
    induction N with
    | zero => intro k hk; exact ⟨0, by omega, by rw [show k = 0 by omega]⟩
    | succ N ih =>
      intro k hk
      by_cases h1 : k < j - i
      · exact ⟨k, h1, rfl⟩
      · obtain ⟨m, h2, h3⟩ := ih (k - (j - i)) (by omega)
        refine ⟨m, h2, ?_⟩
        rw [← h3, ← per (k - (j - i))]
        congr 1; omega
  refine ⟨j - i, by omega, by omega, ?_, ?_⟩
  · rw [← backN_add]
    have := per (n - i)
    rw [show i + (n - i) + (j - i) = n + (j - i) by omega, show i + (n - i) = n by omega] at this
    exact this
  · intro k
    rw [← backN_add]
    obtain ⟨m, h1, h2⟩ := red (n - i + k) (n - i + k) (Nat.le_refl _)
    rw [show n + k = i + (n - i + k) by omega, h2]
    have := (hk (i + m) (by omega)).1
    omega
/-- a cycle of changed variables is shorter than 0 -/
theorem Inv.negative {E : List Ed} {F : Nat → Int} {e t l : Nat → Nat} {s r q : Nat} (h : Inv E F e t l s r q) {u d : Nat} (hd : 0 < d) (hu : backN E e d u = u) (hl : ∀ k, 0 < l (backN E e k u)) : sumW E e u d < 0 := by
  have step : ∀ k, F (backN E e (k + 1) u) + (E.getD (e (backN E e k u)) default).w ≤ F (backN E e k u) ∧ (t (backN E e k u) ≤ t (backN E e (k + 1) u) → F (backN E e (k + 1) u) + (E.getD (e (backN E e k u)) default).w < F (backN E e k u)) := by
    intro k
    obtain ⟨x, h3, _, _, _, h6, h7, _⟩ := h.pre _ (hl k)
    have h8 : backN E e (k + 1) u = x.a := by rw [backN, back, getD_of h3]
    rw [h8, getD_of h3]
    exact ⟨h6, h7⟩
  have tele : ∀ k, sumW E e u k ≤ F u - F (backN E e k u) := by
    intro k
    induction k with
    | zero => simp [sumW, backN]
    | succ k ih => have := (step k).1; rw [sumW]; omega
  have strict : ∀ k m, k < m → t (backN E e k u) ≤ t (backN E e (k + 1) u) → sumW E e u m < F u - F (backN E e m u) := by
    intro k m
    induction m with
    | zero => intro h1; omega
    | succ m ih =>
      intro h1 h2
      rw [sumW]
      by_cases h3 : k < m
      · have := ih h3 h2; have := (step m).1; omega
      · have h4 : k = m := by omega
        subst h4
        have := tele k; have := (step k).2 h2; omega
  have some_ : ∃ k, k < d ∧ t (backN E e k u) ≤ t (backN E e (k + 1) u) := by
    refine Classical.byContradiction fun hno => ?_
    have hdec : ∀ k, k < d → t (backN E e (k + 1) u) < t (backN E e k u) := fun k hk => by
      refine Classical.byContradiction fun h1 => hno ⟨k, hk, by omega⟩
    have : ∀ k, k ≤ d → t (backN E e k u) + k ≤ t u := by
      intro k
      induction k with
      | zero => intro _; exact Nat.le_refl _
      | succ k ih => intro hk; have := ih (by omega); have := hdec k (by omega); omega
    have h1 := this d (Nat.le_refl _)
    rw [hu] at h1
    omega
  obtain ⟨k, h1, h2⟩ := some_
  have := strict k d h1 h2
  rw [hu] at this
  omega
end P15

/- Shortest distances: the distance that a list of edges gives; walks over inner vertices below m; the table before, within and after the phases of the closing by way of one vertex after another; the first table. No program in sight. -/
namespace P15
/-- the distance from u to v: none_ if there is no walk, else the least of the walks' lengths -/
def IsDist (E : List Ed) (u v : Nat) (d : Int) : Prop := (∀ W, Walk E u v W → d ≠ none_ ∧ d ≤ W) ∧ (d ≠ none_ → Walk E u v d)
theorem IsDist.unique {E : List Ed} {u v : Nat} {d d' : Int} (h : IsDist E u v d) (k : IsDist E u v d') : d = d' := by
  by_cases h1 : d = none_
  · by_cases h2 : d' = none_
    · rw [h1, h2]
    · exact absurd h1 (h.1 _ (k.2 h2)).1
  · have h2 := k.1 _ (h.2 h1)
    have h3 := h.1 _ (k.2 h2.1)
    omega
/-- walks whose inner vertices are less than m -/
inductive In (E : List Ed) (m : Nat) : Nat → Nat → Int → Prop
  | nil (v : Nat) : In E m v v 0
  | one {x : Ed} (hx : x ∈ E) : In E m x.a x.b x.w
  | join {u k v : Nat} {A B : Int} (h : In E m u k A) (hk : k < m) (g : In E m k v B) : In E m u v (A + B)
theorem In.walk {E : List Ed} {m u v : Nat} {W : Int} (h : In E m u v W) : Walk E u v W := by
  induction h with
  | nil v => exact .nil v
  | one hx => exact .one hx
  | join _ _ _ ih1 ih2 => exact ih1.trans ih2
theorem Walk.inn {E : List Ed} {n : Nat} (hE : ∀ x ∈ E, x.a < n ∧ x.b < n) {u v : Nat} {W : Int} (h : Walk E u v W) : In E n u v W := by
  induction h with
  | nil => exact .nil _
  | snoc h hx ha ih =>
    subst ha
    exact .join ih (hE _ hx).1 (.one hx)
theorem In.split {E : List Ed} {m : Nat} (h0 : ∀ C, In E m m m C → 0 ≤ C) {u v : Nat} {W : Int} (h : In E (m + 1) u v W) :
    (∃ W', W' ≤ W ∧ In E m u v W') ∨ (∃ A B, A + B ≤ W ∧ In E m u m A ∧ In E m m v B) := by
  induction h with
  | nil v => exact .inl ⟨0, by omega, .nil v⟩
  | one hx => exact .inl ⟨_, Int.le_refl _, .one hx⟩
  | @join u k v A B _ hk _ ih1 ih2 =>
    by_cases hkm : k < m
    · rcases ih1 with ⟨A', a1, a2⟩ | ⟨A1, A2, a1, a2, a3⟩ <;> rcases ih2 with ⟨B', b1, b2⟩ | ⟨B1, B2, b1, b2, b3⟩
      · exact .inl ⟨A' + B', by omega, .join a2 hkm b2⟩
      · exact .inr ⟨A' + B1, B2, by omega, .join a2 hkm b2, b3⟩
      · exact .inr ⟨A1, A2 + B', by omega, a2, .join a3 hkm b2⟩
      · have := h0 _ (.join a3 hkm b2)
        exact .inr ⟨A1, B2, by omega, a2, b3⟩
    · have hk' : k = m := by omega
      subst hk'
      have l : ∃ A', A' ≤ A ∧ In E k u k A' := by
        rcases ih1 with h | ⟨A1, A2, a1, a2, a3⟩
        · exact h
        · have := h0 _ a3; exact ⟨A1, by omega, a2⟩
      have r : ∃ B', B' ≤ B ∧ In E k k v B' := by
        rcases ih2 with h | ⟨B1, B2, b1, b2, b3⟩
        · exact h
        · have := h0 _ b2; exact ⟨B2, by omega, b3⟩
      obtain ⟨A', a1, a2⟩ := l
      obtain ⟨B', b1, b2⟩ := r
      exact .inr ⟨A', B', by omega, a2, b2⟩
/-- what a table is known by before phase m -/
structure FW (E : List Ed) (n m : Nat) (β : Int) (D : Nat → Nat → Int) : Prop where
  real : ∀ i k, D i k ≠ none_ → Walk E i k (D i k)
  most : ∀ i k W, i < n → k < n → In E m i k W → D i k ≠ none_ ∧ D i k ≤ W
  bnd : ∀ i k, i < n → k < n → D i k = none_ ∨ (-β ≤ D i k ∧ D i k ≤ β)
  top : ∀ i k, D i k ≤ none_
/-- one place of a phase -/
def cell (m : Nat) (D : Nat → Nat → Int) (i k : Nat) : Int := if D i m ≠ none_ ∧ D m k ≠ none_ then min (D i k) (D i m + D m k) else D i k
def put (D : Nat → Nat → Int) (i k : Nat) (x : Int) : Nat → Nat → Int := fun i' k' => if i' = i ∧ k' = k then x else D i' k'
theorem put_same (D : Nat → Nat → Int) (i k : Nat) (x : Int) : put D i k x i k = x := by simp [put]
theorem put_ne (D : Nat → Nat → Int) {i k i' k' : Nat} (x : Int) (h : ¬ (i' = i ∧ k' = k)) : put D i k x i' k' = D i' k' := by simp only [put, if_neg h]
/-- What holds within phase m: D is the table where it began, C the one at hand; the places before (i, k) are done. -/
structure Ph (E : List Ed) (n m : Nat) (β : Int) (D C : Nat → Nat → Int) (i k : Nat) : Prop where
  real : ∀ a b, C a b ≠ none_ → Walk E a b (C a b)
  le : ∀ a b, C a b ≤ D a b
  lt : ∀ a b, C a b ≤ none_
  done : ∀ a b, a < n → b < n → (a < i ∨ (a = i ∧ b < k)) → D a m ≠ none_ → D m b ≠ none_ → C a b ≠ none_ ∧ C a b ≤ D a m + D m b
  old : ∀ a b, (i < a ∨ (a = i ∧ k ≤ b)) → C a b = D a b
  bnd : ∀ a b, a < n → b < n → C a b = none_ ∨ (-(7 * β) ≤ C a b ∧ C a b ≤ 2 * β)
  bcol : ∀ a, a < n → C a m = none_ ∨ (-(3 * β) ≤ C a m ∧ C a m ≤ β)
  brow : ∀ b, b < n → C m b = none_ ∨ (-(3 * β) ≤ C m b ∧ C m b ≤ β)
  bmid : C m m = none_ ∨ -(2 * β) ≤ C m m
  same : 0 ≤ D m m → (∀ a, C a m = D a m) ∧ (∀ b, C m b = D m b) ∧ ∀ a b, a < n → b < n → C a b = none_ ∨ -(2 * β) ≤ C a b
theorem Ph.start {E : List Ed} {n m : Nat} {β : Int} {D : Nat → Nat → Int} (h : FW E n m β D) (_hb : 0 ≤ β) (hm : m < n) : Ph E n m β D D 0 0 where
  real := h.real
  le := fun _ _ => Int.le_refl _
  lt := h.top
  done := fun a b _ _ hd => by omega
  old := fun _ _ _ => rfl
  bnd := fun a b ha hb' => by have := h.bnd a b ha hb'; omega
  bcol := fun a ha => by have := h.bnd a m ha hm; omega
  brow := fun b hb' => by have := h.bnd m b hm hb'; omega
  bmid := by have := h.bnd m m hm hm; omega
  same := fun _ => ⟨fun _ => rfl, fun _ => rfl, fun a b ha hb' => by have := h.bnd a b ha hb'; omega⟩
theorem Ph.row {E : List Ed} {n m : Nat} {β : Int} {D C : Nat → Nat → Int} {i : Nat} (h : Ph E n m β D C i n) : Ph E n m β D C (i + 1) 0 :=
  { h with
    done := fun a b ha hb hd => h.done a b ha hb (by omega)
    old := fun a b hd => h.old a b (by omega) }
theorem Ph.step {E : List Ed} {n m : Nat} {β : Int} {D C : Nat → Nat → Int} (h0 : FW E n m β D) (hb : 0 ≤ β) (hβ : 7 * β < none_) (hm : m < n) {i k : Nat} (hi : i < n) (hk : k < n) (h : Ph E n m β D C i k) :
    Ph E n m β D (put C i k (cell m C i k)) i (k + 1) := by
  have key : ∀ (P : Int → Prop) a b, P (C a b) → ((a = i ∧ b = k) → P (cell m C i k)) → P (put C i k (cell m C i k) a b) := by
    intro P a b h1 h2
    by_cases hc : a = i ∧ b = k
    · obtain ⟨rfl, rfl⟩ := hc
      rw [put_same]; exact h2 ⟨rfl, rfl⟩
    · rw [put_ne _ _ hc]; exact h1
  have cc := h.bcol i hi
  have cr := h.brow k hk
  have cle : cell m C i k ≤ C i k := by
    unfold cell; split <;> omega
  have cb := h.bnd i k hi hk
  have cbn : cell m C i k = none_ ∨ (-(7 * β) ≤ cell m C i k ∧ cell m C i k ≤ 2 * β) := by
    unfold cell; split <;> omega
  refine ⟨?_, ?_, ?_, ?_, ?_, ?_, ?_, ?_, ?_, ?_⟩
  · intro a b
    refine key (fun x => x ≠ none_ → Walk E a b x) a b (h.real a b) ?_
    rintro ⟨rfl, rfl⟩ hx
    unfold cell at hx ⊢
    split
    · rename_i hc
      by_cases hl : C a b ≤ C a m + C m b
      · rw [Int.min_eq_left hl]
        refine h.real a b ?_
        rw [if_pos hc, Int.min_eq_left hl] at hx; exact hx
      · rw [Int.min_eq_right (by omega)]
        exact (h.real a m hc.1).trans (h.real m b hc.2)
    · rename_i hc
      rw [if_neg hc] at hx
      exact h.real a b hx
  · intro a b
    refine key (fun x => x ≤ D a b) a b (h.le a b) ?_
    rintro ⟨rfl, rfl⟩
    have := h.le a b; omega
  · intro a b
    refine key (fun x => x ≤ none_) a b (h.lt a b) ?_
    rintro ⟨rfl, rfl⟩
    have := h.lt a b; omega
  · intro a b ha hb' hd h1 h2
    have l1 := h0.bnd a m ha hm
    have l2 := h0.bnd m b hm hb'
    by_cases hc : a = i ∧ b = k
    · obtain ⟨rfl, rfl⟩ := hc
      rw [put_same]
      have l3 := h.le a m
      have l4 := h.le m b
      have : cell m C a b ≤ C a m + C m b := by
        unfold cell; rw [if_pos ⟨by omega, by omega⟩]; omega
      constructor <;> omega
    · rw [put_ne _ _ hc]
      exact h.done a b ha hb' (by omega) h1 h2
  · intro a b hd
    rw [put_ne _ _ (by omega)]
    exact h.old a b (by omega)
  · intro a b ha hb'
    refine key (fun x => x = none_ ∨ (-(7 * β) ≤ x ∧ x ≤ 2 * β)) a b (h.bnd a b ha hb') ?_
    rintro ⟨rfl, rfl⟩
    exact cbn
  · intro a ha
    refine key (fun x => x = none_ ∨ (-(3 * β) ≤ x ∧ x ≤ β)) a m (h.bcol a ha) ?_
    rintro ⟨rfl, rfl⟩
    have o := h.old a m (.inr ⟨rfl, Nat.le_refl _⟩)
    have l1 := h0.bnd a m ha hm
    have l2 := h.bmid
    have l3 := h.brow m hm
    unfold cell; split <;> omega
  · intro b hb'
    refine key (fun x => x = none_ ∨ (-(3 * β) ≤ x ∧ x ≤ β)) m b (h.brow b hb') ?_
    rintro ⟨rfl, rfl⟩
    have o := h.old m b (.inr ⟨rfl, Nat.le_refl _⟩)
    have l1 := h0.bnd m b hm hb'
    have l2 := h.bmid
    have l3 := h.bcol m hm
    unfold cell; split <;> omega
  · refine key (fun x => x = none_ ∨ -(2 * β) ≤ x) m m h.bmid ?_
    rintro ⟨rfl, rfl⟩
    have o := h.old m m (.inr ⟨rfl, Nat.le_refl _⟩)
    have l1 := h0.bnd m m hm hm
    unfold cell; split <;> omega
  · intro hp
    obtain ⟨s1, s2, s3⟩ := h.same hp
    have l0 := h0.bnd m m hm hm
    refine ⟨fun a => ?_, fun b => ?_, fun a b ha hb' => ?_⟩
    · refine key (fun x => x = D a m) a m (s1 a) ?_
      rintro ⟨rfl, rfl⟩
      have := s1 a
      have := s1 m
      unfold cell; split <;> omega
    · refine key (fun x => x = D m b) m b (s2 b) ?_
      rintro ⟨rfl, rfl⟩
      have := s2 b
      have := s2 m
      unfold cell; split <;> omega
    · refine key (fun x => x = none_ ∨ -(2 * β) ≤ x) a b (s3 a b ha hb') ?_
      rintro ⟨rfl, rfl⟩
      have := s1 a
      have := s2 b
      have := h0.bnd a m ha hm
      have := h0.bnd m b hm hb'
      have := s3 a b ha hb'
      unfold cell; split <;> omega
/-- a phase whose own place is not below 0 -/
theorem Ph.close {E : List Ed} {n m : Nat} {β : Int} {D C : Nat → Nat → Int} (h0 : FW E n m β D) (hβ : 7 * β < none_) (hb : 0 ≤ β) (hm : m < n) (hp : 0 ≤ D m m) (h : Ph E n m β D C n 0) : FW E n (m + 1) (2 * β) C where
  real := h.real
  top := h.lt
  bnd := fun a b ha hb' => by
    have h1 := h.bnd a b ha hb'
    have h2 := (h.same hp).2.2 a b ha hb'
    omega
  most := fun a b W ha hb' hW => by
    rcases hW.split (fun c hc => Int.le_trans hp (h0.most m m c hm hm hc).2) with ⟨W', w1, w2⟩ | ⟨A, B, w1, w2, w3⟩
    · have h1 := h0.most a b W' ha hb' w2
      have h2 := h0.bnd a b ha hb'
      have h3 := h.le a b
      omega
    · have h1 := h0.most a m A ha hm w2
      have h2 := h0.most m b B hm hb' w3
      have h3 := h.done a b ha hb' (.inl ha) h1.1 h2.1
      omega
/-- a place of the diagonal below 0 shows a cycle below 0 -/
theorem FW.neg {E : List Ed} {n m : Nat} {β : Int} {D : Nat → Nat → Int} (h : FW E n m β D) {v : Nat} (hv : D v v < 0) : Neg E :=
  ⟨v, D v v, h.real v v (by simp only [none_]; omega), hv⟩
theorem Ph.neg {E : List Ed} {n m : Nat} {β : Int} {D C : Nat → Nat → Int} {i k : Nat} (h : Ph E n m β D C i k) {v : Nat} (hv : C v v < 0) : Neg E :=
  ⟨v, C v v, h.real v v (by simp only [none_]; omega), hv⟩
/-- if the place of the phase is below 0 then it is so at the end -/
theorem Ph.stays {E : List Ed} {n m : Nat} {β : Int} {D C : Nat → Nat → Int} {i k : Nat} (h : Ph E n m β D C i k) {v : Nat} (hv : D v v < 0) : C v v < 0 :=
  Int.lt_of_le_of_lt (h.le v v) hv
/-- the last table: distances -/
theorem FW.dist {E : List Ed} {n : Nat} {β : Int} {D : Nat → Nat → Int} (h : FW E n n β D) (hE : ∀ x ∈ E, x.a < n ∧ x.b < n) {u v : Nat} (hu : u < n) (hv : v < n) : IsDist E u v (D u v) :=
  ⟨fun W hW => h.most u v W hu hv (hW.inn hE), h.real u v⟩
/-- the last table: if no place of its diagonal is below 0 then there is no cycle below 0 -/
theorem FW.noneg {E : List Ed} {n : Nat} {β : Int} {D : Nat → Nat → Int} (h : FW E n n β D) (hE : ∀ x ∈ E, x.a < n ∧ x.b < n) (hd : ∀ v, v < n → 0 ≤ D v v) : ¬ Neg E := by
  rintro ⟨v, W, hW, h0⟩
  have hv : v < n := by
    cases hW with
    | nil => exact absurd h0 (by omega)
    | snoc _ hx _ => exact (hE _ hx).2
  have h1 := h.most v v W hv hv (hW.inn hE)
  have h2 := hd v hv
  omega
/-- the first table: 0 from each vertex to itself, no path else, then edge by edge -/
def first (i k : Nat) : Int := if i = k then 0 else none_
structure Edges (E : List Ed) (n : Nat) (D : Nat → Nat → Int) : Prop where
  real : ∀ i k, D i k ≠ none_ → Walk E i k (D i k)
  self : ∀ i, D i i ≤ 0
  top : ∀ i k, D i k ≤ none_
  bnd : ∀ i k, D i k = none_ ∨ (-cap ≤ D i k ∧ D i k ≤ cap)
theorem Edges.start (E : List Ed) (n : Nat) : Edges E n first where
  real := fun i k h => by
    by_cases hc : i = k
    · subst hc; simp only [first, if_true]; exact .nil i
    · simp only [first, if_neg hc] at h; exact absurd rfl h
  self := fun i => by simp [first]
  top := fun i k => by simp only [first, none_]; split <;> omega
  bnd := fun i k => by simp only [first, none_, cap]; split <;> omega
theorem Edges.step {E : List Ed} {n : Nat} {D : Nat → Nat → Int} (h : Edges E n D) {x : Ed} (hx : x ∈ E) (hw : -cap ≤ x.w ∧ x.w ≤ cap) : Edges E n (put D x.a x.b (min (D x.a x.b) x.w)) := by
  have key : ∀ (P : Int → Prop) a b, P (D a b) → ((a = x.a ∧ b = x.b) → P (min (D x.a x.b) x.w)) → P (put D x.a x.b (min (D x.a x.b) x.w) a b) := by
    intro P a b h1 h2
    by_cases hc : a = x.a ∧ b = x.b
    · rw [hc.1, hc.2, put_same]; exact h2 hc
    · rw [put_ne _ _ hc]; exact h1
  have hr := h.real x.a x.b
  have hbn := h.bnd x.a x.b
  refine ⟨fun i k => ?_, fun i => ?_, fun i k => ?_, fun i k => ?_⟩
  · refine key (fun y => y ≠ none_ → Walk E i k y) i k (h.real i k) ?_
    rintro ⟨rfl, rfl⟩ hy
    by_cases hl : D x.a x.b ≤ x.w
    · rw [Int.min_eq_left hl] at hy ⊢; exact hr hy
    · rw [Int.min_eq_right (by omega)]; exact Walk.one hx
  · refine key (fun y => y ≤ 0) i i (h.self i) ?_
    rintro ⟨e1, e2⟩
    have := h.self i
    rw [← e1, ← e2]; omega
  · refine key (fun y => y ≤ none_) i k (h.top i k) ?_
    rintro ⟨rfl, rfl⟩
    have := h.top x.a x.b; omega
  · refine key (fun y => y = none_ ∨ (-cap ≤ y ∧ y ≤ cap)) i k (h.bnd i k) ?_
    rintro ⟨rfl, rfl⟩
    simp only [none_, cap] at *
    omega
theorem Edges.fw {E : List Ed} {n : Nat} {D : Nat → Nat → Int} (h : Edges E n D) (hx : ∀ x ∈ E, D x.a x.b ≤ x.w) (hw : ∀ x ∈ E, x.w ≤ cap) : FW E n 0 cap D where
  real := h.real
  top := h.top
  bnd := fun i k _ _ => h.bnd i k
  most := fun i k W _ _ hW => by
    cases hW with
    | nil => have := h.self i; simp only [none_]; omega
    | one hm => have h1 := hx _ hm; have h2 := hw _ hm; simp only [none_, cap] at *; omega
    | join _ hk _ => omega
end P15

/- Relaxation from one vertex: what it found when nothing changes any more are the distances; the cycle behind a change in the last round. No program in sight. -/
namespace P15
/-- no change in the round at hand: at its end each edge is satisfied -/
theorem Inv.quiet {E : List Ed} {F : Nat → Int} {e t l : Nat → Nat} {s r q : Nat} (h : Inv E F e t l s r q) (hq : E.length ≤ q) (hl : ∀ v, l v < r) : ∀ x ∈ E, F x.a = none_ ∨ F x.b ≤ F x.a + x.w := fun x hx => by
  obtain ⟨j, hj, hjx⟩ := List.mem_iff_getElem.1 hx
  have hj' : E[j]? = some x := by rw [List.getElem?_eq_getElem hj, hjx]
  rcases h.sat j x hj' with h1 | h1
  · exact h1
  · rw [if_pos (by omega)] at h1
    have := hl x.a
    omega
/-- what is found is the length of a walk from u -/
structure Reach (E : List Ed) (u : Nat) (F : Nat → Int) : Prop where
  real : ∀ v, F v ≠ none_ → Walk E u v (F v)
  self : F u ≠ none_ ∧ F u ≤ 0
theorem Reach.start (E : List Ed) (u : Nat) : Reach E u (first u) where
  real := fun v h => (Edges.start E 0).real u v h
  self := by simp [first, none_]
theorem Reach.relax {E : List Ed} {u : Nat} {F : Nat → Int} (h : Reach E u F) {x : Ed} (hx : x ∈ E) (hn : F x.a ≠ none_) (hc : F x.a + x.w < F x.b) (hne : F x.a + x.w ≠ none_) : Reach E u (upd F x.b (F x.a + x.w)) where
  real := fun v hv => by
    by_cases h1 : v = x.b
    · subst h1; rw [upd_same]; exact .snoc (h.real _ hn) hx rfl
    · rw [upd_ne _ _ h1] at hv ⊢; exact h.real v hv
  self := by
    by_cases h1 : u = x.b
    · rw [h1, upd_same]
      have := h.self
      rw [h1] at this
      exact ⟨hne, by omega⟩
    · rw [upd_ne _ _ h1]; exact h.self
/-- once each edge is satisfied, what was found are the distances -/
theorem Reach.dist {E : List Ed} {u : Nat} {F : Nat → Int} {e t l : Nat → Nat} {s r q : Nat} (h : Reach E u F) (hi : Inv E F e t l s r q) (hs : (s + 1 : Int) * cap < none_) (hw : ∀ x ∈ E, x.w ≤ cap)
    (hF : ∀ x ∈ E, F x.a = none_ ∨ F x.b ≤ F x.a + x.w) (v : Nat) : IsDist E u v (F v) := by
  refine ⟨fun W hW => ?_, h.real v⟩
  have key : ∀ {v W}, Walk E u v W → F u ≠ none_ → F u ≤ 0 → F v ≠ none_ ∧ F v ≤ W := by
    intro v W hW h1 h2
    induction hW with
    | nil => exact ⟨h1, h2⟩
    | @snoc v W x _ hx ha ih =>
      have := ih
      subst ha
      have hs2 : (s + 1 : Int) * cap = s * cap + cap := by rw [Int.add_mul, Int.one_mul]
      have h5 := hw x hx
      have h6 := hi.bnd x.a
      rcases hF x hx with h7 | h7
      · exact absurd h7 this.1
      · have := this
        omega
  exact key hW h.self.1 h.self.2
/-- the way back is a walk -/
theorem Inv.way {E : List Ed} {F : Nat → Int} {e t l : Nat → Nat} {s r q : Nat} (h : Inv E F e t l s r q) {u : Nat} (hl : ∀ k, 0 < l (backN E e k u)) : ∀ k, Walk E (backN E e k u) u (sumW E e u k)
  | 0 => by simpa [backN, sumW] using Walk.nil (E := E) u
  | k + 1 => by
    obtain ⟨x, h3, h4, _⟩ := h.pre _ (hl k)
    have h8 : backN E e (k + 1) u = x.a := by rw [backN, back, getD_of h3]
    have hx : x ∈ E := List.mem_of_getElem? h3
    have := Walk.one hx
    rw [h4] at this
    have h9 := this.trans (h.way hl k)
    rw [h8, sumW, getD_of h3, Int.add_comm]
    exact h9
/-- a change in the last round shows a cycle below 0 -/
theorem Inv.neg {E : List Ed} {n : Nat} (hE : ∀ x ∈ E, x.a < n ∧ x.b < n) {F : Nat → Int} {e t l : Nat → Nat} {s q : Nat} (h : Inv E F e t l s n q) {v : Nat} (hv : v < n) (hl : l v = n) : Neg E := by
  obtain ⟨_, _, d, h1, _, h3, h4⟩ := h.onCycle hE hv hl
  have h5 := h.way h4 d
  rw [h3] at h5
  exact ⟨_, _, h5, h.negative h1 h3 h4⟩
/-- the least way round -/
theorem least {P : Nat → Prop} [DecidablePred P] : ∀ d, 0 < d → P d → ∃ k, 0 < k ∧ k ≤ d ∧ P k ∧ ∀ j, 0 < j → j < k → ¬ P j := by
  intro d
  induction d using Nat.strongRecOn with
  | ind d ih =>
    intro h0 hp
    by_cases hc : ∃ j, 0 < j ∧ j < d ∧ P j
    · obtain ⟨j, h1, h2, h3⟩ := hc
      obtain ⟨k, k1, k2, k3, k4⟩ := ih j h2 h1 h3
      exact ⟨k, k1, by omega, k3, k4⟩
    · exact ⟨d, h0, Nat.le_refl _, hp, fun j h1 h2 h3 => hc ⟨j, h1, h2, h3⟩⟩
/-- along the least way round no vertex comes twice -/
theorem apart {E : List Ed} {e : Nat → Nat} {u d : Nat} (hd : backN E e d u = u) (hm : ∀ j, 0 < j → j < d → backN E e j u ≠ u) {j k : Nat} (hjk : j < k) (hk : k < d) : backN E e j u ≠ backN E e k u := by
  intro h
  have h1 := backN_add E e u j (d - k)
  have h2 := backN_add E e u k (d - k)
  rw [h, ← h2, show k + (d - k) = d by omega, hd] at h1
  exact hm _ (by omega) (by omega) h1
/-- relaxation from all vertices at once never finds more than 0 -/
def Low (F : Nat → Int) : Prop := ∀ v, F v ≤ 0
theorem Low.relax {F : Nat → Int} (h : Low F) {x : Ed} (hc : F x.a + x.w < F x.b) : Low (upd F x.b (F x.a + x.w)) := fun v => by
  by_cases h1 : v = x.b
  · subst h1; rw [upd_same]; have := h x.b; omega
  · rw [upd_ne _ _ h1]; exact h v
theorem Low.noneg {E : List Ed} {F : Nat → Int} (h : Low F) (hF : ∀ x ∈ E, F x.a = none_ ∨ F x.b ≤ F x.a + x.w) : ¬ Neg E :=
  not_neg fun x hx => by
    have h1 := h x.a
    rcases hF x hx with h2 | h2
    · simp only [none_] at h2; omega
    · exact h2
end P15

/- The list of edges of the cycle: linked, no two begin at one vertex, together below 0. No program in sight. -/
namespace P15
/-- the sum of k terms -/
def total (f : Nat → Int) : Nat → Int
  | 0 => 0
  | k + 1 => total f k + f k
theorem total_congr {f g : Nat → Int} : ∀ {k : Nat}, (∀ i, i < k → f i = g i) → total f k = total g k
  | 0, _ => rfl
  | k + 1, h => by rw [total, total, total_congr (fun i hi => h i (by omega)), h k (by omega)]
theorem total_back (f : Nat → Int) (d : Nat) : ∀ k, k ≤ d → total (fun i => f (d - 1 - i)) k + total f (d - k) = total f d
  | 0, _ => by simp [total]
  | k + 1, h => by
    have h1 := total_back f d k (by omega)
    have h2 : d - k = (d - (k + 1)) + 1 := by omega
    rw [h2, total] at h1
    rw [total]
    have h3 : d - 1 - k = d - (k + 1) := by omega
    simp only [h3]
    omega
theorem total_rev (f : Nat → Int) (d : Nat) : total (fun i => f (d - 1 - i)) d = total f d := by
  have := total_back f d d (Nat.le_refl _)
  simpa [total] using this
theorem sumW_total (E : List Ed) (e : Nat → Nat) (u : Nat) : ∀ k, sumW E e u k = total (fun i => (E.getD (e (backN E e i u)) default).w) k
  | 0 => rfl
  | k + 1 => by rw [sumW, total, sumW_total]
/-- the list that is returned: from the last step back to the first -/
def ring (E : List Ed) (e : Nat → Nat) (u d : Nat) : List Nat := ((List.range d).map fun k => e (backN E e k u)).reverse
theorem ring_length (E : List Ed) (e : Nat → Nat) (u d : Nat) : (ring E e u d).length = d := by simp [ring]
theorem ring_get {E : List Ed} {e : Nat → Nat} {u d i : Nat} (hi : i < d) : (ring E e u d)[i]? = some (e (backN E e (d - 1 - i) u)) := by
  unfold ring
  rw [List.getElem?_reverse (by simpa using hi)]
  simp only [List.length_map, List.length_range]
  rw [List.getElem?_map, List.getElem?_range (by omega)]
  rfl
theorem Inv.member {E : List Ed} {F : Nat → Int} {e t l : Nat → Nat} {s r q : Nat} (h : Inv E F e t l s r q) {u d i : Nat} (hl : ∀ k, 0 < l (backN E e k u)) (hi : i < d) :
    ∃ x, E[e (backN E e (d - 1 - i) u)]? = some x ∧ x.b = backN E e (d - 1 - i) u ∧ x.a = backN E e (d - i) u := by
  obtain ⟨x, h3, h4, _⟩ := h.pre _ (hl (d - 1 - i))
  refine ⟨x, h3, h4, ?_⟩
  rw [show d - i = (d - 1 - i) + 1 by omega, backN, back, getD_of h3]
/-- each edge ends where the next one begins -/
theorem Inv.linked {E : List Ed} {F : Nat → Int} {e t l : Nat → Nat} {s r q : Nat} (h : Inv E F e t l s r q) {u d i : Nat} (hd : backN E e d u = u) (hl : ∀ k, 0 < l (backN E e k u)) (hi : i < d) {x y : Ed}
    (hx : E[e (backN E e (d - 1 - i) u)]? = some x) (hy : E[e (backN E e (d - 1 - (i + 1) % d) u)]? = some y) : x.b = y.a := by
  obtain ⟨x', h1, h2, _⟩ := h.member hl hi
  rw [hx] at h1; injection h1 with h1; subst h1
  have hj : (i + 1) % d < d := Nat.mod_lt _ (by omega)
  obtain ⟨y', h4, _, h6⟩ := h.member hl hj
  rw [hy] at h4; injection h4 with h4; subst h4
  rw [h2, h6]
  by_cases hc : i + 1 = d
  · rw [hc, Nat.mod_self, Nat.sub_zero, hd, show d - 1 - i = 0 by omega]; rfl
  · rw [Nat.mod_eq_of_lt (by omega), show d - 1 - i = d - (i + 1) by omega]
/-- no two of the edges begin at one vertex -/
theorem Inv.begins {E : List Ed} {F : Nat → Int} {e t l : Nat → Nat} {s r q : Nat} (h : Inv E F e t l s r q) {u d i k : Nat} (hd : backN E e d u = u) (hl : ∀ k, 0 < l (backN E e k u)) (hm : ∀ j, 0 < j → j < d → backN E e j u ≠ u) (hk : k < i) (hi : i < d) {x y : Ed}
    (hx : E[e (backN E e (d - 1 - i) u)]? = some x) (hy : E[e (backN E e (d - 1 - k) u)]? = some y) : y.a ≠ x.a := by
  obtain ⟨x', h1, _, h3⟩ := h.member hl hi
  rw [hx] at h1; injection h1 with h1; subst h1
  obtain ⟨y', h4, _, h6⟩ := h.member hl (show k < d by omega)
  rw [hy] at h4; injection h4 with h4; subst h4
  rw [h3, h6]
  by_cases hc : k = 0
  · subst hc
    rw [Nat.sub_zero, hd]
    exact fun h0 => hm (d - i) (by omega) (by omega) h0.symm
  · exact fun h0 => apart hd hm (show d - i < d - k by omega) (by omega) h0.symm
/-- their lengths are together less than 0 -/
theorem Inv.sum {E : List Ed} {F : Nat → Int} {e t l : Nat → Nat} {s r q : Nat} (h : Inv E F e t l s r q) {u d : Nat} (h0 : 0 < d) (hd : backN E e d u = u) (hl : ∀ k, 0 < l (backN E e k u)) :
    total (fun i => (E.getD (e (backN E e (d - 1 - i) u)) default).w) d < 0 := by
  have h1 := h.negative h0 hd hl
  rw [sumW_total, ← total_rev] at h1
  exact h1
end P15

/- What distances say: an edge, the triangle, a further edge. No program in sight. -/
namespace P15
theorem IsDist.edge {E : List Ed} {x : Ed} {d : Int} (h : IsDist E x.a x.b d) (hx : x ∈ E) : d ≠ none_ ∧ d ≤ x.w := h.1 _ (Walk.one hx)
theorem IsDist.tri {E : List Ed} {i m k : Nat} {a b c : Int} (ha : IsDist E i m a) (hb : IsDist E m k b) (hc : IsDist E i k c) (h1 : a ≠ none_) (h2 : b ≠ none_) : c ≠ none_ ∧ c ≤ a + b :=
  hc.1 _ ((ha.2 h1).trans (hb.2 h2))
theorem IsDist.self {E : List Ed} {v : Nat} {d : Int} (h : IsDist E v v d) (hn : ¬ Neg E) : d = 0 := by
  have h1 := h.1 _ (.nil v)
  have h2 := h.2 h1.1
  have h3 : ¬ d < 0 := fun h3 => hn ⟨v, d, h2, h3⟩
  omega
theorem Walk.more {E E' : List Ed} (hs : ∀ x ∈ E, x ∈ E') {u v : Nat} {W : Int} (h : Walk E u v W) : Walk E' u v W := by
  induction h with
  | nil => exact .nil _
  | snoc _ hx ha ih => exact .snoc ih (hs _ hx) ha
theorem Neg.more {E E' : List Ed} (hs : ∀ x ∈ E, x ∈ E') (h : Neg E) : Neg E' := by
  obtain ⟨v, W, h1, h2⟩ := h
  exact ⟨v, W, h1.more hs, h2⟩
/-- a further edge makes no distance greater -/
theorem IsDist.more {E E' : List Ed} (hs : ∀ x ∈ E, x ∈ E') {u v : Nat} {d d' : Int} (h : IsDist E u v d) (h' : IsDist E' u v d') (hd : d ≠ none_) : d' ≠ none_ ∧ d' ≤ d :=
  h'.1 _ ((h.2 hd).more hs)
/-- an edge that says no more than a distance shortens no walk -/
theorem Walk.idle {E : List Ed} {x : Ed} {d : Int} (hd : IsDist E x.a x.b d) (hn : d ≠ none_) (hle : d ≤ x.w) {u v : Nat} {W : Int} (h : Walk (E ++ [x]) u v W) : ∃ W', W' ≤ W ∧ Walk E u v W' := by
  induction h with
  | nil => exact ⟨0, by omega, .nil _⟩
  | @snoc v W y _ hy ha ih =>
    obtain ⟨W', h1, h2⟩ := ih
    subst ha
    rcases List.mem_append.1 hy with h3 | h3
    · exact ⟨W' + y.w, by omega, .snoc h2 h3 rfl⟩
    · have h4 := List.mem_singleton.1 h3
      subst h4
      exact ⟨W' + d, by omega, h2.trans (hd.2 hn)⟩
theorem IsDist.idle {E : List Ed} {x : Ed} {d : Int} (hd : IsDist E x.a x.b d) (hn : d ≠ none_) (hle : d ≤ x.w) {u v : Nat} {c : Int} (h : IsDist E u v c) : IsDist (E ++ [x]) u v c := by
  refine ⟨fun W hW => ?_, fun hc => (h.2 hc).more fun y hy => List.mem_append.2 (.inl hy)⟩
  obtain ⟨W', h1, h2⟩ := hW.idle hd hn hle
  have := h.1 _ h2
  exact ⟨this.1, by omega⟩
theorem Neg.idle {E : List Ed} {x : Ed} {d : Int} (hd : IsDist E x.a x.b d) (hn : d ≠ none_) (hle : d ≤ x.w) (h : Neg (E ++ [x])) : Neg E := by
  obtain ⟨v, W, h1, h2⟩ := h
  obtain ⟨W', h3, h4⟩ := h1.idle hd hn hle
  exact ⟨v, W', h4, by omega⟩
/-- a walk with a further edge that closes no cycle below 0 uses it at most once -/
theorem Walk.once {E : List Ed} {x : Ed} {d : Int} (hd : IsDist E x.b x.a d) (hc : d = none_ ∨ 0 ≤ d + x.w) {u v : Nat} {W : Int} (h : Walk (E ++ [x]) u v W) :
    Walk E u v W ∨ ∃ A B, A + x.w + B ≤ W ∧ Walk E u x.a A ∧ Walk E x.b v B := by
  induction h with
  | nil => exact .inl (.nil _)
  | @snoc v W y _ hy ha ih =>
    subst ha
    rcases List.mem_append.1 hy with h3 | h3
    · rcases ih with h4 | ⟨A, B, h4, h5, h6⟩
      · exact .inl (.snoc h4 h3 rfl)
      · exact .inr ⟨A, B + y.w, by omega, h5, .snoc h6 h3 rfl⟩
    · have h4 := List.mem_singleton.1 h3
      subst h4
      rcases ih with h4 | ⟨A, B, h4, h5, h6⟩
      · exact .inr ⟨W, 0, by omega, h4, .nil _⟩
      · have h7 := hd.1 _ h6
        exact .inr ⟨A, 0, by omega, h5, .nil _⟩
/-- a contradiction by a further edge: it closes a cycle below 0 -/
theorem Neg.once {E : List Ed} {x : Ed} {d : Int} (hd : IsDist E x.b x.a d) (hn : ¬ Neg E) (h : Neg (E ++ [x])) : d ≠ none_ ∧ d + x.w < 0 := by
  refine Classical.byContradiction fun hc => ?_
  have hc' : d = none_ ∨ 0 ≤ d + x.w := by omega
  obtain ⟨v, W, h1, h2⟩ := h
  rcases h1.once hd hc' with h3 | ⟨A, B, h3, h4, h5⟩
  · exact hn ⟨v, W, h3, h2⟩
  · have h6 := hd.1 _ (h5.trans h4)
    omega
end P15

/- Solutions: the greatest and the least one, with the value at the ends. No program in sight. -/
namespace P15
/-- a table of distances in which all are found -/
structure Full (E : List Ed) (n : Nat) (f : Nat → Nat → Int) : Prop where
  tri : ∀ i m k, i < n → m < n → k < n → f i k ≤ f i m + f m k
  self : ∀ i, i < n → f i i = 0
  edge : ∀ x ∈ E, f x.a x.b ≤ x.w
/-- if all are found from 0 and to 0 then all are found -/
theorem Full.of {E : List Ed} {n : Nat} {f : Nat → Nat → Int} (hf : ∀ i k, i < n → k < n → IsDist E i k (f i k)) (hE : ∀ x ∈ E, x.a < n ∧ x.b < n) (hn : ¬ Neg E) (h0 : 0 < n)
    (hb : ∀ i, i < n → f 0 i ≠ none_ ∧ f i 0 ≠ none_) : Full E n f ∧ ∀ i k, i < n → k < n → f i k ≠ none_ := by
  have all : ∀ i k, i < n → k < n → f i k ≠ none_ := fun i k hi hk =>
    ((hf i 0 hi h0).tri (hf 0 k h0 hk) (hf i k hi hk) (hb i hi).2 (hb k hk).1).1
  exact ⟨{
    tri := fun i m k hi hm hk => ((hf i m hi hm).tri (hf m k hm hk) (hf i k hi hk) (all i m hi hm) (all m k hm hk)).2
    self := fun i hi => (hf i i hi hi).self hn
    edge := fun x hx => ((hf x.a x.b (hE x hx).1 (hE x hx).2).edge hx).2 }, all⟩
def great (f : Nat → Nat → Int) (at_ : Nat) (value : Int) (k : Nat) : Int := min (f 0 k) (value + f at_ k)
def small (f : Nat → Nat → Int) (at_ : Nat) (value : Int) (k : Nat) : Int := max (-f k 0) (value - f k at_)
/-- with its greatest value: the distances from 0 -/
theorem Full.great_top {E : List Ed} {n : Nat} {f : Nat → Nat → Int} (h : Full E n f) {a k : Nat} (ha : a < n) (hk : k < n) : great f a (f 0 a) k = f 0 k := by
  have := h.tri 0 a k (by omega) ha hk
  unfold great; omega
theorem Full.small_top {E : List Ed} {n : Nat} {f : Nat → Nat → Int} (h : Full E n f) {a k : Nat} (ha : a < n) (hk : k < n) : small f a (-f a 0) k = -f k 0 := by
  have := h.tri k a 0 hk ha (by omega)
  unfold small; omega
/-- with its least value: all differences to it are greatest at once -/
theorem Full.great_low {E : List Ed} {n : Nat} {f : Nat → Nat → Int} (h : Full E n f) {a k : Nat} (ha : a < n) (hk : k < n) : great f a (-f a 0) k - great f a (-f a 0) a = f a k := by
  have h1 := h.tri a 0 k ha (by omega) hk
  have h2 := h.tri a 0 a ha (by omega) ha
  have h3 := h.self a ha
  unfold great; omega
theorem Full.small_low {E : List Ed} {n : Nat} {f : Nat → Nat → Int} (h : Full E n f) {a k : Nat} (ha : a < n) (hk : k < n) : small f a (f 0 a) a - small f a (f 0 a) k = f k a := by
  have h1 := h.tri k 0 a hk (by omega) ha
  have h2 := h.tri a 0 a ha (by omega) ha
  have h3 := h.self a ha
  unfold small; omega
/-- a solution: 0 at 0, and each edge is satisfied -/
theorem Full.great_solves {E : List Ed} {n : Nat} {f : Nat → Nat → Int} (h : Full E n f) (hE : ∀ x ∈ E, x.a < n ∧ x.b < n) {a : Nat} (ha : a < n) {x : Ed} (hx : x ∈ E) : great f a (f 0 a) x.b ≤ great f a (f 0 a) x.a + x.w := by
  rw [h.great_top ha (hE x hx).1, h.great_top ha (hE x hx).2]
  have h1 := h.tri 0 x.a x.b (by have := hE x hx; omega) (hE x hx).1 (hE x hx).2
  have h2 := h.edge x hx
  omega
theorem Full.small_solves {E : List Ed} {n : Nat} {f : Nat → Nat → Int} (h : Full E n f) (hE : ∀ x ∈ E, x.a < n ∧ x.b < n) {a : Nat} (ha : a < n) {x : Ed} (hx : x ∈ E) : small f a (-f a 0) x.b ≤ small f a (-f a 0) x.a + x.w := by
  rw [h.small_top ha (hE x hx).1, h.small_top ha (hE x hx).2]
  have h1 := h.tri x.a x.b 0 (hE x hx).1 (hE x hx).2 (by have := hE x hx; omega)
  have h2 := h.edge x hx
  omega
end P15


end Go.Proofs.Ytjmdodgmoehfkaa
