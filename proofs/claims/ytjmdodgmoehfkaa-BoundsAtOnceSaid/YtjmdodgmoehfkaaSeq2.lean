/- A region that draws its order, with two kinds of what is looked at: what stores of F write (S; looked at before them), and what nothing in the region writes (S2). -/
import Derived.Test.YtjmdodgmoehfkaaWk8
import Derived.OrdersHeld
namespace Go.Proofs.Ytjmdodgmoehfkaa
open Go.RowKit

section
variable {P : Program} {ops : Array Oper} {Q : Exit → Act → World → Prop} {S S2 : World → Prop} {F : Nat → Bool} {light : Nat → Bool}

/-- Whatever order is picked; S holds behind every operation that is not of F. -/
def wpAnyG (P : Program) (ops : Array Oper) (Q : Exit → Act → World → Prop) (S : World → Prop) (F : Nat → Bool) (S2 : World → Prop) : Nat → Array Bool → Act → World → Prop
  | 0, listed, a, w => Region.ready .any ops listed = [] ∧ Q .normal a w
  | fuel + 1, listed, a, w =>
    (Region.ready .any ops listed = [] → Q .normal a w) ∧
    ∀ i ∈ Region.ready .any ops listed, wpOp P ops Q i (fun a' w' => ((F i = false → S w → S w') ∧ (S2 w → S2 w')) ∧ wpAnyG P ops Q S F S2 fuel (listed.setIfInBounds i true) a' w') a w

theorem wpAny_of_G : ∀ (fuel : Nat) (listed : Array Bool) (a : Act) (w : World), wpAnyG P ops Q S F S2 fuel listed a w → wpAny P .any ops Q fuel listed a w
  | 0, _, _, _, h => h
  | fuel + 1, _, _, _, h => ⟨h.1, fun i hi => wpOp_mono (fun a' w' h' => wpAny_of_G fuel _ a' w' h'.2) (h.2 i hi)⟩

theorem wpAnyG_first {i : Nat} {oi : Oper} {v : Value} (hi : ops[i]? = some oi) (hsel : ∀ (j : Nat) (o : Oper) cs b, ops[j]? = some o → o.op ≠ .select cs b)
    (hQ : ∀ c a w, Q (.panic c) (a.put oi.dst v) w → Q (.panic c) a w) (hFi : F i = false) :
    ∀ (fuel : Nat) (listed : Array Bool) (a : Act) (w : World),
      (∀ j oj, ops[j]? = some oj → j ≠ i → listed.getD j true = false → (∀ e ∈ oj.after, Region.binds .any e = true → e.on ≠ i) → oi.apart ops oj = true) →
      (∀ j oj, ops[j]? = some oj → F j = true → ∃ e ∈ oj.after, Region.binds .any e = true ∧ e.on = i) →
      i ∈ Region.ready .any ops listed → YieldsIf P ops S oi v a → S w →
      wpAnyG P ops Q S F S2 fuel (listed.setIfInBounds i true) (a.put oi.dst v) w → wpAnyG P ops Q S F S2 (fuel + 1) listed a w := by
  intro fuel
  induction fuel with
  | zero =>
    intro listed a w _ _ hr hy hS H
    refine ⟨fun h => (by rw [h] at hr; cases hr), fun j hj => ?_⟩
    by_cases hji : j = i
    · subst hji; exact hy.wpOp hi hS ⟨⟨fun _ h => h, fun h => h⟩, H⟩
    · have := ready_mono hj hji
      rw [H.1] at this
      cases this
  | succ fuel ih =>
    intro listed a w hfree hwait hr hy hS H
    refine ⟨fun h => (by rw [h] at hr; cases hr), fun j hj => ?_⟩
    by_cases hji : j = i
    · subst hji; exact hy.wpOp hi hS ⟨⟨fun _ h => h, fun h => h⟩, H⟩
    · have h1 := H.2 j (ready_mono hj hji)
      obtain ⟨hjun, oj, hoj, hall⟩ := mem_ready.1 hj
      have hnot : ∀ e ∈ oj.after, Region.binds .any e = true → e.on ≠ i := fun e he hb heq => by
        have h1 := hall e he hb
        have h0 := (mem_ready.1 hr).1
        rw [heq] at h1
        rcases Nat.lt_or_ge i listed.size with h' | h'
        · simp [h'] at h0 h1; rw [h0] at h1; cases h1
        · simp [Array.getElem?_eq_none h'] at h1
      have hFj : F j = false := by
        cases hF : F j with
        | false => rfl
        | true =>
          obtain ⟨e, he, hb, heq⟩ := hwait j oj hoj hF
          exact absurd heq (hnot e he hb)
      have h2 := wpOp_putIf hoj (hfree j oj hoj hji hjun hnot) (fun cs b => hsel i oi cs b hi) (fun cs b => hsel j oj cs b hoj) hQ hy h1
      have hfree' : ∀ k ok, ops[k]? = some ok → k ≠ i → (listed.setIfInBounds j true).getD k true = false →
          (∀ e ∈ ok.after, Region.binds .any e = true → e.on ≠ i) → oi.apart ops ok = true := fun k ok hk hki hun hno => by
        refine hfree k ok hk hki ?_ hno
        by_cases hjk : j = k
        · subst hjk; exact hjun
        · rw [getD_set_ne true hjk] at hun; exact hun
      refine wpOp_mono (fun a' w' h3 => ⟨h3.2.1, ih (listed.setIfInBounds j true) a' w' hfree' hwait (ready_mono hr (Ne.symm hji)) h3.1 (h3.2.1.1 hFj hS) ?_⟩) h2
      rw [Array.setIfInBounds_comm _ _ hji]
      exact h3.2.2

theorem wpAnyG_first2 {i : Nat} {oi : Oper} {v : Value} (hi : ops[i]? = some oi) (hsel : ∀ (j : Nat) (o : Oper) cs b, ops[j]? = some o → o.op ≠ .select cs b)
    (hQ : ∀ c a w, Q (.panic c) (a.put oi.dst v) w → Q (.panic c) a w) :
    ∀ (fuel : Nat) (listed : Array Bool) (a : Act) (w : World),
      (∀ j oj, ops[j]? = some oj → j ≠ i → listed.getD j true = false → (∀ e ∈ oj.after, Region.binds .any e = true → e.on ≠ i) → oi.apart ops oj = true) →
      i ∈ Region.ready .any ops listed → YieldsIf P ops S2 oi v a → S2 w →
      wpAnyG P ops Q S F S2 fuel (listed.setIfInBounds i true) (a.put oi.dst v) w → wpAnyG P ops Q S F S2 (fuel + 1) listed a w := by
  intro fuel
  induction fuel with
  | zero =>
    intro listed a w _ hr hy hS H
    refine ⟨fun h => (by rw [h] at hr; cases hr), fun j hj => ?_⟩
    by_cases hji : j = i
    · subst hji; exact hy.wpOp hi hS ⟨⟨fun _ h => h, fun h => h⟩, H⟩
    · have := ready_mono hj hji
      rw [H.1] at this
      cases this
  | succ fuel ih =>
    intro listed a w hfree hr hy hS H
    refine ⟨fun h => (by rw [h] at hr; cases hr), fun j hj => ?_⟩
    by_cases hji : j = i
    · subst hji; exact hy.wpOp hi hS ⟨⟨fun _ h => h, fun h => h⟩, H⟩
    · have h1 := H.2 j (ready_mono hj hji)
      obtain ⟨hjun, oj, hoj, hall⟩ := mem_ready.1 hj
      have hnot : ∀ e ∈ oj.after, Region.binds .any e = true → e.on ≠ i := fun e he hb heq => by
        have h1 := hall e he hb
        have h0 := (mem_ready.1 hr).1
        rw [heq] at h1
        rcases Nat.lt_or_ge i listed.size with h' | h'
        · simp [h'] at h0 h1; rw [h0] at h1; cases h1
        · simp [Array.getElem?_eq_none h'] at h1
      have h2 := wpOp_putIf hoj (hfree j oj hoj hji hjun hnot) (fun cs b => hsel i oi cs b hi) (fun cs b => hsel j oj cs b hoj) hQ hy h1
      have hfree' : ∀ k ok, ops[k]? = some ok → k ≠ i → (listed.setIfInBounds j true).getD k true = false →
          (∀ e ∈ ok.after, Region.binds .any e = true → e.on ≠ i) → oi.apart ops ok = true := fun k ok hk hki hun hno => by
        refine hfree k ok hk hki ?_ hno
        by_cases hjk : j = k
        · subst hjk; exact hjun
        · rw [getD_set_ne true hjk] at hun; exact hun
      refine wpOp_mono (fun a' w' h3 => ⟨h3.2.1, ih (listed.setIfInBounds j true) a' w' hfree' (ready_mono hr (Ne.symm hji)) h3.1 (h3.2.1.2 hS) ?_⟩) h2
      rw [Array.setIfInBounds_comm _ _ hji]
      exact h3.2.2

/-- The same for an operation that looks at no memory: nothing need wait for it. -/
theorem wpAnyG_firstP {i : Nat} {oi : Oper} {v : Value} (hi : ops[i]? = some oi) (hsel : ∀ (j : Nat) (o : Oper) cs b, ops[j]? = some o → o.op ≠ .select cs b)
    (hQ : ∀ c a w, Q (.panic c) (a.put oi.dst v) w → Q (.panic c) a w) :
    ∀ (fuel : Nat) (listed : Array Bool) (a : Act) (w : World),
      (∀ j oj, ops[j]? = some oj → j ≠ i → listed.getD j true = false → (∀ e ∈ oj.after, Region.binds .any e = true → e.on ≠ i) → oi.apart ops oj = true) →
      i ∈ Region.ready .any ops listed → Yields P ops oi v a →
      wpAnyG P ops Q S F S2 fuel (listed.setIfInBounds i true) (a.put oi.dst v) w → wpAnyG P ops Q S F S2 (fuel + 1) listed a w := by
  intro fuel
  induction fuel with
  | zero =>
    intro listed a w _ hr hy H
    refine ⟨fun h => (by rw [h] at hr; cases hr), fun j hj => ?_⟩
    by_cases hji : j = i
    · subst hji; exact hy.wpOp hi ⟨⟨fun _ h => h, fun h => h⟩, H⟩
    · have := ready_mono hj hji
      rw [H.1] at this
      cases this
  | succ fuel ih =>
    intro listed a w hfree hr hy H
    refine ⟨fun h => (by rw [h] at hr; cases hr), fun j hj => ?_⟩
    by_cases hji : j = i
    · subst hji; exact hy.wpOp hi ⟨⟨fun _ h => h, fun h => h⟩, H⟩
    · have h1 := H.2 j (ready_mono hj hji)
      obtain ⟨hjun, oj, hoj, hall⟩ := mem_ready.1 hj
      have hnot : ∀ e ∈ oj.after, Region.binds .any e = true → e.on ≠ i := fun e he hb heq => by
        have h1 := hall e he hb
        have h0 := (mem_ready.1 hr).1
        rw [heq] at h1
        rcases Nat.lt_or_ge i listed.size with h' | h'
        · simp [h'] at h0 h1; rw [h0] at h1; cases h1
        · simp [Array.getElem?_eq_none h'] at h1
      have h2 := wpOp_put hoj (hfree j oj hoj hji hjun hnot) (fun cs b => hsel i oi cs b hi) (fun cs b => hsel j oj cs b hoj) hQ hy h1
      have hfree' : ∀ k ok, ops[k]? = some ok → k ≠ i → (listed.setIfInBounds j true).getD k true = false →
          (∀ e ∈ ok.after, Region.binds .any e = true → e.on ≠ i) → oi.apart ops ok = true := fun k ok hk hki hun hno => by
        refine hfree k ok hk hki ?_ hno
        by_cases hjk : j = k
        · subst hjk; exact hjun
        · rw [getD_set_ne true hjk] at hun; exact hun
      refine wpOp_mono (fun a' w' h3 => ⟨h3.2.1, ih (listed.setIfInBounds j true) a' w' hfree' (ready_mono hr (Ne.symm hji)) h3.1 ?_⟩) h2
      rw [Array.setIfInBounds_comm _ _ hji]
      exact h3.2.2

theorem anyg_start {id : Nat} {a : Act} {w : World} (S : World → Prop) (F : Nat → Bool) (S2 : World → Prop) (n : Nat) (L : Array Bool) (hm : P.follows .mixedOrders = true) (hn : n = ops.size) (hL : L = Array.replicate ops.size false)
    (h : wpAnyG P ops Q S F S2 n L a w.drew) : (Code.region id ops true).wp P Q a w :=
  wp_region_any hm (wpAny_of_G _ _ _ _ (hL ▸ hn ▸ h))

theorem anyg_nil {a : Act} {w : World} {L : Array Bool} (hr : Region.ready .any ops L = []) (h : Q .normal a w) : wpAnyG P ops Q S F S2 0 L a w := ⟨hr, h⟩

theorem anyg_light {i n : Nat} {L L' : Array Bool} {a : Act} {w : World} {o : Oper} {v : Value} (hs : Region.noSelect ops = true) (hb : lightB ops F L i = true) (hL : L.setIfInBounds i true = L') (ho : ops[i]? = some o) (hQ : ∀ c a w, Q (.panic c) (a.put o.dst v) w → Q (.panic c) a w) (hw : Region.wanted o (yielded ops a.tmps) = true) (hS : S w)
    (hr : ∀ W, S W → (execOp a.eval o).run P W = .ok (.value v) W) (h : wpAnyG P ops Q S F S2 n L' (a.put o.dst v) w) : wpAnyG P ops Q S F S2 (n + 1) L a w := by
  subst hL
  simp only [lightB, Bool.and_eq_true, Bool.not_eq_true'] at hb
  obtain ⟨⟨⟨h2, h3⟩, h4⟩, h5⟩ := hb
  exact wpAnyG_first ho (Region.noSelect_spec hs) hQ h2 n L a w (Region.free_spec ho h3) (fun j oj hj hF => waitsB_spec h5 j oj hj hF) (by simpa using h4) (.inl ⟨hw, hr⟩) hS h
theorem anyg_skip {i n : Nat} {L L' : Array Bool} {a : Act} {w : World} {o : Oper} (hs : Region.noSelect ops = true) (hb : lightB ops F L i = true) (hL : L.setIfInBounds i true = L') (ho : ops[i]? = some o) (hQ : ∀ c a w, Q (.panic c) (a.put o.dst undef) w → Q (.panic c) a w) (hw : Region.wanted o (yielded ops a.tmps) = false) (hS : S w)
    (h : wpAnyG P ops Q S F S2 n L' (a.put o.dst undef) w) : wpAnyG P ops Q S F S2 (n + 1) L a w := by
  subst hL
  simp only [lightB, Bool.and_eq_true, Bool.not_eq_true'] at hb
  obtain ⟨⟨⟨h2, h3⟩, h4⟩, h5⟩ := hb
  exact wpAnyG_first ho (Region.noSelect_spec hs) hQ h2 n L a w (Region.free_spec ho h3) (fun j oj hj hF => waitsB_spec h5 j oj hj hF) (by simpa using h4) (.inr ⟨hw, rfl⟩) hS h

theorem anyg_pureY {i n : Nat} {L L' : Array Bool} {a : Act} {w : World} {o : Oper} {v : Value} (hs : Region.noSelect ops = true) (hb : freeB ops L i = true) (hL : L.setIfInBounds i true = L') (ho : ops[i]? = some o) (hQ : ∀ c a w, Q (.panic c) (a.put o.dst v) w → Q (.panic c) a w)
    (hy : Yields P ops o v a) (h : wpAnyG P ops Q S F S2 n L' (a.put o.dst v) w) : wpAnyG P ops Q S F S2 (n + 1) L a w := by
  subst hL
  simp only [freeB, Bool.and_eq_true] at hb
  exact wpAnyG_firstP ho (Region.noSelect_spec hs) hQ n L a w (Region.free_spec ho hb.1) (by simpa using hb.2) hy h

theorem anyg_one {i n : Nat} {L L' : Array Bool} {a : Act} {w : World} (hr : Region.ready .any ops L = [i]) (hL : L.setIfInBounds i true = L')
    (h : wpOp P ops Q i (fun a' w' => ((F i = false → S w → S w') ∧ (S2 w → S2 w')) ∧ wpAnyG P ops Q S F S2 n L' a' w') a w) : wpAnyG P ops Q S F S2 (n + 1) L a w := by
  subst hL
  refine ⟨fun h0 => (by rw [hr] at h0; cases h0), fun j hj => ?_⟩
  rw [hr] at hj
  simp only [List.mem_singleton] at hj
  subst hj
  exact h
theorem anyg_two {i k n : Nat} {L L1 L2 : Array Bool} {a : Act} {w : World} (hr : Region.ready .any ops L = [i, k]) (hL : L.setIfInBounds i true = L1) (hL2 : L.setIfInBounds k true = L2)
    (h : wpOp P ops Q i (fun a' w' => ((F i = false → S w → S w') ∧ (S2 w → S2 w')) ∧ wpAnyG P ops Q S F S2 n L1 a' w') a w)
    (h2 : wpOp P ops Q k (fun a' w' => ((F k = false → S w → S w') ∧ (S2 w → S2 w')) ∧ wpAnyG P ops Q S F S2 n L2 a' w') a w) : wpAnyG P ops Q S F S2 (n + 1) L a w := by
  subst hL
  subst hL2
  refine ⟨fun h0 => (by rw [hr] at h0; cases h0), fun j hj => ?_⟩
  rw [hr] at hj
  simp only [List.mem_cons, List.not_mem_nil, or_false] at hj
  rcases hj with rfl | rfl
  · exact h
  · exact h2

def light2B (ops : Array Oper) (listed : Array Bool) (i : Nat) : Bool := Region.free .any ops listed i && (Region.ready .any ops listed).contains i
theorem anyg_light2 {i n : Nat} {L L' : Array Bool} {a : Act} {w : World} {o : Oper} {v : Value} (hs : Region.noSelect ops = true) (hb : light2B ops L i = true) (hL : L.setIfInBounds i true = L') (ho : ops[i]? = some o) (hQ : ∀ c a w, Q (.panic c) (a.put o.dst v) w → Q (.panic c) a w) (hw : Region.wanted o (yielded ops a.tmps) = true) (hS : S2 w)
    (hr : ∀ W, S2 W → (execOp a.eval o).run P W = .ok (.value v) W) (h : wpAnyG P ops Q S F S2 n L' (a.put o.dst v) w) : wpAnyG P ops Q S F S2 (n + 1) L a w := by
  subst hL
  simp only [light2B, Bool.and_eq_true] at hb
  exact wpAnyG_first2 ho (Region.noSelect_spec hs) hQ n L a w (Region.free_spec ho hb.1) (by simpa using hb.2) (.inl ⟨hw, hr⟩) hS h
variable {N d : Nat} {m : List (Nat × Value)} {a : Act} {w : World} {o : Oper} {v : Value} {i : Nat}
theorem anyg_val {n : Nat} {L L' : Array Bool} (hF : Sl N m a) (hs : Region.noSelect ops = true) (hb : lightB ops F L i = true) (hL : L.setIfInBounds i true = L') (ho : ops[i]? = some o) (hd : o.dst = some d) (hN : Nat.blt d N = true)
    (hQ : ∀ c a w v, Q (.panic c) (a.put (some d) v) w → Q (.panic c) a w) (hw : Region.wanted o (yielded ops a.tmps) = true) (hS : S w)
    (hr : ∀ W, S W → (execOp a.eval o).run P W = .ok (.value v) W) (h : ∀ a', Sl N ((d, v) :: m) a' → wpAnyG P ops Q S F S2 n L' a' w) : wpAnyG P ops Q S F S2 (n + 1) L a w :=
  anyg_light hs hb hL ho (by rw [hd]; exact fun c a w => hQ c a w _) hw hS hr (h _ (by rw [hd]; exact hF.put hN))
theorem anyg_val2 {n : Nat} {L L' : Array Bool} (hF : Sl N m a) (hs : Region.noSelect ops = true) (hb : light2B ops L i = true) (hL : L.setIfInBounds i true = L') (ho : ops[i]? = some o) (hd : o.dst = some d) (hN : Nat.blt d N = true)
    (hQ : ∀ c a w v, Q (.panic c) (a.put (some d) v) w → Q (.panic c) a w) (hw : Region.wanted o (yielded ops a.tmps) = true) (hS : S2 w)
    (hr : ∀ W, S2 W → (execOp a.eval o).run P W = .ok (.value v) W) (h : ∀ a', Sl N ((d, v) :: m) a' → wpAnyG P ops Q S F S2 n L' a' w) : wpAnyG P ops Q S F S2 (n + 1) L a w :=
  anyg_light2 hs hb hL ho (by rw [hd]; exact fun c a w => hQ c a w _) hw hS hr (h _ (by rw [hd]; exact hF.put hN))
theorem anyg_pure {n : Nat} {L L' : Array Bool} (hF : Sl N m a) (hs : Region.noSelect ops = true) (hb : freeB ops L i = true) (hL : L.setIfInBounds i true = L') (ho : ops[i]? = some o) (hd : o.dst = some d) (hN : Nat.blt d N = true)
    (hQ : ∀ c a w v, Q (.panic c) (a.put (some d) v) w → Q (.panic c) a w) (hw : Region.wanted o (yielded ops a.tmps) = true)
    (hr : ∀ W, (execOp a.eval o).run P W = .ok (.value v) W) (h : ∀ a', Sl N ((d, v) :: m) a' → wpAnyG P ops Q S F S2 n L' a' w) : wpAnyG P ops Q S F S2 (n + 1) L a w :=
  anyg_pureY hs hb hL ho (by rw [hd]; exact fun c a w => hQ c a w _) (.inl ⟨hw, hr⟩) (h _ (by rw [hd]; exact hF.put hN))
theorem anyg_pass {n : Nat} {L L' : Array Bool} (hF : Sl N m a) (hs : Region.noSelect ops = true) (hb : freeB ops L i = true) (hL : L.setIfInBounds i true = L') (ho : ops[i]? = some o) (hd : o.dst = some d) (hN : Nat.blt d N = true)
    (hQ : ∀ c a w v, Q (.panic c) (a.put (some d) v) w → Q (.panic c) a w) (hw : Region.wanted o (yielded ops a.tmps) = false)
    (h : ∀ a', Sl N ((d, undef) :: m) a' → wpAnyG P ops Q S F S2 n L' a' w) : wpAnyG P ops Q S F S2 (n + 1) L a w :=
  anyg_pureY hs hb hL ho (by rw [hd]; exact fun c a w => hQ c a w _) (.inr ⟨hw, rfl⟩) (h _ (by rw [hd]; exact hF.put hN))
end

end Go.Proofs.Ytjmdodgmoehfkaa
