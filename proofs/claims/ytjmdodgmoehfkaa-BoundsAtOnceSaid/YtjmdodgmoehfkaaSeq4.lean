/- Regions that draw their order: an operation that looks at memory is taken first if each that writes waits for it, be it through others. No program in sight. -/
import Derived.Test.YtjmdodgmoehfkaaWk13
namespace Go.Proofs.Ytjmdodgmoehfkaa
open Go.RowKit

section
variable {P : Program} {ops : Array Oper} {Q : Exit → Act → World → Prop} {S : World → Prop} {F : Nat → Bool}
theorem wpAnyF_firstT {i : Nat} {oi : Oper} {v : Value} (Wt : Nat → Bool) (hi : ops[i]? = some oi) (hsel : ∀ (j : Nat) (o : Oper) cs b, ops[j]? = some o → o.op ≠ .select cs b)
    (hQ : ∀ c a w, Q (.panic c) (a.put oi.dst v) w → Q (.panic c) a w)
    (hF : ∀ j, F j = true → Wt j = true) (hW : ∀ j, Wt j = true → j ≠ i) (hwait : ∀ j oj, ops[j]? = some oj → Wt j = true → ∃ e ∈ oj.after, Region.binds .any e = true ∧ (e.on = i ∨ Wt e.on = true)) (hFi : F i = false) :
    ∀ (fuel : Nat) (listed : Array Bool) (a : Act) (w : World),
      (∀ j oj, ops[j]? = some oj → j ≠ i → listed.getD j true = false → (∀ e ∈ oj.after, Region.binds .any e = true → e.on ≠ i) → oi.apart ops oj = true) →
      (∀ j, Wt j = true → listed.getD j true = false) →
      i ∈ Region.ready .any ops listed → YieldsIf P ops S oi v a → S w →
      wpAnyF P ops Q S F fuel (listed.setIfInBounds i true) (a.put oi.dst v) w → wpAnyF P ops Q S F (fuel + 1) listed a w := by
  intro fuel
  induction fuel with
  | zero =>
    intro listed a w _ _ hr hy hS H
    refine ⟨fun h => (by rw [h] at hr; cases hr), fun j hj => ?_⟩
    by_cases hji : j = i
    · subst hji; exact hy.wpOp hi hS ⟨fun _ h => h, H⟩
    · have := ready_mono hj hji
      rw [H.1] at this
      cases this
  | succ fuel ih =>
    intro listed a w hfree hun0 hr hy hS H
    refine ⟨fun h => (by rw [h] at hr; cases hr), fun j hj => ?_⟩
    by_cases hji : j = i
    · subst hji; exact hy.wpOp hi hS ⟨fun _ h => h, H⟩
    · have h1 := H.2 j (ready_mono hj hji)
      obtain ⟨hjun, oj, hoj, hall⟩ := mem_ready.1 hj
      have hno : ∀ k, listed.getD k true = false → ∀ e ∈ oj.after, Region.binds .any e = true → e.on ≠ k := fun k h0 e he hb heq => by
        have h1 := hall e he hb
        rw [heq] at h1
        rcases Nat.lt_or_ge k listed.size with h' | h'
        · simp [h'] at h0 h1; rw [h0] at h1; cases h1
        · simp [Array.getElem?_eq_none h'] at h1
      have hnot := hno i (mem_ready.1 hr).1
      have hWj : Wt j = false := by
        cases hF : Wt j with
        | false => rfl
        | true =>
          obtain ⟨e, he, hb, heq⟩ := hwait j oj hoj hF
          rcases heq with heq | heq
          · exact absurd heq (hnot e he hb)
          · exact absurd rfl (hno e.on (hun0 _ heq) e he hb)
      have hFj : F j = false := by
        cases h : F j with
        | false => rfl
        | true => rw [hF j h] at hWj; cases hWj
      have h2 := wpOp_putIf hoj (hfree j oj hoj hji hjun hnot) (fun cs b => hsel i oi cs b hi) (fun cs b => hsel j oj cs b hoj) hQ hy h1
      have hfree' : ∀ k ok, ops[k]? = some ok → k ≠ i → (listed.setIfInBounds j true).getD k true = false →
          (∀ e ∈ ok.after, Region.binds .any e = true → e.on ≠ i) → oi.apart ops ok = true := fun k ok hk hki hun hno => by
        refine hfree k ok hk hki ?_ hno
        by_cases hjk : j = k
        · subst hjk; exact hjun
        · rw [getD_set_ne true hjk] at hun; exact hun
      refine wpOp_mono (fun a' w' h3 => ⟨h3.2.1, ih (listed.setIfInBounds j true) a' w' hfree' (fun k hk => by rw [getD_set_ne true (fun e => by rw [e] at hWj; rw [hWj] at hk; cases hk)]; exact hun0 k hk) (ready_mono hr (Ne.symm hji)) h3.1 (h3.2.1 hFj hS) ?_⟩) h2
      rw [Array.setIfInBounds_comm _ _ hji]
      exact h3.2.2
def lightT (ops : Array Oper) (F : Nat → Bool) (Wt : List Nat) (L : Array Bool) (i : Nat) : Bool :=
  !F i && Region.free .any ops L i && (Region.ready .any ops L).contains i && (List.range ops.size).all (fun j => !F j || Wt.contains j) &&
    Wt.all fun j => j != i && !L.getD j true && ((ops[j]?).map fun o => o.after.any fun e => Region.binds .any e && (e.on == i || Wt.contains e.on)).getD true
/-- F names operations of the region alone -/
theorem any_lightT {i n : Nat} {L L' : Array Bool} {a : Act} {w : World} {o : Oper} {v : Value} (Wt : List Nat) (hFo : ∀ j, F j = true → j < ops.size) (hs : Region.noSelect ops = true) (hb : lightT ops F Wt L i = true) (hL : L.setIfInBounds i true = L') (ho : ops[i]? = some o) (hQ : ∀ c a w, Q (.panic c) (a.put o.dst v) w → Q (.panic c) a w) (hw : Region.wanted o (yielded ops a.tmps) = true) (hS : S w)
    (hr : ∀ W, S W → (execOp a.eval o).run P W = .ok (.value v) W) (h : wpAnyF P ops Q S F n L' (a.put o.dst v) w) : wpAnyF P ops Q S F (n + 1) L a w := by
  subst hL
  simp only [lightT, Bool.and_eq_true, Bool.not_eq_true', List.all_eq_true, List.mem_range, Bool.or_eq_true] at hb
  obtain ⟨⟨⟨⟨h2, h3⟩, h4⟩, h5⟩, h6⟩ := hb
  have mem : ∀ {j}, Wt.contains j = true → j ∈ Wt := fun h => by simpa using h
  refine wpAnyF_firstT (fun j => Wt.contains j) ho (Region.noSelect_spec hs) hQ (fun j hj => ?_) (fun j hj => ?_) (fun j oj hj hw => ?_) h2 n L a w (Region.free_spec ho h3) (fun j hj => ?_) (by simpa using h4) (.inl ⟨hw, hr⟩) hS h
  · rcases h5 j (hFo j hj) with h | h
    · rw [hj] at h; cases h
    · exact h
  · have := (h6 j (mem hj)).1.1; simpa using this
  · have := (h6 j (mem hw)).2
    rw [hj] at this
    simp only [Option.map_some, Option.getD_some] at this
    obtain ⟨e, he, h7⟩ := Array.any_eq_true'.1 this
    simp only [Bool.and_eq_true, Bool.or_eq_true, beq_iff_eq] at h7
    exact ⟨e, he, h7.1, h7.2⟩
  · exact (h6 j (mem hj)).1.2
variable {N : Nat} {m : List (Nat × Value)} {a : Act} {w : World} {i d : Nat} {o : Oper} {v : Value}
theorem anyt_val {n : Nat} {L L' : Array Bool} (Wt : List Nat) (hF : Sl N m a) (hFo : ∀ j, F j = true → j < ops.size) (hs : Region.noSelect ops = true) (hb : lightT ops F Wt L i = true) (hL : L.setIfInBounds i true = L') (ho : ops[i]? = some o) (hd : o.dst = some d) (hN : Nat.blt d N = true)
    (hQ : ∀ c a w v, Q (.panic c) (a.put (some d) v) w → Q (.panic c) a w) (hw : Region.wanted o (yielded ops a.tmps) = true) (hS : S w)
    (hr : ∀ W, S W → (execOp a.eval o).run P W = .ok (.value v) W) (h : ∀ a', Sl N ((d, v) :: m) a' → wpAnyF P ops Q S F n L' a' w) : wpAnyF P ops Q S F (n + 1) L a w :=
  any_lightT Wt hFo hs hb hL ho (by rw [hd]; exact fun c a w => hQ c a w _) hw hS hr (h _ (by rw [hd]; exact hF.put hN))
end

end Go.Proofs.Ytjmdodgmoehfkaa
