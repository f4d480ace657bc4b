/- Words for walks: what is kept where only variables of the call's own are written; an append, in a region that draws its order. -/
import Derived.Test.YtjmdodgmoehfkaaLawsB
namespace Go.Proofs.Ytjmdodgmoehfkaa
open Go.RowKit

variable {S S' : Nat → Prop}

/-- The blocks of S are as they were. -/
def Pres (S : Nat → Prop) (w w' : World) : Prop := w.heap.size ≤ w'.heap.size ∧ ∀ b, S b → b < w.heap.size → w'.heap[b]? = w.heap[b]?
theorem Pres.refl (w : World) : Pres S w w := ⟨Nat.le_refl _, fun _ _ _ => rfl⟩
theorem Pres.trans {a b c : World} (h : Pres S a b) (k : Pres S b c) : Pres S a c := ⟨Nat.le_trans h.1 k.1, fun n hn hl => (k.2 n hn (Nat.lt_of_lt_of_le hl h.1)).trans (h.2 n hn hl)⟩
theorem Pres.of_ext {a b : World} (h : Ext a b) : Pres S a b := ⟨h.size, fun n _ hl => h.below.block n hl⟩
theorem Pres.ext {a b c : World} (h : Pres S a b) (k : Ext b c) : Pres S a c := h.trans (Pres.of_ext k)
theorem Pres.alloc {a w : World} (h : Pres S a w) (o : Obj) : Pres S a (w.alloc o) := h.ext ((Ext.refl _).alloc _)
theorem Pres.drew {a w : World} (h : Pres S a w) : Pres S a w.drew := h.ext (Ext.refl w).drew
theorem Pres.setC {a w : World} (h : Pres S a w) {n i : Nat} (hn : ¬ S n) {u : Value} : Pres S a (w.setCell ⟨n, i, none⟩ u) :=
  ⟨by simpa [World.setCell] using h.1, fun b hb hl => (Below.heap_setCell w ⟨n, i, none⟩ u b (fun e => hn (by rw [← show b = n from e]; exact hb))).trans (h.2 b hb hl)⟩
theorem Pres.grownN {a w w' : World} {n : Nat} (h : Pres S a w) (hg : w.grownBy w' (some n)) (hn : ¬ S n) : Pres S a w' :=
  h.trans ⟨hg.size, fun b hb hl => hg.block b hl (fun e => hn (by injection e with e; rw [← e]; exact hb))⟩
theorem RBs.pres {w w' : World} {v : Value} {l : List UInt8} (h : RBs S w v l) (hp : Pres S w w') : RBs S w' v l := h.keep hp.1 hp.2
theorem RBss.pres {w w' : World} {v : Value} {l : List (List UInt8)} (h : RBss S w v l) (hp : Pres S w w') : RBss S w' v l := h.keep hp.1 hp.2

/-- A footprint may be cut down to the blocks that are there. -/
theorem RSl.subB {α : Type} {k : Nat} {R R' : World → List Value → α → Prop} {w : World} {v : Value} {l : List α} (h : RSl S k R w v l) (hs : ∀ b, b < w.heap.size → S b → S' b) (hR : ∀ cs x, R w cs x → R' w cs x) : RSl S' k R' w v l := by
  obtain ⟨A, cap, xs, hv, hc, hl, hr, h4⟩ := h
  refine ⟨A, cap, xs, hv, hc, hl, fun i hi => hR _ _ (hr i hi), fun h0 => ?_⟩
  obtain ⟨b, off, ha, hS⟩ := h4 h0
  obtain ⟨b', off', ha', hb', _⟩ := hl.2.2 h0
  rw [ha] at ha'
  cases ha'
  exact ⟨b, off, ha, hs b hb' hS⟩
theorem RBs.subB {w : World} {v : Value} {l : List UInt8} (h : RBs S w v l) (hs : ∀ b, b < w.heap.size → S b → S' b) : RBs S' w v l := RSl.subB h hs fun _ _ h => h
theorem RB1.subB {w : World} {cs : List Value} {l : List UInt8} (h : RB1 S w cs l) (hs : ∀ b, b < w.heap.size → S b → S' b) : RB1 S' w cs l := by
  obtain ⟨v, hv, h⟩ := h; exact ⟨v, hv, h.subB hs⟩
theorem RBss.subB {w : World} {v : Value} {l : List (List UInt8)} (h : RBss S w v l) (hs : ∀ b, b < w.heap.size → S b → S' b) : RBss S' w v l := RSl.subB h hs fun _ _ h => h.subB hs

theorem Blk.setE {w : World} {n : Nat} {t : TypeId} {cs cs' : List Value} {i : Nat} {u : Value} (h : Blk w n t cs) (e : cs.set i u = cs') : Blk (w.setCell ⟨n, i, none⟩ u) n t cs' := by
  rw [← e]; exact h.set i u
theorem Blk.newE {w : World} {n : Nat} {t : TypeId} {cs : List Value} {a : Array Value} (hn : n = w.heap.size) (e : cs.toArray = a) : Blk (w.alloc (.cells a t)) n t cs := by
  subst e; exact Blk.new w n t cs hn

theorem Blk.cel {w : World} {n : Nat} {t : TypeId} {cs : List Value} {k m : Nat} (h : Blk w n t cs) (hl : cs.length = m * k) (h1 : ∀ u ∈ cs, u.oneCell' = true) : Cel w k (some ⟨n, 0, none⟩) m cs :=
  ⟨hl, h1, fun _ => ⟨n, 0, rfl, h.lt, fun j u hu => by rw [Nat.zero_add, h.rule.1]; exact hu⟩⟩
theorem own_pres {w w' : World} {base : Nat} {e : TypeId} {k : Nat} {v : Value} {n : Nat} {xs : List Value} (h : w.ownsRow base e k v n xs) (hp : Pres S w w') (hS : ∀ b, base ≤ b → S b) : w'.ownsRow base e k v n xs := by
  refine ⟨h.1, ?_⟩
  rcases h.2 with h0 | ⟨g, cap, cur, hv, hb, hg, rest⟩
  · exact .inl h0
  · exact .inr ⟨g, cap, cur, hv, hb, (hp.2 g (hS g hb) (Array.getElem?_eq_some_iff.1 hg).1).trans hg, rest⟩
theorem own_ne {w : World} {base : Nat} {e : TypeId} {k : Nat} {v : Value} {n : Nat} {xs : List Value} (h : w.ownsRow base e k v n xs) {b : Nat} (hb : b < base) : some b ≠ v.ownBlock := fun e => by
  have := (h.lt b e.symm).1
  omega
theorem own_heap {w : World} {base : Nat} {e : TypeId} {k : Nat} {v : Value} {n : Nat} {xs : List Value} (h : w.ownsRow base e k v n xs) {g : Nat} (hg : v.ownBlock = some g) : ∃ cur, w.heap[g]? = some (.cells cur e (0, 0)) := by
  rcases h.2 with ⟨rfl, _⟩ | ⟨g', cap, cur, rfl, hb, hg', _⟩
  · cases hg
  · injection hg with hg
    subst hg
    exact ⟨cur, hg'⟩
theorem Blk.ne_tag {w : World} {b g : Nat} {t e : TypeId} {cs : List Value} {cur : Array Value} (h : Blk w b t cs) (hg : w.heap[g]? = some (.cells cur e (0, 0))) (hte : t ≠ e) : b ≠ g := by
  rintro rfl
  unfold Blk at h
  rw [hg] at h
  injection h with h
  injection h with _ h _
  exact hte h.symm

theorem grown_blk {w w' : World} {base : Nat} {e : TypeId} {k : Nat} {v : Value} {n : Nat} {xs : List Value} (ho : w.ownsRow base e k v n xs) (hg : w.grownBy w' v.ownBlock) {b : Nat} {t : TypeId} {cs : List Value} (h : Blk w b t cs) (hte : t ≠ e) : Blk w' b t cs := by
  refine h.grown hg (fun e1 => ?_)
  obtain ⟨cur, hc⟩ := own_heap ho e1.symm
  exact h.ne_tag hc hte rfl

theorem slice_one (A : Option Addr) (n c : Nat) : ∀ u ∈ [Value.slice A n c], u.oneCell' = true := fun u hu => by simp at hu; subst hu; rfl

section
variable {P : Program} {w : World} {ops : Array Oper} {o : Oper} {a : Act} {K : Act → World → Prop} {Q : Exit → Act → World → Prop} {E : Prop}

/-- append onto a row of the call's own, as a step of a region. -/
theorem step_app {t e : TypeId} {z : Value} {k bytes : Nat} (El0 : El P t e z k bytes) (hgd : o.guard = none) {s x : Operand}
    (ho : o.op = .call { callee := .builtin .append, args := #[s, x], argTypes := #[t, t] })
    {v : Value} (hs : a.eval s = v) {A : Option Addr} {m c : Nat} (hx : a.eval x = .slice A m c)
    {base n : Nat} {xs ys : List Value} (hown : w.ownsRow base e k v n xs) (hr : Cel w k A m ys) (hbase : base ≤ w.heap.size)
    (h63 : n + m ≤ 9223372036854775807) (hbytes : (n + m) * bytes ≤ 140737488355328)
    (h : ∀ v' w', w'.ownsRow base e k v' (n + m) (xs ++ ys) → w.grownBy w' v.ownBlock → (v'.ownBlock = v.ownBlock ∨ v'.ownBlock = some w.heap.size) → K (a.put o.dst v') w') :
    if Region.wanted o (yielded ops a.tmps) = true then Oper.wp P o a w K Q else E := by
  rw [if_pos (by simp [Region.wanted, hgd])]
  obtain ⟨v', w', hrun, h2, h3, h4⟩ := run_app (P := P) (ty := o.type) (c := c) El0 hown hr h63 hbytes hbase
  unfold Oper.wp execOp
  simp only [ho, resolve, invoke, builtin, Sem.run_bind, Sem.run_pure, Result.andThen_ok, List.map_toArray, List.map_cons, List.map_nil, hs, hx, hrun]
  exact h v' w' h2 h3 h4
end

/-- A name for the world: only what is said of it stays. -/
theorem calls_at {P : Program} {f : FuncId} {args : Array Value} {R : Ending → World → Prop} {W : World} (F : World → Prop) (hF : F W) (h : ∀ w', F w' → Calls P f args w' R) : Calls P f args W R := h W hF
theorem wp_at {P : Program} {c : Code} {Q : Exit → Act → World → Prop} {a : Act} {W : World} (F : World → Prop) (hF : F W) (h : ∀ w', F w' → Code.wp P c Q a w') : Code.wp P c Q a W := h W hF
theorem wpl_at {P : Program} {ops : Array Oper} {Q : Exit → Act → World → Prop} {l : List Oper} {a : Act} {W : World} (F : World → Prop) (hF : F W) (h : ∀ w', F w' → wpList P ops Q l a w') : wpList P ops Q l a W := h W hF

end Go.Proofs.Ytjmdodgmoehfkaa
