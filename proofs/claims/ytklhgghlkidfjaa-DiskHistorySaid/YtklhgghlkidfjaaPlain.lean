/- Plain laws of the disk. -/
import Derived.Test.YtklhgghlkidfjaaRefC1
namespace Go.Proofs.Ytklhgghlkidfjaa

theorem runs_of {d : Dk} (h1 : 1 ≤ d.sectors.length) (h2 : d.sectors.length ≤ 4096) (h3 : d.pending.length ≤ 4096) (h4 : -1 ≤ d.left) (h5 : d.left ≤ 65536) (h6 : d.stopped = false)
    (h7 : ∀ x ∈ d.pending, 0 ≤ x.1 ∧ x.1 < d.sectors.length ∧ x.2.length = 128) (h8 : ∀ x ∈ d.sectors, x.length = 128) : d.runs = true := by
  have hb : d.bad = false := by
    rw [Bool.eq_false_iff]
    unfold Dk.bad
    simp only [Bool.or_eq_true, decide_eq_true_eq, List.any_eq_true, badWrite, badSector, Bool.not_eq_true', decide_eq_false_iff_not, ne_eq]
    rintro ((((((h | h) | h) | h) | h) | ⟨x, hx, h⟩) | ⟨x, hx, h⟩) <;> try omega
    · have := h7 x hx; omega
    · exact h (h8 x hx)
  unfold Dk.runs Dk.check
  rw [hb, h6]; rfl

theorem runs_check {d : Dk} (h : d.runs = true) : d.check = 0 := by
  unfold Dk.runs at h; simp at h; exact h.1

theorem has_iff {d : Dk} {n : Int} : d.has n = true ↔ 0 ≤ n ∧ n < d.sectors.length := by unfold Dk.has; simp

theorem read_of {d : Dk} {n : Int} (h : d.runs = true) (h2 : d.has n = true) : d.read n = (d.look n, 0) := by unfold Dk.read; rw [h, h2]; rfl
theorem read0 {d : Dk} {n : Int} (h : (d.read n).2 = 0) : d.runs = true ∧ d.has n = true := by
  unfold Dk.read at h
  split at h
  · cases h
  · rename_i h'; simpa using h'

theorem look_len {d : Dk} {n : Int} (h : d.runs = true) (h2 : d.has n = true) : (d.look n).length = 128 := by
  obtain ⟨f1, f2, f3, f4, f5, f6, f7, f8⟩ := runs_facts h
  rw [has_iff] at h2
  unfold Dk.look
  split
  · rename_i x hx
    exact (f7 x (List.mem_reverse.1 (List.mem_of_find?_eq_some hx))).2.2
  · apply f8
    rw [List.getD_eq_getElem?_getD, List.getElem?_eq_getElem (by omega : n.toNat < d.sectors.length), Option.getD_some]
    exact List.getElem_mem _

theorem fill_len {b : List UInt8} (h : b.length ≤ 128) : (fill128 b).length = 128 := by unfold fill128; simp; omega
theorem fill_take (b : List UInt8) : (fill128 b).take b.length = b := by unfold fill128; simp

theorem write0 {d : Dk} {n : Int} {b : List UInt8} (h : (d.write n b).2 = 0) : d.runs = true ∧ d.has n = true ∧ b.length ≤ 128 ∧ d.pending.length < 4096 ∧ (d.write n b).1 = ⟨d.sectors, d.pending ++ [(n, fill128 b)], d.left, d.stopped⟩ := by
  unfold Dk.write at h ⊢
  split at h
  · cases h
  · rename_i h1
    split at h
    · cases h
    · split at h
      · cases h
      · rename_i h2 h3
        have h1' : (d.runs && d.has n) = true := by simpa using h1
        rw [Bool.and_eq_true] at h1'
        have hp : d.pending.length ≤ 4096 := (runs_facts h1'.1).2.2.1
        refine ⟨h1'.1, h1'.2, by omega, by omega, ?_⟩
        rw [if_neg h1, if_neg h2, if_neg h3]

theorem write_err {d : Dk} {n : Int} {b : List UInt8} (hr : d.runs = true) (hh : d.has n = true) (hb : b.length ≤ 128) (h : (d.write n b).2 ≠ 0) : (d.write n b).2 = 2 := by
  unfold Dk.write at h ⊢
  rw [hr, hh] at h ⊢
  rw [if_neg (by simp), if_neg (by omega)] at h ⊢
  split
  · rfl
  · rename_i h2; rw [if_neg h2] at h; exact absurd rfl h

theorem write_good {d : Dk} {n : Int} {b : List UInt8} (hr : d.runs = true) (hh : d.has n = true) (hb : b.length ≤ 128) (hp : d.pending.length < 4096) : d.write n b = (⟨d.sectors, d.pending ++ [(n, fill128 b)], d.left, d.stopped⟩, 0) := by
  unfold Dk.write
  rw [hr, hh, if_neg (by simp), if_neg (by omega), if_neg (by omega)]

theorem add_runs {d : Dk} {n : Int} {b : List UInt8} (hr : d.runs = true) (hh : d.has n = true) (hb : b.length ≤ 128) (hp : d.pending.length < 4096) : (Dk.mk d.sectors (d.pending ++ [(n, fill128 b)]) d.left d.stopped).runs = true := by
  obtain ⟨f1, f2, f3, f4, f5, f6, f7, f8⟩ := runs_facts hr
  rw [has_iff] at hh
  refine runs_of f1 f2 ?_ f4 f5 f6 ?_ f8
  · simp; omega
  · intro x hx
    simp only [List.mem_append, List.mem_singleton] at hx
    rcases hx with hx | rfl
    · exact f7 x hx
    · exact ⟨hh.1, hh.2, fill_len hb⟩

theorem write_runs {d : Dk} {n : Int} {b : List UInt8} (h : (d.write n b).2 = 0) : (d.write n b).1.runs = true := by
  obtain ⟨a1, a2, a3, a4, a5⟩ := write0 h
  rw [a5]; exact add_runs a1 a2 a3 a4

theorem write_has {d : Dk} {n m : Int} {b : List UInt8} (h : (d.write n b).2 = 0) : (d.write n b).1.has m = d.has m := by
  obtain ⟨a1, a2, a3, a4, a5⟩ := write0 h
  rw [a5]; rfl

theorem look_eq (d : Dk) (n : Int) : d.look n = lookIn d.pending n (d.sectors.getD n.toNat []) := rfl

theorem write_look {d : Dk} {n m : Int} {b : List UInt8} (h : (d.write n b).2 = 0) : (d.write n b).1.look m = if n = m then fill128 b else d.look m := by
  obtain ⟨a1, a2, a3, a4, a5⟩ := write0 h
  rw [a5, look_eq, look_eq, lookIn_snoc]
  simp

theorem lookIn_cons (l : List (Int × List UInt8)) (x : Int × List UInt8) (at_ : Int) (s : List UInt8) : lookIn (x :: l) at_ s = lookIn l at_ (if (x.1 == at_) = true then x.2 else s) := by
  unfold lookIn
  rw [List.reverse_cons, List.find?_append]
  cases h : l.reverse.find? (fun x => x.1 == at_) with
  | some y => rfl
  | none =>
    simp only [List.find?_cons, List.find?_nil, Option.none_or]
    cases h2 : (x.1 == at_) <;> simp

theorem perform_get (l : List (Int × List UInt8)) : ∀ (ss : List (List UInt8)) (n : Nat), (∀ x ∈ l, 0 ≤ x.1) → n < ss.length → (performL ss l).getD n [] = lookIn l n (ss.getD n []) := by
  induction l with
  | nil => intro ss n _ _; rfl
  | cons x l ih =>
    intro ss n h hn
    rw [lookIn_cons]
    have h0 := h x (by simp)
    rw [show performL ss (x :: l) = performL (ss.set x.1.toNat x.2) l from rfl, ih _ _ (fun y hy => h y (by simp [hy])) (by simpa using hn)]
    congr 1
    rw [List.getD_eq_getElem?_getD, List.getD_eq_getElem?_getD, List.getElem?_set]
    by_cases hx : x.1 = n
    · have : x.1.toNat = n := by omega
      rw [if_pos this, if_pos (by omega), if_pos (by simp [hx])]; rfl
    · have : x.1.toNat ≠ n := by omega
      rw [if_neg this, if_neg (by simp [hx])]

theorem sync0 {d : Dk} (h : d.sync.2 = 0) : d.runs = true ∧ ¬ (0 ≤ d.left ∧ d.left < d.pending.length) ∧ d.sync.1 = d.syncOk := by
  unfold Dk.sync at h ⊢
  split at h
  · cases h
  · split at h
    · cases h
    · rename_i h1 h2
      refine ⟨by simpa using h1, h2, ?_⟩
      rw [if_neg h1, if_neg h2]

theorem sync_err {d : Dk} (hr : d.runs = true) (h : d.sync.2 ≠ 0) : d.sync.2 = 380 ∧ d.sync.1.stopped = true := by
  unfold Dk.sync at h ⊢
  rw [if_neg (by rw [hr]; simp)] at h ⊢
  split
  · exact ⟨rfl, rfl⟩
  · rename_i h2; rw [if_neg h2] at h; exact absurd rfl h

theorem syncOk_runs {d : Dk} (hr : d.runs = true) (hn : ¬ (0 ≤ d.left ∧ d.left < d.pending.length)) : d.syncOk.runs = true := by
  obtain ⟨f1, f2, f3, f4, f5, f6, f7, f8⟩ := runs_facts hr
  have hl : d.syncOk.sectors.length = d.sectors.length := performL_length _ _
  refine runs_of (by omega) (by omega) (Nat.zero_le _) ?_ ?_ rfl (fun x hx => absurd hx (by simp [Dk.syncOk])) ?_
  · unfold Dk.syncOk; dsimp only; split <;> omega
  · unfold Dk.syncOk; dsimp only; split <;> omega
  · exact perform_len _ _ f8 (fun x hx => (f7 x hx).2.2)

theorem sync_runs {d : Dk} (h : d.sync.2 = 0) : d.sync.1.runs = true := by
  obtain ⟨a1, a2, a3⟩ := sync0 h
  rw [a3]; exact syncOk_runs a1 a2

theorem sync_has {d : Dk} {m : Int} (h : d.sync.2 = 0) : d.sync.1.has m = d.has m := by
  obtain ⟨a1, a2, a3⟩ := sync0 h
  rw [a3]; unfold Dk.has Dk.syncOk; rw [performL_length]

theorem sync_look {d : Dk} {m : Int} (h : d.sync.2 = 0) (hm : d.has m = true) : d.sync.1.look m = d.look m := by
  obtain ⟨a1, a2, a3⟩ := sync0 h
  obtain ⟨f1, f2, f3, f4, f5, f6, f7, f8⟩ := runs_facts a1
  rw [has_iff] at hm
  rw [a3]
  show lookIn [] m ((performL d.sectors d.pending).getD m.toNat []) = _
  show (performL d.sectors d.pending).getD m.toNat [] = _
  rw [perform_get _ _ _ (fun x hx => (f7 x hx).1) (by omega), look_eq]
  rw [show ((m.toNat : Nat) : Int) = m by omega]

end Go.Proofs.Ytklhgghlkidfjaa
