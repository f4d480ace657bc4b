/- Contracts of slices.Repeat (of one slice) and disk.New. -/
import Derived.Test.YtklhgghlkidfjaaDiskG
import Derived.Test.YtklhgghlkidfjaaShelf
import Derived.Deep.OwnRows
namespace Go.Proofs.Ytklhgghlkidfjaa
open Go.RowKit

variable {S S' : Nat → Prop}

theorem rep_splice (u : Value) (cur : List Value) (n k : Nat) (hl : cur.length = n) (hk : k ≤ n) (h : ∀ i, i < k → cur[i]? = some u) (m : Nat) (hm : k + m ≤ n) : (splice cur k (List.replicate m u)).length = n ∧ ∀ i, i < k + m → (splice cur k (List.replicate m u))[i]? = some u := by
  refine ⟨by rw [length_splice _ _ _ (by simp; omega)]; exact hl, fun i hi => ?_⟩
  unfold splice
  rw [List.getElem?_append]
  split
  · rename_i h1
    simp at h1
    rw [List.getElem?_take, if_pos (by omega)]
    exact h i (by omega)
  · rename_i h1
    simp at h1
    have hk' : min k cur.length = k := Nat.min_eq_left (by omega)
    rw [List.getElem?_append_left (by simp [hk']; omega), List.getElem?_replicate, if_pos (by rw [List.length_take, hk']; omega)]

theorem mul_one_any (n : Nat) (hn : n ≤ 4096) (w : World) : Calls Try.prog 42 #[.int .u64 1, .int .u64 n] w (fun e w' => e = .returned (.tuple #[.int .u64 0, .int .u64 n]) ∧ w = w') := by
  refine (Try.bits_Mul 1 n (by omega) (by omega) w).mono ?_
  rintro e w' ⟨rfl, rfl⟩
  refine ⟨?_, rfl⟩
  rw [Nat.one_mul, Nat.div_eq_of_lt (by omega), Nat.mod_eq_of_lt (by omega)]
  rfl

set_option maxHeartbeats 2000000 in
theorem repeat_any (b off cap : Nat) (u : Value) (n : Nat) (w : World) (hc : w.cell? ⟨b, off, none⟩ = some u) (hu : u.oneCell' = true) (h1 : 1 ≤ n) (h2 : n ≤ 4096) :
    Calls Try.prog 29 #[.slice (some ⟨b, off, none⟩) 1 cap, .int .i64 n] w (RCl w 35 1 n (List.replicate n u)) := by
  have HC := Lib.hid hc
  have HU := Lib.hid hu
  clear hc hu
  have hmk := fun (W : World) => run_make_row' (P := Try.prog) 22 35 (.slice none 0 0) 24 Try.underlying22 elBss.hi rfl .i64 .i64 n (by omega) (by omega) W
  go_enter Try.func29, Try.ntmps29
  go_wp2_with fail
  (with_reducible refine (mul_one_any n h2 _).mono ?_)
  rintro e1 w1 ⟨rfl, rfl⟩
  go_wp2_with (with_reducible refine stop_copy ?_)
  have hblk : Blk (w.alloc (.cells (madeCells #[.slice none 0 0] n) 35)) w.heap.size 35 (List.replicate n (.slice none 0 0)) := by
    have := heap_alloc_new w (.cells (madeCells #[.slice none 0 0] n) 35)
    unfold Blk
    rw [this, ← toList_madeCells_one]
  refine Lib.hid (wpList_cpy elBss rfl rfl rfl rfl hblk (ys := [u]) ?_ (by simp; omega) ?_)
  · refine ⟨rfl, ?_, fun _ => ⟨b, off, rfl, ?_, fun j v hv => ?_⟩⟩
    · intro x hx; simp at hx; subst hx; exact HU.out
    · have hlt : b < w.heap.size := World.block_lt_of_cell? w _ HC.out
      simp; omega
    · have hlt : b < w.heap.size := World.block_lt_of_cell? w _ HC.out
      rw [World.cell?_alloc_lt _ _ _ hlt]
      cases j with
      | zero => simp at hv; subst hv; exact HC.out
      | succ j => simp at hv
  intro w2 hg2 hgr
  have HX2 : Hid (Ext w w2) := Lib.hid (((Ext.refl w).alloc _).grownN hgr (Nat.le_refl _))
  have HG2 : Hid (∃ cur : List Value, Blk w2 w.heap.size 35 cur ∧ cur.length = n ∧ ∀ i, i < 1 → cur[i]? = some u) := by
    refine ⟨_, hg2, ?_⟩
    have hm : List.take (min 1 n) [u] = List.replicate 1 u := by rw [Nat.min_eq_left h1]; rfl
    rw [hm]
    have := rep_splice u (List.replicate n (.slice none 0 0)) n 0 (by simp) (by omega) (fun i hi => by omega) 1 (by omega)
    exact this
  rw [Nat.min_eq_left h1]
  clear hg2 hgr hblk hmk
  go_wp2_with fail
  go_loopw [8] (fun i wr => ∃ k : Nat, 1 ≤ k ∧ k ≤ n ∧ i = .int .i64 k ∧ Ext w wr ∧ Hid (∃ cur : List Value, Blk wr w.heap.size 35 cur ∧ cur.length = n ∧ ∀ i, i < k → cur[i]? = some u)) (fun i _ => n - (intOf i).toNat)
  case atStart => exact ⟨1, Nat.le_refl _, h1, rfl, HX2.out, HG2⟩
  case round =>
    obtain ⟨k, hk1, hk2, rfl, hx, hcur⟩ := hrel
    by_cases hlt : k < n
    · obtain ⟨cur, hb, hl, hcu⟩ := hcur.out
      have HB := Lib.hid hb
      have HL := Lib.hid hl
      have HCU := Lib.hid hcu
      clear hb hl hcu hcur
      have i1 : (0 : Int) ≤ (k : Int) := Int.natCast_nonneg _
      have i2 : (k : Int) ≤ (n : Int) := by omega
      have hne : ¬ n = k := by omega
      have hs1 : ((Try.prog.info? 35).map (·.size)) = some 1 := by kernel_rfl
      have HM : Hid ((List.replicate (Nat.min k (n - k)) u).length = Nat.min k (n - k)) := by show _ = _; simp
      have HLE : Hid (k + (List.replicate (Nat.min k (n - k)) u).length ≤ cur.length) := by
        show _ ≤ _
        rw [HL.out, List.length_replicate]
        have : Nat.min k (n - k) ≤ n - k := Nat.min_le_right _ _
        omega
      have HU1 : Hid (∀ v ∈ List.replicate (Nat.min k (n - k)) u, v.oneCell' = true) := by
        intro v hv
        rw [List.eq_of_mem_replicate hv]; exact HU.out
      have HSRC : Hid (∀ j v, (List.replicate (Nat.min k (n - k)) u)[j]? = some v → wr.drew.cell? ((⟨w.heap.size, 0, none⟩ : Addr).add j) = some v) := by
        intro j v hv
        rw [List.getElem?_replicate] at hv
        split at hv
        · rename_i hj
          injection hv with hv
          subst hv
          have : Nat.min k (n - k) ≤ k := Nat.min_le_left _ _
          rw [addr_add, Nat.zero_add]
          have := (HB.out.rule).1 j
          rw [World.cell?_drew, this]
          exact HCU.out j (by omega)
        · cases hv
      have HBW : Hid (Below w.heap.size w wr.drew) := hx.drew
      go_wp2_with fail
      go_region_held3 (fun _ => True) (trivial) ((refine step_copy_splice rfl (.tmp 41) (.tmp 44) 22 22 rfl 35 Try.underlying22 hs1 _ _ _ _ _ _ rfl rfl w.heap.size k cur 35 HB.out (List.replicate (Nat.min k (n - k)) u) HM.out (fun _ => ⟨rfl, _, rfl, HSRC.out⟩) HLE.out HU1.out w.heap.size w HBW.out (Nat.le_refl _) ?_; intro w5 HG5 hb5))
      have hmle : Nat.min k (n - k) ≤ n - k := Nat.min_le_right _ _
      have hmpos : 1 ≤ Nat.min k (n - k) := Nat.le_min.2 ⟨hk1, by omega⟩
      have hnew : Hid (∃ cur : List Value, Blk w5 w.heap.size 35 cur ∧ cur.length = n ∧ ∀ i, i < k + Nat.min k (n - k) → cur[i]? = some u) :=
        ⟨_, HG5.out, rep_splice u cur n k HL.out hk2 HCU.out _ (by omega)⟩
      obtain ⟨m, hm⟩ : ∃ m, Nat.min k (n - k) = m := ⟨_, rfl⟩
      rw [hm] at hmle hmpos hnew
      rw [hm, show IntKind.i64.wrap ((k : Int) + (m : Int)) = ((k + m : Nat) : Int) from by rw [IntWalk.i64_in _ (by omega)]; omega]
      clear HM HLE HU1 HSRC HBW HG5 hm hs1 HB HL HCU
      go_wp2
      go_roundw
      case rel => exact ⟨k + m, by omega, by omega, rfl, hb5, hnew⟩
      case measure => simp [intOf]; omega
    · obtain rfl : k = n := by omega
      go_wp2
      go_ret
      obtain ⟨cur, hb, hl, hcu⟩ := hcur.out
      have hcr : cur = List.replicate k u := by
        apply List.ext_getElem?
        intro i
        by_cases hi : i < k
        · rw [hcu i hi, List.getElem?_replicate, if_pos hi]
        · rw [List.getElem?_eq_none (by omega), List.getElem?_replicate, if_neg hi]
      refine ⟨_, rfl, ?_, hx⟩
      have := own_of_blk (n := k) (cap := k) (k := 1) hb (Nat.le_refl _) (by omega) (by omega) (Nat.le_refl w.heap.size)
      rw [List.take_of_length_le (by omega), hcr] at this
      exact this

def Dk.new (n : Int) : Dk × Int := if n < 1 ∨ 4096 < n then (Dk.zero, 1) else (⟨List.replicate n.toNat (List.replicate 128 0), [], -1, false⟩, 0)

attribute [local go_sem] make128

set_option maxHeartbeats 2000000 in
theorem new_any (n : Int) (w : World) : Calls Try.prog 12 #[.int .i64 n] w (RDE S w (Dk.new n).1 (Dk.new n).2) := by
  have r0 : w.heap.size ≤ w.heap.size := Nat.le_refl _
  rcases (by omega : n < 1 ∨ 4096 < n ∨ (1 ≤ n ∧ n ≤ 4096)) with h | h | ⟨h, h'⟩
  · have HD : Hid (Dk.new n = (Dk.zero, 1)) := if_pos (.inl h)
    go_enter Try.func12, Try.ntmps12
    go_wp2
    refine bodyPost_ret (v := .tuple #[.agg #[.slice none 0 0, .slice none 0 0, .int .i64 0, .bool false], .int .i64 1]) (by simp [results, Try.results12, go_sem]) rfl ?_
    exact RDE.mk HD.out (RDk.zero _) ((Ext.refl w).alloc _)
  · have HD : Hid (Dk.new n = (Dk.zero, 1)) := if_pos (.inr h)
    go_enter Try.func12, Try.ntmps12
    go_wp2
    refine bodyPost_ret (v := .tuple #[.agg #[.slice none 0 0, .slice none 0 0, .int .i64 0, .bool false], .int .i64 1]) (by simp [results, Try.results12, go_sem]) rfl ?_
    exact RDE.mk HD.out (RDk.zero _) ((Ext.refl w).alloc _)
  · have HD : Hid (Dk.new n = (⟨List.replicate n.toNat (List.replicate 128 0), [], -1, false⟩, 0)) := if_neg (by omega)
    obtain ⟨k, rfl⟩ : ∃ k : Nat, n = k := ⟨n.toNat, by omega⟩
    go_enter Try.func12, Try.ntmps12
    go_wp2_with fail
    (with_reducible refine (repeat_any _ _ _ (.slice (some ⟨w.heap.size + 1, 0, none⟩) 128 128) k _ (by simp [go_sem]) rfl (by omega) (by omega)).mono ?_)
    rintro e1 w1 ⟨v1, rfl, hown, hx1⟩
    obtain ⟨A1, cap1, rfl, hc1, hm1⟩ := own_any hown
    have B0 := Lib.hid ((((Blk.new w w.heap.size _ _ rfl).alloc _).alloc _).ext hx1)
    have B1 := Lib.hid (((Blk.new (w.alloc (.cells #[.slice none 0 0, .slice none 0 0, .int .i64 0, .bool false] 25)) (w.heap.size + 1) 5 zeros128 (by simp)).alloc _).ext hx1)
    have HX1 := Lib.hid (((((Ext.refl w).alloc _).alloc _).alloc _).trans hx1)
    have HO := Lib.hid hown
    simp only [World.size_alloc] at HO
    clear hown hx1
    obtain ⟨k0, z0⟩ := B0.out.rule
    go_wp2
    obtain ⟨w2, e2, C0, hg2⟩ := set4 B0.out (.slice A1 k cap1) (.slice none 0 0) (.int .i64 (-1)) (.bool false)
    rw [e2]
    obtain ⟨k2, z2⟩ := C0.rule
    refine bodyPost_ret (v := .tuple #[.agg #[.slice A1 k cap1, .slice none 0 0, .int .i64 (-1), .bool false], .int .i64 0]) (by simp [results, Try.results12, go_sem, k2, z2]) rfl ?_
    refine RDE.mk HD.out (RDk.mk ?_ (RSl.nil _)) (HX1.out.grownN hg2 r0)
    have hz : RBs (Fr S w) w2 (.slice (some ⟨w.heap.size + 1, 0, none⟩) 128 128) (List.replicate 128 0) := by
      have := own_of_blk (n := 128) (cap := 128) (k := 1) (B1.out.grownN hg2 (by omega)) (Nat.le_refl _) (by omega) (by simp [zeros128, byteVals]) (Nat.le_refl _)
      rw [List.take_of_length_le (by simp [zeros128, byteVals])] at this
      exact RBs.own this (fun b h => .inr (by omega))
    refine RSl.own (own_grownN HO.out hg2 (by omega)) (fun b h => .inr (by omega)) (by simp) (fun u hu => by rw [List.eq_of_mem_replicate hu]; rfl) (fun i hi => ?_)
    rw [chunk_one (by simpa using hi)]
    exact ⟨_, rfl, by simpa using hz⟩

end Go.Proofs.Ytklhgghlkidfjaa
