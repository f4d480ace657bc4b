/- Contracts of the reference's Restart, Check, Few, Stop, Read. -/
import Derived.Test.YtklhgghlkidfjaaDiskJ
namespace Go.Proofs.Ytklhgghlkidfjaa
open Go.RowKit

variable {S S' : Nat → Prop}

set_option maxHeartbeats 1000000 in
theorem rrestart_any (v : Value) (d : Dk) (w : World) (hd : RDk S w v d) :
    Calls Try.prog 18 #[v] w (RD S w d.restart) := by
  obtain ⟨A, c, B, e, rfl, h1, h2⟩ := hd.form
  have H1 := Lib.hid h1
  clear hd h1 h2
  go_enter Try.func18, Try.ntmps18
  go_wp2
  refine bodyPost_ret (v := .agg #[.slice A d.sectors.length c, .slice none 0 0, .int .i64 (-1), .bool false]) (by simp [results, Try.f18, go_sem]) rfl ?_
  exact ⟨_, rfl, RDk.mk (H1.out.ext (((Ext.refl _).alloc _).alloc _)).up (RSl.nil _), ((Ext.refl _).alloc _).alloc _⟩

def lensOf (l : List (List UInt8)) : Nat := (l.map fun x => 1 + x.length).sum
def lensW (l : List (Int × List UInt8)) : Nat := (l.map fun x => 1 + x.2.length).sum
def Dk.few (d : Dk) : Bool := decide (lensOf d.sectors + lensW d.pending ≤ 9000)

theorem lensOf_append (a b : List (List UInt8)) : lensOf (a ++ b) = lensOf a + lensOf b := by simp [lensOf]
theorem lensW_append (a b : List (Int × List UInt8)) : lensW (a ++ b) = lensW a + lensW b := by simp [lensW]
theorem lensOf_take (l : List (List UInt8)) (k : Nat) (x : List UInt8) (h : l[k]? = some x) : lensOf (l.take (k + 1)) = lensOf (l.take k) + 1 + x.length := by
  obtain ⟨hk, rfl⟩ := List.getElem?_eq_some_iff.1 h
  rw [List.take_succ_eq_append_getElem hk, lensOf_append]
  show _ = _
  have : lensOf [l[k]] = 1 + l[k].length := by simp [lensOf]
  omega
theorem lensW_take (l : List (Int × List UInt8)) (k : Nat) (x : Int × List UInt8) (h : l[k]? = some x) : lensW (l.take (k + 1)) = lensW (l.take k) + 1 + x.2.length := by
  obtain ⟨hk, rfl⟩ := List.getElem?_eq_some_iff.1 h
  rw [List.take_succ_eq_append_getElem hk, lensW_append]
  have : lensW [l[k]] = 1 + l[k].2.length := by simp [lensW]
  omega
theorem lensOf_le (l : List (List UInt8)) (k : Nat) : lensOf (l.take k) ≤ lensOf l := by
  have := lensOf_append (l.take k) (l.drop k)
  rw [List.take_append_drop] at this
  omega
theorem lensW_le (l : List (Int × List UInt8)) (k : Nat) : lensW (l.take k) ≤ lensW l := by
  have := lensW_append (l.take k) (l.drop k)
  rw [List.take_append_drop] at this
  omega

theorem RWs.get {w : World} {A : Option Addr} {n cap : Nat} {l : List (Int × List UInt8)} (h : RWs S w (.slice A n cap) l) {i : Nat} {x : Int × List UInt8} (hi : l[i]? = some x) :
    ∃ b off A' c', A = some ⟨b, off, none⟩ ∧ b < w.heap.size ∧ w.cell? ⟨b, off + i * 2, none⟩ = some (.int .i64 x.1) ∧ w.cell? ⟨b, off + i * 2 + 1, none⟩ = some (.slice A' x.2.length c') ∧ RBs S w (.slice A' x.2.length c') x.2 ∧ x.2.length ≤ c' ∧ c' ≤ 9223372036854775807 := by
  obtain ⟨hl, rfl⟩ := List.getElem?_eq_some_iff.1 hi
  obtain ⟨hn, _, hx⟩ := h.at
  obtain ⟨b, off, ha, hb, hc⟩ := hx (by omega)
  obtain ⟨v, c0, c1, c2⟩ := hc i hl
  obtain ⟨A', c', rfl, h1, h2⟩ := c2.form
  exact ⟨b, off, A', c', ha, hb, c0, c1, c2, h1, h2⟩

theorem get_of_lt {α : Type} (l : List α) (k : Nat) (h : k < l.length) : ∃ x, l[k]? = some x ∧ x ∈ l := ⟨l[k], List.getElem?_eq_getElem h, List.getElem_mem h⟩

set_option maxHeartbeats 2000000 in
theorem few_any (v : Value) (d : Dk) (w : World) (hd : RDk S w v d) (s1 : ∀ x ∈ d.sectors, x.length ≤ 140737488355328) (s2 : ∀ x ∈ d.pending, x.2.length ≤ 140737488355328) :
    Calls Try.prog 11 #[v] w (RB w d.few) := by
  obtain ⟨A, c, B, e, rfl, q1, q2⟩ := hd.form
  obtain ⟨f1, f1'⟩ := q1.at.2.1
  obtain ⟨f2, f2'⟩ := q2.at.2.1
  have HS := Lib.hid q1
  have HP := Lib.hid q2
  have S1 := Lib.hid s1
  have S2 := Lib.hid s2
  have HW : Hid (Ext w (w.alloc (.cells #[.slice A d.sectors.length c, .slice B d.pending.length e, .int .i64 d.left, .bool d.stopped] 25))) := (Ext.refl _).alloc _
  clear hd q1 q2 s1 s2
  go_enter Try.func11, Try.ntmps11
  go_wp2
  go_loop [3, 4] (fun n i => ∃ k : Nat, k ≤ d.sectors.length ∧ i = .int .i64 k ∧ n = .int .i64 (lensOf (d.sectors.take k)) ∧ lensOf (d.sectors.take k) ≤ 281474976710656) (fun _ i => d.sectors.length - (intOf i).toNat)
  case atStart => exact ⟨0, Nat.zero_le _, rfl, rfl, by simp [lensOf]⟩
  case round =>
    obtain ⟨k, hk, rfl, rfl, hn⟩ := hrel
    obtain ⟨n, hnn⟩ : ∃ n, lensOf (d.sectors.take k) = n := ⟨_, rfl⟩
    rw [hnn] at hn ⊢
    have HN := Lib.hid hnn
    clear hnn
    by_cases hlt : k < d.sectors.length ∧ n ≤ 9000
    · obtain ⟨hl, h9⟩ := hlt
      obtain ⟨x, hx, hxm⟩ := get_of_lt _ _ hl
      obtain ⟨b, off, A', c', rfl, hb, c1, hv, hcv, hmv⟩ := HS.out.get hx
      have hxs := S1.out x hxm
      have e1 := HW.out.keep c1
      have HT := Lib.hid (lensOf_take d.sectors k x hx)
      clear hx hxm c1 hv
      go_wp2
      go_round
      case rel => exact ⟨k + 1, by omega, by go_num, by rw [HT.out, HN.out]; go_num, by rw [HT.out, HN.out]; omega⟩
      case measure => simp [intOf]; omega
    · have hor : d.sectors.length ≤ k ∨ (k < d.sectors.length ∧ 9000 < n) := by omega
      have hle := lensOf_le d.sectors k
      rw [HN.out] at hle
      have hfull : Hid (n = lensOf d.sectors ∨ 9000 < n) := by
        rcases hor with h | h
        · left
          rw [← HN.out, List.take_of_length_le h]
        · exact .inr h.2
      rcases hor with hor | ⟨hor, hor'⟩
      all_goals
        go_wp2
        go_loop [3, 5] (fun m i => ∃ j : Nat, j ≤ d.pending.length ∧ i = .int .i64 j ∧ m = .int .i64 ((n + lensW (d.pending.take j) : Nat) : Int) ∧ n + lensW (d.pending.take j) ≤ 562949953421312) (fun _ i => d.pending.length - (intOf i).toNat)
        case atStart => exact ⟨0, Nat.zero_le _, rfl, by simp [lensW], by simp [lensW]; omega⟩
        case round =>
          obtain ⟨j, hj, rfl, rfl, hm⟩ := hrel
          obtain ⟨m, hmm⟩ : ∃ m, n + lensW (d.pending.take j) = m := ⟨_, rfl⟩
          rw [hmm] at hm ⊢
          have HM := Lib.hid hmm
          clear hmm
          by_cases hlt2 : j < d.pending.length ∧ m ≤ 9000
          · obtain ⟨hl, h9⟩ := hlt2
            obtain ⟨x, hx, hxm⟩ := get_of_lt _ _ hl
            obtain ⟨b, off, A', c', rfl, hb, c0, c1, hv, hcv, hmv⟩ := HP.out.get hx
            have hxs := S2.out x hxm
            have e1 := HW.out.keep c1
            have HT := Lib.hid (lensW_take d.pending j x hx)
            clear hx hxm c1 c0 hv
            go_wp2
            go_round
            case rel =>
              have h1 := HT.out
              have h2 := HM.out
              have h3 : n + lensW (d.pending.take (j + 1)) = m + 1 + x.2.length := by omega
              exact ⟨j + 1, by omega, by go_num, by rw [h3]; go_num, by omega⟩
            case measure => simp [intOf]; omega
          · have hw := lensW_le d.pending j
            have hm2 := HM.out
            have hfin : Hid (decide ((m : Int) ≤ 9000) = d.few) := by
              show _ = _
              unfold Dk.few
              rw [Bool.eq_iff_iff]
              simp only [decide_eq_true_eq]
              rcases Nat.lt_or_ge j d.pending.length with h | h
              · rcases hfull.out with hf | hf <;> omega
              · rw [List.take_of_length_le h] at hm2
                rcases hfull.out with hf | hf <;> omega
            have hor2 : d.pending.length ≤ j ∨ (j < d.pending.length ∧ 9000 < m) := by omega
            clear hw hm2
            rcases hor2 with hor2 | ⟨hor2, hor2'⟩
            all_goals
              go_wp2
              go_ret
              exact ⟨ret_bool hfin.out, (Ext.refl _).alloc _⟩

end Go.Proofs.Ytklhgghlkidfjaa
