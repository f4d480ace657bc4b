/- Contracts of slices.Clone, slices.Clip, disk.perform. -/
import Derived.Test.YtklhgghlkidfjaaDiskB
import Derived.Test.YtklhgghlkidfjaaLaws
import Derived.WalkSpells
namespace Go.Proofs.Ytklhgghlkidfjaa
open Go.RowKit

variable {S S' : Nat → Prop}

theorem elBytes : El Try.prog 35 5 (.int .u8 0) 1 1 := ⟨Try.underlying35, by kernel_rfl, rfl, by omega⟩
theorem elBss : El Try.prog 22 35 (.slice none 0 0) 1 24 := ⟨Try.underlying22, by kernel_rfl, rfl, by omega⟩
theorem elWs : El Try.prog 23 54 (.agg #[.int .i64 0, .slice none 0 0]) 2 32 := ⟨Try.underlying23, by kernel_rfl, rfl, by omega⟩

theorem eqnilW (w : World) (A : Option Addr) (n c : Nat) : (binOp .eql 23 (.slice A n c) (.slice none 0 0)).run Try.prog w = .ok (.bool A.isNone) w := Lib.run_eql_slice_nil w _ _ A n c 0 0 Try.underlying23
theorem eqnilB (w : World) (A : Option Addr) (n c : Nat) : (binOp .eql 35 (.slice A n c) (.slice none 0 0)).run Try.prog w = .ok (.bool A.isNone) w := Lib.run_eql_slice_nil w _ _ A n c 0 0 Try.underlying35
theorem eqnilBs (w : World) (A : Option Addr) (n c : Nat) : (binOp .eql 22 (.slice A n c) (.slice none 0 0)).run Try.prog w = .ok (.bool A.isNone) w := Lib.run_eql_slice_nil w _ _ A n c 0 0 Try.underlying22
attribute [local go_sem] eqnilW eqnilB eqnilBs

/-- returned a row of the call's own with these cells. -/
def RCl (w : World) (e : TypeId) (k n : Nat) (xs : List Value) (en : Ending) (w' : World) : Prop := ∃ v, en = .returned v ∧ w'.ownsRow w.heap.size e k v n xs ∧ Ext w w'

set_option maxHeartbeats 1000000 in
theorem cloneW_any (A : Option Addr) (n cap : Nat) (xs : List Value) (w : World) (hc : Cel w 2 A n xs) (hn : n ≤ 4398046511104) :
    Calls Try.prog 38 #[.slice A n cap] w (RCl w 54 2 n xs) := by
  rcases A with _ | ad
  · have hn0 : n = 0 := by
      rcases Nat.eq_zero_or_pos n with h | h
      · exact h
      · obtain ⟨b, off, h, _⟩ := hc.2.2 h; cases h
    subst hn0
    have hx : xs = [] := List.eq_nil_of_length_eq_zero (by have := hc.1; omega)
    have HX := Lib.hid hx
    clear hx hc
    go_enter Try.func38, Try.ntmps38
    go_wp2
    go_ret
    exact ⟨_, rfl, by rw [HX.out]; exact World.ownsRow_nil _ _ _ _, Ext.refl _⟩
  · have HC := Lib.hid hc
    clear hc
    go_enter Try.func38, Try.ntmps38
    go_wp2_with (with_reducible refine stop_append ?_)
    refine Lib.hid (wpList_app elWs rfl rfl rfl rfl (World.ownsRow_lit w #[] 0 (Nat.le_refl _) (Nat.zero_le _) (by simp)) (HC.out.ext ((Ext.refl _).alloc _)) (by simp) (by omega) (by omega) ?_)
    intro v' w' hown hg hat
    have HO := Lib.hid hown
    have HE : Hid (Ext w w') := ((Ext.refl w).alloc _).grown hg (fun k hk => by have hk : some w.heap.size = some k := hk; injection hk; omega)
    clear hown hg hat
    go_wp2
    go_ret
    exact ⟨_, rfl, by simpa using HO.out, HE.out⟩

set_option maxHeartbeats 1000000 in
theorem cloneB_any (A : Option Addr) (n cap : Nat) (xs : List Value) (w : World) (hc : Cel w 1 A n xs) (hn : n ≤ 140737488355328) :
    Calls Try.prog 41 #[.slice A n cap] w (RCl w 5 1 n xs) := by
  rcases A with _ | ad
  · have hn0 : n = 0 := by
      rcases Nat.eq_zero_or_pos n with h | h
      · exact h
      · obtain ⟨b, off, h, _⟩ := hc.2.2 h; cases h
    subst hn0
    have hx : xs = [] := List.eq_nil_of_length_eq_zero (by have := hc.1; omega)
    have HX := Lib.hid hx
    clear hx hc
    go_enter Try.func41, Try.ntmps41
    go_wp2
    go_ret
    exact ⟨_, rfl, by rw [HX.out]; exact World.ownsRow_nil _ _ _ _, Ext.refl _⟩
  · have HC := Lib.hid hc
    clear hc
    go_enter Try.func41, Try.ntmps41
    go_wp2_with (with_reducible refine stop_append ?_)
    refine Lib.hid (wpList_app elBytes rfl rfl rfl rfl (World.ownsRow_lit w #[] 0 (Nat.le_refl _) (Nat.zero_le _) (by simp)) (HC.out.ext ((Ext.refl _).alloc _)) (by simp) (by omega) (by omega) ?_)
    intro v' w' hown hg hat
    have HO := Lib.hid hown
    have HE : Hid (Ext w w') := ((Ext.refl w).alloc _).grown hg (fun k hk => by have hk : some w.heap.size = some k := hk; injection hk; omega)
    clear hown hg hat
    go_wp2
    go_ret
    exact ⟨_, rfl, by simpa using HO.out, HE.out⟩

set_option maxHeartbeats 1000000 in
theorem cloneBs_any (A : Option Addr) (n cap : Nat) (xs : List Value) (w : World) (hc : Cel w 1 A n xs) (hn : n ≤ 4398046511104) :
    Calls Try.prog 46 #[.slice A n cap] w (RCl w 35 1 n xs) := by
  rcases A with _ | ad
  · have hn0 : n = 0 := by
      rcases Nat.eq_zero_or_pos n with h | h
      · exact h
      · obtain ⟨b, off, h, _⟩ := hc.2.2 h; cases h
    subst hn0
    have hx : xs = [] := List.eq_nil_of_length_eq_zero (by have := hc.1; omega)
    have HX := Lib.hid hx
    clear hx hc
    go_enter Try.func46, Try.ntmps46
    go_wp2
    go_ret
    exact ⟨_, rfl, by rw [HX.out]; exact World.ownsRow_nil _ _ _ _, Ext.refl _⟩
  · have HC := Lib.hid hc
    clear hc
    go_enter Try.func46, Try.ntmps46
    go_wp2_with (with_reducible refine stop_append ?_)
    refine Lib.hid (wpList_app elBss rfl rfl rfl rfl (World.ownsRow_lit w #[] 0 (Nat.le_refl _) (Nat.zero_le _) (by simp)) (HC.out.ext ((Ext.refl _).alloc _)) (by simp) (by omega) (by omega) ?_)
    intro v' w' hown hg hat
    have HO := Lib.hid hown
    have HE : Hid (Ext w w') := ((Ext.refl w).alloc _).grown hg (fun k hk => by have hk : some w.heap.size = some k := hk; injection hk; omega)
    clear hown hg hat
    go_wp2
    go_ret
    exact ⟨_, rfl, by simpa using HO.out, HE.out⟩

set_option maxHeartbeats 1000000 in
theorem clipW_any (A : Option Addr) (n cap : Nat) (w : World) (hn : n ≤ cap) :
    Calls Try.prog 37 #[.slice A n cap] w (fun e w' => e = .returned (.slice A n n) ∧ w = w') := by
  go_enter Try.func37, Try.ntmps37
  go_wp2
  go_ret
  exact ⟨rfl, rfl⟩

end Go.Proofs.Ytklhgghlkidfjaa
