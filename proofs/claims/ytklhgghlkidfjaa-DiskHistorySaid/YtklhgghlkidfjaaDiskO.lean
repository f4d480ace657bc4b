/- Contract of the law's double. -/
import Derived.Test.YtklhgghlkidfjaaDiskN
namespace Go.Proofs.Ytklhgghlkidfjaa
open Go.RowKit

variable {S S' : Nat → Prop}

attribute [local go_sem] make128

/-- returned bytes in new memory. -/
def RNew (w : World) (l : List UInt8) (e : Ending) (w' : World) : Prop := ∃ v, e = .returned v ∧ RBs (fun b => w.heap.size ≤ b) w' v l ∧ Ext w w'

def dbl (c : UInt8) : List UInt8 := ((List.replicate 128 (0 : UInt8)).set 0 c).set 64 c

theorem zeros_len : zeros128.length = 128 := by simp [zeros128, byteVals]
theorem zeros_at (i : Nat) (h : i < 128) : zeros128[i]? = some (.int .u8 0) := by
  unfold zeros128 byteVals
  rw [List.getElem?_map, List.getElem?_replicate, if_pos h]; rfl

set_option maxHeartbeats 1000000 in
theorem double_any (c : UInt8) (w : World) : Calls Try.prog 27 #[.int .u8 c.toNat] w (RNew w (dbl c)) := by
  have h0 := zeros_at 0 (by omega)
  have h64 := zeros_at 64 (by omega)
  have hl := zeros_len
  go_enter Try.func27, Try.ntmps27
  go_wp2
  go_ret
  refine ⟨_, rfl, ?_, (Ext.refl w).alloc _⟩
  have hb := Blk.new w w.heap.size 5 ((zeros128.set 0 (.int .u8 c.toNat)).set 64 (.int .u8 c.toNat)) rfl
  have hv : (zeros128.set 0 (.int .u8 c.toNat)).set 64 (.int .u8 c.toNat) = byteVals (dbl c) := by
    unfold zeros128 dbl byteVals
    rw [List.map_set, List.map_set]
  have ho := own_of_blk (n := 128) (cap := 128) (k := 1) hb (Nat.le_refl _) (by omega) (by simp [hl]) (Nat.le_refl w.heap.size)
  rw [List.take_of_length_le (by simp [hl]), hv] at ho
  exact RBs.own ho (fun b h => h)

/-- Some disks that read; some blocks that are known whole: carried from world to world in one go. -/
def AllD (W : World) (l : List ((Nat → Prop) × Value × Dk)) : Prop := ∀ x ∈ l, RDk x.1 W x.2.1 x.2.2
def AllB (W : World) (l : List (Nat × TypeId × List Value)) : Prop := ∀ x ∈ l, Blk W x.1 x.2.1 x.2.2

theorem AllD.nil (W : World) : AllD W [] := fun _ h => by cases h
theorem AllB.nil (W : World) : AllB W [] := fun _ h => by cases h
theorem AllD.cons {W : World} {l : List ((Nat → Prop) × Value × Dk)} (h : AllD W l) {v : Value} {d : Dk} (hd : RDk S W v d) : AllD W ((S, v, d) :: l) := fun x hx => by
  cases hx with
  | head => exact hd
  | tail _ hx => exact h x hx
theorem AllB.cons {W : World} {l : List (Nat × TypeId × List Value)} (h : AllB W l) {n : Nat} {t : TypeId} {cs : List Value} (hb : Blk W n t cs) : AllB W ((n, t, cs) :: l) := fun x hx => by
  cases hx with
  | head => exact hb
  | tail _ hx => exact h x hx
theorem AllD.ext {W W' : World} {l : List ((Nat → Prop) × Value × Dk)} (h : AllD W l) (hx : Ext W W') : AllD W' l := fun x hm => (h x hm).ext hx
theorem AllB.ext {W W' : World} {l : List (Nat × TypeId × List Value)} (h : AllB W l) (hx : Ext W W') : AllB W' l := fun x hm => (h x hm).ext hx
theorem AllD.alloc {W : World} {l : List ((Nat → Prop) × Value × Dk)} (h : AllD W l) (o : Obj) : AllD (W.alloc o) l := h.ext ((Ext.refl _).alloc _)
theorem AllB.alloc {W : World} {l : List (Nat × TypeId × List Value)} (h : AllB W l) (o : Obj) : AllB (W.alloc o) l := h.ext ((Ext.refl _).alloc _)
theorem AllD.d0 {W : World} {x : (Nat → Prop) × Value × Dk} {l : List ((Nat → Prop) × Value × Dk)} (h : AllD W (x :: l)) : RDk x.1 W x.2.1 x.2.2 := h x (List.mem_cons_self ..)
theorem AllD.tl {W : World} {x : (Nat → Prop) × Value × Dk} {l : List ((Nat → Prop) × Value × Dk)} (h : AllD W (x :: l)) : AllD W l := fun y hy => h y (List.mem_cons_of_mem _ hy)
theorem AllB.b0 {W : World} {x : Nat × TypeId × List Value} {l : List (Nat × TypeId × List Value)} (h : AllB W (x :: l)) : Blk W x.1 x.2.1 x.2.2 := h x (List.mem_cons_self ..)
theorem AllB.tl {W : World} {x : Nat × TypeId × List Value} {l : List (Nat × TypeId × List Value)} (h : AllB W (x :: l)) : AllB W l := fun y hy => h y (List.mem_cons_of_mem _ hy)

end Go.Proofs.Ytklhgghlkidfjaa
