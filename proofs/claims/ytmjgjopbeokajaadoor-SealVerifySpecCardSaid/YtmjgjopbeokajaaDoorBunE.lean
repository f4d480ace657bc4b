/- Several texts in one: SealA, RefA3. -/
import Derived.Test.YtmjgjopbeokajaaDoorBunD
import Derived.Test.YtmjgjopbeokajaaDoorProg
import Derived.Test.YtmjgjopbeokajaaDoorBunC
import Derived.Test.YtmjgjopbeokajaaDoorBunB
import Derived.KernelRfl
import Derived.Test.YtmjgjopbeokajaaDoorBunA
namespace Go.Proofs.YtmjgjopbeokajaaDoor
open Go.RowKit

def kOk (sd : List UInt8) (many used : Int) : Bool := decide ((1 ≤ sd.length ∧ sd.length ≤ 64) ∧ (1 ≤ many ∧ many ≤ 4096) ∧ 0 ≤ used ∧ used ≤ many)
def two (n : Nat) : List UInt8 := [UInt8.ofNat (n / 256), UInt8.ofNat n]
def bitB (b : Bool) : UInt8 := if b then 1 else 0
def secretD (sd : List UInt8) (i j : Nat) (b : Bool) : List UInt8 := tagged [115, 101, 99, 114, 101, 116] (sd ++ two i ++ [UInt8.ofNat j, bitB b])
def openD (d : List UInt8) : List UInt8 := tagged [111, 112, 101, 110] d
def hashD (sd : List UInt8) (i j : Nat) (b : Bool) : List UInt8 := openD (secretD sd i j b)
/-- the hashes of k bits, one behind the other -/
def manyD (h : Nat → Bool → List UInt8) (k : Nat) : List UInt8 := (List.range k).flatMap fun j => h j false ++ h j true
def publicD (h : Nat → Bool → List UInt8) : List UInt8 := tagged [111, 110, 101] (manyD h 64)
def pubsL (sd : List UInt8) (k : Nat) : List (List UInt8) := (List.range k).map fun i => publicD (hashD sd i)
def pubD (sd : List UInt8) (many : Nat) : List UInt8 := treeD (pubsL sd many)
def msgD (root : List UInt8) (i : Nat) (msg : List UInt8) : List UInt8 := tagged [109, 101, 115, 115, 97, 103, 101] (root ++ two i ++ msg)
def bitOf (d : List UInt8) (k : Nat) : Bool := decide ((((d.getD (k / 8) 0 >>> UInt8.ofNat (7 - k % 8)) &&& 1).toNat : Int) = 1)
def bitsTo (d : List UInt8) (k : Nat) : List Bool := (List.range k).map (bitOf d)
def bitsL (root : List UInt8) (i : Nat) (msg : List UInt8) : List Bool := bitsTo (msgD root i msg) 64
theorem secretD_len (sd : List UInt8) (i j : Nat) (b : Bool) : (secretD sd i j b).length = 32 := tagged_len _ _
theorem openD_len (d : List UInt8) : (openD d).length = 32 := tagged_len _ _
theorem hashD_len (sd : List UInt8) (i j : Nat) (b : Bool) : (hashD sd i j b).length = 32 := tagged_len _ _
theorem publicD_len (h : Nat → Bool → List UInt8) : (publicD h).length = 32 := tagged_len _ _
theorem pubsL_len (sd : List UInt8) (k : Nat) : (pubsL sd k).length = k := by simp [pubsL]
theorem pubsL_32 (sd : List UInt8) (k : Nat) : All32 (pubsL sd k) := fun x hx => by
  obtain ⟨i, _, rfl⟩ := List.mem_map.1 hx; exact publicD_len _
theorem pubsL_step (sd : List UInt8) (k : Nat) : pubsL sd k ++ [publicD (hashD sd k)] = pubsL sd (k + 1) := by rw [pubsL, pubsL, List.range_succ, List.map_append]; rfl
theorem bitsTo_len (d : List UInt8) (k : Nat) : (bitsTo d k).length = k := by simp [bitsTo]
theorem bitsL_len (root : List UInt8) (i : Nat) (msg : List UInt8) : (bitsL root i msg).length = 64 := bitsTo_len _ _
theorem bitsTo_step (d : List UInt8) (k : Nat) : bitsTo d k ++ [bitOf d k] = bitsTo d (k + 1) := by rw [bitsTo, bitsTo, List.range_succ, List.map_append]; rfl
theorem manyD_step (h : Nat → Bool → List UInt8) (k : Nat) : (manyD h k ++ h k false) ++ h k true = manyD h (k + 1) := by
  rw [manyD, manyD, List.range_succ, List.flatMap_append, List.flatMap_cons, List.flatMap_nil, List.append_nil, List.append_assoc]
/-! signatures -/
structure Sg where
  (index : Int)
  (op cl path : List (List UInt8))
def opTo (sd : List UInt8) (i : Nat) (bs : List Bool) (k : Nat) : List (List UInt8) := (List.range k).map fun j => secretD sd i j (bs.getD j false)
def clTo (sd : List UInt8) (i : Nat) (bs : List Bool) (k : Nat) : List (List UInt8) := (List.range k).map fun j => hashD sd i j (!bs.getD j false)
theorem opTo_step (sd : List UInt8) (i : Nat) (bs : List Bool) (k : Nat) : opTo sd i bs k ++ [secretD sd i k (bs.getD k false)] = opTo sd i bs (k + 1) := by rw [opTo, opTo, List.range_succ, List.map_append]; rfl
theorem clTo_step (sd : List UInt8) (i : Nat) (bs : List Bool) (k : Nat) : clTo sd i bs k ++ [hashD sd i k (!bs.getD k false)] = clTo sd i bs (k + 1) := by rw [clTo, clTo, List.range_succ, List.map_append]; rfl
theorem opTo_32 (sd : List UInt8) (i : Nat) (bs : List Bool) (k : Nat) : All32 (opTo sd i bs k) := fun x hx => by obtain ⟨j, _, rfl⟩ := List.mem_map.1 hx; exact secretD_len _ _ _ _
theorem clTo_32 (sd : List UInt8) (i : Nat) (bs : List Bool) (k : Nat) : All32 (clTo sd i bs k) := fun x hx => by obtain ⟨j, _, rfl⟩ := List.mem_map.1 hx; exact hashD_len _ _ _ _
def sgNil : Sg := ⟨0, [], [], []⟩
def signE (sd : List UInt8) (many used idx : Int) (msg : List UInt8) : Int := if kOk sd many used = false then 40 else if 65536 < msg.length then 2 else if idx < 0 ∨ many ≤ idx then 40 else 0
def sgOf (sd : List UInt8) (many idx : Nat) (msg : List UInt8) : Sg :=
  ⟨idx, opTo sd idx (bitsL (pubD sd many) idx msg) 64, clTo sd idx (bitsL (pubD sd many) idx msg) 64, pathD (pubsL sd many) idx⟩
def signF (sd : List UInt8) (many used idx : Int) (msg : List UInt8) : Sg := if signE sd many used idx msg = 0 then sgOf sd many.toNat idx.toNat msg else sgNil
/-- the hash that a signature shows for a bit -/
def shown (bs : List Bool) (s : Sg) (j : Nat) (b : Bool) : List UInt8 := if bs.getD j false = b then openD (s.op.getD j []) else s.cl.getD j []
def vShape (n : Int) (msg : List UInt8) (s : Sg) : Prop := ¬ (n < 1 ∨ 4096 < n ∨ s.index < 0 ∨ n ≤ s.index ∨ s.op.length ≠ 64 ∨ s.cl.length ≠ 64 ∨ 65536 < msg.length)
instance (n : Int) (msg : List UInt8) (s : Sg) : Decidable (vShape n msg s) := by unfold vShape; exact inferInstance
def climbS (root : List UInt8) (n : Int) (msg : List UInt8) (s : Sg) : List UInt8 × Int := climbF (publicD (shown (bitsL root s.index.toNat msg) s)) s.index n s.path
def verifyF (root : List UInt8) (n : Int) (msg : List UInt8) (s : Sg) : Bool := decide (vShape n msg s) && (decide ((climbS root n msg s).2 = 0) && decide ((climbS root n msg s).1 = root))
theorem verify_not {root : List UInt8} {n : Int} {msg : List UInt8} {s : Sg} (h : ¬ vShape n msg s) : verifyF root n msg s = false := by rw [verifyF, decide_eq_false h]; rfl
theorem verify_yes {root : List UInt8} {n : Int} {msg : List UInt8} {s : Sg} (h : vShape n msg s) : verifyF root n msg s = (decide ((climbS root n msg s).2 = 0) && decide ((climbS root n msg s).1 = root)) := by rw [verifyF, decide_eq_true h]; rfl
theorem kOk_iff {sd : List UInt8} {many used : Int} : kOk sd many used = true ↔ (1 ≤ sd.length ∧ sd.length ≤ 64) ∧ (1 ≤ many ∧ many ≤ 4096) ∧ 0 ≤ used ∧ used ≤ many := decide_eq_true_iff
end Go.Proofs.YtmjgjopbeokajaaDoor

namespace Go.Proofs.YtmjgjopbeokajaaDoor
open Go.RowKit

variable {S S' : Nat → Prop}

theorem parts10 {ρ : Operand → Value} {x0 x1 x2 x3 x4 x5 x6 x7 x8 x9 : Operand} {v0 v1 v2 v3 v4 v5 v6 v7 v8 v9 : Value} {i0 i1 i2 i3 i4 i5 i6 i7 i8 i9 : Nat} (h0 : ρ x0 = v0) (h1 : ρ x1 = v1) (h2 : ρ x2 = v2) (h3 : ρ x3 = v3) (h4 : ρ x4 = v4) (h5 : ρ x5 = v5) (h6 : ρ x6 = v6) (h7 : ρ x7 = v7) (h8 : ρ x8 = v8) (h9 : ρ x9 = v9) :
    #[(i0, x0), (i1, x1), (i2, x2), (i3, x3), (i4, x4), (i5, x5), (i6, x6), (i7, x7), (i8, x8), (i9, x9)].map (fun x => (x.1, ρ x.2)) = #[(i0, v0), (i1, v1), (i2, v2), (i3, v3), (i4, v4), (i5, v5), (i6, v6), (i7, v7), (i8, v8), (i9, v9)] := by simp [h0, h1, h2, h3, h4, h5, h6, h7, h8, h9]
theorem parts8 {ρ : Operand → Value} {x0 x1 x2 x3 x4 x5 x6 x7 : Operand} {v0 v1 v2 v3 v4 v5 v6 v7 : Value} {i0 i1 i2 i3 i4 i5 i6 i7 : Nat} (h0 : ρ x0 = v0) (h1 : ρ x1 = v1) (h2 : ρ x2 = v2) (h3 : ρ x3 = v3) (h4 : ρ x4 = v4) (h5 : ρ x5 = v5) (h6 : ρ x6 = v6) (h7 : ρ x7 = v7) :
    #[(i0, x0), (i1, x1), (i2, x2), (i3, x3), (i4, x4), (i5, x5), (i6, x6), (i7, x7)].map (fun x => (x.1, ρ x.2)) = #[(i0, v0), (i1, v1), (i2, v2), (i3, v3), (i4, v4), (i5, v5), (i6, v6), (i7, v7)] := by simp [h0, h1, h2, h3, h4, h5, h6, h7]
theorem parts16 {ρ : Operand → Value} {c0 c1 c2 c3 c4 c5 c6 c7 c8 c9 c10 c11 c12 c13 c14 c15 : Value} (hc : ∀ v, ρ (.const v) = v) {i0 i1 i2 i3 i4 i5 i6 i7 i8 i9 i10 i11 i12 i13 i14 i15 : Nat} :
    #[(i0, Operand.const c0), (i1, .const c1), (i2, .const c2), (i3, .const c3), (i4, .const c4), (i5, .const c5), (i6, .const c6), (i7, .const c7), (i8, .const c8), (i9, .const c9), (i10, .const c10), (i11, .const c11), (i12, .const c12), (i13, .const c13), (i14, .const c14), (i15, .const c15)].map (fun x => (x.1, ρ x.2)) = #[(i0, c0), (i1, c1), (i2, c2), (i3, c3), (i4, c4), (i5, c5), (i6, c6), (i7, c7), (i8, c8), (i9, c9), (i10, c10), (i11, c11), (i12, c12), (i13, c13), (i14, c14), (i15, c15)] := by simp [hc]
def permI : List Int := perms.flatten.map Int.ofNat
theorem permI_len : permI.length = 160 := by decide +kernel
theorem permI_all : ∀ r < 10, ∀ j < 16, permI.getD (r * 16 + j) 0 = Int.ofNat ((permRow r).getD j 0) ∧ (permRow r).getD j 0 < 16 := by decide +kernel
theorem permRow_lt {r j : Nat} (hr : r < 10) (hj : j < 16) : (permRow r).getD j 0 < 16 := (permI_all r hr j hj).2
theorem blk_perm {W : World} {g o : Nat} {t : TypeId} (h : Blk W g t (intVals permI)) {r j : Nat} (hr : r < 10) (hj : j < 16) (ho : o = r * 16 + j) : W.cell? ⟨g, o, none⟩ = some (.int .i64 (((permRow r).getD j 0 : Nat) : Int)) := by
  rw [blk_intVals h ho (by rw [permI_len]; omega), (permI_all r hr j hj).1]; rfl
set_option maxRecDepth 100000 in
set_option maxHeartbeats 1000000 in
theorem rror_any (x : UInt32) (n : Nat) (w : World) (h0 : 0 < n) (h1 : n < 32) :
    Calls Tryd.prog 75 #[.int .u32 (x.toNat : Nat), .int .i64 (n : Nat)] w (fun e w' => e = .returned (.int .u32 ((ror x n).toNat : Nat)) ∧ Ext w w') := by
  refine calls_enter (l := [(.int .u32 (x.toNat : Nat)), (.int .i64 (n : Nat))]) Tryd.func75 rfl rfl rfl (fun aA hF => ?_)
  refine wp_seq_k (fun K1 hK1 => ?_)
  refine wp_region_lit ?_
  refine qv 0 (.int .u32 0) hF rfl (rn_assign rfl) fun _ F3 => ?_; clear hF
  refine wpList_nil ?_
  refine hK1 _ _ ?_
  clear hK1
  refine wp_seq_k (fun K4 hK4 => ?_)
  have hx6 : ∃ W, w.drew = W ∧ Ext w W := ⟨_, rfl, (Ext.refl _).drew⟩
  obtain ⟨w5, e7, hx6⟩ := hx6
  have z8 := hx6.size
  refine any_start (fun W => Ext w5 W) (fun i => false) 9 #[false, false, false, false, false, false, false, false, false] rfl rfl rfl ?_
  rw [e7]; clear e7
  refine qp 0 (.int .u32 (x.toNat : Nat)) F3 rfl rfl (fun W => (rn_move (F3.get rfl))) fun _ F10 => ?_; clear F3
  refine qp 1 (.int .i64 (n : Nat)) F10 rfl rfl (fun W => (rn_move (F10.get rfl))) fun _ F12 => ?_; clear F10
  refine qp 2 (.int .u32 ((x >>> UInt32.ofNat n).toNat : Nat)) F12 rfl rfl (fun W => (rn_shr32 (a := x) (n := n) (F12.get rfl) (F12.get rfl) (by omega))) fun _ F14 => ?_; clear F12
  refine qp 3 (.int .u32 (x.toNat : Nat)) F14 rfl rfl (fun W => (rn_move (F14.get rfl))) fun _ F16 => ?_; clear F14
  refine qp 4 (.int .i64 (n : Nat)) F16 rfl rfl (fun W => (rn_move (F16.get rfl))) fun _ F18 => ?_; clear F16
  refine qp 5 (.int .i64 (32 - n : Nat)) F18 rfl rfl (fun W => (rn_subN (a := 32) (b := n) rfl (F18.get rfl) (by omega) (by omega))) fun _ F20 => ?_; clear F18
  refine qp 6 (.int .u32 ((x <<< UInt32.ofNat (32 - n)).toNat : Nat)) F20 rfl rfl (fun W => (rn_shl32 (a := x) (n := (32 - n)) (F20.get rfl) (F20.get rfl) (by omega))) fun _ F22 => ?_; clear F20
  refine qp 7 (.int .u32 (((x >>> UInt32.ofNat n) ||| (x <<< UInt32.ofNat (32 - n))).toNat : Nat)) F22 rfl rfl (fun W => (rn_or32 (a := (x >>> UInt32.ofNat n)) (b := (x <<< UInt32.ofNat (32 - n))) (F22.get rfl) (F22.get rfl))) fun _ F24 => ?_; clear F22
  refine qp 8 (.int .u32 (((x >>> UInt32.ofNat n) ||| (x <<< UInt32.ofNat (32 - n))).toNat : Nat)) F24 rfl rfl (fun W => (rn_assign (F24.get rfl))) fun _ F26 => ?_; clear F24
  refine any_nil (by decide +kernel) ?_
  refine hK4 _ _ ?_
  clear hK4
  have F27 := (((F26.nil.c F26 4 rfl).c F26 1 rfl).c F26 0 rfl)
  clear F26
  refine wp_ret ?_
  refine ret1 F27 rfl rfl ?_
  exact ⟨rfl, ((Ext.refl w).trans hx6)⟩

set_option maxRecDepth 100000 in
set_option maxHeartbeats 1000000 in
theorem rmix_any (xa xb xc xd xx xy : UInt32) (w : World) :
    Calls Tryd.prog 73 #[.int .u32 (xa.toNat : Nat), .int .u32 (xb.toNat : Nat), .int .u32 (xc.toNat : Nat), .int .u32 (xd.toNat : Nat), .int .u32 (xx.toNat : Nat), .int .u32 (xy.toNat : Nat)] w (fun e w' => e = .returned (.tuple #[.int .u32 ((mix4 xa xb xc xd xx xy).a.toNat : Nat), .int .u32 ((mix4 xa xb xc xd xx xy).b.toNat : Nat), .int .u32 ((mix4 xa xb xc xd xx xy).c.toNat : Nat), .int .u32 ((mix4 xa xb xc xd xx xy).d.toNat : Nat)]) ∧ Ext w w') := by
  refine calls_enter (l := [(.int .u32 (xa.toNat : Nat)), (.int .u32 (xb.toNat : Nat)), (.int .u32 (xc.toNat : Nat)), (.int .u32 (xd.toNat : Nat)), (.int .u32 (xx.toNat : Nat)), (.int .u32 (xy.toNat : Nat))]) Tryd.func73 rfl rfl rfl (fun aA hF => ?_)
  refine wp_seq_k (fun K1 hK1 => ?_)
  refine wp_region_lit ?_
  refine qv 0 (.int .u32 0) hF rfl (rn_assign rfl) fun _ F3 => ?_; clear hF
  refine qv 1 (.int .u32 0) F3 rfl (rn_assign rfl) fun _ F5 => ?_; clear F3
  refine qv 2 (.int .u32 0) F5 rfl (rn_assign rfl) fun _ F7 => ?_; clear F5
  refine qv 3 (.int .u32 0) F7 rfl (rn_assign rfl) fun _ F9 => ?_; clear F7
  refine wpList_nil ?_
  refine hK1 _ _ ?_
  clear hK1
  refine wp_seq_k (fun K10 hK10 => ?_)
  refine wp_region_lit ?_
  refine qv 0 (.int .u32 (xa.toNat : Nat)) F9 rfl (rn_move (F9.get rfl)) fun _ F12 => ?_; clear F9
  refine qv 1 (.int .u32 (xb.toNat : Nat)) F12 rfl (rn_move (F12.get rfl)) fun _ F14 => ?_; clear F12
  refine qv 2 (.int .u32 ((xa + xb).toNat : Nat)) F14 rfl (rn_add32 (a := xa) (b := xb) (F14.get rfl) (F14.get rfl)) fun _ F16 => ?_; clear F14
  refine qv 3 (.int .u32 (xx.toNat : Nat)) F16 rfl (rn_move (F16.get rfl)) fun _ F18 => ?_; clear F16
  refine qv 4 (.int .u32 (((xa + xb) + xx).toNat : Nat)) F18 rfl (rn_add32 (a := (xa + xb)) (b := xx) (F18.get rfl) (F18.get rfl)) fun _ F20 => ?_; clear F18
  refine qv 5 (.int .u32 (((xa + xb) + xx).toNat : Nat)) F20 rfl (rn_assign (F20.get rfl)) fun _ F22 => ?_; clear F20
  refine wpList_nil ?_
  refine hK10 _ _ ?_
  clear hK10
  have F23 := ((((((((((F22.nil.c F22 15 rfl).c F22 14 rfl).c F22 13 rfl).c F22 12 rfl).c F22 5 rfl).c F22 4 rfl).c F22 3 rfl).c F22 2 rfl).c F22 1 rfl).c F22 0 rfl)
  clear F22
  refine wp_seq_k (fun K24 hK24 => ?_)
  refine wp_region_lit ?_
  refine qv 0 (.int .u32 (xd.toNat : Nat)) F23 rfl (rn_move (F23.get rfl)) fun _ F26 => ?_; clear F23
  refine qv 1 (.int .u32 (((xa + xb) + xx).toNat : Nat)) F26 rfl (rn_move (F26.get rfl)) fun _ F28 => ?_; clear F26
  refine qv 2 (.int .u32 ((xd ^^^ ((xa + xb) + xx)).toNat : Nat)) F28 rfl (rn_xor32 (a := xd) (b := ((xa + xb) + xx)) (F28.get rfl) (F28.get rfl)) fun _ F30 => ?_; clear F28
  refine wpl_op (i := 3) rfl (o_call F30 rfl rfl rfl rfl (rn_call (args2 (F30.get rfl) rfl) rfl (by kernel_rfl)) (rror_any (xd ^^^ ((xa + xb) + xx)) 16 _ (by omega) (by omega)) ?_)
  rintro _ w31 ⟨rfl, hx32⟩
  refine ⟨_, rfl, ?_⟩; intro a33 F34; clear F30; have z35 := hx32.size
  refine qv 4 (.int .u32 ((ror (xd ^^^ ((xa + xb) + xx)) 16).toNat : Nat)) F34 rfl (rn_assign (F34.get rfl)) fun _ F37 => ?_; clear F34
  refine wpList_nil ?_
  refine hK24 _ _ ?_
  clear hK24
  have F38 := ((((((((((F37.nil.c F37 15 rfl).c F37 14 rfl).c F37 13 rfl).c F37 12 rfl).c F37 5 rfl).c F37 4 rfl).c F37 3 rfl).c F37 2 rfl).c F37 1 rfl).c F37 0 rfl)
  clear F37
  refine wp_seq_k (fun K39 hK39 => ?_)
  refine wp_region_lit ?_
  refine qv 0 (.int .u32 (xc.toNat : Nat)) F38 rfl (rn_move (F38.get rfl)) fun _ F41 => ?_; clear F38
  refine qv 1 (.int .u32 ((ror (xd ^^^ ((xa + xb) + xx)) 16).toNat : Nat)) F41 rfl (rn_move (F41.get rfl)) fun _ F43 => ?_; clear F41
  refine qv 2 (.int .u32 ((xc + (ror (xd ^^^ ((xa + xb) + xx)) 16)).toNat : Nat)) F43 rfl (rn_add32 (a := xc) (b := (ror (xd ^^^ ((xa + xb) + xx)) 16)) (F43.get rfl) (F43.get rfl)) fun _ F45 => ?_; clear F43
  refine qv 3 (.int .u32 ((xc + (ror (xd ^^^ ((xa + xb) + xx)) 16)).toNat : Nat)) F45 rfl (rn_assign (F45.get rfl)) fun _ F47 => ?_; clear F45
  refine wpList_nil ?_
  refine hK39 _ _ ?_
  clear hK39
  refine wp_seq_k (fun K48 hK48 => ?_)
  refine wp_region_lit ?_
  refine qv 0 (.int .u32 (xb.toNat : Nat)) F47 rfl (rn_move (F47.get rfl)) fun _ F50 => ?_; clear F47
  refine qv 1 (.int .u32 ((xc + (ror (xd ^^^ ((xa + xb) + xx)) 16)).toNat : Nat)) F50 rfl (rn_move (F50.get rfl)) fun _ F52 => ?_; clear F50
  refine qv 2 (.int .u32 ((xb ^^^ (xc + (ror (xd ^^^ ((xa + xb) + xx)) 16))).toNat : Nat)) F52 rfl (rn_xor32 (a := xb) (b := (xc + (ror (xd ^^^ ((xa + xb) + xx)) 16))) (F52.get rfl) (F52.get rfl)) fun _ F54 => ?_; clear F52
  refine wpl_op (i := 3) rfl (o_call F54 rfl rfl rfl rfl (rn_call (args2 (F54.get rfl) rfl) rfl (by kernel_rfl)) (rror_any (xb ^^^ (xc + (ror (xd ^^^ ((xa + xb) + xx)) 16))) 12 _ (by omega) (by omega)) ?_)
  rintro _ w55 ⟨rfl, hx56⟩
  refine ⟨_, rfl, ?_⟩; intro a57 F58; clear F54; have z59 := hx56.size
  refine qv 4 (.int .u32 ((ror (xb ^^^ (xc + (ror (xd ^^^ ((xa + xb) + xx)) 16))) 12).toNat : Nat)) F58 rfl (rn_assign (F58.get rfl)) fun _ F61 => ?_; clear F58
  refine wpList_nil ?_
  refine hK48 _ _ ?_
  clear hK48
  have F62 := ((((((((((F61.nil.c F61 15 rfl).c F61 14 rfl).c F61 13 rfl).c F61 12 rfl).c F61 5 rfl).c F61 4 rfl).c F61 3 rfl).c F61 2 rfl).c F61 1 rfl).c F61 0 rfl)
  clear F61
  refine wp_seq_k (fun K63 hK63 => ?_)
  refine wp_region_lit ?_
  refine qv 0 (.int .u32 (((xa + xb) + xx).toNat : Nat)) F62 rfl (rn_move (F62.get rfl)) fun _ F65 => ?_; clear F62
  refine qv 1 (.int .u32 ((ror (xb ^^^ (xc + (ror (xd ^^^ ((xa + xb) + xx)) 16))) 12).toNat : Nat)) F65 rfl (rn_move (F65.get rfl)) fun _ F67 => ?_; clear F65
  refine qv 2 (.int .u32 ((((xa + xb) + xx) + (ror (xb ^^^ (xc + (ror (xd ^^^ ((xa + xb) + xx)) 16))) 12)).toNat : Nat)) F67 rfl (rn_add32 (a := ((xa + xb) + xx)) (b := (ror (xb ^^^ (xc + (ror (xd ^^^ ((xa + xb) + xx)) 16))) 12)) (F67.get rfl) (F67.get rfl)) fun _ F69 => ?_; clear F67
  refine qv 3 (.int .u32 (xy.toNat : Nat)) F69 rfl (rn_move (F69.get rfl)) fun _ F71 => ?_; clear F69
  refine qv 4 (.int .u32 (((((xa + xb) + xx) + (ror (xb ^^^ (xc + (ror (xd ^^^ ((xa + xb) + xx)) 16))) 12)) + xy).toNat : Nat)) F71 rfl (rn_add32 (a := (((xa + xb) + xx) + (ror (xb ^^^ (xc + (ror (xd ^^^ ((xa + xb) + xx)) 16))) 12))) (b := xy) (F71.get rfl) (F71.get rfl)) fun _ F73 => ?_; clear F71
  refine qv 5 (.int .u32 (((((xa + xb) + xx) + (ror (xb ^^^ (xc + (ror (xd ^^^ ((xa + xb) + xx)) 16))) 12)) + xy).toNat : Nat)) F73 rfl (rn_assign (F73.get rfl)) fun _ F75 => ?_; clear F73
  refine wpList_nil ?_
  refine hK63 _ _ ?_
  clear hK63
  have F76 := ((((((((((F75.nil.c F75 15 rfl).c F75 14 rfl).c F75 13 rfl).c F75 12 rfl).c F75 5 rfl).c F75 4 rfl).c F75 3 rfl).c F75 2 rfl).c F75 1 rfl).c F75 0 rfl)
  clear F75
  refine wp_seq_k (fun K77 hK77 => ?_)
  refine wp_region_lit ?_
  refine qv 0 (.int .u32 ((ror (xd ^^^ ((xa + xb) + xx)) 16).toNat : Nat)) F76 rfl (rn_move (F76.get rfl)) fun _ F79 => ?_; clear F76
  refine qv 1 (.int .u32 (((((xa + xb) + xx) + (ror (xb ^^^ (xc + (ror (xd ^^^ ((xa + xb) + xx)) 16))) 12)) + xy).toNat : Nat)) F79 rfl (rn_move (F79.get rfl)) fun _ F81 => ?_; clear F79
  refine qv 2 (.int .u32 (((ror (xd ^^^ ((xa + xb) + xx)) 16) ^^^ ((((xa + xb) + xx) + (ror (xb ^^^ (xc + (ror (xd ^^^ ((xa + xb) + xx)) 16))) 12)) + xy)).toNat : Nat)) F81 rfl (rn_xor32 (a := (ror (xd ^^^ ((xa + xb) + xx)) 16)) (b := ((((xa + xb) + xx) + (ror (xb ^^^ (xc + (ror (xd ^^^ ((xa + xb) + xx)) 16))) 12)) + xy)) (F81.get rfl) (F81.get rfl)) fun _ F83 => ?_; clear F81
  refine wpl_op (i := 3) rfl (o_call F83 rfl rfl rfl rfl (rn_call (args2 (F83.get rfl) rfl) rfl (by kernel_rfl)) (rror_any ((ror (xd ^^^ ((xa + xb) + xx)) 16) ^^^ ((((xa + xb) + xx) + (ror (xb ^^^ (xc + (ror (xd ^^^ ((xa + xb) + xx)) 16))) 12)) + xy)) 8 _ (by omega) (by omega)) ?_)
  rintro _ w84 ⟨rfl, hx85⟩
  refine ⟨_, rfl, ?_⟩; intro a86 F87; clear F83; have z88 := hx85.size
  refine qv 4 (.int .u32 ((ror ((ror (xd ^^^ ((xa + xb) + xx)) 16) ^^^ ((((xa + xb) + xx) + (ror (xb ^^^ (xc + (ror (xd ^^^ ((xa + xb) + xx)) 16))) 12)) + xy)) 8).toNat : Nat)) F87 rfl (rn_assign (F87.get rfl)) fun _ F90 => ?_; clear F87
  refine wpList_nil ?_
  refine hK77 _ _ ?_
  clear hK77
  have F91 := ((((((((((F90.nil.c F90 15 rfl).c F90 14 rfl).c F90 13 rfl).c F90 12 rfl).c F90 5 rfl).c F90 4 rfl).c F90 3 rfl).c F90 2 rfl).c F90 1 rfl).c F90 0 rfl)
  clear F90
  refine wp_seq_k (fun K92 hK92 => ?_)
  refine wp_region_lit ?_
  refine qv 0 (.int .u32 ((xc + (ror (xd ^^^ ((xa + xb) + xx)) 16)).toNat : Nat)) F91 rfl (rn_move (F91.get rfl)) fun _ F94 => ?_; clear F91
  refine qv 1 (.int .u32 ((ror ((ror (xd ^^^ ((xa + xb) + xx)) 16) ^^^ ((((xa + xb) + xx) + (ror (xb ^^^ (xc + (ror (xd ^^^ ((xa + xb) + xx)) 16))) 12)) + xy)) 8).toNat : Nat)) F94 rfl (rn_move (F94.get rfl)) fun _ F96 => ?_; clear F94
  refine qv 2 (.int .u32 (((xc + (ror (xd ^^^ ((xa + xb) + xx)) 16)) + (ror ((ror (xd ^^^ ((xa + xb) + xx)) 16) ^^^ ((((xa + xb) + xx) + (ror (xb ^^^ (xc + (ror (xd ^^^ ((xa + xb) + xx)) 16))) 12)) + xy)) 8)).toNat : Nat)) F96 rfl (rn_add32 (a := (xc + (ror (xd ^^^ ((xa + xb) + xx)) 16))) (b := (ror ((ror (xd ^^^ ((xa + xb) + xx)) 16) ^^^ ((((xa + xb) + xx) + (ror (xb ^^^ (xc + (ror (xd ^^^ ((xa + xb) + xx)) 16))) 12)) + xy)) 8)) (F96.get rfl) (F96.get rfl)) fun _ F98 => ?_; clear F96
  refine qv 3 (.int .u32 (((xc + (ror (xd ^^^ ((xa + xb) + xx)) 16)) + (ror ((ror (xd ^^^ ((xa + xb) + xx)) 16) ^^^ ((((xa + xb) + xx) + (ror (xb ^^^ (xc + (ror (xd ^^^ ((xa + xb) + xx)) 16))) 12)) + xy)) 8)).toNat : Nat)) F98 rfl (rn_assign (F98.get rfl)) fun _ F100 => ?_; clear F98
  refine wpList_nil ?_
  refine hK92 _ _ ?_
  clear hK92
  refine wp_seq_k (fun K101 hK101 => ?_)
  refine wp_region_lit ?_
  refine qv 0 (.int .u32 ((ror (xb ^^^ (xc + (ror (xd ^^^ ((xa + xb) + xx)) 16))) 12).toNat : Nat)) F100 rfl (rn_move (F100.get rfl)) fun _ F103 => ?_; clear F100
  refine qv 1 (.int .u32 (((xc + (ror (xd ^^^ ((xa + xb) + xx)) 16)) + (ror ((ror (xd ^^^ ((xa + xb) + xx)) 16) ^^^ ((((xa + xb) + xx) + (ror (xb ^^^ (xc + (ror (xd ^^^ ((xa + xb) + xx)) 16))) 12)) + xy)) 8)).toNat : Nat)) F103 rfl (rn_move (F103.get rfl)) fun _ F105 => ?_; clear F103
  refine qv 2 (.int .u32 (((ror (xb ^^^ (xc + (ror (xd ^^^ ((xa + xb) + xx)) 16))) 12) ^^^ ((xc + (ror (xd ^^^ ((xa + xb) + xx)) 16)) + (ror ((ror (xd ^^^ ((xa + xb) + xx)) 16) ^^^ ((((xa + xb) + xx) + (ror (xb ^^^ (xc + (ror (xd ^^^ ((xa + xb) + xx)) 16))) 12)) + xy)) 8))).toNat : Nat)) F105 rfl (rn_xor32 (a := (ror (xb ^^^ (xc + (ror (xd ^^^ ((xa + xb) + xx)) 16))) 12)) (b := ((xc + (ror (xd ^^^ ((xa + xb) + xx)) 16)) + (ror ((ror (xd ^^^ ((xa + xb) + xx)) 16) ^^^ ((((xa + xb) + xx) + (ror (xb ^^^ (xc + (ror (xd ^^^ ((xa + xb) + xx)) 16))) 12)) + xy)) 8))) (F105.get rfl) (F105.get rfl)) fun _ F107 => ?_; clear F105
  refine wpl_op (i := 3) rfl (o_call F107 rfl rfl rfl rfl (rn_call (args2 (F107.get rfl) rfl) rfl (by kernel_rfl)) (rror_any ((ror (xb ^^^ (xc + (ror (xd ^^^ ((xa + xb) + xx)) 16))) 12) ^^^ ((xc + (ror (xd ^^^ ((xa + xb) + xx)) 16)) + (ror ((ror (xd ^^^ ((xa + xb) + xx)) 16) ^^^ ((((xa + xb) + xx) + (ror (xb ^^^ (xc + (ror (xd ^^^ ((xa + xb) + xx)) 16))) 12)) + xy)) 8))) 7 _ (by omega) (by omega)) ?_)
  rintro _ w108 ⟨rfl, hx109⟩
  refine ⟨_, rfl, ?_⟩; intro a110 F111; clear F107; have z112 := hx109.size
  refine qv 4 (.int .u32 ((ror ((ror (xb ^^^ (xc + (ror (xd ^^^ ((xa + xb) + xx)) 16))) 12) ^^^ ((xc + (ror (xd ^^^ ((xa + xb) + xx)) 16)) + (ror ((ror (xd ^^^ ((xa + xb) + xx)) 16) ^^^ ((((xa + xb) + xx) + (ror (xb ^^^ (xc + (ror (xd ^^^ ((xa + xb) + xx)) 16))) 12)) + xy)) 8))) 7).toNat : Nat)) F111 rfl (rn_assign (F111.get rfl)) fun _ F114 => ?_; clear F111
  refine wpList_nil ?_
  refine hK101 _ _ ?_
  clear hK101
  have F115 := ((((((((((F114.nil.c F114 15 rfl).c F114 14 rfl).c F114 13 rfl).c F114 12 rfl).c F114 5 rfl).c F114 4 rfl).c F114 3 rfl).c F114 2 rfl).c F114 1 rfl).c F114 0 rfl)
  clear F114
  refine wp_seq_k (fun K116 hK116 => ?_)
  refine wp_region_lit ?_
  refine qv 0 (.int .u32 (((((xa + xb) + xx) + (ror (xb ^^^ (xc + (ror (xd ^^^ ((xa + xb) + xx)) 16))) 12)) + xy).toNat : Nat)) F115 rfl (rn_move (F115.get rfl)) fun _ F118 => ?_; clear F115
  refine qv 1 (.int .u32 ((ror ((ror (xb ^^^ (xc + (ror (xd ^^^ ((xa + xb) + xx)) 16))) 12) ^^^ ((xc + (ror (xd ^^^ ((xa + xb) + xx)) 16)) + (ror ((ror (xd ^^^ ((xa + xb) + xx)) 16) ^^^ ((((xa + xb) + xx) + (ror (xb ^^^ (xc + (ror (xd ^^^ ((xa + xb) + xx)) 16))) 12)) + xy)) 8))) 7).toNat : Nat)) F118 rfl (rn_move (F118.get rfl)) fun _ F120 => ?_; clear F118
  refine qv 2 (.int .u32 (((xc + (ror (xd ^^^ ((xa + xb) + xx)) 16)) + (ror ((ror (xd ^^^ ((xa + xb) + xx)) 16) ^^^ ((((xa + xb) + xx) + (ror (xb ^^^ (xc + (ror (xd ^^^ ((xa + xb) + xx)) 16))) 12)) + xy)) 8)).toNat : Nat)) F120 rfl (rn_move (F120.get rfl)) fun _ F122 => ?_; clear F120
  refine qv 3 (.int .u32 ((ror ((ror (xd ^^^ ((xa + xb) + xx)) 16) ^^^ ((((xa + xb) + xx) + (ror (xb ^^^ (xc + (ror (xd ^^^ ((xa + xb) + xx)) 16))) 12)) + xy)) 8).toNat : Nat)) F122 rfl (rn_move (F122.get rfl)) fun _ F124 => ?_; clear F122
  refine qv 4 (.int .u32 (((((xa + xb) + xx) + (ror (xb ^^^ (xc + (ror (xd ^^^ ((xa + xb) + xx)) 16))) 12)) + xy).toNat : Nat)) F124 rfl (rn_assign (F124.get rfl)) fun _ F126 => ?_; clear F124
  refine qv 5 (.int .u32 ((ror ((ror (xb ^^^ (xc + (ror (xd ^^^ ((xa + xb) + xx)) 16))) 12) ^^^ ((xc + (ror (xd ^^^ ((xa + xb) + xx)) 16)) + (ror ((ror (xd ^^^ ((xa + xb) + xx)) 16) ^^^ ((((xa + xb) + xx) + (ror (xb ^^^ (xc + (ror (xd ^^^ ((xa + xb) + xx)) 16))) 12)) + xy)) 8))) 7).toNat : Nat)) F126 rfl (rn_assign (F126.get rfl)) fun _ F128 => ?_; clear F126
  refine qv 6 (.int .u32 (((xc + (ror (xd ^^^ ((xa + xb) + xx)) 16)) + (ror ((ror (xd ^^^ ((xa + xb) + xx)) 16) ^^^ ((((xa + xb) + xx) + (ror (xb ^^^ (xc + (ror (xd ^^^ ((xa + xb) + xx)) 16))) 12)) + xy)) 8)).toNat : Nat)) F128 rfl (rn_assign (F128.get rfl)) fun _ F130 => ?_; clear F128
  refine qv 7 (.int .u32 ((ror ((ror (xd ^^^ ((xa + xb) + xx)) 16) ^^^ ((((xa + xb) + xx) + (ror (xb ^^^ (xc + (ror (xd ^^^ ((xa + xb) + xx)) 16))) 12)) + xy)) 8).toNat : Nat)) F130 rfl (rn_assign (F130.get rfl)) fun _ F132 => ?_; clear F130
  refine wpList_nil ?_
  refine hK116 _ _ ?_
  clear hK116
  have F133 := ((((((((((F132.nil.c F132 15 rfl).c F132 14 rfl).c F132 13 rfl).c F132 12 rfl).c F132 5 rfl).c F132 4 rfl).c F132 3 rfl).c F132 2 rfl).c F132 1 rfl).c F132 0 rfl)
  clear F132
  refine wp_ret ?_
  refine ret4 F133 rfl rfl rfl rfl rfl ?_
  exact ⟨rfl, (((((Ext.refl w).trans hx32).trans hx56).trans hx85).trans hx109)⟩

set_option maxRecDepth 100000 in
set_option maxHeartbeats 1000000 in
theorem rinitial_any (w : World) :
    Calls Tryd.prog 67 #[] w (fun e w' => e = .returned (.agg (u32Vals iv).toArray) ∧ Ext w w') := by
  refine calls_enter (l := []) Tryd.func67 rfl rfl rfl (fun aA hF => ?_)
  refine wp_seq_k (fun K1 hK1 => ?_)
  refine wp_region_lit ?_
  refine wpl_op (i := 0) rfl (o_new (fun g => (.pointer (some ⟨g, 0, none⟩))) (u32Vals (List.replicate 8 0)) 80 hF rfl rfl rfl rfl (by kernel_rfl) ?_)
  intro g2 w3 a8 F9 z6 z7 b4 hx5; clear hF
  refine wpList_nil ?_
  refine hK1 _ _ ?_
  clear hK1
  refine wp_seq_k (fun K10 hK10 => ?_)
  refine wp_region_lit ?_
  refine qv 0 (.agg (u32Vals ([(1779033703 : UInt32), (3144134277 : UInt32), (1013904242 : UInt32), (2773480762 : UInt32), (1359893119 : UInt32), (2600822924 : UInt32), (528734635 : UInt32), (1541459225 : UInt32)])).toArray) F9 rfl (rn_build (parts8 rfl rfl rfl rfl rfl rfl rfl rfl) (by kernel_rfl)) fun _ F12 => ?_; clear F9
  refine wpl_op (i := 1) rfl (o_store (cells := (u32Vals ([(1779033703 : UInt32), (3144134277 : UInt32), (1013904242 : UInt32), (2773480762 : UInt32), (1359893119 : UInt32), (2600822924 : UInt32), (528734635 : UInt32), (1541459225 : UInt32)]))) F12 rfl rfl rfl rfl (F12.get rfl) (F12.get rfl) b4 (inf80.trans (congrArg some (u32Vals_len (show List.length [(1779033703 : UInt32), (3144134277 : UInt32), (1013904242 : UInt32), (2773480762 : UInt32), (1359893119 : UInt32), (2600822924 : UInt32), (528734635 : UInt32), (1541459225 : UInt32)] = 8 from rfl)).symm)) ((u32Vals_len (show List.length (List.replicate 8 0) = _ from List.length_replicate)).trans (u32Vals_len (show List.length [(1779033703 : UInt32), (3144134277 : UInt32), (1013904242 : UInt32), (2773480762 : UInt32), (1359893119 : UInt32), (2600822924 : UInt32), (528734635 : UInt32), (1541459225 : UInt32)] = 8 from rfl)).symm) (u32Vals_one _) ?_)
  intro w13 b14 hg15; have z16 := hg15.size
  refine wpList_nil ?_
  refine hK10 _ _ ?_
  clear hK10
  refine wp_ret ?_
  refine retC F12 rfl rfl b14 Tryd.underlying80 rfl (inf80.trans (congrArg some (u32Vals_len (show List.length [(1779033703 : UInt32), (3144134277 : UInt32), (1013904242 : UInt32), (2773480762 : UInt32), (1359893119 : UInt32), (2600822924 : UInt32), (528734635 : UInt32), (1541459225 : UInt32)] = 8 from rfl)).symm)) ?_
  exact ⟨rfl, (((Ext.refl w).trans hx5).grownN hg15 (by omega))⟩

set_option maxRecDepth 100000 in
set_option maxHeartbeats 1000000 in
theorem rperm_any (w : World) :
    Calls Tryd.prog 72 #[] w (fun e w' => e = .returned (.agg (intVals permI).toArray) ∧ Ext w w') := by
  refine calls_enter (l := []) Tryd.func72 rfl rfl rfl (fun aA hF => ?_)
  refine wp_seq_k (fun K1 hK1 => ?_)
  refine wp_region_lit ?_
  refine wpl_op (i := 0) rfl (o_new (fun g => (.pointer (some ⟨g, 0, none⟩))) (intVals (List.replicate 160 0)) 98 hF rfl rfl rfl rfl (by kernel_rfl) ?_)
  intro g2 w3 a8 F9 z6 z7 b4 hx5; clear hF
  refine wpList_nil ?_
  refine hK1 _ _ ?_
  clear hK1
  refine wp_seq_k (fun K10 hK10 => ?_)
  refine wp_region_lit ?_
  refine qv 0 (.agg (intVals ([(0 : Int), (1 : Int), (2 : Int), (3 : Int), (4 : Int), (5 : Int), (6 : Int), (7 : Int), (8 : Int), (9 : Int), (10 : Int), (11 : Int), (12 : Int), (13 : Int), (14 : Int), (15 : Int)])).toArray) F9 rfl (rn_build (parts16 (fun _ => rfl)) (by kernel_rfl)) fun _ F12 => ?_; clear F9
  refine qv 1 (.agg (intVals ([(14 : Int), (10 : Int), (4 : Int), (8 : Int), (9 : Int), (15 : Int), (13 : Int), (6 : Int), (1 : Int), (12 : Int), (0 : Int), (2 : Int), (11 : Int), (7 : Int), (5 : Int), (3 : Int)])).toArray) F12 rfl (rn_build (parts16 (fun _ => rfl)) (by kernel_rfl)) fun _ F14 => ?_; clear F12
  refine qv 2 (.agg (intVals ([(11 : Int), (8 : Int), (12 : Int), (0 : Int), (5 : Int), (2 : Int), (15 : Int), (13 : Int), (10 : Int), (14 : Int), (3 : Int), (6 : Int), (7 : Int), (1 : Int), (9 : Int), (4 : Int)])).toArray) F14 rfl (rn_build (parts16 (fun _ => rfl)) (by kernel_rfl)) fun _ F16 => ?_; clear F14
  refine qv 3 (.agg (intVals ([(7 : Int), (9 : Int), (3 : Int), (1 : Int), (13 : Int), (12 : Int), (11 : Int), (14 : Int), (2 : Int), (6 : Int), (5 : Int), (10 : Int), (4 : Int), (0 : Int), (15 : Int), (8 : Int)])).toArray) F16 rfl (rn_build (parts16 (fun _ => rfl)) (by kernel_rfl)) fun _ F18 => ?_; clear F16
  refine qv 4 (.agg (intVals ([(9 : Int), (0 : Int), (5 : Int), (7 : Int), (2 : Int), (4 : Int), (10 : Int), (15 : Int), (14 : Int), (1 : Int), (11 : Int), (12 : Int), (6 : Int), (8 : Int), (3 : Int), (13 : Int)])).toArray) F18 rfl (rn_build (parts16 (fun _ => rfl)) (by kernel_rfl)) fun _ F20 => ?_; clear F18
  refine qv 5 (.agg (intVals ([(2 : Int), (12 : Int), (6 : Int), (10 : Int), (0 : Int), (11 : Int), (8 : Int), (3 : Int), (4 : Int), (13 : Int), (7 : Int), (5 : Int), (15 : Int), (14 : Int), (1 : Int), (9 : Int)])).toArray) F20 rfl (rn_build (parts16 (fun _ => rfl)) (by kernel_rfl)) fun _ F22 => ?_; clear F20
  refine qv 6 (.agg (intVals ([(12 : Int), (5 : Int), (1 : Int), (15 : Int), (14 : Int), (13 : Int), (4 : Int), (10 : Int), (0 : Int), (7 : Int), (6 : Int), (3 : Int), (9 : Int), (2 : Int), (8 : Int), (11 : Int)])).toArray) F22 rfl (rn_build (parts16 (fun _ => rfl)) (by kernel_rfl)) fun _ F24 => ?_; clear F22
  refine qv 7 (.agg (intVals ([(13 : Int), (11 : Int), (7 : Int), (14 : Int), (12 : Int), (1 : Int), (3 : Int), (9 : Int), (5 : Int), (0 : Int), (15 : Int), (4 : Int), (8 : Int), (6 : Int), (2 : Int), (10 : Int)])).toArray) F24 rfl (rn_build (parts16 (fun _ => rfl)) (by kernel_rfl)) fun _ F26 => ?_; clear F24
  refine qv 8 (.agg (intVals ([(6 : Int), (15 : Int), (14 : Int), (9 : Int), (11 : Int), (3 : Int), (0 : Int), (8 : Int), (12 : Int), (2 : Int), (13 : Int), (7 : Int), (1 : Int), (4 : Int), (10 : Int), (5 : Int)])).toArray) F26 rfl (rn_build (parts16 (fun _ => rfl)) (by kernel_rfl)) fun _ F28 => ?_; clear F26
  refine qv 9 (.agg (intVals ([(10 : Int), (2 : Int), (8 : Int), (4 : Int), (7 : Int), (6 : Int), (1 : Int), (5 : Int), (15 : Int), (11 : Int), (9 : Int), (14 : Int), (3 : Int), (12 : Int), (13 : Int), (0 : Int)])).toArray) F28 rfl (rn_build (parts16 (fun _ => rfl)) (by kernel_rfl)) fun _ F30 => ?_; clear F28
  refine qv 10 (.agg (intVals permI).toArray) F30 rfl (rn_build (parts10 (F30.get rfl) (F30.get rfl) (F30.get rfl) (F30.get rfl) (F30.get rfl) (F30.get rfl) (F30.get rfl) (F30.get rfl) (F30.get rfl) (F30.get rfl)) (by kernel_rfl)) fun _ F32 => ?_; clear F30
  refine wpl_op (i := 11) rfl (o_store (cells := (intVals permI)) F32 rfl rfl rfl rfl (F32.get rfl) (F32.get rfl) b4 (inf98.trans (congrArg some (intVals_len permI_len).symm)) ((intVals_len (show List.length (List.replicate 160 0) = _ from List.length_replicate)).trans (intVals_len permI_len).symm) (intVals_one _) ?_)
  intro w33 b34 hg35; have z36 := hg35.size
  refine wpList_nil ?_
  refine hK10 _ _ ?_
  clear hK10
  have F37 := (F32.nil.c F32 0 rfl)
  clear F32
  refine wp_ret ?_
  refine retC F37 rfl rfl b34 Tryd.underlying98 rfl (inf98.trans (congrArg some (intVals_len permI_len).symm)) ?_
  exact ⟨rfl, (((Ext.refl w).trans hx5).grownN hg35 (by omega))⟩

end Go.Proofs.YtmjgjopbeokajaaDoor
