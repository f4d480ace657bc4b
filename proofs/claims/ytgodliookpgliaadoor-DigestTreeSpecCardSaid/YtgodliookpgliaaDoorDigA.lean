/- Contracts of bits.RotateLeft32. -/
import Derived.Test.YtgodliookpgliaaDoorProg
import Derived.Test.YtgodliookpgliaaDoorWk4
import Derived.Test.YtgodliookpgliaaDoorBlake
import Derived.KernelRfl
namespace Go.Proofs.YtgodliookpgliaaDoor
open Go.RowKit

variable {S S' : Nat → Prop}

set_option maxRecDepth 100000 in
set_option maxHeartbeats 1000000 in
theorem rot16_any (x : UInt32) (w : World) :
    Calls Tryd.prog 42 #[.int .u32 (x.toNat : Nat), .int .i64 (-16)] w (fun e w' => e = .returned (.int .u32 ((ror x 16).toNat : Nat)) ∧ Ext w w') := by
  refine calls_enter (l := [(.int .u32 (x.toNat : Nat)), (.int .i64 (-16))]) Tryd.func42 rfl rfl rfl (fun a hF => ?_)
  refine wp_seq_k (fun K1 hK1 => ?_)
  refine wp_region_lit ?_
  refine wpl_op (i := 0) rfl (o_val (v := (.int .u32 0)) hF rfl rfl rfl rfl (rn_assign rfl) ?_)
  intro a2 hF3; clear hF
  refine wpList_nil ?_
  refine hK1 _ _ ?_
  clear hK1
  refine wp_seq_k (fun K4 hK4 => ?_)
  refine wp_region_lit ?_
  refine wpl_op (i := 0) rfl (o_val (v := (.int .i64 (-16))) hF3 rfl rfl rfl rfl (rn_move (hF3.get rfl)) ?_)
  intro a5 hF6; clear hF3
  refine wpl_op (i := 1) rfl (o_val (v := (.int .u64 18446744073709551600)) hF6 rfl rfl rfl rfl (rn_convW Tryd.underlying3 Tryd.underlying65 (hF6.get rfl) (by decide +kernel : IntKind.wrap .u64 (-16) = 18446744073709551600)) ?_)
  intro a7 hF8; clear hF6
  refine wpl_op (i := 2) rfl (o_val (v := (.int .u64 16)) hF8 rfl rfl rfl rfl (rn_bin (v := .int .u64 16) (hF8.get rfl) rfl guard_int (by kernel_rfl)) ?_)
  intro a9 hF10; clear hF8
  refine wpl_op (i := 3) rfl (o_val (v := (.int .u64 16)) hF10 rfl rfl rfl rfl (rn_assign (hF10.get rfl)) ?_)
  intro a11 hF12; clear hF10
  refine wpList_nil ?_
  refine hK4 _ _ ?_
  clear hK4
  refine wp_seq_k (fun K13 hK13 => ?_)
  refine wp_region_lit ?_
  refine wpl_op (i := 0) rfl (o_val (v := (.int .u32 (x.toNat : Nat))) hF12 rfl rfl rfl rfl (rn_move (hF12.get rfl)) ?_)
  intro a14 hF15; clear hF12
  refine wpl_op (i := 1) rfl (o_val (v := (.int .u64 16)) hF15 rfl rfl rfl rfl (rn_move (hF15.get rfl)) ?_)
  intro a16 hF17; clear hF15
  refine wpl_op (i := 2) rfl (o_val (v := (.int .u32 ((x <<< UInt32.ofNat 16).toNat : Nat))) hF17 rfl rfl rfl rfl (rn_shl32 (a := x) (n := 16) (hF17.get rfl) (hF17.get rfl) (by omega)) ?_)
  intro a18 hF19; clear hF17
  refine wpl_op (i := 3) rfl (o_val (v := (.int .u32 (x.toNat : Nat))) hF19 rfl rfl rfl rfl (rn_move (hF19.get rfl)) ?_)
  intro a20 hF21; clear hF19
  refine wpl_op (i := 4) rfl (o_val (v := (.int .u64 16)) hF21 rfl rfl rfl rfl (rn_move (hF21.get rfl)) ?_)
  intro a22 hF23; clear hF21
  refine wpl_op (i := 5) rfl (o_val (v := (.int .u64 16)) hF23 rfl rfl rfl rfl (rn_bin (v := .int .u64 16) rfl (hF23.get rfl) guard_int (by kernel_rfl)) ?_)
  intro a24 hF25; clear hF23
  refine wpl_op (i := 6) rfl (o_val (v := (.int .u32 ((x >>> UInt32.ofNat 16).toNat : Nat))) hF25 rfl rfl rfl rfl (rn_shr32 (a := x) (n := 16) (hF25.get rfl) (hF25.get rfl) (by omega)) ?_)
  intro a26 hF27; clear hF25
  refine wpl_op (i := 7) rfl (o_val (v := (.int .u32 (((x <<< UInt32.ofNat 16) ||| (x >>> UInt32.ofNat 16)).toNat : Nat))) hF27 rfl rfl rfl rfl (rn_or32 (a := (x <<< UInt32.ofNat 16)) (b := (x >>> UInt32.ofNat 16)) (hF27.get rfl) (hF27.get rfl)) ?_)
  intro a28 hF29; clear hF27
  refine wpl_op (i := 8) rfl (o_val (v := (.int .u32 (((x <<< UInt32.ofNat 16) ||| (x >>> UInt32.ofNat 16)).toNat : Nat))) hF29 rfl rfl rfl rfl (rn_assign (hF29.get rfl)) ?_)
  intro a30 hF31; clear hF29
  refine wpList_nil ?_
  refine hK13 _ _ ?_
  clear hK13
  have hF32 := ((((hF31.nil.cons (hF31.get (t := 5) (v := (.int .u64 16)) rfl)).cons (hF31.get (t := 4) (v := (.int .u32 (((x <<< UInt32.ofNat 16) ||| (x >>> UInt32.ofNat 16)).toNat : Nat))) rfl)).cons (hF31.get (t := 1) (v := (.int .i64 (-16))) rfl)).cons (hF31.get (t := 0) (v := (.int .u32 (x.toNat : Nat))) rfl))
  clear hF31
  refine wp_ret ?_
  refine ret1 hF32 rfl rfl ?_
  exact ⟨congrArg (fun (z : UInt32) => Ending.returned (.int .u32 (z.toNat : Nat))) (UInt32.or_comm _ _), Ext.refl _⟩

set_option maxRecDepth 100000 in
set_option maxHeartbeats 1000000 in
theorem rot12_any (x : UInt32) (w : World) :
    Calls Tryd.prog 42 #[.int .u32 (x.toNat : Nat), .int .i64 (-12)] w (fun e w' => e = .returned (.int .u32 ((ror x 12).toNat : Nat)) ∧ Ext w w') := by
  refine calls_enter (l := [(.int .u32 (x.toNat : Nat)), (.int .i64 (-12))]) Tryd.func42 rfl rfl rfl (fun a hF => ?_)
  refine wp_seq_k (fun K1 hK1 => ?_)
  refine wp_region_lit ?_
  refine wpl_op (i := 0) rfl (o_val (v := (.int .u32 0)) hF rfl rfl rfl rfl (rn_assign rfl) ?_)
  intro a2 hF3; clear hF
  refine wpList_nil ?_
  refine hK1 _ _ ?_
  clear hK1
  refine wp_seq_k (fun K4 hK4 => ?_)
  refine wp_region_lit ?_
  refine wpl_op (i := 0) rfl (o_val (v := (.int .i64 (-12))) hF3 rfl rfl rfl rfl (rn_move (hF3.get rfl)) ?_)
  intro a5 hF6; clear hF3
  refine wpl_op (i := 1) rfl (o_val (v := (.int .u64 18446744073709551604)) hF6 rfl rfl rfl rfl (rn_convW Tryd.underlying3 Tryd.underlying65 (hF6.get rfl) (by decide +kernel : IntKind.wrap .u64 (-12) = 18446744073709551604)) ?_)
  intro a7 hF8; clear hF6
  refine wpl_op (i := 2) rfl (o_val (v := (.int .u64 20)) hF8 rfl rfl rfl rfl (rn_bin (v := .int .u64 20) (hF8.get rfl) rfl guard_int (by kernel_rfl)) ?_)
  intro a9 hF10; clear hF8
  refine wpl_op (i := 3) rfl (o_val (v := (.int .u64 20)) hF10 rfl rfl rfl rfl (rn_assign (hF10.get rfl)) ?_)
  intro a11 hF12; clear hF10
  refine wpList_nil ?_
  refine hK4 _ _ ?_
  clear hK4
  refine wp_seq_k (fun K13 hK13 => ?_)
  refine wp_region_lit ?_
  refine wpl_op (i := 0) rfl (o_val (v := (.int .u32 (x.toNat : Nat))) hF12 rfl rfl rfl rfl (rn_move (hF12.get rfl)) ?_)
  intro a14 hF15; clear hF12
  refine wpl_op (i := 1) rfl (o_val (v := (.int .u64 20)) hF15 rfl rfl rfl rfl (rn_move (hF15.get rfl)) ?_)
  intro a16 hF17; clear hF15
  refine wpl_op (i := 2) rfl (o_val (v := (.int .u32 ((x <<< UInt32.ofNat 20).toNat : Nat))) hF17 rfl rfl rfl rfl (rn_shl32 (a := x) (n := 20) (hF17.get rfl) (hF17.get rfl) (by omega)) ?_)
  intro a18 hF19; clear hF17
  refine wpl_op (i := 3) rfl (o_val (v := (.int .u32 (x.toNat : Nat))) hF19 rfl rfl rfl rfl (rn_move (hF19.get rfl)) ?_)
  intro a20 hF21; clear hF19
  refine wpl_op (i := 4) rfl (o_val (v := (.int .u64 20)) hF21 rfl rfl rfl rfl (rn_move (hF21.get rfl)) ?_)
  intro a22 hF23; clear hF21
  refine wpl_op (i := 5) rfl (o_val (v := (.int .u64 12)) hF23 rfl rfl rfl rfl (rn_bin (v := .int .u64 12) rfl (hF23.get rfl) guard_int (by kernel_rfl)) ?_)
  intro a24 hF25; clear hF23
  refine wpl_op (i := 6) rfl (o_val (v := (.int .u32 ((x >>> UInt32.ofNat 12).toNat : Nat))) hF25 rfl rfl rfl rfl (rn_shr32 (a := x) (n := 12) (hF25.get rfl) (hF25.get rfl) (by omega)) ?_)
  intro a26 hF27; clear hF25
  refine wpl_op (i := 7) rfl (o_val (v := (.int .u32 (((x <<< UInt32.ofNat 20) ||| (x >>> UInt32.ofNat 12)).toNat : Nat))) hF27 rfl rfl rfl rfl (rn_or32 (a := (x <<< UInt32.ofNat 20)) (b := (x >>> UInt32.ofNat 12)) (hF27.get rfl) (hF27.get rfl)) ?_)
  intro a28 hF29; clear hF27
  refine wpl_op (i := 8) rfl (o_val (v := (.int .u32 (((x <<< UInt32.ofNat 20) ||| (x >>> UInt32.ofNat 12)).toNat : Nat))) hF29 rfl rfl rfl rfl (rn_assign (hF29.get rfl)) ?_)
  intro a30 hF31; clear hF29
  refine wpList_nil ?_
  refine hK13 _ _ ?_
  clear hK13
  have hF32 := ((((hF31.nil.cons (hF31.get (t := 5) (v := (.int .u64 20)) rfl)).cons (hF31.get (t := 4) (v := (.int .u32 (((x <<< UInt32.ofNat 20) ||| (x >>> UInt32.ofNat 12)).toNat : Nat))) rfl)).cons (hF31.get (t := 1) (v := (.int .i64 (-12))) rfl)).cons (hF31.get (t := 0) (v := (.int .u32 (x.toNat : Nat))) rfl))
  clear hF31
  refine wp_ret ?_
  refine ret1 hF32 rfl rfl ?_
  exact ⟨congrArg (fun (z : UInt32) => Ending.returned (.int .u32 (z.toNat : Nat))) (UInt32.or_comm _ _), Ext.refl _⟩

set_option maxRecDepth 100000 in
set_option maxHeartbeats 1000000 in
theorem rot8_any (x : UInt32) (w : World) :
    Calls Tryd.prog 42 #[.int .u32 (x.toNat : Nat), .int .i64 (-8)] w (fun e w' => e = .returned (.int .u32 ((ror x 8).toNat : Nat)) ∧ Ext w w') := by
  refine calls_enter (l := [(.int .u32 (x.toNat : Nat)), (.int .i64 (-8))]) Tryd.func42 rfl rfl rfl (fun a hF => ?_)
  refine wp_seq_k (fun K1 hK1 => ?_)
  refine wp_region_lit ?_
  refine wpl_op (i := 0) rfl (o_val (v := (.int .u32 0)) hF rfl rfl rfl rfl (rn_assign rfl) ?_)
  intro a2 hF3; clear hF
  refine wpList_nil ?_
  refine hK1 _ _ ?_
  clear hK1
  refine wp_seq_k (fun K4 hK4 => ?_)
  refine wp_region_lit ?_
  refine wpl_op (i := 0) rfl (o_val (v := (.int .i64 (-8))) hF3 rfl rfl rfl rfl (rn_move (hF3.get rfl)) ?_)
  intro a5 hF6; clear hF3
  refine wpl_op (i := 1) rfl (o_val (v := (.int .u64 18446744073709551608)) hF6 rfl rfl rfl rfl (rn_convW Tryd.underlying3 Tryd.underlying65 (hF6.get rfl) (by decide +kernel : IntKind.wrap .u64 (-8) = 18446744073709551608)) ?_)
  intro a7 hF8; clear hF6
  refine wpl_op (i := 2) rfl (o_val (v := (.int .u64 24)) hF8 rfl rfl rfl rfl (rn_bin (v := .int .u64 24) (hF8.get rfl) rfl guard_int (by kernel_rfl)) ?_)
  intro a9 hF10; clear hF8
  refine wpl_op (i := 3) rfl (o_val (v := (.int .u64 24)) hF10 rfl rfl rfl rfl (rn_assign (hF10.get rfl)) ?_)
  intro a11 hF12; clear hF10
  refine wpList_nil ?_
  refine hK4 _ _ ?_
  clear hK4
  refine wp_seq_k (fun K13 hK13 => ?_)
  refine wp_region_lit ?_
  refine wpl_op (i := 0) rfl (o_val (v := (.int .u32 (x.toNat : Nat))) hF12 rfl rfl rfl rfl (rn_move (hF12.get rfl)) ?_)
  intro a14 hF15; clear hF12
  refine wpl_op (i := 1) rfl (o_val (v := (.int .u64 24)) hF15 rfl rfl rfl rfl (rn_move (hF15.get rfl)) ?_)
  intro a16 hF17; clear hF15
  refine wpl_op (i := 2) rfl (o_val (v := (.int .u32 ((x <<< UInt32.ofNat 24).toNat : Nat))) hF17 rfl rfl rfl rfl (rn_shl32 (a := x) (n := 24) (hF17.get rfl) (hF17.get rfl) (by omega)) ?_)
  intro a18 hF19; clear hF17
  refine wpl_op (i := 3) rfl (o_val (v := (.int .u32 (x.toNat : Nat))) hF19 rfl rfl rfl rfl (rn_move (hF19.get rfl)) ?_)
  intro a20 hF21; clear hF19
  refine wpl_op (i := 4) rfl (o_val (v := (.int .u64 24)) hF21 rfl rfl rfl rfl (rn_move (hF21.get rfl)) ?_)
  intro a22 hF23; clear hF21
  refine wpl_op (i := 5) rfl (o_val (v := (.int .u64 8)) hF23 rfl rfl rfl rfl (rn_bin (v := .int .u64 8) rfl (hF23.get rfl) guard_int (by kernel_rfl)) ?_)
  intro a24 hF25; clear hF23
  refine wpl_op (i := 6) rfl (o_val (v := (.int .u32 ((x >>> UInt32.ofNat 8).toNat : Nat))) hF25 rfl rfl rfl rfl (rn_shr32 (a := x) (n := 8) (hF25.get rfl) (hF25.get rfl) (by omega)) ?_)
  intro a26 hF27; clear hF25
  refine wpl_op (i := 7) rfl (o_val (v := (.int .u32 (((x <<< UInt32.ofNat 24) ||| (x >>> UInt32.ofNat 8)).toNat : Nat))) hF27 rfl rfl rfl rfl (rn_or32 (a := (x <<< UInt32.ofNat 24)) (b := (x >>> UInt32.ofNat 8)) (hF27.get rfl) (hF27.get rfl)) ?_)
  intro a28 hF29; clear hF27
  refine wpl_op (i := 8) rfl (o_val (v := (.int .u32 (((x <<< UInt32.ofNat 24) ||| (x >>> UInt32.ofNat 8)).toNat : Nat))) hF29 rfl rfl rfl rfl (rn_assign (hF29.get rfl)) ?_)
  intro a30 hF31; clear hF29
  refine wpList_nil ?_
  refine hK13 _ _ ?_
  clear hK13
  have hF32 := ((((hF31.nil.cons (hF31.get (t := 5) (v := (.int .u64 24)) rfl)).cons (hF31.get (t := 4) (v := (.int .u32 (((x <<< UInt32.ofNat 24) ||| (x >>> UInt32.ofNat 8)).toNat : Nat))) rfl)).cons (hF31.get (t := 1) (v := (.int .i64 (-8))) rfl)).cons (hF31.get (t := 0) (v := (.int .u32 (x.toNat : Nat))) rfl))
  clear hF31
  refine wp_ret ?_
  refine ret1 hF32 rfl rfl ?_
  exact ⟨congrArg (fun (z : UInt32) => Ending.returned (.int .u32 (z.toNat : Nat))) (UInt32.or_comm _ _), Ext.refl _⟩

set_option maxRecDepth 100000 in
set_option maxHeartbeats 1000000 in
theorem rot7_any (x : UInt32) (w : World) :
    Calls Tryd.prog 42 #[.int .u32 (x.toNat : Nat), .int .i64 (-7)] w (fun e w' => e = .returned (.int .u32 ((ror x 7).toNat : Nat)) ∧ Ext w w') := by
  refine calls_enter (l := [(.int .u32 (x.toNat : Nat)), (.int .i64 (-7))]) Tryd.func42 rfl rfl rfl (fun a hF => ?_)
  refine wp_seq_k (fun K1 hK1 => ?_)
  refine wp_region_lit ?_
  refine wpl_op (i := 0) rfl (o_val (v := (.int .u32 0)) hF rfl rfl rfl rfl (rn_assign rfl) ?_)
  intro a2 hF3; clear hF
  refine wpList_nil ?_
  refine hK1 _ _ ?_
  clear hK1
  refine wp_seq_k (fun K4 hK4 => ?_)
  refine wp_region_lit ?_
  refine wpl_op (i := 0) rfl (o_val (v := (.int .i64 (-7))) hF3 rfl rfl rfl rfl (rn_move (hF3.get rfl)) ?_)
  intro a5 hF6; clear hF3
  refine wpl_op (i := 1) rfl (o_val (v := (.int .u64 18446744073709551609)) hF6 rfl rfl rfl rfl (rn_convW Tryd.underlying3 Tryd.underlying65 (hF6.get rfl) (by decide +kernel : IntKind.wrap .u64 (-7) = 18446744073709551609)) ?_)
  intro a7 hF8; clear hF6
  refine wpl_op (i := 2) rfl (o_val (v := (.int .u64 25)) hF8 rfl rfl rfl rfl (rn_bin (v := .int .u64 25) (hF8.get rfl) rfl guard_int (by kernel_rfl)) ?_)
  intro a9 hF10; clear hF8
  refine wpl_op (i := 3) rfl (o_val (v := (.int .u64 25)) hF10 rfl rfl rfl rfl (rn_assign (hF10.get rfl)) ?_)
  intro a11 hF12; clear hF10
  refine wpList_nil ?_
  refine hK4 _ _ ?_
  clear hK4
  refine wp_seq_k (fun K13 hK13 => ?_)
  refine wp_region_lit ?_
  refine wpl_op (i := 0) rfl (o_val (v := (.int .u32 (x.toNat : Nat))) hF12 rfl rfl rfl rfl (rn_move (hF12.get rfl)) ?_)
  intro a14 hF15; clear hF12
  refine wpl_op (i := 1) rfl (o_val (v := (.int .u64 25)) hF15 rfl rfl rfl rfl (rn_move (hF15.get rfl)) ?_)
  intro a16 hF17; clear hF15
  refine wpl_op (i := 2) rfl (o_val (v := (.int .u32 ((x <<< UInt32.ofNat 25).toNat : Nat))) hF17 rfl rfl rfl rfl (rn_shl32 (a := x) (n := 25) (hF17.get rfl) (hF17.get rfl) (by omega)) ?_)
  intro a18 hF19; clear hF17
  refine wpl_op (i := 3) rfl (o_val (v := (.int .u32 (x.toNat : Nat))) hF19 rfl rfl rfl rfl (rn_move (hF19.get rfl)) ?_)
  intro a20 hF21; clear hF19
  refine wpl_op (i := 4) rfl (o_val (v := (.int .u64 25)) hF21 rfl rfl rfl rfl (rn_move (hF21.get rfl)) ?_)
  intro a22 hF23; clear hF21
  refine wpl_op (i := 5) rfl (o_val (v := (.int .u64 7)) hF23 rfl rfl rfl rfl (rn_bin (v := .int .u64 7) rfl (hF23.get rfl) guard_int (by kernel_rfl)) ?_)
  intro a24 hF25; clear hF23
  refine wpl_op (i := 6) rfl (o_val (v := (.int .u32 ((x >>> UInt32.ofNat 7).toNat : Nat))) hF25 rfl rfl rfl rfl (rn_shr32 (a := x) (n := 7) (hF25.get rfl) (hF25.get rfl) (by omega)) ?_)
  intro a26 hF27; clear hF25
  refine wpl_op (i := 7) rfl (o_val (v := (.int .u32 (((x <<< UInt32.ofNat 25) ||| (x >>> UInt32.ofNat 7)).toNat : Nat))) hF27 rfl rfl rfl rfl (rn_or32 (a := (x <<< UInt32.ofNat 25)) (b := (x >>> UInt32.ofNat 7)) (hF27.get rfl) (hF27.get rfl)) ?_)
  intro a28 hF29; clear hF27
  refine wpl_op (i := 8) rfl (o_val (v := (.int .u32 (((x <<< UInt32.ofNat 25) ||| (x >>> UInt32.ofNat 7)).toNat : Nat))) hF29 rfl rfl rfl rfl (rn_assign (hF29.get rfl)) ?_)
  intro a30 hF31; clear hF29
  refine wpList_nil ?_
  refine hK13 _ _ ?_
  clear hK13
  have hF32 := ((((hF31.nil.cons (hF31.get (t := 5) (v := (.int .u64 25)) rfl)).cons (hF31.get (t := 4) (v := (.int .u32 (((x <<< UInt32.ofNat 25) ||| (x >>> UInt32.ofNat 7)).toNat : Nat))) rfl)).cons (hF31.get (t := 1) (v := (.int .i64 (-7))) rfl)).cons (hF31.get (t := 0) (v := (.int .u32 (x.toNat : Nat))) rfl))
  clear hF31
  refine wp_ret ?_
  refine ret1 hF32 rfl rfl ?_
  exact ⟨congrArg (fun (z : UInt32) => Ending.returned (.int .u32 (z.toNat : Nat))) (UInt32.or_comm _ _), Ext.refl _⟩

end Go.Proofs.YtgodliookpgliaaDoor
