/- Contracts of the reference's ror, mix, initial, permutations. -/
import Derived.Test.YtgodliookpgliaaDoorProg
import Derived.Test.YtgodliookpgliaaDoorDigE
import Derived.Test.YtgodliookpgliaaDoorSeq2
import Derived.KernelRfl
namespace Go.Proofs.YtgodliookpgliaaDoor
open Go.RowKit

variable {S S' : Nat → Prop}

theorem parts10 {ρ : Operand → Value} {x0 x1 x2 x3 x4 x5 x6 x7 x8 x9 : Operand} {v0 v1 v2 v3 v4 v5 v6 v7 v8 v9 : Value} {i0 i1 i2 i3 i4 i5 i6 i7 i8 i9 : Nat} (h0 : ρ x0 = v0) (h1 : ρ x1 = v1) (h2 : ρ x2 = v2) (h3 : ρ x3 = v3) (h4 : ρ x4 = v4) (h5 : ρ x5 = v5) (h6 : ρ x6 = v6) (h7 : ρ x7 = v7) (h8 : ρ x8 = v8) (h9 : ρ x9 = v9) :
    #[(i0, x0), (i1, x1), (i2, x2), (i3, x3), (i4, x4), (i5, x5), (i6, x6), (i7, x7), (i8, x8), (i9, x9)].map (fun x => (x.1, ρ x.2)) = #[(i0, v0), (i1, v1), (i2, v2), (i3, v3), (i4, v4), (i5, v5), (i6, v6), (i7, v7), (i8, v8), (i9, v9)] := by simp [h0, h1, h2, h3, h4, h5, h6, h7, h8, h9]
theorem parts8 {ρ : Operand → Value} {x0 x1 x2 x3 x4 x5 x6 x7 : Operand} {v0 v1 v2 v3 v4 v5 v6 v7 : Value} {i0 i1 i2 i3 i4 i5 i6 i7 : Nat} (h0 : ρ x0 = v0) (h1 : ρ x1 = v1) (h2 : ρ x2 = v2) (h3 : ρ x3 = v3) (h4 : ρ x4 = v4) (h5 : ρ x5 = v5) (h6 : ρ x6 = v6) (h7 : ρ x7 = v7) :
    #[(i0, x0), (i1, x1), (i2, x2), (i3, x3), (i4, x4), (i5, x5), (i6, x6), (i7, x7)].map (fun x => (x.1, ρ x.2)) = #[(i0, v0), (i1, v1), (i2, v2), (i3, v3), (i4, v4), (i5, v5), (i6, v6), (i7, v7)] := by simp [h0, h1, h2, h3, h4, h5, h6, h7]
theorem parts16 {ρ : Operand → Value} {c0 c1 c2 c3 c4 c5 c6 c7 c8 c9 c10 c11 c12 c13 c14 c15 : Value} (hc : ∀ v, ρ (.const v) = v) {i0 i1 i2 i3 i4 i5 i6 i7 i8 i9 i10 i11 i12 i13 i14 i15 : Nat} :
    #[(i0, Operand.const c0), (i1, .const c1), (i2, .const c2), (i3, .const c3), (i4, .const c4), (i5, .const c5), (i6, .const c6), (i7, .const c7), (i8, .const c8), (i9, .const c9), (i10, .const c10), (i11, .const c11), (i12, .const c12), (i13, .const c13), (i14, .const c14), (i15, .const c15)].map (fun x => (x.1, ρ x.2)) = #[(i0, c0), (i1, c1), (i2, c2), (i3, c3), (i4, c4), (i5, c5), (i6, c6), (i7, c7), (i8, c8), (i9, c9), (i10, c10), (i11, c11), (i12, c12), (i13, c13), (i14, c14), (i15, c15)] := by simp [hc]
def permI : List Int := perms.flatten.map Int.ofNat
theorem permI_len : permI.length = 160 := by decide +kernel
theorem permI_all : ∀ r < 10, ∀ j < 16, permI.getD (r * 16 + j) 0 = Int.ofNat ((permRow r).getD j 0) ∧ (permRow r).getD j 0 < 16 := by decide +kernel
theorem permRow_lt {r j : Nat} (hr : r < 10) (hj : j < 16) : (permRow r).getD j 0 < 16 := (permI_all r hr j hj).2
theorem blk_perm {W : World} {g o : Nat} {t : TypeId} (h : Blk W g t (intVals permI)) {r j : Nat} (hr : r < 10) (hj : j < 16) (ho : o = r * 16 + j) : W.cell? ⟨g, o, none⟩ = some (.int .i64 (((permRow r).getD j 0 : Nat) : Int)) := by
  rw [blk_intVals h ho (by rw [permI_len]; omega), (permI_all r hr j hj).1]; rfl
set_option maxRecDepth 100000 in
set_option maxHeartbeats 1000000 in
theorem rror_any (x : UInt32) (n : Nat) (w : World) (h0 : 0 < n) (h1 : n < 32) :
    Calls Tryd.prog 43 #[.int .u32 (x.toNat : Nat), .int .i64 (n : Nat)] w (fun e w' => e = .returned (.int .u32 ((ror x n).toNat : Nat)) ∧ Ext w w') := by
  refine calls_enter (l := [(.int .u32 (x.toNat : Nat)), (.int .i64 (n : Nat))]) Tryd.func43 rfl rfl rfl (fun aA hF => ?_)
  refine wp_seq_k (fun K1 hK1 => ?_)
  refine wp_region_lit ?_
  refine wpl_op (i := 0) rfl (o_val (v := (.int .u32 0)) hF rfl rfl rfl rfl (rn_assign rfl) ?_)
  intro a2 hF3; clear hF
  refine wpList_nil ?_
  refine hK1 _ _ ?_
  clear hK1
  refine wp_seq_k (fun K4 hK4 => ?_)
  have hx6 : ∃ W, w.drew = W ∧ Ext w W := ⟨_, rfl, (Ext.refl _).drew⟩
  obtain ⟨w5, e7, hx6⟩ := hx6
  have z8 := hx6.size
  refine any_start (fun W => Ext w5 W) (fun i => false) 9 #[false, false, false, false, false, false, false, false, false] rfl rfl rfl ?_
  rw [e7]; clear e7
  refine any_pure (i := 0) (v := (.int .u32 (x.toNat : Nat))) hF3 (by decide +kernel) (by decide +kernel) rfl rfl rfl rfl (fun _ _ _ _ h => h) rfl (fun W => (rn_move (hF3.get rfl))) ?_
  intro a9 hF10; clear hF3
  refine any_pure (i := 1) (v := (.int .i64 (n : Nat))) hF10 (by decide +kernel) (by decide +kernel) rfl rfl rfl rfl (fun _ _ _ _ h => h) rfl (fun W => (rn_move (hF10.get rfl))) ?_
  intro a11 hF12; clear hF10
  refine any_pure (i := 2) (v := (.int .u32 ((x >>> UInt32.ofNat n).toNat : Nat))) hF12 (by decide +kernel) (by decide +kernel) rfl rfl rfl rfl (fun _ _ _ _ h => h) rfl (fun W => (rn_shr32 (a := x) (n := n) (hF12.get rfl) (hF12.get rfl) (by omega))) ?_
  intro a13 hF14; clear hF12
  refine any_pure (i := 3) (v := (.int .u32 (x.toNat : Nat))) hF14 (by decide +kernel) (by decide +kernel) rfl rfl rfl rfl (fun _ _ _ _ h => h) rfl (fun W => (rn_move (hF14.get rfl))) ?_
  intro a15 hF16; clear hF14
  refine any_pure (i := 4) (v := (.int .i64 (n : Nat))) hF16 (by decide +kernel) (by decide +kernel) rfl rfl rfl rfl (fun _ _ _ _ h => h) rfl (fun W => (rn_move (hF16.get rfl))) ?_
  intro a17 hF18; clear hF16
  refine any_pure (i := 5) (v := (.int .i64 (32 - n : Nat))) hF18 (by decide +kernel) (by decide +kernel) rfl rfl rfl rfl (fun _ _ _ _ h => h) rfl (fun W => (rn_subN (a := 32) (b := n) rfl (hF18.get rfl) (by omega) (by omega))) ?_
  intro a19 hF20; clear hF18
  refine any_pure (i := 6) (v := (.int .u32 ((x <<< UInt32.ofNat (32 - n)).toNat : Nat))) hF20 (by decide +kernel) (by decide +kernel) rfl rfl rfl rfl (fun _ _ _ _ h => h) rfl (fun W => (rn_shl32 (a := x) (n := (32 - n)) (hF20.get rfl) (hF20.get rfl) (by omega))) ?_
  intro a21 hF22; clear hF20
  refine any_pure (i := 7) (v := (.int .u32 (((x >>> UInt32.ofNat n) ||| (x <<< UInt32.ofNat (32 - n))).toNat : Nat))) hF22 (by decide +kernel) (by decide +kernel) rfl rfl rfl rfl (fun _ _ _ _ h => h) rfl (fun W => (rn_or32 (a := (x >>> UInt32.ofNat n)) (b := (x <<< UInt32.ofNat (32 - n))) (hF22.get rfl) (hF22.get rfl))) ?_
  intro a23 hF24; clear hF22
  refine any_pure (i := 8) (v := (.int .u32 (((x >>> UInt32.ofNat n) ||| (x <<< UInt32.ofNat (32 - n))).toNat : Nat))) hF24 (by decide +kernel) (by decide +kernel) rfl rfl rfl rfl (fun _ _ _ _ h => h) rfl (fun W => (rn_assign (hF24.get rfl))) ?_
  intro a25 hF26; clear hF24
  refine any_nil (by decide +kernel) ?_
  refine hK4 _ _ ?_
  clear hK4
  have hF27 := (((hF26.nil.cons (hF26.get (t := 4) (v := (.int .u32 (((x >>> UInt32.ofNat n) ||| (x <<< UInt32.ofNat (32 - n))).toNat : Nat))) rfl)).cons (hF26.get (t := 1) (v := (.int .i64 (n : Nat))) rfl)).cons (hF26.get (t := 0) (v := (.int .u32 (x.toNat : Nat))) rfl))
  clear hF26
  refine wp_ret ?_
  refine ret1 hF27 rfl rfl ?_
  exact ⟨rfl, ((Ext.refl w).trans hx6)⟩

set_option maxRecDepth 100000 in
set_option maxHeartbeats 1000000 in
theorem rmix_any (xa xb xc xd xx xy : UInt32) (w : World) :
    Calls Tryd.prog 39 #[.int .u32 (xa.toNat : Nat), .int .u32 (xb.toNat : Nat), .int .u32 (xc.toNat : Nat), .int .u32 (xd.toNat : Nat), .int .u32 (xx.toNat : Nat), .int .u32 (xy.toNat : Nat)] w (fun e w' => e = .returned (.tuple #[.int .u32 ((mix4 xa xb xc xd xx xy).a.toNat : Nat), .int .u32 ((mix4 xa xb xc xd xx xy).b.toNat : Nat), .int .u32 ((mix4 xa xb xc xd xx xy).c.toNat : Nat), .int .u32 ((mix4 xa xb xc xd xx xy).d.toNat : Nat)]) ∧ Ext w w') := by
  refine calls_enter (l := [(.int .u32 (xa.toNat : Nat)), (.int .u32 (xb.toNat : Nat)), (.int .u32 (xc.toNat : Nat)), (.int .u32 (xd.toNat : Nat)), (.int .u32 (xx.toNat : Nat)), (.int .u32 (xy.toNat : Nat))]) Tryd.func39 rfl rfl rfl (fun aA hF => ?_)
  refine wp_seq_k (fun K1 hK1 => ?_)
  refine wp_region_lit ?_
  refine wpl_op (i := 0) rfl (o_val (v := (.int .u32 0)) hF rfl rfl rfl rfl (rn_assign rfl) ?_)
  intro a2 hF3; clear hF
  refine wpl_op (i := 1) rfl (o_val (v := (.int .u32 0)) hF3 rfl rfl rfl rfl (rn_assign rfl) ?_)
  intro a4 hF5; clear hF3
  refine wpl_op (i := 2) rfl (o_val (v := (.int .u32 0)) hF5 rfl rfl rfl rfl (rn_assign rfl) ?_)
  intro a6 hF7; clear hF5
  refine wpl_op (i := 3) rfl (o_val (v := (.int .u32 0)) hF7 rfl rfl rfl rfl (rn_assign rfl) ?_)
  intro a8 hF9; clear hF7
  refine wpList_nil ?_
  refine hK1 _ _ ?_
  clear hK1
  refine wp_seq_k (fun K10 hK10 => ?_)
  refine wp_region_lit ?_
  refine wpl_op (i := 0) rfl (o_val (v := (.int .u32 (xa.toNat : Nat))) hF9 rfl rfl rfl rfl (rn_move (hF9.get rfl)) ?_)
  intro a11 hF12; clear hF9
  refine wpl_op (i := 1) rfl (o_val (v := (.int .u32 (xb.toNat : Nat))) hF12 rfl rfl rfl rfl (rn_move (hF12.get rfl)) ?_)
  intro a13 hF14; clear hF12
  refine wpl_op (i := 2) rfl (o_val (v := (.int .u32 ((xa + xb).toNat : Nat))) hF14 rfl rfl rfl rfl (rn_add32 (a := xa) (b := xb) (hF14.get rfl) (hF14.get rfl)) ?_)
  intro a15 hF16; clear hF14
  refine wpl_op (i := 3) rfl (o_val (v := (.int .u32 (xx.toNat : Nat))) hF16 rfl rfl rfl rfl (rn_move (hF16.get rfl)) ?_)
  intro a17 hF18; clear hF16
  refine wpl_op (i := 4) rfl (o_val (v := (.int .u32 (((xa + xb) + xx).toNat : Nat))) hF18 rfl rfl rfl rfl (rn_add32 (a := (xa + xb)) (b := xx) (hF18.get rfl) (hF18.get rfl)) ?_)
  intro a19 hF20; clear hF18
  refine wpl_op (i := 5) rfl (o_val (v := (.int .u32 (((xa + xb) + xx).toNat : Nat))) hF20 rfl rfl rfl rfl (rn_assign (hF20.get rfl)) ?_)
  intro a21 hF22; clear hF20
  refine wpList_nil ?_
  refine hK10 _ _ ?_
  clear hK10
  have hF23 := ((((((((((hF22.nil.cons (hF22.get (t := 15) (v := (.int .u32 0)) rfl)).cons (hF22.get (t := 14) (v := (.int .u32 0)) rfl)).cons (hF22.get (t := 13) (v := (.int .u32 0)) rfl)).cons (hF22.get (t := 12) (v := (.int .u32 0)) rfl)).cons (hF22.get (t := 5) (v := (.int .u32 (xy.toNat : Nat))) rfl)).cons (hF22.get (t := 4) (v := (.int .u32 (xx.toNat : Nat))) rfl)).cons (hF22.get (t := 3) (v := (.int .u32 (xd.toNat : Nat))) rfl)).cons (hF22.get (t := 2) (v := (.int .u32 (xc.toNat : Nat))) rfl)).cons (hF22.get (t := 1) (v := (.int .u32 (xb.toNat : Nat))) rfl)).cons (hF22.get (t := 0) (v := (.int .u32 (((xa + xb) + xx).toNat : Nat))) rfl))
  clear hF22
  refine wp_seq_k (fun K24 hK24 => ?_)
  refine wp_region_lit ?_
  refine wpl_op (i := 0) rfl (o_val (v := (.int .u32 (xd.toNat : Nat))) hF23 rfl rfl rfl rfl (rn_move (hF23.get rfl)) ?_)
  intro a25 hF26; clear hF23
  refine wpl_op (i := 1) rfl (o_val (v := (.int .u32 (((xa + xb) + xx).toNat : Nat))) hF26 rfl rfl rfl rfl (rn_move (hF26.get rfl)) ?_)
  intro a27 hF28; clear hF26
  refine wpl_op (i := 2) rfl (o_val (v := (.int .u32 ((xd ^^^ ((xa + xb) + xx)).toNat : Nat))) hF28 rfl rfl rfl rfl (rn_xor32 (a := xd) (b := ((xa + xb) + xx)) (hF28.get rfl) (hF28.get rfl)) ?_)
  intro a29 hF30; clear hF28
  refine wpl_op (i := 3) rfl (o_call hF30 rfl rfl rfl rfl (rn_call (args2 (hF30.get rfl) rfl) rfl (by kernel_rfl)) (rror_any (xd ^^^ ((xa + xb) + xx)) 16 _ (by omega) (by omega)) ?_)
  rintro _ w31 ⟨rfl, hx32⟩
  refine ⟨_, rfl, ?_⟩; intro a33 hF34; clear hF30; have z35 := hx32.size
  refine wpl_op (i := 4) rfl (o_val (v := (.int .u32 ((ror (xd ^^^ ((xa + xb) + xx)) 16).toNat : Nat))) hF34 rfl rfl rfl rfl (rn_assign (hF34.get rfl)) ?_)
  intro a36 hF37; clear hF34
  refine wpList_nil ?_
  refine hK24 _ _ ?_
  clear hK24
  have hF38 := ((((((((((hF37.nil.cons (hF37.get (t := 15) (v := (.int .u32 0)) rfl)).cons (hF37.get (t := 14) (v := (.int .u32 0)) rfl)).cons (hF37.get (t := 13) (v := (.int .u32 0)) rfl)).cons (hF37.get (t := 12) (v := (.int .u32 0)) rfl)).cons (hF37.get (t := 5) (v := (.int .u32 (xy.toNat : Nat))) rfl)).cons (hF37.get (t := 4) (v := (.int .u32 (xx.toNat : Nat))) rfl)).cons (hF37.get (t := 3) (v := (.int .u32 ((ror (xd ^^^ ((xa + xb) + xx)) 16).toNat : Nat))) rfl)).cons (hF37.get (t := 2) (v := (.int .u32 (xc.toNat : Nat))) rfl)).cons (hF37.get (t := 1) (v := (.int .u32 (xb.toNat : Nat))) rfl)).cons (hF37.get (t := 0) (v := (.int .u32 (((xa + xb) + xx).toNat : Nat))) rfl))
  clear hF37
  refine wp_seq_k (fun K39 hK39 => ?_)
  refine wp_region_lit ?_
  refine wpl_op (i := 0) rfl (o_val (v := (.int .u32 (xc.toNat : Nat))) hF38 rfl rfl rfl rfl (rn_move (hF38.get rfl)) ?_)
  intro a40 hF41; clear hF38
  refine wpl_op (i := 1) rfl (o_val (v := (.int .u32 ((ror (xd ^^^ ((xa + xb) + xx)) 16).toNat : Nat))) hF41 rfl rfl rfl rfl (rn_move (hF41.get rfl)) ?_)
  intro a42 hF43; clear hF41
  refine wpl_op (i := 2) rfl (o_val (v := (.int .u32 ((xc + (ror (xd ^^^ ((xa + xb) + xx)) 16)).toNat : Nat))) hF43 rfl rfl rfl rfl (rn_add32 (a := xc) (b := (ror (xd ^^^ ((xa + xb) + xx)) 16)) (hF43.get rfl) (hF43.get rfl)) ?_)
  intro a44 hF45; clear hF43
  refine wpl_op (i := 3) rfl (o_val (v := (.int .u32 ((xc + (ror (xd ^^^ ((xa + xb) + xx)) 16)).toNat : Nat))) hF45 rfl rfl rfl rfl (rn_assign (hF45.get rfl)) ?_)
  intro a46 hF47; clear hF45
  refine wpList_nil ?_
  refine hK39 _ _ ?_
  clear hK39
  refine wp_seq_k (fun K48 hK48 => ?_)
  refine wp_region_lit ?_
  refine wpl_op (i := 0) rfl (o_val (v := (.int .u32 (xb.toNat : Nat))) hF47 rfl rfl rfl rfl (rn_move (hF47.get rfl)) ?_)
  intro a49 hF50; clear hF47
  refine wpl_op (i := 1) rfl (o_val (v := (.int .u32 ((xc + (ror (xd ^^^ ((xa + xb) + xx)) 16)).toNat : Nat))) hF50 rfl rfl rfl rfl (rn_move (hF50.get rfl)) ?_)
  intro a51 hF52; clear hF50
  refine wpl_op (i := 2) rfl (o_val (v := (.int .u32 ((xb ^^^ (xc + (ror (xd ^^^ ((xa + xb) + xx)) 16))).toNat : Nat))) hF52 rfl rfl rfl rfl (rn_xor32 (a := xb) (b := (xc + (ror (xd ^^^ ((xa + xb) + xx)) 16))) (hF52.get rfl) (hF52.get rfl)) ?_)
  intro a53 hF54; clear hF52
  refine wpl_op (i := 3) rfl (o_call hF54 rfl rfl rfl rfl (rn_call (args2 (hF54.get rfl) rfl) rfl (by kernel_rfl)) (rror_any (xb ^^^ (xc + (ror (xd ^^^ ((xa + xb) + xx)) 16))) 12 _ (by omega) (by omega)) ?_)
  rintro _ w55 ⟨rfl, hx56⟩
  refine ⟨_, rfl, ?_⟩; intro a57 hF58; clear hF54; have z59 := hx56.size
  refine wpl_op (i := 4) rfl (o_val (v := (.int .u32 ((ror (xb ^^^ (xc + (ror (xd ^^^ ((xa + xb) + xx)) 16))) 12).toNat : Nat))) hF58 rfl rfl rfl rfl (rn_assign (hF58.get rfl)) ?_)
  intro a60 hF61; clear hF58
  refine wpList_nil ?_
  refine hK48 _ _ ?_
  clear hK48
  have hF62 := ((((((((((hF61.nil.cons (hF61.get (t := 15) (v := (.int .u32 0)) rfl)).cons (hF61.get (t := 14) (v := (.int .u32 0)) rfl)).cons (hF61.get (t := 13) (v := (.int .u32 0)) rfl)).cons (hF61.get (t := 12) (v := (.int .u32 0)) rfl)).cons (hF61.get (t := 5) (v := (.int .u32 (xy.toNat : Nat))) rfl)).cons (hF61.get (t := 4) (v := (.int .u32 (xx.toNat : Nat))) rfl)).cons (hF61.get (t := 3) (v := (.int .u32 ((ror (xd ^^^ ((xa + xb) + xx)) 16).toNat : Nat))) rfl)).cons (hF61.get (t := 2) (v := (.int .u32 ((xc + (ror (xd ^^^ ((xa + xb) + xx)) 16)).toNat : Nat))) rfl)).cons (hF61.get (t := 1) (v := (.int .u32 ((ror (xb ^^^ (xc + (ror (xd ^^^ ((xa + xb) + xx)) 16))) 12).toNat : Nat))) rfl)).cons (hF61.get (t := 0) (v := (.int .u32 (((xa + xb) + xx).toNat : Nat))) rfl))
  clear hF61
  refine wp_seq_k (fun K63 hK63 => ?_)
  refine wp_region_lit ?_
  refine wpl_op (i := 0) rfl (o_val (v := (.int .u32 (((xa + xb) + xx).toNat : Nat))) hF62 rfl rfl rfl rfl (rn_move (hF62.get rfl)) ?_)
  intro a64 hF65; clear hF62
  refine wpl_op (i := 1) rfl (o_val (v := (.int .u32 ((ror (xb ^^^ (xc + (ror (xd ^^^ ((xa + xb) + xx)) 16))) 12).toNat : Nat))) hF65 rfl rfl rfl rfl (rn_move (hF65.get rfl)) ?_)
  intro a66 hF67; clear hF65
  refine wpl_op (i := 2) rfl (o_val (v := (.int .u32 ((((xa + xb) + xx) + (ror (xb ^^^ (xc + (ror (xd ^^^ ((xa + xb) + xx)) 16))) 12)).toNat : Nat))) hF67 rfl rfl rfl rfl (rn_add32 (a := ((xa + xb) + xx)) (b := (ror (xb ^^^ (xc + (ror (xd ^^^ ((xa + xb) + xx)) 16))) 12)) (hF67.get rfl) (hF67.get rfl)) ?_)
  intro a68 hF69; clear hF67
  refine wpl_op (i := 3) rfl (o_val (v := (.int .u32 (xy.toNat : Nat))) hF69 rfl rfl rfl rfl (rn_move (hF69.get rfl)) ?_)
  intro a70 hF71; clear hF69
  refine wpl_op (i := 4) rfl (o_val (v := (.int .u32 (((((xa + xb) + xx) + (ror (xb ^^^ (xc + (ror (xd ^^^ ((xa + xb) + xx)) 16))) 12)) + xy).toNat : Nat))) hF71 rfl rfl rfl rfl (rn_add32 (a := (((xa + xb) + xx) + (ror (xb ^^^ (xc + (ror (xd ^^^ ((xa + xb) + xx)) 16))) 12))) (b := xy) (hF71.get rfl) (hF71.get rfl)) ?_)
  intro a72 hF73; clear hF71
  refine wpl_op (i := 5) rfl (o_val (v := (.int .u32 (((((xa + xb) + xx) + (ror (xb ^^^ (xc + (ror (xd ^^^ ((xa + xb) + xx)) 16))) 12)) + xy).toNat : Nat))) hF73 rfl rfl rfl rfl (rn_assign (hF73.get rfl)) ?_)
  intro a74 hF75; clear hF73
  refine wpList_nil ?_
  refine hK63 _ _ ?_
  clear hK63
  have hF76 := ((((((((((hF75.nil.cons (hF75.get (t := 15) (v := (.int .u32 0)) rfl)).cons (hF75.get (t := 14) (v := (.int .u32 0)) rfl)).cons (hF75.get (t := 13) (v := (.int .u32 0)) rfl)).cons (hF75.get (t := 12) (v := (.int .u32 0)) rfl)).cons (hF75.get (t := 5) (v := (.int .u32 (xy.toNat : Nat))) rfl)).cons (hF75.get (t := 4) (v := (.int .u32 (xx.toNat : Nat))) rfl)).cons (hF75.get (t := 3) (v := (.int .u32 ((ror (xd ^^^ ((xa + xb) + xx)) 16).toNat : Nat))) rfl)).cons (hF75.get (t := 2) (v := (.int .u32 ((xc + (ror (xd ^^^ ((xa + xb) + xx)) 16)).toNat : Nat))) rfl)).cons (hF75.get (t := 1) (v := (.int .u32 ((ror (xb ^^^ (xc + (ror (xd ^^^ ((xa + xb) + xx)) 16))) 12).toNat : Nat))) rfl)).cons (hF75.get (t := 0) (v := (.int .u32 (((((xa + xb) + xx) + (ror (xb ^^^ (xc + (ror (xd ^^^ ((xa + xb) + xx)) 16))) 12)) + xy).toNat : Nat))) rfl))
  clear hF75
  refine wp_seq_k (fun K77 hK77 => ?_)
  refine wp_region_lit ?_
  refine wpl_op (i := 0) rfl (o_val (v := (.int .u32 ((ror (xd ^^^ ((xa + xb) + xx)) 16).toNat : Nat))) hF76 rfl rfl rfl rfl (rn_move (hF76.get rfl)) ?_)
  intro a78 hF79; clear hF76
  refine wpl_op (i := 1) rfl (o_val (v := (.int .u32 (((((xa + xb) + xx) + (ror (xb ^^^ (xc + (ror (xd ^^^ ((xa + xb) + xx)) 16))) 12)) + xy).toNat : Nat))) hF79 rfl rfl rfl rfl (rn_move (hF79.get rfl)) ?_)
  intro a80 hF81; clear hF79
  refine wpl_op (i := 2) rfl (o_val (v := (.int .u32 (((ror (xd ^^^ ((xa + xb) + xx)) 16) ^^^ ((((xa + xb) + xx) + (ror (xb ^^^ (xc + (ror (xd ^^^ ((xa + xb) + xx)) 16))) 12)) + xy)).toNat : Nat))) hF81 rfl rfl rfl rfl (rn_xor32 (a := (ror (xd ^^^ ((xa + xb) + xx)) 16)) (b := ((((xa + xb) + xx) + (ror (xb ^^^ (xc + (ror (xd ^^^ ((xa + xb) + xx)) 16))) 12)) + xy)) (hF81.get rfl) (hF81.get rfl)) ?_)
  intro a82 hF83; clear hF81
  refine wpl_op (i := 3) rfl (o_call hF83 rfl rfl rfl rfl (rn_call (args2 (hF83.get rfl) rfl) rfl (by kernel_rfl)) (rror_any ((ror (xd ^^^ ((xa + xb) + xx)) 16) ^^^ ((((xa + xb) + xx) + (ror (xb ^^^ (xc + (ror (xd ^^^ ((xa + xb) + xx)) 16))) 12)) + xy)) 8 _ (by omega) (by omega)) ?_)
  rintro _ w84 ⟨rfl, hx85⟩
  refine ⟨_, rfl, ?_⟩; intro a86 hF87; clear hF83; have z88 := hx85.size
  refine wpl_op (i := 4) rfl (o_val (v := (.int .u32 ((ror ((ror (xd ^^^ ((xa + xb) + xx)) 16) ^^^ ((((xa + xb) + xx) + (ror (xb ^^^ (xc + (ror (xd ^^^ ((xa + xb) + xx)) 16))) 12)) + xy)) 8).toNat : Nat))) hF87 rfl rfl rfl rfl (rn_assign (hF87.get rfl)) ?_)
  intro a89 hF90; clear hF87
  refine wpList_nil ?_
  refine hK77 _ _ ?_
  clear hK77
  have hF91 := ((((((((((hF90.nil.cons (hF90.get (t := 15) (v := (.int .u32 0)) rfl)).cons (hF90.get (t := 14) (v := (.int .u32 0)) rfl)).cons (hF90.get (t := 13) (v := (.int .u32 0)) rfl)).cons (hF90.get (t := 12) (v := (.int .u32 0)) rfl)).cons (hF90.get (t := 5) (v := (.int .u32 (xy.toNat : Nat))) rfl)).cons (hF90.get (t := 4) (v := (.int .u32 (xx.toNat : Nat))) rfl)).cons (hF90.get (t := 3) (v := (.int .u32 ((ror ((ror (xd ^^^ ((xa + xb) + xx)) 16) ^^^ ((((xa + xb) + xx) + (ror (xb ^^^ (xc + (ror (xd ^^^ ((xa + xb) + xx)) 16))) 12)) + xy)) 8).toNat : Nat))) rfl)).cons (hF90.get (t := 2) (v := (.int .u32 ((xc + (ror (xd ^^^ ((xa + xb) + xx)) 16)).toNat : Nat))) rfl)).cons (hF90.get (t := 1) (v := (.int .u32 ((ror (xb ^^^ (xc + (ror (xd ^^^ ((xa + xb) + xx)) 16))) 12).toNat : Nat))) rfl)).cons (hF90.get (t := 0) (v := (.int .u32 (((((xa + xb) + xx) + (ror (xb ^^^ (xc + (ror (xd ^^^ ((xa + xb) + xx)) 16))) 12)) + xy).toNat : Nat))) rfl))
  clear hF90
  refine wp_seq_k (fun K92 hK92 => ?_)
  refine wp_region_lit ?_
  refine wpl_op (i := 0) rfl (o_val (v := (.int .u32 ((xc + (ror (xd ^^^ ((xa + xb) + xx)) 16)).toNat : Nat))) hF91 rfl rfl rfl rfl (rn_move (hF91.get rfl)) ?_)
  intro a93 hF94; clear hF91
  refine wpl_op (i := 1) rfl (o_val (v := (.int .u32 ((ror ((ror (xd ^^^ ((xa + xb) + xx)) 16) ^^^ ((((xa + xb) + xx) + (ror (xb ^^^ (xc + (ror (xd ^^^ ((xa + xb) + xx)) 16))) 12)) + xy)) 8).toNat : Nat))) hF94 rfl rfl rfl rfl (rn_move (hF94.get rfl)) ?_)
  intro a95 hF96; clear hF94
  refine wpl_op (i := 2) rfl (o_val (v := (.int .u32 (((xc + (ror (xd ^^^ ((xa + xb) + xx)) 16)) + (ror ((ror (xd ^^^ ((xa + xb) + xx)) 16) ^^^ ((((xa + xb) + xx) + (ror (xb ^^^ (xc + (ror (xd ^^^ ((xa + xb) + xx)) 16))) 12)) + xy)) 8)).toNat : Nat))) hF96 rfl rfl rfl rfl (rn_add32 (a := (xc + (ror (xd ^^^ ((xa + xb) + xx)) 16))) (b := (ror ((ror (xd ^^^ ((xa + xb) + xx)) 16) ^^^ ((((xa + xb) + xx) + (ror (xb ^^^ (xc + (ror (xd ^^^ ((xa + xb) + xx)) 16))) 12)) + xy)) 8)) (hF96.get rfl) (hF96.get rfl)) ?_)
  intro a97 hF98; clear hF96
  refine wpl_op (i := 3) rfl (o_val (v := (.int .u32 (((xc + (ror (xd ^^^ ((xa + xb) + xx)) 16)) + (ror ((ror (xd ^^^ ((xa + xb) + xx)) 16) ^^^ ((((xa + xb) + xx) + (ror (xb ^^^ (xc + (ror (xd ^^^ ((xa + xb) + xx)) 16))) 12)) + xy)) 8)).toNat : Nat))) hF98 rfl rfl rfl rfl (rn_assign (hF98.get rfl)) ?_)
  intro a99 hF100; clear hF98
  refine wpList_nil ?_
  refine hK92 _ _ ?_
  clear hK92
  refine wp_seq_k (fun K101 hK101 => ?_)
  refine wp_region_lit ?_
  refine wpl_op (i := 0) rfl (o_val (v := (.int .u32 ((ror (xb ^^^ (xc + (ror (xd ^^^ ((xa + xb) + xx)) 16))) 12).toNat : Nat))) hF100 rfl rfl rfl rfl (rn_move (hF100.get rfl)) ?_)
  intro a102 hF103; clear hF100
  refine wpl_op (i := 1) rfl (o_val (v := (.int .u32 (((xc + (ror (xd ^^^ ((xa + xb) + xx)) 16)) + (ror ((ror (xd ^^^ ((xa + xb) + xx)) 16) ^^^ ((((xa + xb) + xx) + (ror (xb ^^^ (xc + (ror (xd ^^^ ((xa + xb) + xx)) 16))) 12)) + xy)) 8)).toNat : Nat))) hF103 rfl rfl rfl rfl (rn_move (hF103.get rfl)) ?_)
  intro a104 hF105; clear hF103
  refine wpl_op (i := 2) rfl (o_val (v := (.int .u32 (((ror (xb ^^^ (xc + (ror (xd ^^^ ((xa + xb) + xx)) 16))) 12) ^^^ ((xc + (ror (xd ^^^ ((xa + xb) + xx)) 16)) + (ror ((ror (xd ^^^ ((xa + xb) + xx)) 16) ^^^ ((((xa + xb) + xx) + (ror (xb ^^^ (xc + (ror (xd ^^^ ((xa + xb) + xx)) 16))) 12)) + xy)) 8))).toNat : Nat))) hF105 rfl rfl rfl rfl (rn_xor32 (a := (ror (xb ^^^ (xc + (ror (xd ^^^ ((xa + xb) + xx)) 16))) 12)) (b := ((xc + (ror (xd ^^^ ((xa + xb) + xx)) 16)) + (ror ((ror (xd ^^^ ((xa + xb) + xx)) 16) ^^^ ((((xa + xb) + xx) + (ror (xb ^^^ (xc + (ror (xd ^^^ ((xa + xb) + xx)) 16))) 12)) + xy)) 8))) (hF105.get rfl) (hF105.get rfl)) ?_)
  intro a106 hF107; clear hF105
  refine wpl_op (i := 3) rfl (o_call hF107 rfl rfl rfl rfl (rn_call (args2 (hF107.get rfl) rfl) rfl (by kernel_rfl)) (rror_any ((ror (xb ^^^ (xc + (ror (xd ^^^ ((xa + xb) + xx)) 16))) 12) ^^^ ((xc + (ror (xd ^^^ ((xa + xb) + xx)) 16)) + (ror ((ror (xd ^^^ ((xa + xb) + xx)) 16) ^^^ ((((xa + xb) + xx) + (ror (xb ^^^ (xc + (ror (xd ^^^ ((xa + xb) + xx)) 16))) 12)) + xy)) 8))) 7 _ (by omega) (by omega)) ?_)
  rintro _ w108 ⟨rfl, hx109⟩
  refine ⟨_, rfl, ?_⟩; intro a110 hF111; clear hF107; have z112 := hx109.size
  refine wpl_op (i := 4) rfl (o_val (v := (.int .u32 ((ror ((ror (xb ^^^ (xc + (ror (xd ^^^ ((xa + xb) + xx)) 16))) 12) ^^^ ((xc + (ror (xd ^^^ ((xa + xb) + xx)) 16)) + (ror ((ror (xd ^^^ ((xa + xb) + xx)) 16) ^^^ ((((xa + xb) + xx) + (ror (xb ^^^ (xc + (ror (xd ^^^ ((xa + xb) + xx)) 16))) 12)) + xy)) 8))) 7).toNat : Nat))) hF111 rfl rfl rfl rfl (rn_assign (hF111.get rfl)) ?_)
  intro a113 hF114; clear hF111
  refine wpList_nil ?_
  refine hK101 _ _ ?_
  clear hK101
  have hF115 := ((((((((((hF114.nil.cons (hF114.get (t := 15) (v := (.int .u32 0)) rfl)).cons (hF114.get (t := 14) (v := (.int .u32 0)) rfl)).cons (hF114.get (t := 13) (v := (.int .u32 0)) rfl)).cons (hF114.get (t := 12) (v := (.int .u32 0)) rfl)).cons (hF114.get (t := 5) (v := (.int .u32 (xy.toNat : Nat))) rfl)).cons (hF114.get (t := 4) (v := (.int .u32 (xx.toNat : Nat))) rfl)).cons (hF114.get (t := 3) (v := (.int .u32 ((ror ((ror (xd ^^^ ((xa + xb) + xx)) 16) ^^^ ((((xa + xb) + xx) + (ror (xb ^^^ (xc + (ror (xd ^^^ ((xa + xb) + xx)) 16))) 12)) + xy)) 8).toNat : Nat))) rfl)).cons (hF114.get (t := 2) (v := (.int .u32 (((xc + (ror (xd ^^^ ((xa + xb) + xx)) 16)) + (ror ((ror (xd ^^^ ((xa + xb) + xx)) 16) ^^^ ((((xa + xb) + xx) + (ror (xb ^^^ (xc + (ror (xd ^^^ ((xa + xb) + xx)) 16))) 12)) + xy)) 8)).toNat : Nat))) rfl)).cons (hF114.get (t := 1) (v := (.int .u32 ((ror ((ror (xb ^^^ (xc + (ror (xd ^^^ ((xa + xb) + xx)) 16))) 12) ^^^ ((xc + (ror (xd ^^^ ((xa + xb) + xx)) 16)) + (ror ((ror (xd ^^^ ((xa + xb) + xx)) 16) ^^^ ((((xa + xb) + xx) + (ror (xb ^^^ (xc + (ror (xd ^^^ ((xa + xb) + xx)) 16))) 12)) + xy)) 8))) 7).toNat : Nat))) rfl)).cons (hF114.get (t := 0) (v := (.int .u32 (((((xa + xb) + xx) + (ror (xb ^^^ (xc + (ror (xd ^^^ ((xa + xb) + xx)) 16))) 12)) + xy).toNat : Nat))) rfl))
  clear hF114
  refine wp_seq_k (fun K116 hK116 => ?_)
  refine wp_region_lit ?_
  refine wpl_op (i := 0) rfl (o_val (v := (.int .u32 (((((xa + xb) + xx) + (ror (xb ^^^ (xc + (ror (xd ^^^ ((xa + xb) + xx)) 16))) 12)) + xy).toNat : Nat))) hF115 rfl rfl rfl rfl (rn_move (hF115.get rfl)) ?_)
  intro a117 hF118; clear hF115
  refine wpl_op (i := 1) rfl (o_val (v := (.int .u32 ((ror ((ror (xb ^^^ (xc + (ror (xd ^^^ ((xa + xb) + xx)) 16))) 12) ^^^ ((xc + (ror (xd ^^^ ((xa + xb) + xx)) 16)) + (ror ((ror (xd ^^^ ((xa + xb) + xx)) 16) ^^^ ((((xa + xb) + xx) + (ror (xb ^^^ (xc + (ror (xd ^^^ ((xa + xb) + xx)) 16))) 12)) + xy)) 8))) 7).toNat : Nat))) hF118 rfl rfl rfl rfl (rn_move (hF118.get rfl)) ?_)
  intro a119 hF120; clear hF118
  refine wpl_op (i := 2) rfl (o_val (v := (.int .u32 (((xc + (ror (xd ^^^ ((xa + xb) + xx)) 16)) + (ror ((ror (xd ^^^ ((xa + xb) + xx)) 16) ^^^ ((((xa + xb) + xx) + (ror (xb ^^^ (xc + (ror (xd ^^^ ((xa + xb) + xx)) 16))) 12)) + xy)) 8)).toNat : Nat))) hF120 rfl rfl rfl rfl (rn_move (hF120.get rfl)) ?_)
  intro a121 hF122; clear hF120
  refine wpl_op (i := 3) rfl (o_val (v := (.int .u32 ((ror ((ror (xd ^^^ ((xa + xb) + xx)) 16) ^^^ ((((xa + xb) + xx) + (ror (xb ^^^ (xc + (ror (xd ^^^ ((xa + xb) + xx)) 16))) 12)) + xy)) 8).toNat : Nat))) hF122 rfl rfl rfl rfl (rn_move (hF122.get rfl)) ?_)
  intro a123 hF124; clear hF122
  refine wpl_op (i := 4) rfl (o_val (v := (.int .u32 (((((xa + xb) + xx) + (ror (xb ^^^ (xc + (ror (xd ^^^ ((xa + xb) + xx)) 16))) 12)) + xy).toNat : Nat))) hF124 rfl rfl rfl rfl (rn_assign (hF124.get rfl)) ?_)
  intro a125 hF126; clear hF124
  refine wpl_op (i := 5) rfl (o_val (v := (.int .u32 ((ror ((ror (xb ^^^ (xc + (ror (xd ^^^ ((xa + xb) + xx)) 16))) 12) ^^^ ((xc + (ror (xd ^^^ ((xa + xb) + xx)) 16)) + (ror ((ror (xd ^^^ ((xa + xb) + xx)) 16) ^^^ ((((xa + xb) + xx) + (ror (xb ^^^ (xc + (ror (xd ^^^ ((xa + xb) + xx)) 16))) 12)) + xy)) 8))) 7).toNat : Nat))) hF126 rfl rfl rfl rfl (rn_assign (hF126.get rfl)) ?_)
  intro a127 hF128; clear hF126
  refine wpl_op (i := 6) rfl (o_val (v := (.int .u32 (((xc + (ror (xd ^^^ ((xa + xb) + xx)) 16)) + (ror ((ror (xd ^^^ ((xa + xb) + xx)) 16) ^^^ ((((xa + xb) + xx) + (ror (xb ^^^ (xc + (ror (xd ^^^ ((xa + xb) + xx)) 16))) 12)) + xy)) 8)).toNat : Nat))) hF128 rfl rfl rfl rfl (rn_assign (hF128.get rfl)) ?_)
  intro a129 hF130; clear hF128
  refine wpl_op (i := 7) rfl (o_val (v := (.int .u32 ((ror ((ror (xd ^^^ ((xa + xb) + xx)) 16) ^^^ ((((xa + xb) + xx) + (ror (xb ^^^ (xc + (ror (xd ^^^ ((xa + xb) + xx)) 16))) 12)) + xy)) 8).toNat : Nat))) hF130 rfl rfl rfl rfl (rn_assign (hF130.get rfl)) ?_)
  intro a131 hF132; clear hF130
  refine wpList_nil ?_
  refine hK116 _ _ ?_
  clear hK116
  have hF133 := ((((((((((hF132.nil.cons (hF132.get (t := 15) (v := (.int .u32 ((ror ((ror (xd ^^^ ((xa + xb) + xx)) 16) ^^^ ((((xa + xb) + xx) + (ror (xb ^^^ (xc + (ror (xd ^^^ ((xa + xb) + xx)) 16))) 12)) + xy)) 8).toNat : Nat))) rfl)).cons (hF132.get (t := 14) (v := (.int .u32 (((xc + (ror (xd ^^^ ((xa + xb) + xx)) 16)) + (ror ((ror (xd ^^^ ((xa + xb) + xx)) 16) ^^^ ((((xa + xb) + xx) + (ror (xb ^^^ (xc + (ror (xd ^^^ ((xa + xb) + xx)) 16))) 12)) + xy)) 8)).toNat : Nat))) rfl)).cons (hF132.get (t := 13) (v := (.int .u32 ((ror ((ror (xb ^^^ (xc + (ror (xd ^^^ ((xa + xb) + xx)) 16))) 12) ^^^ ((xc + (ror (xd ^^^ ((xa + xb) + xx)) 16)) + (ror ((ror (xd ^^^ ((xa + xb) + xx)) 16) ^^^ ((((xa + xb) + xx) + (ror (xb ^^^ (xc + (ror (xd ^^^ ((xa + xb) + xx)) 16))) 12)) + xy)) 8))) 7).toNat : Nat))) rfl)).cons (hF132.get (t := 12) (v := (.int .u32 (((((xa + xb) + xx) + (ror (xb ^^^ (xc + (ror (xd ^^^ ((xa + xb) + xx)) 16))) 12)) + xy).toNat : Nat))) rfl)).cons (hF132.get (t := 5) (v := (.int .u32 (xy.toNat : Nat))) rfl)).cons (hF132.get (t := 4) (v := (.int .u32 (xx.toNat : Nat))) rfl)).cons (hF132.get (t := 3) (v := (.int .u32 ((ror ((ror (xd ^^^ ((xa + xb) + xx)) 16) ^^^ ((((xa + xb) + xx) + (ror (xb ^^^ (xc + (ror (xd ^^^ ((xa + xb) + xx)) 16))) 12)) + xy)) 8).toNat : Nat))) rfl)).cons (hF132.get (t := 2) (v := (.int .u32 (((xc + (ror (xd ^^^ ((xa + xb) + xx)) 16)) + (ror ((ror (xd ^^^ ((xa + xb) + xx)) 16) ^^^ ((((xa + xb) + xx) + (ror (xb ^^^ (xc + (ror (xd ^^^ ((xa + xb) + xx)) 16))) 12)) + xy)) 8)).toNat : Nat))) rfl)).cons (hF132.get (t := 1) (v := (.int .u32 ((ror ((ror (xb ^^^ (xc + (ror (xd ^^^ ((xa + xb) + xx)) 16))) 12) ^^^ ((xc + (ror (xd ^^^ ((xa + xb) + xx)) 16)) + (ror ((ror (xd ^^^ ((xa + xb) + xx)) 16) ^^^ ((((xa + xb) + xx) + (ror (xb ^^^ (xc + (ror (xd ^^^ ((xa + xb) + xx)) 16))) 12)) + xy)) 8))) 7).toNat : Nat))) rfl)).cons (hF132.get (t := 0) (v := (.int .u32 (((((xa + xb) + xx) + (ror (xb ^^^ (xc + (ror (xd ^^^ ((xa + xb) + xx)) 16))) 12)) + xy).toNat : Nat))) rfl))
  clear hF132
  refine wp_ret ?_
  refine ret4 hF133 rfl rfl rfl rfl rfl ?_
  exact ⟨rfl, (((((Ext.refl w).trans hx32).trans hx56).trans hx85).trans hx109)⟩

set_option maxRecDepth 100000 in
set_option maxHeartbeats 1000000 in
theorem rinitial_any (w : World) :
    Calls Tryd.prog 25 #[] w (fun e w' => e = .returned (.agg (u32Vals iv).toArray) ∧ Ext w w') := by
  refine calls_enter (l := []) Tryd.func25 rfl rfl rfl (fun aA hF => ?_)
  refine wp_seq_k (fun K1 hK1 => ?_)
  refine wp_region_lit ?_
  refine wpl_op (i := 0) rfl (o_new (fun g => (.pointer (some ⟨g, 0, none⟩))) (u32Vals (List.replicate 8 0)) 48 hF rfl rfl rfl rfl (by kernel_rfl) ?_)
  intro g2 w3 a8 hF9 z6 z7 b4 hx5; clear hF
  refine wpList_nil ?_
  refine hK1 _ _ ?_
  clear hK1
  refine wp_seq_k (fun K10 hK10 => ?_)
  refine wp_region_lit ?_
  refine wpl_op (i := 0) rfl (o_val (v := (.agg (u32Vals ([(1779033703 : UInt32), (3144134277 : UInt32), (1013904242 : UInt32), (2773480762 : UInt32), (1359893119 : UInt32), (2600822924 : UInt32), (528734635 : UInt32), (1541459225 : UInt32)])).toArray)) hF9 rfl rfl rfl rfl (rn_build (parts8 rfl rfl rfl rfl rfl rfl rfl rfl) (by kernel_rfl)) ?_)
  intro a11 hF12; clear hF9
  refine wpl_op (i := 1) rfl (o_store (cells := (u32Vals ([(1779033703 : UInt32), (3144134277 : UInt32), (1013904242 : UInt32), (2773480762 : UInt32), (1359893119 : UInt32), (2600822924 : UInt32), (528734635 : UInt32), (1541459225 : UInt32)]))) hF12 rfl rfl rfl rfl (hF12.get rfl) (hF12.get rfl) b4 ((by kernel_rfl : (Tryd.prog.info? 48).map (·.size) = some 8).trans (congrArg some (u32Vals_len (show List.length [(1779033703 : UInt32), (3144134277 : UInt32), (1013904242 : UInt32), (2773480762 : UInt32), (1359893119 : UInt32), (2600822924 : UInt32), (528734635 : UInt32), (1541459225 : UInt32)] = 8 from rfl)).symm)) ((u32Vals_len (show List.length (List.replicate 8 0) = _ from List.length_replicate)).trans (u32Vals_len (show List.length [(1779033703 : UInt32), (3144134277 : UInt32), (1013904242 : UInt32), (2773480762 : UInt32), (1359893119 : UInt32), (2600822924 : UInt32), (528734635 : UInt32), (1541459225 : UInt32)] = 8 from rfl)).symm) (u32Vals_one _) ?_)
  intro w13 b14 hg15; have z16 := hg15.size
  refine wpList_nil ?_
  refine hK10 _ _ ?_
  clear hK10
  refine wp_ret ?_
  refine retC hF12 rfl rfl b14 Tryd.underlying48 rfl ((by kernel_rfl : (Tryd.prog.info? 48).map (·.size) = some 8).trans (congrArg some (u32Vals_len (show List.length [(1779033703 : UInt32), (3144134277 : UInt32), (1013904242 : UInt32), (2773480762 : UInt32), (1359893119 : UInt32), (2600822924 : UInt32), (528734635 : UInt32), (1541459225 : UInt32)] = 8 from rfl)).symm)) ?_
  exact ⟨rfl, (((Ext.refl w).trans hx5).grownN hg15 (by omega))⟩

set_option maxRecDepth 100000 in
set_option maxHeartbeats 1000000 in
theorem rperm_any (w : World) :
    Calls Tryd.prog 38 #[] w (fun e w' => e = .returned (.agg (intVals permI).toArray) ∧ Ext w w') := by
  refine calls_enter (l := []) Tryd.func38 rfl rfl rfl (fun aA hF => ?_)
  refine wp_seq_k (fun K1 hK1 => ?_)
  refine wp_region_lit ?_
  refine wpl_op (i := 0) rfl (o_new (fun g => (.pointer (some ⟨g, 0, none⟩))) (intVals (List.replicate 160 0)) 70 hF rfl rfl rfl rfl (by kernel_rfl) ?_)
  intro g2 w3 a8 hF9 z6 z7 b4 hx5; clear hF
  refine wpList_nil ?_
  refine hK1 _ _ ?_
  clear hK1
  refine wp_seq_k (fun K10 hK10 => ?_)
  refine wp_region_lit ?_
  refine wpl_op (i := 0) rfl (o_val (v := (.agg (intVals ([(0 : Int), (1 : Int), (2 : Int), (3 : Int), (4 : Int), (5 : Int), (6 : Int), (7 : Int), (8 : Int), (9 : Int), (10 : Int), (11 : Int), (12 : Int), (13 : Int), (14 : Int), (15 : Int)])).toArray)) hF9 rfl rfl rfl rfl (rn_build (parts16 (fun _ => rfl)) (by kernel_rfl)) ?_)
  intro a11 hF12; clear hF9
  refine wpl_op (i := 1) rfl (o_val (v := (.agg (intVals ([(14 : Int), (10 : Int), (4 : Int), (8 : Int), (9 : Int), (15 : Int), (13 : Int), (6 : Int), (1 : Int), (12 : Int), (0 : Int), (2 : Int), (11 : Int), (7 : Int), (5 : Int), (3 : Int)])).toArray)) hF12 rfl rfl rfl rfl (rn_build (parts16 (fun _ => rfl)) (by kernel_rfl)) ?_)
  intro a13 hF14; clear hF12
  refine wpl_op (i := 2) rfl (o_val (v := (.agg (intVals ([(11 : Int), (8 : Int), (12 : Int), (0 : Int), (5 : Int), (2 : Int), (15 : Int), (13 : Int), (10 : Int), (14 : Int), (3 : Int), (6 : Int), (7 : Int), (1 : Int), (9 : Int), (4 : Int)])).toArray)) hF14 rfl rfl rfl rfl (rn_build (parts16 (fun _ => rfl)) (by kernel_rfl)) ?_)
  intro a15 hF16; clear hF14
  refine wpl_op (i := 3) rfl (o_val (v := (.agg (intVals ([(7 : Int), (9 : Int), (3 : Int), (1 : Int), (13 : Int), (12 : Int), (11 : Int), (14 : Int), (2 : Int), (6 : Int), (5 : Int), (10 : Int), (4 : Int), (0 : Int), (15 : Int), (8 : Int)])).toArray)) hF16 rfl rfl rfl rfl (rn_build (parts16 (fun _ => rfl)) (by kernel_rfl)) ?_)
  intro a17 hF18; clear hF16
  refine wpl_op (i := 4) rfl (o_val (v := (.agg (intVals ([(9 : Int), (0 : Int), (5 : Int), (7 : Int), (2 : Int), (4 : Int), (10 : Int), (15 : Int), (14 : Int), (1 : Int), (11 : Int), (12 : Int), (6 : Int), (8 : Int), (3 : Int), (13 : Int)])).toArray)) hF18 rfl rfl rfl rfl (rn_build (parts16 (fun _ => rfl)) (by kernel_rfl)) ?_)
  intro a19 hF20; clear hF18
  refine wpl_op (i := 5) rfl (o_val (v := (.agg (intVals ([(2 : Int), (12 : Int), (6 : Int), (10 : Int), (0 : Int), (11 : Int), (8 : Int), (3 : Int), (4 : Int), (13 : Int), (7 : Int), (5 : Int), (15 : Int), (14 : Int), (1 : Int), (9 : Int)])).toArray)) hF20 rfl rfl rfl rfl (rn_build (parts16 (fun _ => rfl)) (by kernel_rfl)) ?_)
  intro a21 hF22; clear hF20
  refine wpl_op (i := 6) rfl (o_val (v := (.agg (intVals ([(12 : Int), (5 : Int), (1 : Int), (15 : Int), (14 : Int), (13 : Int), (4 : Int), (10 : Int), (0 : Int), (7 : Int), (6 : Int), (3 : Int), (9 : Int), (2 : Int), (8 : Int), (11 : Int)])).toArray)) hF22 rfl rfl rfl rfl (rn_build (parts16 (fun _ => rfl)) (by kernel_rfl)) ?_)
  intro a23 hF24; clear hF22
  refine wpl_op (i := 7) rfl (o_val (v := (.agg (intVals ([(13 : Int), (11 : Int), (7 : Int), (14 : Int), (12 : Int), (1 : Int), (3 : Int), (9 : Int), (5 : Int), (0 : Int), (15 : Int), (4 : Int), (8 : Int), (6 : Int), (2 : Int), (10 : Int)])).toArray)) hF24 rfl rfl rfl rfl (rn_build (parts16 (fun _ => rfl)) (by kernel_rfl)) ?_)
  intro a25 hF26; clear hF24
  refine wpl_op (i := 8) rfl (o_val (v := (.agg (intVals ([(6 : Int), (15 : Int), (14 : Int), (9 : Int), (11 : Int), (3 : Int), (0 : Int), (8 : Int), (12 : Int), (2 : Int), (13 : Int), (7 : Int), (1 : Int), (4 : Int), (10 : Int), (5 : Int)])).toArray)) hF26 rfl rfl rfl rfl (rn_build (parts16 (fun _ => rfl)) (by kernel_rfl)) ?_)
  intro a27 hF28; clear hF26
  refine wpl_op (i := 9) rfl (o_val (v := (.agg (intVals ([(10 : Int), (2 : Int), (8 : Int), (4 : Int), (7 : Int), (6 : Int), (1 : Int), (5 : Int), (15 : Int), (11 : Int), (9 : Int), (14 : Int), (3 : Int), (12 : Int), (13 : Int), (0 : Int)])).toArray)) hF28 rfl rfl rfl rfl (rn_build (parts16 (fun _ => rfl)) (by kernel_rfl)) ?_)
  intro a29 hF30; clear hF28
  refine wpl_op (i := 10) rfl (o_val (v := (.agg (intVals permI).toArray)) hF30 rfl rfl rfl rfl (rn_build (parts10 (hF30.get rfl) (hF30.get rfl) (hF30.get rfl) (hF30.get rfl) (hF30.get rfl) (hF30.get rfl) (hF30.get rfl) (hF30.get rfl) (hF30.get rfl) (hF30.get rfl)) (by kernel_rfl)) ?_)
  intro a31 hF32; clear hF30
  refine wpl_op (i := 11) rfl (o_store (cells := (intVals permI)) hF32 rfl rfl rfl rfl (hF32.get rfl) (hF32.get rfl) b4 ((by kernel_rfl : (Tryd.prog.info? 70).map (·.size) = some 160).trans (congrArg some (intVals_len permI_len).symm)) ((intVals_len (show List.length (List.replicate 160 0) = _ from List.length_replicate)).trans (intVals_len permI_len).symm) (intVals_one _) ?_)
  intro w33 b34 hg35; have z36 := hg35.size
  refine wpList_nil ?_
  refine hK10 _ _ ?_
  clear hK10
  have hF37 := (hF32.nil.cons (hF32.get (t := 0) (v := (.pointer (some ⟨g2, 0, none⟩))) rfl))
  clear hF32
  refine wp_ret ?_
  refine retC hF37 rfl rfl b34 Tryd.underlying70 rfl ((by kernel_rfl : (Tryd.prog.info? 70).map (·.size) = some 160).trans (congrArg some (intVals_len permI_len).symm)) ?_
  exact ⟨rfl, (((Ext.refl w).trans hx5).grownN hg35 (by omega))⟩

end Go.Proofs.YtgodliookpgliaaDoor
