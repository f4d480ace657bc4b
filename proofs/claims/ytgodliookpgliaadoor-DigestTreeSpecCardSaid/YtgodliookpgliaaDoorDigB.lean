/- Contract of mix. -/
import Derived.Test.YtgodliookpgliaaDoorDigA
namespace Go.Proofs.YtgodliookpgliaaDoor
open Go.RowKit

variable {S S' : Nat → Prop}

theorem grow_refl (w : World) (g : Nat) : w.grownBy w (some g) := ⟨rfl, rfl, rfl, Nat.le_refl _, fun _ _ _ => rfl⟩
theorem grow_set {w w1 w2 : World} {g : Nat} (h : w.grownBy w1 (some g)) (k : w1.grownBy w2 (some g)) : w.grownBy w2 (some g) :=
  ⟨k.os.trans h.os, k.tape.trans h.tape, k.output.trans h.output, Nat.le_trans h.size k.size, fun i hi hn => (k.block i (Nat.lt_of_lt_of_le hi h.size) hn).trans (h.block i hi hn)⟩
theorem grow_ext {w w1 w2 : World} {g : Nat} (h : w.grownBy w1 (some g)) (k : Ext w1 w2) : w.grownBy w2 (some g) :=
  grow_set h ⟨k.below.os, k.below.tape, k.below.output, k.size, fun i hi _ => k.below.block i hi⟩
def mixSeq (v : List UInt32) (a b c d : Nat) (x y : UInt32) : List UInt32 :=
  let v1 := v.set a (v.getD a 0 + (v.getD b 0 + x))
  let v2 := v1.set d (ror (v1.getD d 0 ^^^ v1.getD a 0) 16)
  let v3 := v2.set c (v2.getD c 0 + v2.getD d 0)
  let v4 := v3.set b (ror (v3.getD b 0 ^^^ v3.getD c 0) 12)
  let v5 := v4.set a (v4.getD a 0 + (v4.getD b 0 + y))
  let v6 := v5.set d (ror (v5.getD d 0 ^^^ v5.getD a 0) 8)
  let v7 := v6.set c (v6.getD c 0 + v6.getD d 0)
  v7.set b (ror (v7.getD b 0 ^^^ v7.getD c 0) 7)
theorem mix_chain {v v1 v2 v3 v4 v5 v6 v7 v8 : List UInt32} {a b c d : Nat} {x y : UInt32} (e1 : v1 = v.set a (v.getD a 0 + (v.getD b 0 + x))) (e2 : v2 = v1.set d (ror (v1.getD d 0 ^^^ v1.getD a 0) 16)) (e3 : v3 = v2.set c (v2.getD c 0 + v2.getD d 0)) (e4 : v4 = v3.set b (ror (v3.getD b 0 ^^^ v3.getD c 0) 12))
    (e5 : v5 = v4.set a (v4.getD a 0 + (v4.getD b 0 + y))) (e6 : v6 = v5.set d (ror (v5.getD d 0 ^^^ v5.getD a 0) 8)) (e7 : v7 = v6.set c (v6.getD c 0 + v6.getD d 0)) (e8 : v8 = v7.set b (ror (v7.getD b 0 ^^^ v7.getD c 0) 7)) : v8 = mixSeq v a b c d x y := by
  subst e1 e2 e3 e4 e5 e6 e7 e8; rfl

set_option maxRecDepth 100000 in
set_option maxHeartbeats 1000000 in
theorem mix_any (g : Nat) (v : List UInt32) (ia ib ic id_ : Nat) (x y : UInt32) (w : World) (hb : Blk w g 63 (u32Vals v)) (h16 : v.length = 16) (ha : ia < 16) (hb' : ib < 16) (hc : ic < 16) (hd : id_ < 16) :
    Calls Tryd.prog 37 #[.pointer (some ⟨g, 0, none⟩), .int .i64 (ia : Nat), .int .i64 (ib : Nat), .int .i64 (ic : Nat), .int .i64 (id_ : Nat), .int .u32 (x.toNat : Nat), .int .u32 (y.toNat : Nat)] w (fun e w' => e = .returned (.tuple #[]) ∧ Blk w' g 63 (u32Vals (mixSeq v ia ib ic id_ x y)) ∧ w.grownBy w' (some g)) := by
  refine calls_enter (l := [(.pointer (some ⟨g, 0, none⟩)), (.int .i64 (ia : Nat)), (.int .i64 (ib : Nat)), (.int .i64 (ic : Nat)), (.int .i64 (id_ : Nat)), (.int .u32 (x.toNat : Nat)), (.int .u32 (y.toNat : Nat))]) Tryd.func37 rfl rfl rfl (fun a hF => ?_)
  refine wp_seq_k (fun K1 hK1 => ?_)
  have hx3 : ∃ W, w.drew = W ∧ Ext w W := ⟨_, rfl, (Ext.refl _).drew⟩
  obtain ⟨w2, e4, hx3⟩ := hx3
  have z5 := hx3.size
  refine any_start (fun W => Ext w2 W ∧ Blk W g 63 (u32Vals v)) (fun i => i == 15) 16 #[false, false, false, false, false, false, false, false, false, false, false, false, false, false, false, false] rfl rfl rfl ?_
  rw [e4]; clear e4
  refine any_pure (i := 0) (v := (.pointer (some ⟨g, 0, none⟩))) hF (by decide +kernel) (by decide +kernel) rfl rfl rfl rfl (fun _ _ _ _ h => h) rfl (fun W => (rn_move (hF.get rfl))) ?_
  intro a6 hF7; clear hF
  refine any_pure (i := 1) (v := (.int .i64 (ia : Nat))) hF7 (by decide +kernel) (by decide +kernel) rfl rfl rfl rfl (fun _ _ _ _ h => h) rfl (fun W => (rn_move (hF7.get rfl))) ?_
  intro a8 hF9; clear hF7
  refine any_pure (i := 2) (v := (.pointer (some ⟨g, 0, none⟩))) hF9 (by decide +kernel) (by decide +kernel) rfl rfl rfl rfl (fun _ _ _ _ h => h) rfl (fun W => (rn_nil (hF9.get rfl))) ?_
  intro a10 hF11; clear hF9
  refine any_pure (i := 3) (v := (.pointer (some ⟨g, 0 + ia, none⟩))) hF11 (by decide +kernel) (by decide +kernel) rfl rfl rfl rfl (fun _ _ _ _ h => h) rfl (fun W => (rn_indexArr Tryd.underlying63 (by kernel_rfl : (Tryd.prog.info? 47).map (·.size) = some 1) (hF11.get rfl) (hF11.get rfl) (by omega : (0 : Int) ≤ (ia : Nat)) (by omega : ((ia : Nat) : Int) < ((16 : Nat) : Int)))) ?_
  intro a12 hF13; clear hF11
  have b15 : Blk w2 g 63 (u32Vals v) := (hb.ext hx3)
  have hS14 : Ext w2 w2 ∧ Blk w2 g 63 (u32Vals v) := ⟨(Ext.refl w2), b15⟩
  refine any_val (i := 4) (v := (.int .u32 ((v.getD ia 0).toNat : Nat))) hF13 (by decide +kernel) (by decide +kernel) rfl rfl rfl rfl (fun _ _ _ _ h => h) rfl hS14 (fun W hW => (rn_load (isAgg_no Tryd.underlying47 rfl) (hF13.get rfl) (blk_word hW.2 (by omega) (by have := (show List.length v = _ from h16); omega)))) ?_
  intro a16 hF17; clear hF13
  refine any_pure (i := 5) (v := (.pointer (some ⟨g, 0, none⟩))) hF17 (by decide +kernel) (by decide +kernel) rfl rfl rfl rfl (fun _ _ _ _ h => h) rfl (fun W => (rn_move (hF17.get rfl))) ?_
  intro a18 hF19; clear hF17
  refine any_pure (i := 6) (v := (.int .i64 (ib : Nat))) hF19 (by decide +kernel) (by decide +kernel) rfl rfl rfl rfl (fun _ _ _ _ h => h) rfl (fun W => (rn_move (hF19.get rfl))) ?_
  intro a20 hF21; clear hF19
  refine any_pure (i := 7) (v := (.pointer (some ⟨g, 0, none⟩))) hF21 (by decide +kernel) (by decide +kernel) rfl rfl rfl rfl (fun _ _ _ _ h => h) rfl (fun W => (rn_nil (hF21.get rfl))) ?_
  intro a22 hF23; clear hF21
  refine any_pure (i := 8) (v := (.pointer (some ⟨g, 0 + ib, none⟩))) hF23 (by decide +kernel) (by decide +kernel) rfl rfl rfl rfl (fun _ _ _ _ h => h) rfl (fun W => (rn_indexArr Tryd.underlying63 (by kernel_rfl : (Tryd.prog.info? 47).map (·.size) = some 1) (hF23.get rfl) (hF23.get rfl) (by omega : (0 : Int) ≤ (ib : Nat)) (by omega : ((ib : Nat) : Int) < ((16 : Nat) : Int)))) ?_
  intro a24 hF25; clear hF23
  refine any_val (i := 9) (v := (.int .u32 ((v.getD ib 0).toNat : Nat))) hF25 (by decide +kernel) (by decide +kernel) rfl rfl rfl rfl (fun _ _ _ _ h => h) rfl hS14 (fun W hW => (rn_load (isAgg_no Tryd.underlying47 rfl) (hF25.get rfl) (blk_word hW.2 (by omega) (by have := (show List.length v = _ from h16); omega)))) ?_
  intro a26 hF27; clear hF25
  refine any_pure (i := 10) (v := (.int .u32 (x.toNat : Nat))) hF27 (by decide +kernel) (by decide +kernel) rfl rfl rfl rfl (fun _ _ _ _ h => h) rfl (fun W => (rn_move (hF27.get rfl))) ?_
  intro a28 hF29; clear hF27
  refine any_pure (i := 11) (v := (.int .u32 (((v.getD ib 0) + x).toNat : Nat))) hF29 (by decide +kernel) (by decide +kernel) rfl rfl rfl rfl (fun _ _ _ _ h => h) rfl (fun W => (rn_add32 (a := (v.getD ib 0)) (b := x) (hF29.get rfl) (hF29.get rfl))) ?_
  intro a30 hF31; clear hF29
  refine any_pure (i := 12) (v := (.int .u32 (((v.getD ia 0) + ((v.getD ib 0) + x)).toNat : Nat))) hF31 (by decide +kernel) (by decide +kernel) rfl rfl rfl rfl (fun _ _ _ _ h => h) rfl (fun W => (rn_add32 (a := (v.getD ia 0)) (b := ((v.getD ib 0) + x)) (hF31.get rfl) (hF31.get rfl))) ?_
  intro a32 hF33; clear hF31
  refine any_pure (i := 13) (v := (.pointer (some ⟨g, 0, none⟩))) hF33 (by decide +kernel) (by decide +kernel) rfl rfl rfl rfl (fun _ _ _ _ h => h) rfl (fun W => (rn_nil (hF33.get rfl))) ?_
  intro a34 hF35; clear hF33
  refine any_pure (i := 14) (v := (.pointer (some ⟨g, 0 + ia, none⟩))) hF35 (by decide +kernel) (by decide +kernel) rfl rfl rfl rfl (fun _ _ _ _ h => h) rfl (fun W => (rn_indexArr Tryd.underlying63 (by kernel_rfl : (Tryd.prog.info? 47).map (·.size) = some 1) (hF35.get rfl) (hF35.get rfl) (by omega : (0 : Int) ≤ (ia : Nat)) (by omega : ((ia : Nat) : Int) < ((16 : Nat) : Int)))) ?_
  intro a36 hF37; clear hF35
  refine any_one (i := 15) (by decide +kernel) rfl ?_
  refine o_store1 (new := (u32Vals (v.set ia ((v.getD ia 0) + ((v.getD ib 0) + x))))) hF37 rfl rfl rfl rfl (hF37.get rfl) (hF37.get rfl) b15 (by kernel_rfl : (Tryd.prog.info? 47).map (·.size) = some 1) (by rw [u32Vals_len h16]; omega) rfl (u32Vals_set (by omega)) ?_
  intro w38 b39 hg40; have z41 := hg40.size
  obtain ⟨v42, e43⟩ : ∃ z, z = v.set ia ((v.getD ia 0) + ((v.getD ib 0) + x)) := ⟨_, rfl⟩
  have hl44 : v42.length = 16 := by rw [e43, List.length_set]; exact h16
  rw [← e43] at b39
  refine ⟨fun h => absurd h (by decide), ?_⟩
  refine any_nil (by decide +kernel) ?_
  refine hK1 _ _ ?_
  clear hK1
  have hF45 := (((((((hF37.nil.cons (hF37.get (t := 6) (v := (.int .u32 (y.toNat : Nat))) rfl)).cons (hF37.get (t := 5) (v := (.int .u32 (x.toNat : Nat))) rfl)).cons (hF37.get (t := 4) (v := (.int .i64 (id_ : Nat))) rfl)).cons (hF37.get (t := 3) (v := (.int .i64 (ic : Nat))) rfl)).cons (hF37.get (t := 2) (v := (.int .i64 (ib : Nat))) rfl)).cons (hF37.get (t := 1) (v := (.int .i64 (ia : Nat))) rfl)).cons (hF37.get (t := 0) (v := (.pointer (some ⟨g, 0, none⟩))) rfl))
  clear hF37
  refine wp_seq_k (fun K46 hK46 => ?_)
  have hx48 : ∃ W, w38.drew = W ∧ Ext w38 W := ⟨_, rfl, (Ext.refl _).drew⟩
  obtain ⟨w47, e49, hx48⟩ := hx48
  have z50 := hx48.size
  refine any_start (fun W => Ext w47 W ∧ Blk W g 63 (u32Vals v42)) (fun i => i == 16) 17 #[false, false, false, false, false, false, false, false, false, false, false, false, false, false, false, false, false] rfl rfl rfl ?_
  rw [e49]; clear e49
  refine any_pure (i := 0) (v := (.pointer (some ⟨g, 0, none⟩))) hF45 (by decide +kernel) (by decide +kernel) rfl rfl rfl rfl (fun _ _ _ _ h => h) rfl (fun W => (rn_move (hF45.get rfl))) ?_
  intro a51 hF52; clear hF45
  refine any_pure (i := 1) (v := (.int .i64 (id_ : Nat))) hF52 (by decide +kernel) (by decide +kernel) rfl rfl rfl rfl (fun _ _ _ _ h => h) rfl (fun W => (rn_move (hF52.get rfl))) ?_
  intro a53 hF54; clear hF52
  refine any_pure (i := 2) (v := (.pointer (some ⟨g, 0, none⟩))) hF54 (by decide +kernel) (by decide +kernel) rfl rfl rfl rfl (fun _ _ _ _ h => h) rfl (fun W => (rn_move (hF54.get rfl))) ?_
  intro a55 hF56; clear hF54
  refine any_pure (i := 3) (v := (.int .i64 (id_ : Nat))) hF56 (by decide +kernel) (by decide +kernel) rfl rfl rfl rfl (fun _ _ _ _ h => h) rfl (fun W => (rn_move (hF56.get rfl))) ?_
  intro a57 hF58; clear hF56
  refine any_pure (i := 4) (v := (.pointer (some ⟨g, 0, none⟩))) hF58 (by decide +kernel) (by decide +kernel) rfl rfl rfl rfl (fun _ _ _ _ h => h) rfl (fun W => (rn_nil (hF58.get rfl))) ?_
  intro a59 hF60; clear hF58
  refine any_pure (i := 5) (v := (.pointer (some ⟨g, 0 + id_, none⟩))) hF60 (by decide +kernel) (by decide +kernel) rfl rfl rfl rfl (fun _ _ _ _ h => h) rfl (fun W => (rn_indexArr Tryd.underlying63 (by kernel_rfl : (Tryd.prog.info? 47).map (·.size) = some 1) (hF60.get rfl) (hF60.get rfl) (by omega : (0 : Int) ≤ (id_ : Nat)) (by omega : ((id_ : Nat) : Int) < ((16 : Nat) : Int)))) ?_
  intro a61 hF62; clear hF60
  have b64 : Blk w47 g 63 (u32Vals v42) := (b39.ext hx48)
  have hS63 : Ext w47 w47 ∧ Blk w47 g 63 (u32Vals v42) := ⟨(Ext.refl w47), b64⟩
  refine any_val (i := 6) (v := (.int .u32 ((v42.getD id_ 0).toNat : Nat))) hF62 (by decide +kernel) (by decide +kernel) rfl rfl rfl rfl (fun _ _ _ _ h => h) rfl hS63 (fun W hW => (rn_load (isAgg_no Tryd.underlying47 rfl) (hF62.get rfl) (blk_word hW.2 (by omega) (by have := (show List.length v42 = _ from hl44); omega)))) ?_
  intro a65 hF66; clear hF62
  refine any_pure (i := 7) (v := (.pointer (some ⟨g, 0, none⟩))) hF66 (by decide +kernel) (by decide +kernel) rfl rfl rfl rfl (fun _ _ _ _ h => h) rfl (fun W => (rn_move (hF66.get rfl))) ?_
  intro a67 hF68; clear hF66
  refine any_pure (i := 8) (v := (.int .i64 (ia : Nat))) hF68 (by decide +kernel) (by decide +kernel) rfl rfl rfl rfl (fun _ _ _ _ h => h) rfl (fun W => (rn_move (hF68.get rfl))) ?_
  intro a69 hF70; clear hF68
  refine any_pure (i := 9) (v := (.pointer (some ⟨g, 0, none⟩))) hF70 (by decide +kernel) (by decide +kernel) rfl rfl rfl rfl (fun _ _ _ _ h => h) rfl (fun W => (rn_nil (hF70.get rfl))) ?_
  intro a71 hF72; clear hF70
  refine any_pure (i := 10) (v := (.pointer (some ⟨g, 0 + ia, none⟩))) hF72 (by decide +kernel) (by decide +kernel) rfl rfl rfl rfl (fun _ _ _ _ h => h) rfl (fun W => (rn_indexArr Tryd.underlying63 (by kernel_rfl : (Tryd.prog.info? 47).map (·.size) = some 1) (hF72.get rfl) (hF72.get rfl) (by omega : (0 : Int) ≤ (ia : Nat)) (by omega : ((ia : Nat) : Int) < ((16 : Nat) : Int)))) ?_
  intro a73 hF74; clear hF72
  refine any_val (i := 11) (v := (.int .u32 ((v42.getD ia 0).toNat : Nat))) hF74 (by decide +kernel) (by decide +kernel) rfl rfl rfl rfl (fun _ _ _ _ h => h) rfl hS63 (fun W hW => (rn_load (isAgg_no Tryd.underlying47 rfl) (hF74.get rfl) (blk_word hW.2 (by omega) (by have := (show List.length v42 = _ from hl44); omega)))) ?_
  intro a75 hF76; clear hF74
  refine any_pure (i := 12) (v := (.int .u32 (((v42.getD id_ 0) ^^^ (v42.getD ia 0)).toNat : Nat))) hF76 (by decide +kernel) (by decide +kernel) rfl rfl rfl rfl (fun _ _ _ _ h => h) rfl (fun W => (rn_xor32 (a := (v42.getD id_ 0)) (b := (v42.getD ia 0)) (hF76.get rfl) (hF76.get rfl))) ?_
  intro a77 hF78; clear hF76
  refine any_pure (i := 14) (v := (.pointer (some ⟨g, 0, none⟩))) hF78 (by decide +kernel) (by decide +kernel) rfl rfl rfl rfl (fun _ _ _ _ h => h) rfl (fun W => (rn_nil (hF78.get rfl))) ?_
  intro a79 hF80; clear hF78
  refine any_one (i := 13) (by decide +kernel) rfl ?_
  refine o_call hF80 rfl rfl rfl rfl (rn_call (args2 (hF80.get rfl) rfl) rfl (by kernel_rfl)) (rot16_any ((v42.getD id_ 0) ^^^ (v42.getD ia 0)) _) ?_
  rintro _ w81 ⟨rfl, hx82⟩
  refine ⟨_, rfl, ?_⟩; intro a83 hF84; clear hF80; have z85 := hx82.size
  have b86 : Blk w81 g 63 (u32Vals v42) := (b64.ext hx82)
  refine ⟨fun _ _ => ⟨((Ext.refl w47).trans hx82), b86⟩, ?_⟩
  refine any_pure (i := 15) (v := (.pointer (some ⟨g, 0 + id_, none⟩))) hF84 (by decide +kernel) (by decide +kernel) rfl rfl rfl rfl (fun _ _ _ _ h => h) rfl (fun W => (rn_indexArr Tryd.underlying63 (by kernel_rfl : (Tryd.prog.info? 47).map (·.size) = some 1) (hF84.get rfl) (hF84.get rfl) (by omega : (0 : Int) ≤ (id_ : Nat)) (by omega : ((id_ : Nat) : Int) < ((16 : Nat) : Int)))) ?_
  intro a87 hF88; clear hF84
  refine any_one (i := 16) (by decide +kernel) rfl ?_
  refine o_store1 (new := (u32Vals (v42.set id_ (ror ((v42.getD id_ 0) ^^^ (v42.getD ia 0)) 16)))) hF88 rfl rfl rfl rfl (hF88.get rfl) (hF88.get rfl) b86 (by kernel_rfl : (Tryd.prog.info? 47).map (·.size) = some 1) (by rw [u32Vals_len hl44]; omega) rfl (u32Vals_set (by omega)) ?_
  intro w89 b90 hg91; have z92 := hg91.size
  obtain ⟨v93, e94⟩ : ∃ z, z = v42.set id_ (ror ((v42.getD id_ 0) ^^^ (v42.getD ia 0)) 16) := ⟨_, rfl⟩
  have hl95 : v93.length = 16 := by rw [e94, List.length_set]; exact hl44
  rw [← e94] at b90
  refine ⟨fun h => absurd h (by decide), ?_⟩
  refine any_nil (by decide +kernel) ?_
  refine hK46 _ _ ?_
  clear hK46
  have hF96 := (((((((hF88.nil.cons (hF88.get (t := 6) (v := (.int .u32 (y.toNat : Nat))) rfl)).cons (hF88.get (t := 5) (v := (.int .u32 (x.toNat : Nat))) rfl)).cons (hF88.get (t := 4) (v := (.int .i64 (id_ : Nat))) rfl)).cons (hF88.get (t := 3) (v := (.int .i64 (ic : Nat))) rfl)).cons (hF88.get (t := 2) (v := (.int .i64 (ib : Nat))) rfl)).cons (hF88.get (t := 1) (v := (.int .i64 (ia : Nat))) rfl)).cons (hF88.get (t := 0) (v := (.pointer (some ⟨g, 0, none⟩))) rfl))
  clear hF88
  refine wp_seq_k (fun K97 hK97 => ?_)
  have hx99 : ∃ W, w89.drew = W ∧ Ext w89 W := ⟨_, rfl, (Ext.refl _).drew⟩
  obtain ⟨w98, e100, hx99⟩ := hx99
  have z101 := hx99.size
  refine any_start (fun W => Ext w98 W ∧ Blk W g 63 (u32Vals v93)) (fun i => i == 13) 14 #[false, false, false, false, false, false, false, false, false, false, false, false, false, false] rfl rfl rfl ?_
  rw [e100]; clear e100
  refine any_pure (i := 0) (v := (.pointer (some ⟨g, 0, none⟩))) hF96 (by decide +kernel) (by decide +kernel) rfl rfl rfl rfl (fun _ _ _ _ h => h) rfl (fun W => (rn_move (hF96.get rfl))) ?_
  intro a102 hF103; clear hF96
  refine any_pure (i := 1) (v := (.int .i64 (ic : Nat))) hF103 (by decide +kernel) (by decide +kernel) rfl rfl rfl rfl (fun _ _ _ _ h => h) rfl (fun W => (rn_move (hF103.get rfl))) ?_
  intro a104 hF105; clear hF103
  refine any_pure (i := 2) (v := (.pointer (some ⟨g, 0, none⟩))) hF105 (by decide +kernel) (by decide +kernel) rfl rfl rfl rfl (fun _ _ _ _ h => h) rfl (fun W => (rn_nil (hF105.get rfl))) ?_
  intro a106 hF107; clear hF105
  refine any_pure (i := 3) (v := (.pointer (some ⟨g, 0 + ic, none⟩))) hF107 (by decide +kernel) (by decide +kernel) rfl rfl rfl rfl (fun _ _ _ _ h => h) rfl (fun W => (rn_indexArr Tryd.underlying63 (by kernel_rfl : (Tryd.prog.info? 47).map (·.size) = some 1) (hF107.get rfl) (hF107.get rfl) (by omega : (0 : Int) ≤ (ic : Nat)) (by omega : ((ic : Nat) : Int) < ((16 : Nat) : Int)))) ?_
  intro a108 hF109; clear hF107
  have b111 : Blk w98 g 63 (u32Vals v93) := (b90.ext hx99)
  have hS110 : Ext w98 w98 ∧ Blk w98 g 63 (u32Vals v93) := ⟨(Ext.refl w98), b111⟩
  refine any_val (i := 4) (v := (.int .u32 ((v93.getD ic 0).toNat : Nat))) hF109 (by decide +kernel) (by decide +kernel) rfl rfl rfl rfl (fun _ _ _ _ h => h) rfl hS110 (fun W hW => (rn_load (isAgg_no Tryd.underlying47 rfl) (hF109.get rfl) (blk_word hW.2 (by omega) (by have := (show List.length v93 = _ from hl95); omega)))) ?_
  intro a112 hF113; clear hF109
  refine any_pure (i := 5) (v := (.pointer (some ⟨g, 0, none⟩))) hF113 (by decide +kernel) (by decide +kernel) rfl rfl rfl rfl (fun _ _ _ _ h => h) rfl (fun W => (rn_move (hF113.get rfl))) ?_
  intro a114 hF115; clear hF113
  refine any_pure (i := 6) (v := (.int .i64 (id_ : Nat))) hF115 (by decide +kernel) (by decide +kernel) rfl rfl rfl rfl (fun _ _ _ _ h => h) rfl (fun W => (rn_move (hF115.get rfl))) ?_
  intro a116 hF117; clear hF115
  refine any_pure (i := 7) (v := (.pointer (some ⟨g, 0, none⟩))) hF117 (by decide +kernel) (by decide +kernel) rfl rfl rfl rfl (fun _ _ _ _ h => h) rfl (fun W => (rn_nil (hF117.get rfl))) ?_
  intro a118 hF119; clear hF117
  refine any_pure (i := 8) (v := (.pointer (some ⟨g, 0 + id_, none⟩))) hF119 (by decide +kernel) (by decide +kernel) rfl rfl rfl rfl (fun _ _ _ _ h => h) rfl (fun W => (rn_indexArr Tryd.underlying63 (by kernel_rfl : (Tryd.prog.info? 47).map (·.size) = some 1) (hF119.get rfl) (hF119.get rfl) (by omega : (0 : Int) ≤ (id_ : Nat)) (by omega : ((id_ : Nat) : Int) < ((16 : Nat) : Int)))) ?_
  intro a120 hF121; clear hF119
  refine any_val (i := 9) (v := (.int .u32 ((v93.getD id_ 0).toNat : Nat))) hF121 (by decide +kernel) (by decide +kernel) rfl rfl rfl rfl (fun _ _ _ _ h => h) rfl hS110 (fun W hW => (rn_load (isAgg_no Tryd.underlying47 rfl) (hF121.get rfl) (blk_word hW.2 (by omega) (by have := (show List.length v93 = _ from hl95); omega)))) ?_
  intro a122 hF123; clear hF121
  refine any_pure (i := 10) (v := (.int .u32 (((v93.getD ic 0) + (v93.getD id_ 0)).toNat : Nat))) hF123 (by decide +kernel) (by decide +kernel) rfl rfl rfl rfl (fun _ _ _ _ h => h) rfl (fun W => (rn_add32 (a := (v93.getD ic 0)) (b := (v93.getD id_ 0)) (hF123.get rfl) (hF123.get rfl))) ?_
  intro a124 hF125; clear hF123
  refine any_pure (i := 11) (v := (.pointer (some ⟨g, 0, none⟩))) hF125 (by decide +kernel) (by decide +kernel) rfl rfl rfl rfl (fun _ _ _ _ h => h) rfl (fun W => (rn_nil (hF125.get rfl))) ?_
  intro a126 hF127; clear hF125
  refine any_pure (i := 12) (v := (.pointer (some ⟨g, 0 + ic, none⟩))) hF127 (by decide +kernel) (by decide +kernel) rfl rfl rfl rfl (fun _ _ _ _ h => h) rfl (fun W => (rn_indexArr Tryd.underlying63 (by kernel_rfl : (Tryd.prog.info? 47).map (·.size) = some 1) (hF127.get rfl) (hF127.get rfl) (by omega : (0 : Int) ≤ (ic : Nat)) (by omega : ((ic : Nat) : Int) < ((16 : Nat) : Int)))) ?_
  intro a128 hF129; clear hF127
  refine any_one (i := 13) (by decide +kernel) rfl ?_
  refine o_store1 (new := (u32Vals (v93.set ic ((v93.getD ic 0) + (v93.getD id_ 0))))) hF129 rfl rfl rfl rfl (hF129.get rfl) (hF129.get rfl) b111 (by kernel_rfl : (Tryd.prog.info? 47).map (·.size) = some 1) (by rw [u32Vals_len hl95]; omega) rfl (u32Vals_set (by omega)) ?_
  intro w130 b131 hg132; have z133 := hg132.size
  obtain ⟨v134, e135⟩ : ∃ z, z = v93.set ic ((v93.getD ic 0) + (v93.getD id_ 0)) := ⟨_, rfl⟩
  have hl136 : v134.length = 16 := by rw [e135, List.length_set]; exact hl95
  rw [← e135] at b131
  refine ⟨fun h => absurd h (by decide), ?_⟩
  refine any_nil (by decide +kernel) ?_
  refine hK97 _ _ ?_
  clear hK97
  have hF137 := (((((((hF129.nil.cons (hF129.get (t := 6) (v := (.int .u32 (y.toNat : Nat))) rfl)).cons (hF129.get (t := 5) (v := (.int .u32 (x.toNat : Nat))) rfl)).cons (hF129.get (t := 4) (v := (.int .i64 (id_ : Nat))) rfl)).cons (hF129.get (t := 3) (v := (.int .i64 (ic : Nat))) rfl)).cons (hF129.get (t := 2) (v := (.int .i64 (ib : Nat))) rfl)).cons (hF129.get (t := 1) (v := (.int .i64 (ia : Nat))) rfl)).cons (hF129.get (t := 0) (v := (.pointer (some ⟨g, 0, none⟩))) rfl))
  clear hF129
  refine wp_seq_k (fun K138 hK138 => ?_)
  have hx140 : ∃ W, w130.drew = W ∧ Ext w130 W := ⟨_, rfl, (Ext.refl _).drew⟩
  obtain ⟨w139, e141, hx140⟩ := hx140
  have z142 := hx140.size
  refine any_start (fun W => Ext w139 W ∧ Blk W g 63 (u32Vals v134)) (fun i => i == 16) 17 #[false, false, false, false, false, false, false, false, false, false, false, false, false, false, false, false, false] rfl rfl rfl ?_
  rw [e141]; clear e141
  refine any_pure (i := 0) (v := (.pointer (some ⟨g, 0, none⟩))) hF137 (by decide +kernel) (by decide +kernel) rfl rfl rfl rfl (fun _ _ _ _ h => h) rfl (fun W => (rn_move (hF137.get rfl))) ?_
  intro a143 hF144; clear hF137
  refine any_pure (i := 1) (v := (.int .i64 (ib : Nat))) hF144 (by decide +kernel) (by decide +kernel) rfl rfl rfl rfl (fun _ _ _ _ h => h) rfl (fun W => (rn_move (hF144.get rfl))) ?_
  intro a145 hF146; clear hF144
  refine any_pure (i := 2) (v := (.pointer (some ⟨g, 0, none⟩))) hF146 (by decide +kernel) (by decide +kernel) rfl rfl rfl rfl (fun _ _ _ _ h => h) rfl (fun W => (rn_move (hF146.get rfl))) ?_
  intro a147 hF148; clear hF146
  refine any_pure (i := 3) (v := (.int .i64 (ib : Nat))) hF148 (by decide +kernel) (by decide +kernel) rfl rfl rfl rfl (fun _ _ _ _ h => h) rfl (fun W => (rn_move (hF148.get rfl))) ?_
  intro a149 hF150; clear hF148
  refine any_pure (i := 4) (v := (.pointer (some ⟨g, 0, none⟩))) hF150 (by decide +kernel) (by decide +kernel) rfl rfl rfl rfl (fun _ _ _ _ h => h) rfl (fun W => (rn_nil (hF150.get rfl))) ?_
  intro a151 hF152; clear hF150
  refine any_pure (i := 5) (v := (.pointer (some ⟨g, 0 + ib, none⟩))) hF152 (by decide +kernel) (by decide +kernel) rfl rfl rfl rfl (fun _ _ _ _ h => h) rfl (fun W => (rn_indexArr Tryd.underlying63 (by kernel_rfl : (Tryd.prog.info? 47).map (·.size) = some 1) (hF152.get rfl) (hF152.get rfl) (by omega : (0 : Int) ≤ (ib : Nat)) (by omega : ((ib : Nat) : Int) < ((16 : Nat) : Int)))) ?_
  intro a153 hF154; clear hF152
  have b156 : Blk w139 g 63 (u32Vals v134) := (b131.ext hx140)
  have hS155 : Ext w139 w139 ∧ Blk w139 g 63 (u32Vals v134) := ⟨(Ext.refl w139), b156⟩
  refine any_val (i := 6) (v := (.int .u32 ((v134.getD ib 0).toNat : Nat))) hF154 (by decide +kernel) (by decide +kernel) rfl rfl rfl rfl (fun _ _ _ _ h => h) rfl hS155 (fun W hW => (rn_load (isAgg_no Tryd.underlying47 rfl) (hF154.get rfl) (blk_word hW.2 (by omega) (by have := (show List.length v134 = _ from hl136); omega)))) ?_
  intro a157 hF158; clear hF154
  refine any_pure (i := 7) (v := (.pointer (some ⟨g, 0, none⟩))) hF158 (by decide +kernel) (by decide +kernel) rfl rfl rfl rfl (fun _ _ _ _ h => h) rfl (fun W => (rn_move (hF158.get rfl))) ?_
  intro a159 hF160; clear hF158
  refine any_pure (i := 8) (v := (.int .i64 (ic : Nat))) hF160 (by decide +kernel) (by decide +kernel) rfl rfl rfl rfl (fun _ _ _ _ h => h) rfl (fun W => (rn_move (hF160.get rfl))) ?_
  intro a161 hF162; clear hF160
  refine any_pure (i := 9) (v := (.pointer (some ⟨g, 0, none⟩))) hF162 (by decide +kernel) (by decide +kernel) rfl rfl rfl rfl (fun _ _ _ _ h => h) rfl (fun W => (rn_nil (hF162.get rfl))) ?_
  intro a163 hF164; clear hF162
  refine any_pure (i := 10) (v := (.pointer (some ⟨g, 0 + ic, none⟩))) hF164 (by decide +kernel) (by decide +kernel) rfl rfl rfl rfl (fun _ _ _ _ h => h) rfl (fun W => (rn_indexArr Tryd.underlying63 (by kernel_rfl : (Tryd.prog.info? 47).map (·.size) = some 1) (hF164.get rfl) (hF164.get rfl) (by omega : (0 : Int) ≤ (ic : Nat)) (by omega : ((ic : Nat) : Int) < ((16 : Nat) : Int)))) ?_
  intro a165 hF166; clear hF164
  refine any_val (i := 11) (v := (.int .u32 ((v134.getD ic 0).toNat : Nat))) hF166 (by decide +kernel) (by decide +kernel) rfl rfl rfl rfl (fun _ _ _ _ h => h) rfl hS155 (fun W hW => (rn_load (isAgg_no Tryd.underlying47 rfl) (hF166.get rfl) (blk_word hW.2 (by omega) (by have := (show List.length v134 = _ from hl136); omega)))) ?_
  intro a167 hF168; clear hF166
  refine any_pure (i := 12) (v := (.int .u32 (((v134.getD ib 0) ^^^ (v134.getD ic 0)).toNat : Nat))) hF168 (by decide +kernel) (by decide +kernel) rfl rfl rfl rfl (fun _ _ _ _ h => h) rfl (fun W => (rn_xor32 (a := (v134.getD ib 0)) (b := (v134.getD ic 0)) (hF168.get rfl) (hF168.get rfl))) ?_
  intro a169 hF170; clear hF168
  refine any_pure (i := 14) (v := (.pointer (some ⟨g, 0, none⟩))) hF170 (by decide +kernel) (by decide +kernel) rfl rfl rfl rfl (fun _ _ _ _ h => h) rfl (fun W => (rn_nil (hF170.get rfl))) ?_
  intro a171 hF172; clear hF170
  refine any_one (i := 13) (by decide +kernel) rfl ?_
  refine o_call hF172 rfl rfl rfl rfl (rn_call (args2 (hF172.get rfl) rfl) rfl (by kernel_rfl)) (rot12_any ((v134.getD ib 0) ^^^ (v134.getD ic 0)) _) ?_
  rintro _ w173 ⟨rfl, hx174⟩
  refine ⟨_, rfl, ?_⟩; intro a175 hF176; clear hF172; have z177 := hx174.size
  have b178 : Blk w173 g 63 (u32Vals v134) := (b156.ext hx174)
  refine ⟨fun _ _ => ⟨((Ext.refl w139).trans hx174), b178⟩, ?_⟩
  refine any_pure (i := 15) (v := (.pointer (some ⟨g, 0 + ib, none⟩))) hF176 (by decide +kernel) (by decide +kernel) rfl rfl rfl rfl (fun _ _ _ _ h => h) rfl (fun W => (rn_indexArr Tryd.underlying63 (by kernel_rfl : (Tryd.prog.info? 47).map (·.size) = some 1) (hF176.get rfl) (hF176.get rfl) (by omega : (0 : Int) ≤ (ib : Nat)) (by omega : ((ib : Nat) : Int) < ((16 : Nat) : Int)))) ?_
  intro a179 hF180; clear hF176
  refine any_one (i := 16) (by decide +kernel) rfl ?_
  refine o_store1 (new := (u32Vals (v134.set ib (ror ((v134.getD ib 0) ^^^ (v134.getD ic 0)) 12)))) hF180 rfl rfl rfl rfl (hF180.get rfl) (hF180.get rfl) b178 (by kernel_rfl : (Tryd.prog.info? 47).map (·.size) = some 1) (by rw [u32Vals_len hl136]; omega) rfl (u32Vals_set (by omega)) ?_
  intro w181 b182 hg183; have z184 := hg183.size
  obtain ⟨v185, e186⟩ : ∃ z, z = v134.set ib (ror ((v134.getD ib 0) ^^^ (v134.getD ic 0)) 12) := ⟨_, rfl⟩
  have hl187 : v185.length = 16 := by rw [e186, List.length_set]; exact hl136
  rw [← e186] at b182
  refine ⟨fun h => absurd h (by decide), ?_⟩
  refine any_nil (by decide +kernel) ?_
  refine hK138 _ _ ?_
  clear hK138
  have hF188 := (((((((hF180.nil.cons (hF180.get (t := 6) (v := (.int .u32 (y.toNat : Nat))) rfl)).cons (hF180.get (t := 5) (v := (.int .u32 (x.toNat : Nat))) rfl)).cons (hF180.get (t := 4) (v := (.int .i64 (id_ : Nat))) rfl)).cons (hF180.get (t := 3) (v := (.int .i64 (ic : Nat))) rfl)).cons (hF180.get (t := 2) (v := (.int .i64 (ib : Nat))) rfl)).cons (hF180.get (t := 1) (v := (.int .i64 (ia : Nat))) rfl)).cons (hF180.get (t := 0) (v := (.pointer (some ⟨g, 0, none⟩))) rfl))
  clear hF180
  refine wp_seq_k (fun K189 hK189 => ?_)
  have hx191 : ∃ W, w181.drew = W ∧ Ext w181 W := ⟨_, rfl, (Ext.refl _).drew⟩
  obtain ⟨w190, e192, hx191⟩ := hx191
  have z193 := hx191.size
  refine any_start (fun W => Ext w190 W ∧ Blk W g 63 (u32Vals v185)) (fun i => i == 15) 16 #[false, false, false, false, false, false, false, false, false, false, false, false, false, false, false, false] rfl rfl rfl ?_
  rw [e192]; clear e192
  refine any_pure (i := 0) (v := (.pointer (some ⟨g, 0, none⟩))) hF188 (by decide +kernel) (by decide +kernel) rfl rfl rfl rfl (fun _ _ _ _ h => h) rfl (fun W => (rn_move (hF188.get rfl))) ?_
  intro a194 hF195; clear hF188
  refine any_pure (i := 1) (v := (.int .i64 (ia : Nat))) hF195 (by decide +kernel) (by decide +kernel) rfl rfl rfl rfl (fun _ _ _ _ h => h) rfl (fun W => (rn_move (hF195.get rfl))) ?_
  intro a196 hF197; clear hF195
  refine any_pure (i := 2) (v := (.pointer (some ⟨g, 0, none⟩))) hF197 (by decide +kernel) (by decide +kernel) rfl rfl rfl rfl (fun _ _ _ _ h => h) rfl (fun W => (rn_nil (hF197.get rfl))) ?_
  intro a198 hF199; clear hF197
  refine any_pure (i := 3) (v := (.pointer (some ⟨g, 0 + ia, none⟩))) hF199 (by decide +kernel) (by decide +kernel) rfl rfl rfl rfl (fun _ _ _ _ h => h) rfl (fun W => (rn_indexArr Tryd.underlying63 (by kernel_rfl : (Tryd.prog.info? 47).map (·.size) = some 1) (hF199.get rfl) (hF199.get rfl) (by omega : (0 : Int) ≤ (ia : Nat)) (by omega : ((ia : Nat) : Int) < ((16 : Nat) : Int)))) ?_
  intro a200 hF201; clear hF199
  have b203 : Blk w190 g 63 (u32Vals v185) := (b182.ext hx191)
  have hS202 : Ext w190 w190 ∧ Blk w190 g 63 (u32Vals v185) := ⟨(Ext.refl w190), b203⟩
  refine any_val (i := 4) (v := (.int .u32 ((v185.getD ia 0).toNat : Nat))) hF201 (by decide +kernel) (by decide +kernel) rfl rfl rfl rfl (fun _ _ _ _ h => h) rfl hS202 (fun W hW => (rn_load (isAgg_no Tryd.underlying47 rfl) (hF201.get rfl) (blk_word hW.2 (by omega) (by have := (show List.length v185 = _ from hl187); omega)))) ?_
  intro a204 hF205; clear hF201
  refine any_pure (i := 5) (v := (.pointer (some ⟨g, 0, none⟩))) hF205 (by decide +kernel) (by decide +kernel) rfl rfl rfl rfl (fun _ _ _ _ h => h) rfl (fun W => (rn_move (hF205.get rfl))) ?_
  intro a206 hF207; clear hF205
  refine any_pure (i := 6) (v := (.int .i64 (ib : Nat))) hF207 (by decide +kernel) (by decide +kernel) rfl rfl rfl rfl (fun _ _ _ _ h => h) rfl (fun W => (rn_move (hF207.get rfl))) ?_
  intro a208 hF209; clear hF207
  refine any_pure (i := 7) (v := (.pointer (some ⟨g, 0, none⟩))) hF209 (by decide +kernel) (by decide +kernel) rfl rfl rfl rfl (fun _ _ _ _ h => h) rfl (fun W => (rn_nil (hF209.get rfl))) ?_
  intro a210 hF211; clear hF209
  refine any_pure (i := 8) (v := (.pointer (some ⟨g, 0 + ib, none⟩))) hF211 (by decide +kernel) (by decide +kernel) rfl rfl rfl rfl (fun _ _ _ _ h => h) rfl (fun W => (rn_indexArr Tryd.underlying63 (by kernel_rfl : (Tryd.prog.info? 47).map (·.size) = some 1) (hF211.get rfl) (hF211.get rfl) (by omega : (0 : Int) ≤ (ib : Nat)) (by omega : ((ib : Nat) : Int) < ((16 : Nat) : Int)))) ?_
  intro a212 hF213; clear hF211
  refine any_val (i := 9) (v := (.int .u32 ((v185.getD ib 0).toNat : Nat))) hF213 (by decide +kernel) (by decide +kernel) rfl rfl rfl rfl (fun _ _ _ _ h => h) rfl hS202 (fun W hW => (rn_load (isAgg_no Tryd.underlying47 rfl) (hF213.get rfl) (blk_word hW.2 (by omega) (by have := (show List.length v185 = _ from hl187); omega)))) ?_
  intro a214 hF215; clear hF213
  refine any_pure (i := 10) (v := (.int .u32 (y.toNat : Nat))) hF215 (by decide +kernel) (by decide +kernel) rfl rfl rfl rfl (fun _ _ _ _ h => h) rfl (fun W => (rn_move (hF215.get rfl))) ?_
  intro a216 hF217; clear hF215
  refine any_pure (i := 11) (v := (.int .u32 (((v185.getD ib 0) + y).toNat : Nat))) hF217 (by decide +kernel) (by decide +kernel) rfl rfl rfl rfl (fun _ _ _ _ h => h) rfl (fun W => (rn_add32 (a := (v185.getD ib 0)) (b := y) (hF217.get rfl) (hF217.get rfl))) ?_
  intro a218 hF219; clear hF217
  refine any_pure (i := 12) (v := (.int .u32 (((v185.getD ia 0) + ((v185.getD ib 0) + y)).toNat : Nat))) hF219 (by decide +kernel) (by decide +kernel) rfl rfl rfl rfl (fun _ _ _ _ h => h) rfl (fun W => (rn_add32 (a := (v185.getD ia 0)) (b := ((v185.getD ib 0) + y)) (hF219.get rfl) (hF219.get rfl))) ?_
  intro a220 hF221; clear hF219
  refine any_pure (i := 13) (v := (.pointer (some ⟨g, 0, none⟩))) hF221 (by decide +kernel) (by decide +kernel) rfl rfl rfl rfl (fun _ _ _ _ h => h) rfl (fun W => (rn_nil (hF221.get rfl))) ?_
  intro a222 hF223; clear hF221
  refine any_pure (i := 14) (v := (.pointer (some ⟨g, 0 + ia, none⟩))) hF223 (by decide +kernel) (by decide +kernel) rfl rfl rfl rfl (fun _ _ _ _ h => h) rfl (fun W => (rn_indexArr Tryd.underlying63 (by kernel_rfl : (Tryd.prog.info? 47).map (·.size) = some 1) (hF223.get rfl) (hF223.get rfl) (by omega : (0 : Int) ≤ (ia : Nat)) (by omega : ((ia : Nat) : Int) < ((16 : Nat) : Int)))) ?_
  intro a224 hF225; clear hF223
  refine any_one (i := 15) (by decide +kernel) rfl ?_
  refine o_store1 (new := (u32Vals (v185.set ia ((v185.getD ia 0) + ((v185.getD ib 0) + y))))) hF225 rfl rfl rfl rfl (hF225.get rfl) (hF225.get rfl) b203 (by kernel_rfl : (Tryd.prog.info? 47).map (·.size) = some 1) (by rw [u32Vals_len hl187]; omega) rfl (u32Vals_set (by omega)) ?_
  intro w226 b227 hg228; have z229 := hg228.size
  obtain ⟨v230, e231⟩ : ∃ z, z = v185.set ia ((v185.getD ia 0) + ((v185.getD ib 0) + y)) := ⟨_, rfl⟩
  have hl232 : v230.length = 16 := by rw [e231, List.length_set]; exact hl187
  rw [← e231] at b227
  refine ⟨fun h => absurd h (by decide), ?_⟩
  refine any_nil (by decide +kernel) ?_
  refine hK189 _ _ ?_
  clear hK189
  have hF233 := (((((((hF225.nil.cons (hF225.get (t := 6) (v := (.int .u32 (y.toNat : Nat))) rfl)).cons (hF225.get (t := 5) (v := (.int .u32 (x.toNat : Nat))) rfl)).cons (hF225.get (t := 4) (v := (.int .i64 (id_ : Nat))) rfl)).cons (hF225.get (t := 3) (v := (.int .i64 (ic : Nat))) rfl)).cons (hF225.get (t := 2) (v := (.int .i64 (ib : Nat))) rfl)).cons (hF225.get (t := 1) (v := (.int .i64 (ia : Nat))) rfl)).cons (hF225.get (t := 0) (v := (.pointer (some ⟨g, 0, none⟩))) rfl))
  clear hF225
  refine wp_seq_k (fun K234 hK234 => ?_)
  have hx236 : ∃ W, w226.drew = W ∧ Ext w226 W := ⟨_, rfl, (Ext.refl _).drew⟩
  obtain ⟨w235, e237, hx236⟩ := hx236
  have z238 := hx236.size
  refine any_start (fun W => Ext w235 W ∧ Blk W g 63 (u32Vals v230)) (fun i => i == 16) 17 #[false, false, false, false, false, false, false, false, false, false, false, false, false, false, false, false, false] rfl rfl rfl ?_
  rw [e237]; clear e237
  refine any_pure (i := 0) (v := (.pointer (some ⟨g, 0, none⟩))) hF233 (by decide +kernel) (by decide +kernel) rfl rfl rfl rfl (fun _ _ _ _ h => h) rfl (fun W => (rn_move (hF233.get rfl))) ?_
  intro a239 hF240; clear hF233
  refine any_pure (i := 1) (v := (.int .i64 (id_ : Nat))) hF240 (by decide +kernel) (by decide +kernel) rfl rfl rfl rfl (fun _ _ _ _ h => h) rfl (fun W => (rn_move (hF240.get rfl))) ?_
  intro a241 hF242; clear hF240
  refine any_pure (i := 2) (v := (.pointer (some ⟨g, 0, none⟩))) hF242 (by decide +kernel) (by decide +kernel) rfl rfl rfl rfl (fun _ _ _ _ h => h) rfl (fun W => (rn_move (hF242.get rfl))) ?_
  intro a243 hF244; clear hF242
  refine any_pure (i := 3) (v := (.int .i64 (id_ : Nat))) hF244 (by decide +kernel) (by decide +kernel) rfl rfl rfl rfl (fun _ _ _ _ h => h) rfl (fun W => (rn_move (hF244.get rfl))) ?_
  intro a245 hF246; clear hF244
  refine any_pure (i := 4) (v := (.pointer (some ⟨g, 0, none⟩))) hF246 (by decide +kernel) (by decide +kernel) rfl rfl rfl rfl (fun _ _ _ _ h => h) rfl (fun W => (rn_nil (hF246.get rfl))) ?_
  intro a247 hF248; clear hF246
  refine any_pure (i := 5) (v := (.pointer (some ⟨g, 0 + id_, none⟩))) hF248 (by decide +kernel) (by decide +kernel) rfl rfl rfl rfl (fun _ _ _ _ h => h) rfl (fun W => (rn_indexArr Tryd.underlying63 (by kernel_rfl : (Tryd.prog.info? 47).map (·.size) = some 1) (hF248.get rfl) (hF248.get rfl) (by omega : (0 : Int) ≤ (id_ : Nat)) (by omega : ((id_ : Nat) : Int) < ((16 : Nat) : Int)))) ?_
  intro a249 hF250; clear hF248
  have b252 : Blk w235 g 63 (u32Vals v230) := (b227.ext hx236)
  have hS251 : Ext w235 w235 ∧ Blk w235 g 63 (u32Vals v230) := ⟨(Ext.refl w235), b252⟩
  refine any_val (i := 6) (v := (.int .u32 ((v230.getD id_ 0).toNat : Nat))) hF250 (by decide +kernel) (by decide +kernel) rfl rfl rfl rfl (fun _ _ _ _ h => h) rfl hS251 (fun W hW => (rn_load (isAgg_no Tryd.underlying47 rfl) (hF250.get rfl) (blk_word hW.2 (by omega) (by have := (show List.length v230 = _ from hl232); omega)))) ?_
  intro a253 hF254; clear hF250
  refine any_pure (i := 7) (v := (.pointer (some ⟨g, 0, none⟩))) hF254 (by decide +kernel) (by decide +kernel) rfl rfl rfl rfl (fun _ _ _ _ h => h) rfl (fun W => (rn_move (hF254.get rfl))) ?_
  intro a255 hF256; clear hF254
  refine any_pure (i := 8) (v := (.int .i64 (ia : Nat))) hF256 (by decide +kernel) (by decide +kernel) rfl rfl rfl rfl (fun _ _ _ _ h => h) rfl (fun W => (rn_move (hF256.get rfl))) ?_
  intro a257 hF258; clear hF256
  refine any_pure (i := 9) (v := (.pointer (some ⟨g, 0, none⟩))) hF258 (by decide +kernel) (by decide +kernel) rfl rfl rfl rfl (fun _ _ _ _ h => h) rfl (fun W => (rn_nil (hF258.get rfl))) ?_
  intro a259 hF260; clear hF258
  refine any_pure (i := 10) (v := (.pointer (some ⟨g, 0 + ia, none⟩))) hF260 (by decide +kernel) (by decide +kernel) rfl rfl rfl rfl (fun _ _ _ _ h => h) rfl (fun W => (rn_indexArr Tryd.underlying63 (by kernel_rfl : (Tryd.prog.info? 47).map (·.size) = some 1) (hF260.get rfl) (hF260.get rfl) (by omega : (0 : Int) ≤ (ia : Nat)) (by omega : ((ia : Nat) : Int) < ((16 : Nat) : Int)))) ?_
  intro a261 hF262; clear hF260
  refine any_val (i := 11) (v := (.int .u32 ((v230.getD ia 0).toNat : Nat))) hF262 (by decide +kernel) (by decide +kernel) rfl rfl rfl rfl (fun _ _ _ _ h => h) rfl hS251 (fun W hW => (rn_load (isAgg_no Tryd.underlying47 rfl) (hF262.get rfl) (blk_word hW.2 (by omega) (by have := (show List.length v230 = _ from hl232); omega)))) ?_
  intro a263 hF264; clear hF262
  refine any_pure (i := 12) (v := (.int .u32 (((v230.getD id_ 0) ^^^ (v230.getD ia 0)).toNat : Nat))) hF264 (by decide +kernel) (by decide +kernel) rfl rfl rfl rfl (fun _ _ _ _ h => h) rfl (fun W => (rn_xor32 (a := (v230.getD id_ 0)) (b := (v230.getD ia 0)) (hF264.get rfl) (hF264.get rfl))) ?_
  intro a265 hF266; clear hF264
  refine any_pure (i := 14) (v := (.pointer (some ⟨g, 0, none⟩))) hF266 (by decide +kernel) (by decide +kernel) rfl rfl rfl rfl (fun _ _ _ _ h => h) rfl (fun W => (rn_nil (hF266.get rfl))) ?_
  intro a267 hF268; clear hF266
  refine any_one (i := 13) (by decide +kernel) rfl ?_
  refine o_call hF268 rfl rfl rfl rfl (rn_call (args2 (hF268.get rfl) rfl) rfl (by kernel_rfl)) (rot8_any ((v230.getD id_ 0) ^^^ (v230.getD ia 0)) _) ?_
  rintro _ w269 ⟨rfl, hx270⟩
  refine ⟨_, rfl, ?_⟩; intro a271 hF272; clear hF268; have z273 := hx270.size
  have b274 : Blk w269 g 63 (u32Vals v230) := (b252.ext hx270)
  refine ⟨fun _ _ => ⟨((Ext.refl w235).trans hx270), b274⟩, ?_⟩
  refine any_pure (i := 15) (v := (.pointer (some ⟨g, 0 + id_, none⟩))) hF272 (by decide +kernel) (by decide +kernel) rfl rfl rfl rfl (fun _ _ _ _ h => h) rfl (fun W => (rn_indexArr Tryd.underlying63 (by kernel_rfl : (Tryd.prog.info? 47).map (·.size) = some 1) (hF272.get rfl) (hF272.get rfl) (by omega : (0 : Int) ≤ (id_ : Nat)) (by omega : ((id_ : Nat) : Int) < ((16 : Nat) : Int)))) ?_
  intro a275 hF276; clear hF272
  refine any_one (i := 16) (by decide +kernel) rfl ?_
  refine o_store1 (new := (u32Vals (v230.set id_ (ror ((v230.getD id_ 0) ^^^ (v230.getD ia 0)) 8)))) hF276 rfl rfl rfl rfl (hF276.get rfl) (hF276.get rfl) b274 (by kernel_rfl : (Tryd.prog.info? 47).map (·.size) = some 1) (by rw [u32Vals_len hl232]; omega) rfl (u32Vals_set (by omega)) ?_
  intro w277 b278 hg279; have z280 := hg279.size
  obtain ⟨v281, e282⟩ : ∃ z, z = v230.set id_ (ror ((v230.getD id_ 0) ^^^ (v230.getD ia 0)) 8) := ⟨_, rfl⟩
  have hl283 : v281.length = 16 := by rw [e282, List.length_set]; exact hl232
  rw [← e282] at b278
  refine ⟨fun h => absurd h (by decide), ?_⟩
  refine any_nil (by decide +kernel) ?_
  refine hK234 _ _ ?_
  clear hK234
  have hF284 := (((((((hF276.nil.cons (hF276.get (t := 6) (v := (.int .u32 (y.toNat : Nat))) rfl)).cons (hF276.get (t := 5) (v := (.int .u32 (x.toNat : Nat))) rfl)).cons (hF276.get (t := 4) (v := (.int .i64 (id_ : Nat))) rfl)).cons (hF276.get (t := 3) (v := (.int .i64 (ic : Nat))) rfl)).cons (hF276.get (t := 2) (v := (.int .i64 (ib : Nat))) rfl)).cons (hF276.get (t := 1) (v := (.int .i64 (ia : Nat))) rfl)).cons (hF276.get (t := 0) (v := (.pointer (some ⟨g, 0, none⟩))) rfl))
  clear hF276
  refine wp_seq_k (fun K285 hK285 => ?_)
  have hx287 : ∃ W, w277.drew = W ∧ Ext w277 W := ⟨_, rfl, (Ext.refl _).drew⟩
  obtain ⟨w286, e288, hx287⟩ := hx287
  have z289 := hx287.size
  refine any_start (fun W => Ext w286 W ∧ Blk W g 63 (u32Vals v281)) (fun i => i == 13) 14 #[false, false, false, false, false, false, false, false, false, false, false, false, false, false] rfl rfl rfl ?_
  rw [e288]; clear e288
  refine any_pure (i := 0) (v := (.pointer (some ⟨g, 0, none⟩))) hF284 (by decide +kernel) (by decide +kernel) rfl rfl rfl rfl (fun _ _ _ _ h => h) rfl (fun W => (rn_move (hF284.get rfl))) ?_
  intro a290 hF291; clear hF284
  refine any_pure (i := 1) (v := (.int .i64 (ic : Nat))) hF291 (by decide +kernel) (by decide +kernel) rfl rfl rfl rfl (fun _ _ _ _ h => h) rfl (fun W => (rn_move (hF291.get rfl))) ?_
  intro a292 hF293; clear hF291
  refine any_pure (i := 2) (v := (.pointer (some ⟨g, 0, none⟩))) hF293 (by decide +kernel) (by decide +kernel) rfl rfl rfl rfl (fun _ _ _ _ h => h) rfl (fun W => (rn_nil (hF293.get rfl))) ?_
  intro a294 hF295; clear hF293
  refine any_pure (i := 3) (v := (.pointer (some ⟨g, 0 + ic, none⟩))) hF295 (by decide +kernel) (by decide +kernel) rfl rfl rfl rfl (fun _ _ _ _ h => h) rfl (fun W => (rn_indexArr Tryd.underlying63 (by kernel_rfl : (Tryd.prog.info? 47).map (·.size) = some 1) (hF295.get rfl) (hF295.get rfl) (by omega : (0 : Int) ≤ (ic : Nat)) (by omega : ((ic : Nat) : Int) < ((16 : Nat) : Int)))) ?_
  intro a296 hF297; clear hF295
  have b299 : Blk w286 g 63 (u32Vals v281) := (b278.ext hx287)
  have hS298 : Ext w286 w286 ∧ Blk w286 g 63 (u32Vals v281) := ⟨(Ext.refl w286), b299⟩
  refine any_val (i := 4) (v := (.int .u32 ((v281.getD ic 0).toNat : Nat))) hF297 (by decide +kernel) (by decide +kernel) rfl rfl rfl rfl (fun _ _ _ _ h => h) rfl hS298 (fun W hW => (rn_load (isAgg_no Tryd.underlying47 rfl) (hF297.get rfl) (blk_word hW.2 (by omega) (by have := (show List.length v281 = _ from hl283); omega)))) ?_
  intro a300 hF301; clear hF297
  refine any_pure (i := 5) (v := (.pointer (some ⟨g, 0, none⟩))) hF301 (by decide +kernel) (by decide +kernel) rfl rfl rfl rfl (fun _ _ _ _ h => h) rfl (fun W => (rn_move (hF301.get rfl))) ?_
  intro a302 hF303; clear hF301
  refine any_pure (i := 6) (v := (.int .i64 (id_ : Nat))) hF303 (by decide +kernel) (by decide +kernel) rfl rfl rfl rfl (fun _ _ _ _ h => h) rfl (fun W => (rn_move (hF303.get rfl))) ?_
  intro a304 hF305; clear hF303
  refine any_pure (i := 7) (v := (.pointer (some ⟨g, 0, none⟩))) hF305 (by decide +kernel) (by decide +kernel) rfl rfl rfl rfl (fun _ _ _ _ h => h) rfl (fun W => (rn_nil (hF305.get rfl))) ?_
  intro a306 hF307; clear hF305
  refine any_pure (i := 8) (v := (.pointer (some ⟨g, 0 + id_, none⟩))) hF307 (by decide +kernel) (by decide +kernel) rfl rfl rfl rfl (fun _ _ _ _ h => h) rfl (fun W => (rn_indexArr Tryd.underlying63 (by kernel_rfl : (Tryd.prog.info? 47).map (·.size) = some 1) (hF307.get rfl) (hF307.get rfl) (by omega : (0 : Int) ≤ (id_ : Nat)) (by omega : ((id_ : Nat) : Int) < ((16 : Nat) : Int)))) ?_
  intro a308 hF309; clear hF307
  refine any_val (i := 9) (v := (.int .u32 ((v281.getD id_ 0).toNat : Nat))) hF309 (by decide +kernel) (by decide +kernel) rfl rfl rfl rfl (fun _ _ _ _ h => h) rfl hS298 (fun W hW => (rn_load (isAgg_no Tryd.underlying47 rfl) (hF309.get rfl) (blk_word hW.2 (by omega) (by have := (show List.length v281 = _ from hl283); omega)))) ?_
  intro a310 hF311; clear hF309
  refine any_pure (i := 10) (v := (.int .u32 (((v281.getD ic 0) + (v281.getD id_ 0)).toNat : Nat))) hF311 (by decide +kernel) (by decide +kernel) rfl rfl rfl rfl (fun _ _ _ _ h => h) rfl (fun W => (rn_add32 (a := (v281.getD ic 0)) (b := (v281.getD id_ 0)) (hF311.get rfl) (hF311.get rfl))) ?_
  intro a312 hF313; clear hF311
  refine any_pure (i := 11) (v := (.pointer (some ⟨g, 0, none⟩))) hF313 (by decide +kernel) (by decide +kernel) rfl rfl rfl rfl (fun _ _ _ _ h => h) rfl (fun W => (rn_nil (hF313.get rfl))) ?_
  intro a314 hF315; clear hF313
  refine any_pure (i := 12) (v := (.pointer (some ⟨g, 0 + ic, none⟩))) hF315 (by decide +kernel) (by decide +kernel) rfl rfl rfl rfl (fun _ _ _ _ h => h) rfl (fun W => (rn_indexArr Tryd.underlying63 (by kernel_rfl : (Tryd.prog.info? 47).map (·.size) = some 1) (hF315.get rfl) (hF315.get rfl) (by omega : (0 : Int) ≤ (ic : Nat)) (by omega : ((ic : Nat) : Int) < ((16 : Nat) : Int)))) ?_
  intro a316 hF317; clear hF315
  refine any_one (i := 13) (by decide +kernel) rfl ?_
  refine o_store1 (new := (u32Vals (v281.set ic ((v281.getD ic 0) + (v281.getD id_ 0))))) hF317 rfl rfl rfl rfl (hF317.get rfl) (hF317.get rfl) b299 (by kernel_rfl : (Tryd.prog.info? 47).map (·.size) = some 1) (by rw [u32Vals_len hl283]; omega) rfl (u32Vals_set (by omega)) ?_
  intro w318 b319 hg320; have z321 := hg320.size
  obtain ⟨v322, e323⟩ : ∃ z, z = v281.set ic ((v281.getD ic 0) + (v281.getD id_ 0)) := ⟨_, rfl⟩
  have hl324 : v322.length = 16 := by rw [e323, List.length_set]; exact hl283
  rw [← e323] at b319
  refine ⟨fun h => absurd h (by decide), ?_⟩
  refine any_nil (by decide +kernel) ?_
  refine hK285 _ _ ?_
  clear hK285
  have hF325 := (((((((hF317.nil.cons (hF317.get (t := 6) (v := (.int .u32 (y.toNat : Nat))) rfl)).cons (hF317.get (t := 5) (v := (.int .u32 (x.toNat : Nat))) rfl)).cons (hF317.get (t := 4) (v := (.int .i64 (id_ : Nat))) rfl)).cons (hF317.get (t := 3) (v := (.int .i64 (ic : Nat))) rfl)).cons (hF317.get (t := 2) (v := (.int .i64 (ib : Nat))) rfl)).cons (hF317.get (t := 1) (v := (.int .i64 (ia : Nat))) rfl)).cons (hF317.get (t := 0) (v := (.pointer (some ⟨g, 0, none⟩))) rfl))
  clear hF317
  have hx327 : ∃ W, w318.drew = W ∧ Ext w318 W := ⟨_, rfl, (Ext.refl _).drew⟩
  obtain ⟨w326, e328, hx327⟩ := hx327
  have z329 := hx327.size
  refine any_start (fun W => Ext w326 W ∧ Blk W g 63 (u32Vals v322)) (fun i => i == 16) 17 #[false, false, false, false, false, false, false, false, false, false, false, false, false, false, false, false, false] rfl rfl rfl ?_
  rw [e328]; clear e328
  refine any_pure (i := 0) (v := (.pointer (some ⟨g, 0, none⟩))) hF325 (by decide +kernel) (by decide +kernel) rfl rfl rfl rfl (fun _ _ _ _ h => h) rfl (fun W => (rn_move (hF325.get rfl))) ?_
  intro a330 hF331; clear hF325
  refine any_pure (i := 1) (v := (.int .i64 (ib : Nat))) hF331 (by decide +kernel) (by decide +kernel) rfl rfl rfl rfl (fun _ _ _ _ h => h) rfl (fun W => (rn_move (hF331.get rfl))) ?_
  intro a332 hF333; clear hF331
  refine any_pure (i := 2) (v := (.pointer (some ⟨g, 0, none⟩))) hF333 (by decide +kernel) (by decide +kernel) rfl rfl rfl rfl (fun _ _ _ _ h => h) rfl (fun W => (rn_move (hF333.get rfl))) ?_
  intro a334 hF335; clear hF333
  refine any_pure (i := 3) (v := (.int .i64 (ib : Nat))) hF335 (by decide +kernel) (by decide +kernel) rfl rfl rfl rfl (fun _ _ _ _ h => h) rfl (fun W => (rn_move (hF335.get rfl))) ?_
  intro a336 hF337; clear hF335
  refine any_pure (i := 4) (v := (.pointer (some ⟨g, 0, none⟩))) hF337 (by decide +kernel) (by decide +kernel) rfl rfl rfl rfl (fun _ _ _ _ h => h) rfl (fun W => (rn_nil (hF337.get rfl))) ?_
  intro a338 hF339; clear hF337
  refine any_pure (i := 5) (v := (.pointer (some ⟨g, 0 + ib, none⟩))) hF339 (by decide +kernel) (by decide +kernel) rfl rfl rfl rfl (fun _ _ _ _ h => h) rfl (fun W => (rn_indexArr Tryd.underlying63 (by kernel_rfl : (Tryd.prog.info? 47).map (·.size) = some 1) (hF339.get rfl) (hF339.get rfl) (by omega : (0 : Int) ≤ (ib : Nat)) (by omega : ((ib : Nat) : Int) < ((16 : Nat) : Int)))) ?_
  intro a340 hF341; clear hF339
  have b343 : Blk w326 g 63 (u32Vals v322) := (b319.ext hx327)
  have hS342 : Ext w326 w326 ∧ Blk w326 g 63 (u32Vals v322) := ⟨(Ext.refl w326), b343⟩
  refine any_val (i := 6) (v := (.int .u32 ((v322.getD ib 0).toNat : Nat))) hF341 (by decide +kernel) (by decide +kernel) rfl rfl rfl rfl (fun _ _ _ _ h => h) rfl hS342 (fun W hW => (rn_load (isAgg_no Tryd.underlying47 rfl) (hF341.get rfl) (blk_word hW.2 (by omega) (by have := (show List.length v322 = _ from hl324); omega)))) ?_
  intro a344 hF345; clear hF341
  refine any_pure (i := 7) (v := (.pointer (some ⟨g, 0, none⟩))) hF345 (by decide +kernel) (by decide +kernel) rfl rfl rfl rfl (fun _ _ _ _ h => h) rfl (fun W => (rn_move (hF345.get rfl))) ?_
  intro a346 hF347; clear hF345
  refine any_pure (i := 8) (v := (.int .i64 (ic : Nat))) hF347 (by decide +kernel) (by decide +kernel) rfl rfl rfl rfl (fun _ _ _ _ h => h) rfl (fun W => (rn_move (hF347.get rfl))) ?_
  intro a348 hF349; clear hF347
  refine any_pure (i := 9) (v := (.pointer (some ⟨g, 0, none⟩))) hF349 (by decide +kernel) (by decide +kernel) rfl rfl rfl rfl (fun _ _ _ _ h => h) rfl (fun W => (rn_nil (hF349.get rfl))) ?_
  intro a350 hF351; clear hF349
  refine any_pure (i := 10) (v := (.pointer (some ⟨g, 0 + ic, none⟩))) hF351 (by decide +kernel) (by decide +kernel) rfl rfl rfl rfl (fun _ _ _ _ h => h) rfl (fun W => (rn_indexArr Tryd.underlying63 (by kernel_rfl : (Tryd.prog.info? 47).map (·.size) = some 1) (hF351.get rfl) (hF351.get rfl) (by omega : (0 : Int) ≤ (ic : Nat)) (by omega : ((ic : Nat) : Int) < ((16 : Nat) : Int)))) ?_
  intro a352 hF353; clear hF351
  refine any_val (i := 11) (v := (.int .u32 ((v322.getD ic 0).toNat : Nat))) hF353 (by decide +kernel) (by decide +kernel) rfl rfl rfl rfl (fun _ _ _ _ h => h) rfl hS342 (fun W hW => (rn_load (isAgg_no Tryd.underlying47 rfl) (hF353.get rfl) (blk_word hW.2 (by omega) (by have := (show List.length v322 = _ from hl324); omega)))) ?_
  intro a354 hF355; clear hF353
  refine any_pure (i := 12) (v := (.int .u32 (((v322.getD ib 0) ^^^ (v322.getD ic 0)).toNat : Nat))) hF355 (by decide +kernel) (by decide +kernel) rfl rfl rfl rfl (fun _ _ _ _ h => h) rfl (fun W => (rn_xor32 (a := (v322.getD ib 0)) (b := (v322.getD ic 0)) (hF355.get rfl) (hF355.get rfl))) ?_
  intro a356 hF357; clear hF355
  refine any_pure (i := 14) (v := (.pointer (some ⟨g, 0, none⟩))) hF357 (by decide +kernel) (by decide +kernel) rfl rfl rfl rfl (fun _ _ _ _ h => h) rfl (fun W => (rn_nil (hF357.get rfl))) ?_
  intro a358 hF359; clear hF357
  refine any_one (i := 13) (by decide +kernel) rfl ?_
  refine o_call hF359 rfl rfl rfl rfl (rn_call (args2 (hF359.get rfl) rfl) rfl (by kernel_rfl)) (rot7_any ((v322.getD ib 0) ^^^ (v322.getD ic 0)) _) ?_
  rintro _ w360 ⟨rfl, hx361⟩
  refine ⟨_, rfl, ?_⟩; intro a362 hF363; clear hF359; have z364 := hx361.size
  have b365 : Blk w360 g 63 (u32Vals v322) := (b343.ext hx361)
  refine ⟨fun _ _ => ⟨((Ext.refl w326).trans hx361), b365⟩, ?_⟩
  refine any_pure (i := 15) (v := (.pointer (some ⟨g, 0 + ib, none⟩))) hF363 (by decide +kernel) (by decide +kernel) rfl rfl rfl rfl (fun _ _ _ _ h => h) rfl (fun W => (rn_indexArr Tryd.underlying63 (by kernel_rfl : (Tryd.prog.info? 47).map (·.size) = some 1) (hF363.get rfl) (hF363.get rfl) (by omega : (0 : Int) ≤ (ib : Nat)) (by omega : ((ib : Nat) : Int) < ((16 : Nat) : Int)))) ?_
  intro a366 hF367; clear hF363
  refine any_one (i := 16) (by decide +kernel) rfl ?_
  refine o_store1 (new := (u32Vals (v322.set ib (ror ((v322.getD ib 0) ^^^ (v322.getD ic 0)) 7)))) hF367 rfl rfl rfl rfl (hF367.get rfl) (hF367.get rfl) b365 (by kernel_rfl : (Tryd.prog.info? 47).map (·.size) = some 1) (by rw [u32Vals_len hl324]; omega) rfl (u32Vals_set (by omega)) ?_
  intro w368 b369 hg370; have z371 := hg370.size
  obtain ⟨v372, e373⟩ : ∃ z, z = v322.set ib (ror ((v322.getD ib 0) ^^^ (v322.getD ic 0)) 7) := ⟨_, rfl⟩
  have hl374 : v372.length = 16 := by rw [e373, List.length_set]; exact hl324
  rw [← e373] at b369
  refine ⟨fun h => absurd h (by decide), ?_⟩
  refine any_nil (by decide +kernel) ?_
  refine ret0 hF367 rfl ?_
  exact ⟨rfl, (mix_chain e43 e94 e135 e186 e231 e282 e323 e373) ▸ b369, (grow_set (grow_ext (grow_ext (grow_set (grow_ext (grow_set (grow_ext (grow_ext (grow_set (grow_ext (grow_set (grow_ext (grow_ext (grow_set (grow_ext (grow_set (grow_ext (grow_ext (grow_set (grow_ext (grow_refl w g) hx3) hg40) hx48) hx82) hg91) hx99) hg132) hx140) hx174) hg183) hx191) hg228) hx236) hx270) hg279) hx287) hg320) hx327) hx361) hg370)⟩

end Go.Proofs.YtgodliookpgliaaDoor
