/- Several texts in one: SealM, SealN3. -/
import Derived.Test.YtmjgjopbeokajaaDoorProg
import Derived.Test.YtmjgjopbeokajaaDoorBunJ
import Derived.KernelRfl
import Derived.Test.YtmjgjopbeokajaaDoorBunA
import Derived.Test.YtmjgjopbeokajaaDoorBunB
namespace Go.Proofs.YtmjgjopbeokajaaDoor
open Go.RowKit

variable {S S' : Nat → Prop}

theorem rverify_at {v u1 u2 u3 : Value} {m n1 n2 n3 : Nat} {S1 S2 S3 : Nat → Prop} (root : List UInt8) (n : Int) (msg : List UInt8) (sg : Sg) (w : World) (hd : root.length = 32) (hm : Fl S w 1 v m (byteVals msg)) (ho : Fl S1 w 32 u1 n1 (digVals sg.op)) (he : Fl S2 w 32 u2 n2 (digVals sg.cl)) (hp : Fl S3 w 32 u3 n3 (digVals sg.path)) (h32o : All32 sg.op) (h32c : All32 sg.cl) (h32p : All32 sg.path) :
    Calls Tryd.prog 19 #[.agg (byteVals root).toArray, .int .i64 n, v, .agg #[.int .i64 sg.index, u1, u2, u3]] w (fun e w' => e = .returned (.bool (verifyF root n msg sg)) ∧ Ext w w') := by
  have h1 := hm.blen
  have h2 := Fl.dlen ho h32o
  have h3 := Fl.dlen he h32c
  have h4 := Fl.dlen hp h32p
  subst h1 h2 h3 h4
  obtain ⟨B, cb, rfl, _⟩ := hm.form
  obtain ⟨O, oc, rfl, _⟩ := ho.form
  obtain ⟨C, ec, rfl, _⟩ := he.form
  obtain ⟨P, pc, rfl, _⟩ := hp.form
  exact rverify_any (S := fun _ => True) root n B cb msg sg.index O oc sg.op C ec sg.cl P pc sg.path w hd (hm.sub fun _ _ => trivial) (ho.sub fun _ _ => trivial) (he.sub fun _ _ => trivial) (hp.sub fun _ _ => trivial) h32o h32c h32p

set_option maxRecDepth 100000 in
set_option maxHeartbeats 1000000 in
theorem sane4 (w : World) (hG : Glob w) :
    Calls Tryd.prog 11 #[] w (fun e w' => e = .returned (.bool true) ∧ Ext w w') := by
  refine calls_enter (l := []) Tryd.func11 rfl rfl rfl (fun aA hF => ?_)
  refine wp_seq_k (fun K1 hK1 => ?_)
  refine wp_region_lit ?_
  refine qv 0 (.bool false) hF rfl (rn_assign rfl) fun _ F3 => ?_; clear hF
  refine wpList_nil ?_
  refine hK1 _ _ ?_
  clear hK1
  refine wp_seq_k (fun K4 hK4 => ?_)
  refine wp_region_lit ?_
  refine wpl_op (i := 0) rfl (o_call F3 rfl rfl rfl rfl (rn_call (args2 rfl rfl) rfl (by kernel_rfl)) (new_at (v := (.slice none 0 0)) (m := 0) ([]) 1 _ (show Fl (fun _ => False) w 1 (.slice none 0 0) 0 (byteVals []) from Fl.nil _) (by omega)) ?_)
  rintro _ w11 ⟨A5, n6, c7, rfl, hf8, hx12⟩
  have z9 := (Fl.cel hf8).2.1; have z10 := Fl.blen hf8
  refine ⟨_, rfl, ?_⟩; intro a13 F14; clear F3; have z15 := hx12.size
  have hf16 : Fl (Clip (fun b => w.heap.size ≤ b) w11) w11 1 (.slice A5 n6 c7) n6 (byteVals (newS ([]) 1)) := hf8.clip
  refine qv 1 (.tuple #[(.agg #[(.slice A5 n6 c7), (.int .i64 (newM ([]) 1)), (.int .i64 0)]), (.int .i64 (newE ([]) 1))]) F14 rfl (rn_move (F14.get rfl)) fun _ F18 => ?_; clear F14
  refine qv 2 (.agg #[(.slice A5 n6 c7), (.int .i64 (newM ([]) 1)), (.int .i64 0)]) F18 rfl (rn_extract (F18.get rfl) rfl) fun _ F20 => ?_; clear F18
  refine qv 3 (.int .i64 (newE ([]) 1)) F20 rfl (rn_extract (F20.get rfl) rfl) fun _ F22 => ?_; clear F20
  refine wpl_op (i := 4) rfl (o_new (fun g => (.pointer (some ⟨g, 0, none⟩))) [(.slice none 0 0), (.int .i64 0), (.int .i64 0)] 24 F22 rfl rfl rfl rfl (by kernel_rfl) ?_)
  intro g23 w24 a29 F30 z27 z28 b25 hx26; clear F22
  refine wpl_op (i := 5) rfl (o_store (cells := [(.slice A5 n6 c7), (.int .i64 (newM ([]) 1)), (.int .i64 0)]) F30 rfl rfl rfl rfl (F30.get rfl) (F30.get rfl) b25 inf24 rfl (by simp [Value.oneCell']) ?_)
  intro w31 b32 hg33; have z34 := hg33.size
  refine qv 6 (.int .i64 (newE ([]) 1)) F30 rfl (rn_assign (F30.get rfl)) fun _ F36 => ?_; clear F30
  refine wpList_nil ?_
  refine hK4 _ _ ?_
  clear hK4
  have F37 := ((F36.nil.c F36 2 rfl).c F36 0 rfl)
  clear F36
  refine wp_seq_k (fun K38 hK38 => ?_)
  refine wp_region_lit ?_
  refine wpl_op (i := 0) rfl (o_new (fun g => (.slice (some ⟨g, 0, none⟩) 65 65)) (byteVals (List.replicate 65 0)) 5 F37 rfl rfl rfl rfl (rn_makeN El22 rfl rfl rfl (by omega) (by omega) (by simp [byteVals])) ?_)
  intro g39 w40 a45 F46 z43 z44 b41 hx42; clear F37
  refine wpl_op (i := 1) rfl (o_call F46 rfl rfl rfl rfl (rn_call (args2 (F46.get rfl) rfl) rfl (by kernel_rfl)) (new_at (v := (.slice (some ⟨g39, 0, none⟩) 65 65)) (m := 65) (List.replicate 65 0) 1 _ (Fl.blk (S := fun b => b = g39) (k := 1) (n := 65) (c := 65) b41 (by rw [byteVals_len (List.length_replicate (n := 65) (a := (0 : UInt8))), Nat.mul_one]) (byteVals_one _) (by omega) rfl) (by omega)) ?_)
  rintro _ w53 ⟨A47, n48, c49, rfl, hf50, hx54⟩
  have z51 := (Fl.cel hf50).2.1; have z52 := Fl.blen hf50
  refine ⟨_, rfl, ?_⟩; intro a55 F56; clear F46; have z57 := hx54.size
  have hf58 : Fl (Clip (fun b => w40.heap.size ≤ b) w53) w53 1 (.slice A47 n48 c49) n48 (byteVals (newS (List.replicate 65 0) 1)) := hf50.clip
  refine qv 2 (.tuple #[(.agg #[(.slice A47 n48 c49), (.int .i64 (newM (List.replicate 65 0) 1)), (.int .i64 0)]), (.int .i64 (newE (List.replicate 65 0) 1))]) F56 rfl (rn_move (F56.get rfl)) fun _ F60 => ?_; clear F56
  refine qv 3 (.agg #[(.slice A47 n48 c49), (.int .i64 (newM (List.replicate 65 0) 1)), (.int .i64 0)]) F60 rfl (rn_extract (F60.get rfl) rfl) fun _ F62 => ?_; clear F60
  refine qv 4 (.int .i64 (newE (List.replicate 65 0) 1)) F62 rfl (rn_extract (F62.get rfl) rfl) fun _ F64 => ?_; clear F62
  refine wpl_op (i := 5) rfl (o_new (fun g => (.pointer (some ⟨g, 0, none⟩))) [(.slice none 0 0), (.int .i64 0), (.int .i64 0)] 24 F64 rfl rfl rfl rfl (by kernel_rfl) ?_)
  intro g65 w66 a71 F72 z69 z70 b67 hx68; clear F64
  refine wpl_op (i := 6) rfl (o_store (cells := [(.slice A47 n48 c49), (.int .i64 (newM (List.replicate 65 0) 1)), (.int .i64 0)]) F72 rfl rfl rfl rfl (F72.get rfl) (F72.get rfl) b67 inf24 rfl (by simp [Value.oneCell']) ?_)
  intro w73 b74 hg75; have z76 := hg75.size
  refine qv 7 (.int .i64 (newE (List.replicate 65 0) 1)) F72 rfl (rn_assign (F72.get rfl)) fun _ F78 => ?_; clear F72
  refine wpList_nil ?_
  refine hK38 _ _ ?_
  clear hK38
  have F79 := (((F78.nil.c F78 4 rfl).c F78 2 rfl).c F78 0 rfl)
  clear F78
  refine wp_seq_k (fun K80 hK80 => ?_)
  refine wp_region_lit ?_
  refine wpl_op (i := 0) rfl (o_new (fun g => (.slice (some ⟨g, 0, none⟩) 1 1)) [(.int .u8 1)] 5 F79 rfl rfl rfl rfl (rn_buildSlice (parts1 rfl) (by kernel_rfl)) ?_)
  intro g81 w82 a87 F88 z85 z86 b83 hx84; clear F79
  refine wpl_op (i := 1) rfl (o_call F88 rfl rfl rfl rfl (rn_call (args2 (F88.get rfl) rfl) rfl (by kernel_rfl)) (new_at (v := (.slice (some ⟨g81, 0, none⟩) 1 1)) (m := 1) ([(1 : UInt8)]) 4097 _ (Fl.blk (S := fun b => b = g81) (k := 1) (n := 1) (c := 1) (cs := byteVals [(1 : UInt8)]) b83 rfl (byteVals_one _) (by omega) rfl) (by omega)) ?_)
  rintro _ w95 ⟨A89, n90, c91, rfl, hf92, hx96⟩
  have z93 := (Fl.cel hf92).2.1; have z94 := Fl.blen hf92
  refine ⟨_, rfl, ?_⟩; intro a97 F98; clear F88; have z99 := hx96.size
  have hf100 : Fl (Clip (fun b => w82.heap.size ≤ b) w95) w95 1 (.slice A89 n90 c91) n90 (byteVals (newS ([(1 : UInt8)]) 4097)) := hf92.clip
  refine qv 2 (.tuple #[(.agg #[(.slice A89 n90 c91), (.int .i64 (newM ([(1 : UInt8)]) 4097)), (.int .i64 0)]), (.int .i64 (newE ([(1 : UInt8)]) 4097))]) F98 rfl (rn_move (F98.get rfl)) fun _ F102 => ?_; clear F98
  refine qv 3 (.agg #[(.slice A89 n90 c91), (.int .i64 (newM ([(1 : UInt8)]) 4097)), (.int .i64 0)]) F102 rfl (rn_extract (F102.get rfl) rfl) fun _ F104 => ?_; clear F102
  refine qv 4 (.int .i64 (newE ([(1 : UInt8)]) 4097)) F104 rfl (rn_extract (F104.get rfl) rfl) fun _ F106 => ?_; clear F104
  refine wpl_op (i := 5) rfl (o_new (fun g => (.pointer (some ⟨g, 0, none⟩))) [(.slice none 0 0), (.int .i64 0), (.int .i64 0)] 24 F106 rfl rfl rfl rfl (by kernel_rfl) ?_)
  intro g107 w108 a113 F114 z111 z112 b109 hx110; clear F106
  refine wpl_op (i := 6) rfl (o_store (cells := [(.slice A89 n90 c91), (.int .i64 (newM ([(1 : UInt8)]) 4097)), (.int .i64 0)]) F114 rfl rfl rfl rfl (F114.get rfl) (F114.get rfl) b109 inf24 rfl (by simp [Value.oneCell']) ?_)
  intro w115 b116 hg117; have z118 := hg117.size
  refine qv 7 (.int .i64 (newE ([(1 : UInt8)]) 4097)) F114 rfl (rn_assign (F114.get rfl)) fun _ F120 => ?_; clear F114
  refine wpList_nil ?_
  refine hK80 _ _ ?_
  clear hK80
  have F121 := ((((F120.nil.c F120 6 rfl).c F120 4 rfl).c F120 2 rfl).c F120 0 rfl)
  clear F120
  refine wp_seq_k (fun K122 hK122 => ?_)
  refine wp_region_lit ?_
  refine wpl_op (i := 0) rfl (o_new (fun g => (.slice (some ⟨g, 0, none⟩) 2 2)) [(.int .u8 1), (.int .u8 2)] 5 F121 rfl rfl rfl rfl (rn_buildSlice (parts2 rfl rfl) (by kernel_rfl)) ?_)
  intro g123 w124 a129 F130 z127 z128 b125 hx126; clear F121
  refine wpl_op (i := 1) rfl (o_call F130 rfl rfl rfl rfl (rn_call (args2 (F130.get rfl) rfl) rfl (by kernel_rfl)) (new_at (v := (.slice (some ⟨g123, 0, none⟩) 2 2)) (m := 2) ([(1 : UInt8), (2 : UInt8)]) 2 _ (Fl.blk (S := fun b => b = g123) (k := 1) (n := 2) (c := 2) (cs := byteVals [(1 : UInt8), (2 : UInt8)]) b125 rfl (byteVals_one _) (by omega) rfl) (by omega)) ?_)
  rintro _ w137 ⟨A131, n132, c133, rfl, hf134, hx138⟩
  have z135 := (Fl.cel hf134).2.1; have z136 := Fl.blen hf134
  refine ⟨_, rfl, ?_⟩; intro a139 F140; clear F130; have z141 := hx138.size
  have hf142 : Fl (Clip (fun b => w124.heap.size ≤ b) w137) w137 1 (.slice A131 n132 c133) n132 (byteVals (newS ([(1 : UInt8), (2 : UInt8)]) 2)) := hf134.clip
  refine qv 2 (.tuple #[(.agg #[(.slice A131 n132 c133), (.int .i64 (newM ([(1 : UInt8), (2 : UInt8)]) 2)), (.int .i64 0)]), (.int .i64 (newE ([(1 : UInt8), (2 : UInt8)]) 2))]) F140 rfl (rn_move (F140.get rfl)) fun _ F144 => ?_; clear F140
  refine qv 3 (.agg #[(.slice A131 n132 c133), (.int .i64 (newM ([(1 : UInt8), (2 : UInt8)]) 2)), (.int .i64 0)]) F144 rfl (rn_extract (F144.get rfl) rfl) fun _ F146 => ?_; clear F144
  refine qv 4 (.int .i64 (newE ([(1 : UInt8), (2 : UInt8)]) 2)) F146 rfl (rn_extract (F146.get rfl) rfl) fun _ F148 => ?_; clear F146
  refine wpl_op (i := 5) rfl (o_new (fun g => (.pointer (some ⟨g, 0, none⟩))) [(.slice none 0 0), (.int .i64 0), (.int .i64 0)] 24 F148 rfl rfl rfl rfl (by kernel_rfl) ?_)
  intro g149 w150 a155 F156 z153 z154 b151 hx152; clear F148
  refine wpl_op (i := 6) rfl (o_store (cells := [(.slice A131 n132 c133), (.int .i64 (newM ([(1 : UInt8), (2 : UInt8)]) 2)), (.int .i64 0)]) F156 rfl rfl rfl rfl (F156.get rfl) (F156.get rfl) b151 inf24 rfl (by simp [Value.oneCell']) ?_)
  intro w157 b158 hg159; have z160 := hg159.size
  refine qv 7 (.int .i64 (newE ([(1 : UInt8), (2 : UInt8)]) 2)) F156 rfl (rn_assign (F156.get rfl)) fun _ F162 => ?_; clear F156
  refine wpList_nil ?_
  refine hK122 _ _ ?_
  clear hK122
  have F163 := ((((((F162.nil.c F162 8 rfl).c F162 7 rfl).c F162 6 rfl).c F162 4 rfl).c F162 2 rfl).c F162 0 rfl)
  clear F162
  refine wp_seq_k (fun K164 hK164 => ?_)
  refine wp_region_lit ?_
  refine wpl_op (i := 0) rfl (o_new (fun g => (.slice (some ⟨g, 0, none⟩) 1 1)) [(.int .u8 1)] 5 F163 rfl rfl rfl rfl (rn_buildSlice (parts1 rfl) (by kernel_rfl)) ?_)
  intro g165 w166 a171 F172 z169 z170 b167 hx168; clear F163
  refine qv 1 (.agg #[(.slice (some ⟨g165, 0, none⟩) 1 1), (.int .i64 1), (.int .i64 0)]) F172 rfl (rn_build (parts2 (F172.get rfl) rfl) (by kernel_rfl)) fun _ F174 => ?_; clear F172
  refine wpl_op (i := 2) rfl (o_call F174 rfl rfl rfl rfl (rn_call (args3 (F174.get rfl) rfl rfl) rfl (by kernel_rfl)) (sign_at (v := (.slice (some ⟨g165, 0, none⟩) 1 1)) (m := 1) (u := (.slice none 0 0)) (n := 0) ([(1 : UInt8)]) 1 0 1 ([]) _ (Fl.blk (S := fun b => b = g165) (k := 1) (n := 1) (c := 1) (cs := byteVals [(1 : UInt8)]) b167 rfl (byteVals_one _) (by omega) rfl) (show Fl (fun _ => False) w166 1 (.slice none 0 0) 0 (byteVals []) from Fl.nil _) (hG.ext (((((((((((((((((Ext.refl w).trans hx12).trans hx26).grownN hg33 (by omega)).trans hx42).trans hx54).trans hx68).grownN hg75 (by omega)).trans hx84).trans hx96).trans hx110).grownN hg117 (by omega)).trans hx126).trans hx138).trans hx152).grownN hg159 (by omega)).trans hx168))) ?_)
  obtain ⟨sg187, hsg188⟩ : ∃ z, z = signF ([(1 : UInt8)]) 1 0 1 ([]) := ⟨_, rfl⟩
  rw [← hsg188]
  rintro _ w189 ⟨A175, n176, c177, A178, n179, c180, A181, n182, c183, rfl, hf184, hf185, hf186, hx190⟩
  have h32191 : All32 sg187.op := by rw [hsg188]; exact signF_o _ _ _ _ _
  have z192 := (Fl.cel hf184).2.1; have z193 := Fl.dlen hf184 h32191
  have h32194 : All32 sg187.cl := by rw [hsg188]; exact signF_c _ _ _ _ _
  have z195 := (Fl.cel hf185).2.1; have z196 := Fl.dlen hf185 h32194
  have h32197 : All32 sg187.path := by rw [hsg188]; exact signF_p _ _ _ _ _
  have z198 := (Fl.cel hf186).2.1; have z199 := Fl.dlen hf186 h32197
  refine ⟨_, rfl, ?_⟩; intro a200 F201; clear F174; have z202 := hx190.size
  have hf203 : Fl (Clip (fun b => w166.heap.size ≤ b) w189) w189 32 (.slice A175 n176 c177) n176 (digVals sg187.op) := hf184.clip
  have hf204 : Fl (Clip (fun b => w166.heap.size ≤ b) w189) w189 32 (.slice A178 n179 c180) n179 (digVals sg187.cl) := hf185.clip
  have hf205 : Fl (Clip (fun b => w166.heap.size ≤ b) w189) w189 32 (.slice A181 n182 c183) n182 (digVals sg187.path) := hf186.clip
  refine qv 3 (.tuple #[(.agg #[(.int .i64 sg187.index), (.slice A175 n176 c177), (.slice A178 n179 c180), (.slice A181 n182 c183)]), (.int .i64 (signE ([(1 : UInt8)]) 1 0 1 ([])))]) F201 rfl (rn_move (F201.get rfl)) fun _ F207 => ?_; clear F201
  refine qv 4 (.agg #[(.int .i64 sg187.index), (.slice A175 n176 c177), (.slice A178 n179 c180), (.slice A181 n182 c183)]) F207 rfl (rn_extract (F207.get rfl) rfl) fun _ F209 => ?_; clear F207
  refine qv 5 (.int .i64 (signE ([(1 : UInt8)]) 1 0 1 ([]))) F209 rfl (rn_extract (F209.get rfl) rfl) fun _ F211 => ?_; clear F209
  refine wpl_op (i := 6) rfl (o_new (fun g => (.pointer (some ⟨g, 0, none⟩))) [(.int .i64 0), (.slice none 0 0), (.slice none 0 0), (.slice none 0 0)] 30 F211 rfl rfl rfl rfl (by kernel_rfl) ?_)
  intro g212 w213 a218 F219 z216 z217 b214 hx215; clear F211
  refine wpl_op (i := 7) rfl (o_store (cells := [(.int .i64 sg187.index), (.slice A175 n176 c177), (.slice A178 n179 c180), (.slice A181 n182 c183)]) F219 rfl rfl rfl rfl (F219.get rfl) (F219.get rfl) b214 inf30 rfl (by simp [Value.oneCell']) ?_)
  intro w220 b221 hg222; have z223 := hg222.size
  refine qv 8 (.int .i64 (signE ([(1 : UInt8)]) 1 0 1 ([]))) F219 rfl (rn_assign (F219.get rfl)) fun _ F225 => ?_; clear F219
  refine wpList_nil ?_
  refine hK164 _ _ ?_
  clear hK164
  have F226 := (((((((F225.nil.c F225 10 rfl).c F225 8 rfl).c F225 7 rfl).c F225 6 rfl).c F225 4 rfl).c F225 2 rfl).c F225 0 rfl)
  clear F225
  refine wp_seq_k (fun K227 hK227 => ?_)
  refine wp_region_lit ?_
  refine qv 0 (.int .i64 (newE ([]) 1)) F226 rfl (rn_move (F226.get rfl)) fun _ F229 => ?_; clear F226
  refine qv 1 (.bool (decide (((newE ([]) 1) : Int) = (40 : Int)))) F229 rfl (rn_eql (F229.get rfl) rfl) fun _ F231 => ?_; clear F229
  refine qv 2 (.bool (decide (((newE ([]) 1) : Int) = (40 : Int)))) F231 rfl (rn_move (F231.get rfl)) fun _ F233 => ?_; clear F231
  refine qg 3 (.int .i64 (newE (List.replicate 65 0) 1)) F233 ((decide_eq_true (by decide)) : decide (((newE ([]) 1) : Int) = (40 : Int)) = true) (rn_move (F233.get rfl)) fun _ F236 => ?_; clear F233
  refine qg 4 (.bool (decide (((newE (List.replicate 65 0) 1) : Int) = (40 : Int)))) F236 ((decide_eq_true (by decide)) : decide (((newE ([]) 1) : Int) = (40 : Int)) = true) (rn_eql (F236.get rfl) rfl) fun _ F238 => ?_; clear F236
  refine qv 5 (.bool (decide (((newE (List.replicate 65 0) 1) : Int) = (40 : Int)))) F238 rfl (rn_pickT (c_true F238 rfl ((decide_eq_true (by decide)) : decide (((newE ([]) 1) : Int) = (40 : Int)) = true)) (F238.get rfl)) fun _ F240 => ?_; clear F238
  refine qv 6 (.bool (decide (((newE (List.replicate 65 0) 1) : Int) = (40 : Int)))) F240 rfl (rn_move (F240.get rfl)) fun _ F242 => ?_; clear F240
  refine qg 7 (.int .i64 (newE ([(1 : UInt8)]) 4097)) F242 ((decide_eq_true (by decide)) : decide (((newE (List.replicate 65 0) 1) : Int) = (40 : Int)) = true) (rn_move (F242.get rfl)) fun _ F245 => ?_; clear F242
  refine qg 8 (.bool (decide (((newE ([(1 : UInt8)]) 4097) : Int) = (40 : Int)))) F245 ((decide_eq_true (by decide)) : decide (((newE (List.replicate 65 0) 1) : Int) = (40 : Int)) = true) (rn_eql (F245.get rfl) rfl) fun _ F247 => ?_; clear F245
  refine qv 9 (.bool (decide (((newE ([(1 : UInt8)]) 4097) : Int) = (40 : Int)))) F247 rfl (rn_pickT (c_true F247 rfl ((decide_eq_true (by decide)) : decide (((newE (List.replicate 65 0) 1) : Int) = (40 : Int)) = true)) (F247.get rfl)) fun _ F249 => ?_; clear F247
  refine qv 10 (.bool (decide (((newE ([(1 : UInt8)]) 4097) : Int) = (40 : Int)))) F249 rfl (rn_move (F249.get rfl)) fun _ F251 => ?_; clear F249
  refine qg 11 (.int .i64 (newE ([(1 : UInt8), (2 : UInt8)]) 2)) F251 ((decide_eq_true (by decide)) : decide (((newE ([(1 : UInt8)]) 4097) : Int) = (40 : Int)) = true) (rn_move (F251.get rfl)) fun _ F254 => ?_; clear F251
  refine qg 12 (.bool (decide (((newE ([(1 : UInt8), (2 : UInt8)]) 2) : Int) = (0 : Int)))) F254 ((decide_eq_true (by decide)) : decide (((newE ([(1 : UInt8)]) 4097) : Int) = (40 : Int)) = true) (rn_eql (F254.get rfl) rfl) fun _ F256 => ?_; clear F254
  refine qv 13 (.bool (decide (((newE ([(1 : UInt8), (2 : UInt8)]) 2) : Int) = (0 : Int)))) F256 rfl (rn_pickT (c_true F256 rfl ((decide_eq_true (by decide)) : decide (((newE ([(1 : UInt8)]) 4097) : Int) = (40 : Int)) = true)) (F256.get rfl)) fun _ F258 => ?_; clear F256
  refine qv 14 (.bool (decide (((newE ([(1 : UInt8), (2 : UInt8)]) 2) : Int) = (0 : Int)))) F258 rfl (rn_move (F258.get rfl)) fun _ F260 => ?_; clear F258
  refine qg 15 (.pointer (some ⟨g149, 1, none⟩)) F260 ((decide_eq_true (by decide)) : decide (((newE ([(1 : UInt8), (2 : UInt8)]) 2) : Int) = (0 : Int)) = true) (rn_field Tryd.underlying24 rfl (by kernel_rfl) (F260.get rfl) rfl) fun _ F263 => ?_; clear F260
  have b264 := ((((b158.ext hx168).ext hx190).ext hx215).grownN hg222 (by omega))
  refine qg 16 (.int .i64 (newM ([(1 : UInt8), (2 : UInt8)]) 2)) F263 ((decide_eq_true (by decide)) : decide (((newE ([(1 : UInt8), (2 : UInt8)]) 2) : Int) = (0 : Int)) = true) (rn_load (isAgg_no Tryd.underlying3 rfl) (F263.get rfl) (b264.rule.1 1)) fun _ F266 => ?_; clear F263
  refine qg 17 (.bool (decide (((newM ([(1 : UInt8), (2 : UInt8)]) 2) : Int) = (2 : Int)))) F266 ((decide_eq_true (by decide)) : decide (((newE ([(1 : UInt8), (2 : UInt8)]) 2) : Int) = (0 : Int)) = true) (rn_eql (F266.get rfl) rfl) fun _ F268 => ?_; clear F266
  refine qv 18 (.bool (decide (((newM ([(1 : UInt8), (2 : UInt8)]) 2) : Int) = (2 : Int)))) F268 rfl (rn_pickT (c_true F268 rfl ((decide_eq_true (by decide)) : decide (((newE ([(1 : UInt8), (2 : UInt8)]) 2) : Int) = (0 : Int)) = true)) (F268.get rfl)) fun _ F270 => ?_; clear F268
  refine qv 19 (.bool (decide (((newM ([(1 : UInt8), (2 : UInt8)]) 2) : Int) = (2 : Int)))) F270 rfl (rn_move (F270.get rfl)) fun _ F272 => ?_; clear F270
  refine qg 20 (.pointer (some ⟨g149, 2, none⟩)) F272 ((decide_eq_true (by decide)) : decide (((newM ([(1 : UInt8), (2 : UInt8)]) 2) : Int) = (2 : Int)) = true) (rn_field Tryd.underlying24 rfl (by kernel_rfl) (F272.get rfl) rfl) fun _ F275 => ?_; clear F272
  refine qg 21 (.int .i64 0) F275 ((decide_eq_true (by decide)) : decide (((newM ([(1 : UInt8), (2 : UInt8)]) 2) : Int) = (2 : Int)) = true) (rn_load (isAgg_no Tryd.underlying3 rfl) (F275.get rfl) (b264.rule.1 2)) fun _ F277 => ?_; clear F275
  refine qg 22 (.bool true) F277 ((decide_eq_true (by decide)) : decide (((newM ([(1 : UInt8), (2 : UInt8)]) 2) : Int) = (2 : Int)) = true) (rn_eql' (F277.get rfl) rfl (by decide)) fun _ F279 => ?_; clear F277
  refine qv 23 (.bool true) F279 rfl (rn_pickT (c_true F279 rfl ((decide_eq_true (by decide)) : decide (((newM ([(1 : UInt8), (2 : UInt8)]) 2) : Int) = (2 : Int)) = true)) (F279.get rfl)) fun _ F281 => ?_; clear F279
  refine qv 24 (.bool true) F281 rfl (rn_move (F281.get rfl)) fun _ F283 => ?_; clear F281
  refine qg 25 (.int .i64 (signE ([(1 : UInt8)]) 1 0 1 ([]))) F283 rfl (rn_move (F283.get rfl)) fun _ F285 => ?_; clear F283
  refine qg 26 (.bool (decide (((signE ([(1 : UInt8)]) 1 0 1 ([])) : Int) = (40 : Int)))) F285 rfl (rn_eql (F285.get rfl) rfl) fun _ F287 => ?_; clear F285
  refine qv 27 (.bool (decide (((signE ([(1 : UInt8)]) 1 0 1 ([])) : Int) = (40 : Int)))) F287 rfl (rn_pickT (c_true F287 rfl rfl) (F287.get rfl)) fun _ F289 => ?_; clear F287
  refine qv 28 (.bool (decide (((signE ([(1 : UInt8)]) 1 0 1 ([])) : Int) = (40 : Int)))) F289 rfl (rn_move (F289.get rfl)) fun _ F291 => ?_; clear F289
  refine qg 29 (.agg (byteVals (List.replicate 32 0)).toArray) F291 ((decide_eq_true (by decide)) : decide (((signE ([(1 : UInt8)]) 1 0 1 ([])) : Int) = (40 : Int)) = true) (rn_build parts0 (by kernel_rfl)) fun _ F294 => ?_; clear F291
  refine wpl_op (i := 30) rfl (o_call F294 rfl (wanted_guard rfl rfl rfl F294 rfl ((decide_eq_true (by decide)) : decide (((signE ([(1 : UInt8)]) 1 0 1 ([])) : Int) = (40 : Int)) = true) rfl) rfl rfl (rn_call (args3 (F294.get rfl) rfl rfl) rfl (by kernel_rfl)) (bits_at (v := (.slice none 0 0)) (m := 0) (List.replicate 32 0) (-1) ([]) _ (show List.length (List.replicate 32 0) = _ from List.length_replicate) (show Fl (fun _ => False) w220 1 (.slice none 0 0) 0 (byteVals []) from Fl.nil _) (hG.ext ((((((((((((((((((((Ext.refl w).trans hx12).trans hx26).grownN hg33 (by omega)).trans hx42).trans hx54).trans hx68).grownN hg75 (by omega)).trans hx84).trans hx96).trans hx110).grownN hg117 (by omega)).trans hx126).trans hx138).trans hx152).grownN hg159 (by omega)).trans hx168).trans hx190).trans hx215).grownN hg222 (by omega))) (by omega)) ?_)
  rintro _ w301 ⟨A295, n296, c297, rfl, hf298, hx302⟩
  have z299 := (Fl.cel hf298).2.1; have z300 := Fl.blen2 hf298
  refine ⟨_, rfl, ?_⟩; intro a303 F304; clear F294; have z305 := hx302.size
  have hf306 : Fl (Clip (fun b => w220.heap.size ≤ b) w301) w301 1 (.slice A295 n296 c297) n296 (boolVals (bitsR (List.replicate 32 0) (-1) ([]))) := hf298.clip
  refine qg 31 (.int .i64 (n296 : Nat)) F304 ((decide_eq_true (by decide)) : decide (((signE ([(1 : UInt8)]) 1 0 1 ([])) : Int) = (40 : Int)) = true) (rn_len_slice Tryd.underlying44 (F304.get rfl)) fun _ F308 => ?_; clear F304
  refine qg 32 (.bool (decide (((n296 : Nat) : Int) = (0 : Int)))) F308 ((decide_eq_true (by decide)) : decide (((signE ([(1 : UInt8)]) 1 0 1 ([])) : Int) = (40 : Int)) = true) (rn_eql (F308.get rfl) rfl) fun _ F310 => ?_; clear F308
  refine qv 33 (.bool (decide (((n296 : Nat) : Int) = (0 : Int)))) F310 rfl (rn_pickT (c_true F310 rfl ((decide_eq_true (by decide)) : decide (((signE ([(1 : UInt8)]) 1 0 1 ([])) : Int) = (40 : Int)) = true)) (F310.get rfl)) fun _ F312 => ?_; clear F310
  refine qv 34 (.bool (decide (((n296 : Nat) : Int) = (0 : Int)))) F312 rfl (rn_move (F312.get rfl)) fun _ F314 => ?_; clear F312
  refine qg 35 (.agg (byteVals (List.replicate 32 0)).toArray) F314 ((decide_eq_true (by have hq : (bitsR (List.replicate 32 0) (-1) ([])).length = 0 := (by rw [bitsR_out (by omega)]; rfl); omega)) : decide (((n296 : Nat) : Int) = (0 : Int)) = true) (rn_build parts0 (by kernel_rfl)) fun _ F317 => ?_; clear F314
  refine wpl_op (i := 36) rfl (o_call F317 rfl (wanted_guard rfl rfl rfl F317 rfl ((decide_eq_true (by have hq : (bitsR (List.replicate 32 0) (-1) ([])).length = 0 := (by rw [bitsR_out (by omega)]; rfl); omega)) : decide (((n296 : Nat) : Int) = (0 : Int)) = true) rfl) rfl rfl (rn_call (args3 (F317.get rfl) rfl rfl) rfl (by kernel_rfl)) (bits_at (v := (.slice none 0 0)) (m := 0) (List.replicate 32 0) 0 ([]) _ (show List.length (List.replicate 32 0) = _ from List.length_replicate) (show Fl (fun _ => False) w301 1 (.slice none 0 0) 0 (byteVals []) from Fl.nil _) (hG.ext (((((((((((((((((((((Ext.refl w).trans hx12).trans hx26).grownN hg33 (by omega)).trans hx42).trans hx54).trans hx68).grownN hg75 (by omega)).trans hx84).trans hx96).trans hx110).grownN hg117 (by omega)).trans hx126).trans hx138).trans hx152).grownN hg159 (by omega)).trans hx168).trans hx190).trans hx215).grownN hg222 (by omega)).trans hx302)) (by omega)) ?_)
  rintro _ w324 ⟨A318, n319, c320, rfl, hf321, hx325⟩
  have z322 := (Fl.cel hf321).2.1; have z323 := Fl.blen2 hf321
  refine ⟨_, rfl, ?_⟩; intro a326 F327; clear F317; have z328 := hx325.size
  have hf329 : Fl (Clip (fun b => w301.heap.size ≤ b) w324) w324 1 (.slice A318 n319 c320) n319 (boolVals (bitsR (List.replicate 32 0) 0 ([]))) := hf321.clip
  refine qg 37 (.int .i64 (n319 : Nat)) F327 ((decide_eq_true (by have hq : (bitsR (List.replicate 32 0) (-1) ([])).length = 0 := (by rw [bitsR_out (by omega)]; rfl); omega)) : decide (((n296 : Nat) : Int) = (0 : Int)) = true) (rn_len_slice Tryd.underlying44 (F327.get rfl)) fun _ F331 => ?_; clear F327
  refine qg 38 (.bool (decide (((n319 : Nat) : Int) = (64 : Int)))) F331 ((decide_eq_true (by have hq : (bitsR (List.replicate 32 0) (-1) ([])).length = 0 := (by rw [bitsR_out (by omega)]; rfl); omega)) : decide (((n296 : Nat) : Int) = (0 : Int)) = true) (rn_eql (F331.get rfl) rfl) fun _ F333 => ?_; clear F331
  refine qv 39 (.bool (decide (((n319 : Nat) : Int) = (64 : Int)))) F333 rfl (rn_pickT (c_true F333 rfl ((decide_eq_true (by have hq : (bitsR (List.replicate 32 0) (-1) ([])).length = 0 := (by rw [bitsR_out (by omega)]; rfl); omega)) : decide (((n296 : Nat) : Int) = (0 : Int)) = true)) (F333.get rfl)) fun _ F335 => ?_; clear F333
  refine qv 40 (.bool (decide (((n319 : Nat) : Int) = (64 : Int)))) F335 rfl (rn_move (F335.get rfl)) fun _ F337 => ?_; clear F335
  refine qg 41 (.agg (byteVals (List.replicate 32 0)).toArray) F337 ((decide_eq_true (by have hq : (bitsR (List.replicate 32 0) 0 ([])).length = 64 := (by rw [bitsR_in (by omega)]; exact bitsL_len _ _ _); omega)) : decide (((n319 : Nat) : Int) = (64 : Int)) = true) (rn_build parts0 (by kernel_rfl)) fun _ F340 => ?_; clear F337
  refine qg 42 (.agg #[(.int .i64 0), (.slice none 0 0), (.slice none 0 0), (.slice none 0 0)]) F340 ((decide_eq_true (by have hq : (bitsR (List.replicate 32 0) 0 ([])).length = 64 := (by rw [bitsR_in (by omega)]; exact bitsL_len _ _ _); omega)) : decide (((n319 : Nat) : Int) = (64 : Int)) = true) (rn_build (parts0 ) (by kernel_rfl)) fun _ F342 => ?_; clear F340
  refine wpl_op (i := 43) rfl (o_call F342 rfl (wanted_guard rfl rfl rfl F342 rfl ((decide_eq_true (by have hq : (bitsR (List.replicate 32 0) 0 ([])).length = 64 := (by rw [bitsR_in (by omega)]; exact bitsL_len _ _ _); omega)) : decide (((n319 : Nat) : Int) = (64 : Int)) = true) rfl) rfl rfl (rn_call (args4 (F342.get rfl) rfl rfl (F342.get rfl)) rfl (by kernel_rfl)) (verify_at (v := (.slice none 0 0)) (m := 0) (u1 := (.slice none 0 0)) (u2 := (.slice none 0 0)) (u3 := (.slice none 0 0)) (n1 := 0) (n2 := 0) (n3 := 0) (List.replicate 32 0) 0 ([]) ⟨0, [], [], []⟩ _ (show List.length (List.replicate 32 0) = _ from List.length_replicate) (show Fl (fun _ => False) w324 1 (.slice none 0 0) 0 (byteVals []) from Fl.nil _) (show Fl (fun _ => False) w324 32 (.slice none 0 0) 0 (digVals []) from Fl.nil _) (show Fl (fun _ => False) w324 32 (.slice none 0 0) 0 (digVals []) from Fl.nil _) (show Fl (fun _ => False) w324 32 (.slice none 0 0) 0 (digVals []) from Fl.nil _) All32.nil All32.nil All32.nil (hG.ext ((((((((((((((((((((((Ext.refl w).trans hx12).trans hx26).grownN hg33 (by omega)).trans hx42).trans hx54).trans hx68).grownN hg75 (by omega)).trans hx84).trans hx96).trans hx110).grownN hg117 (by omega)).trans hx126).trans hx138).trans hx152).grownN hg159 (by omega)).trans hx168).trans hx190).trans hx215).grownN hg222 (by omega)).trans hx302).trans hx325))) ?_)
  rintro _ w343 ⟨rfl, hx344⟩
  refine ⟨_, rfl, ?_⟩; intro a345 F346; clear F342; have z347 := hx344.size
  refine qg 44 (.bool (!(verifyF (List.replicate 32 0) 0 ([]) ⟨0, [], [], []⟩))) F346 ((decide_eq_true (by have hq : (bitsR (List.replicate 32 0) 0 ([])).length = 64 := (by rw [bitsR_in (by omega)]; exact bitsL_len _ _ _); omega)) : decide (((n319 : Nat) : Int) = (64 : Int)) = true) (rn_not' (F346.get rfl) rfl) fun _ F349 => ?_; clear F346
  refine qv 45 (.bool (!(verifyF (List.replicate 32 0) 0 ([]) ⟨0, [], [], []⟩))) F349 rfl (rn_pickT (c_true F349 rfl ((decide_eq_true (by have hq : (bitsR (List.replicate 32 0) 0 ([])).length = 64 := (by rw [bitsR_in (by omega)]; exact bitsL_len _ _ _); omega)) : decide (((n319 : Nat) : Int) = (64 : Int)) = true)) (F349.get rfl)) fun _ F351 => ?_; clear F349
  refine qv 46 (.bool (!(verifyF (List.replicate 32 0) 0 ([]) ⟨0, [], [], []⟩))) F351 rfl (rn_move (F351.get rfl)) fun _ F353 => ?_; clear F351
  refine qg 47 (.agg (byteVals (List.replicate 32 0)).toArray) F353 (not_f ((verify_not (by unfold vShape; simp)) : verifyF (List.replicate 32 0) 0 ([]) ⟨0, [], [], []⟩ = false)) (rn_build parts0 (by kernel_rfl)) fun _ F356 => ?_; clear F353
  refine qg 48 (.agg #[(.int .i64 0), (.slice none 0 0), (.slice none 0 0), (.slice none 0 0)]) F356 (not_f ((verify_not (by unfold vShape; simp)) : verifyF (List.replicate 32 0) 0 ([]) ⟨0, [], [], []⟩ = false)) (rn_build (parts0 ) (by kernel_rfl)) fun _ F358 => ?_; clear F356
  refine wpl_op (i := 49) rfl (o_call F358 rfl (wanted_guard rfl rfl rfl F358 rfl (not_f ((verify_not (by unfold vShape; simp)) : verifyF (List.replicate 32 0) 0 ([]) ⟨0, [], [], []⟩ = false)) rfl) rfl rfl (rn_call (args4 (F358.get rfl) rfl rfl (F358.get rfl)) rfl (by kernel_rfl)) (verify_at (v := (.slice none 0 0)) (m := 0) (u1 := (.slice none 0 0)) (u2 := (.slice none 0 0)) (u3 := (.slice none 0 0)) (n1 := 0) (n2 := 0) (n3 := 0) (List.replicate 32 0) 1 ([]) ⟨0, [], [], []⟩ _ (show List.length (List.replicate 32 0) = _ from List.length_replicate) (show Fl (fun _ => False) w343 1 (.slice none 0 0) 0 (byteVals []) from Fl.nil _) (show Fl (fun _ => False) w343 32 (.slice none 0 0) 0 (digVals []) from Fl.nil _) (show Fl (fun _ => False) w343 32 (.slice none 0 0) 0 (digVals []) from Fl.nil _) (show Fl (fun _ => False) w343 32 (.slice none 0 0) 0 (digVals []) from Fl.nil _) All32.nil All32.nil All32.nil (hG.ext (((((((((((((((((((((((Ext.refl w).trans hx12).trans hx26).grownN hg33 (by omega)).trans hx42).trans hx54).trans hx68).grownN hg75 (by omega)).trans hx84).trans hx96).trans hx110).grownN hg117 (by omega)).trans hx126).trans hx138).trans hx152).grownN hg159 (by omega)).trans hx168).trans hx190).trans hx215).grownN hg222 (by omega)).trans hx302).trans hx325).trans hx344))) ?_)
  rintro _ w359 ⟨rfl, hx360⟩
  refine ⟨_, rfl, ?_⟩; intro a361 F362; clear F358; have z363 := hx360.size
  refine qg 50 (.bool (!(verifyF (List.replicate 32 0) 1 ([]) ⟨0, [], [], []⟩))) F362 (not_f ((verify_not (by unfold vShape; simp)) : verifyF (List.replicate 32 0) 0 ([]) ⟨0, [], [], []⟩ = false)) (rn_not' (F362.get rfl) rfl) fun _ F365 => ?_; clear F362
  refine qv 51 (.bool (!(verifyF (List.replicate 32 0) 1 ([]) ⟨0, [], [], []⟩))) F365 rfl (rn_pickT (c_true F365 rfl (not_f ((verify_not (by unfold vShape; simp)) : verifyF (List.replicate 32 0) 0 ([]) ⟨0, [], [], []⟩ = false))) (F365.get rfl)) fun _ F367 => ?_; clear F365
  refine qv 52 (.bool (!(verifyF (List.replicate 32 0) 1 ([]) ⟨0, [], [], []⟩))) F367 rfl (rn_assign (F367.get rfl)) fun _ F369 => ?_; clear F367
  refine wpList_nil ?_
  refine hK227 _ _ ?_
  clear hK227
  have F370 := (((((((F369.nil.c F369 10 rfl).c F369 8 rfl).c F369 7 rfl).c F369 6 rfl).c F369 4 rfl).c F369 2 rfl).c F369 0 rfl)
  clear F369
  refine wp_ret ?_
  refine ret1 F370 rfl rfl ?_
  exact ⟨congrArg (fun b => Ending.returned (.bool b)) ((not_f ((verify_not (by unfold vShape; simp)) : verifyF (List.replicate 32 0) 1 ([]) ⟨0, [], [], []⟩ = false)) : (!(verifyF (List.replicate 32 0) 1 ([]) ⟨0, [], [], []⟩)) = true), ((((((((((((((((((((((((Ext.refl w).trans hx12).trans hx26).grownN hg33 (by omega)).trans hx42).trans hx54).trans hx68).grownN hg75 (by omega)).trans hx84).trans hx96).trans hx110).grownN hg117 (by omega)).trans hx126).trans hx138).trans hx152).grownN hg159 (by omega)).trans hx168).trans hx190).trans hx215).grownN hg222 (by omega)).trans hx302).trans hx325).trans hx344).trans hx360)⟩

end Go.Proofs.YtmjgjopbeokajaaDoor

namespace Go.Proofs.YtmjgjopbeokajaaDoor
open Go.RowKit

variable {S S' : Nat → Prop}

set_option maxRecDepth 100000 in
set_option maxHeartbeats 1000000 in
theorem verifyspec_any (root : List UInt8) (n : Int) (B : Option Addr) (bc : Nat) (msg : List UInt8) (idx : Int) (O : Option Addr) (oc : Nat) (op : List (List UInt8)) (C : Option Addr) (ec : Nat) (cl : List (List UInt8)) (P : Option Addr) (pc : Nat) (pa : List (List UInt8)) (w : World) (hd : root.length = 32) (hm : Fl S w 1 (.slice B msg.length bc) msg.length (byteVals msg)) (ho : Fl S w 32 (.slice O op.length oc) op.length (digVals op)) (he : Fl S w 32 (.slice C cl.length ec) cl.length (digVals cl)) (hp : Fl S w 32 (.slice P pa.length pc) pa.length (digVals pa)) (h32o : All32 op) (h32c : All32 cl) (h32p : All32 pa) (hG : Glob w) :
    Calls Tryd.prog 4 #[.agg (byteVals root).toArray, .int .i64 n, .slice B msg.length bc, .agg #[.int .i64 idx, .slice O op.length oc, .slice C cl.length ec, .slice P pa.length pc]] w (fun e w' => e = .returned (.bool true) ∧ Ext w w') := by
  have hmk : Fl (Clip S w) w 1 (.slice B msg.length bc) msg.length (byteVals msg) := hm.clip
  have hmkc := (Fl.cel hmk).2.1
  have hco : Fl (Clip S w) w 32 (.slice O op.length oc) op.length (digVals op) := ho.clip
  have hcoc := (Fl.cel hco).2.1
  have hce : Fl (Clip S w) w 32 (.slice C cl.length ec) cl.length (digVals cl) := he.clip
  have hcec := (Fl.cel hce).2.1
  have hcp : Fl (Clip S w) w 32 (.slice P pa.length pc) pa.length (digVals pa) := hp.clip
  have hcpc := (Fl.cel hcp).2.1
  refine calls_enter (l := [(.agg (byteVals root).toArray), (.int .i64 n), (.slice B msg.length bc), (.agg #[(.int .i64 idx), (.slice O op.length oc), (.slice C cl.length ec), (.slice P pa.length pc)])]) Tryd.func4 rfl rfl rfl (fun aA hF => ?_)
  refine wp_seq_k (fun K1 hK1 => ?_)
  refine wp_region_lit ?_
  refine wpl_op (i := 0) rfl (o_new (fun g => (.pointer (some ⟨g, 0, none⟩))) (byteVals root) 37 hF rfl rfl rfl rfl (rn_box (hF.get rfl) (box_arr _)) ?_)
  intro g2 w3 a8 F9 z6 z7 b4 hx5; clear hF
  refine wpl_op (i := 1) rfl (o_new (fun g => (.pointer (some ⟨g, 0, none⟩))) [(.int .i64 idx), (.slice O op.length oc), (.slice C cl.length ec), (.slice P pa.length pc)] 30 F9 rfl rfl rfl rfl (rn_box (F9.get rfl) (by kernel_rfl)) ?_)
  intro g10 w11 a16 F17 z14 z15 b12 hx13; clear F9
  refine qv 2 (.bool false) F17 rfl (rn_assign rfl) fun _ F19 => ?_; clear F17
  refine wpList_nil ?_
  refine hK1 _ _ ?_
  clear hK1
  refine wp_seq_k (fun K20 hK20 => ?_)
  refine wp_seq_k (fun K21 hK21 => ?_)
  refine wp_region_lit ?_
  refine wpl_op (i := 0) rfl (o_call F19 rfl rfl rfl rfl (rn_call (args0 ) rfl (by kernel_rfl)) (sane4 _ (hG.ext (((Ext.refl w).trans hx5).trans hx13))) ?_)
  rintro _ w22 ⟨rfl, hx23⟩
  refine ⟨_, rfl, ?_⟩; intro a24 F25; clear F19; have z26 := hx23.size
  refine qv 1 (.bool false) F25 rfl (rn_not' (F25.get rfl) rfl) fun _ F28 => ?_; clear F25
  refine wpList_nil ?_
  refine hK21 _ _ ?_
  clear hK21
  refine wp_cond_false (c_false F28 rfl rfl) ?_
  refine wp_skip ?_
  refine hK20 _ _ ?_
  clear hK20
  refine wp_seq_k (fun K29 hK29 => ?_)
  refine wp_seq_k (fun K30 hK30 => ?_)
  refine wp_region_lit ?_
  refine qv 0 (.slice B msg.length bc) F28 rfl (rn_move (F28.get rfl)) fun _ F32 => ?_; clear F28
  refine qv 1 (.int .i64 (msg.length : Nat)) F32 rfl (rn_len_slice Tryd.underlying22 (F32.get rfl)) fun _ F34 => ?_; clear F32
  refine qv 2 (.bool (decide ((300 : Int) < ((msg.length : Nat) : Int)))) F34 rfl (rn_gtr (F34.get rfl) rfl) fun _ F36 => ?_; clear F34
  refine qv 3 (.bool (decide ((300 : Int) < ((msg.length : Nat) : Int)))) F36 rfl (rn_move (F36.get rfl)) fun _ F38 => ?_; clear F36
  by_cases hc39 : (300 : Int) < ((msg.length : Nat) : Int)
  · skip
    refine qg 4 (.slice B msg.length bc) F38 (decide_eq_true hc39) (rn_move (F38.get rfl)) fun _ F41 => ?_; clear F38
    refine qg 5 (.int .i64 (msg.length : Nat)) F41 (decide_eq_true hc39) (rn_len_slice Tryd.underlying22 (F41.get rfl)) fun _ F43 => ?_; clear F41
    refine qg 6 (.bool (decide (((msg.length : Nat) : Int) ≤ (65536 : Int)))) F43 (decide_eq_true hc39) (rn_leq (F43.get rfl) rfl) fun _ F45 => ?_; clear F43
    refine qv 7 (.bool (decide (((msg.length : Nat) : Int) ≤ (65536 : Int)))) F45 rfl (rn_pickT (c_true F45 rfl (decide_eq_true hc39)) (F45.get rfl)) fun _ F47 => ?_; clear F45
    refine qv 8 (.bool (decide (((msg.length : Nat) : Int) ≤ (65536 : Int)))) F47 rfl (rn_move (F47.get rfl)) fun _ F49 => ?_; clear F47
    by_cases hc50 : ((msg.length : Nat) : Int) ≤ (65536 : Int)
    · skip
      refine qu 9 F49 (decide_eq_true hc50) fun _ F52 => ?_; clear F49
      refine qu 10 F52 (decide_eq_true hc50) fun _ F54 => ?_; clear F52
      refine qu 11 F54 (decide_eq_true hc50) fun _ F56 => ?_; clear F54
      refine qv 12 (.bool true) F56 rfl (rn_pickT (c_true F56 rfl (decide_eq_true hc50)) rfl) fun _ F58 => ?_; clear F56
      refine wpList_nil ?_
      refine hK30 _ _ ?_
      clear hK30
      have F59 := (((((((((F58.nil.c F58 23 rfl).c F58 10 rfl).c F58 8 rfl).c F58 7 rfl).c F58 4 rfl).c F58 3 rfl).c F58 2 rfl).c F58 1 rfl).c F58 0 rfl)
      clear F58
      refine wp_cond_true (c_true F59 rfl rfl) ?_
      refine wp_seq_k (fun K60 hK60 => ?_)
      refine wp_region_lit ?_
      refine qv 0 (.bool true) F59 rfl (rn_assign rfl) fun _ F62 => ?_; clear F59
      refine wpList_nil ?_
      refine hK60 _ _ ?_
      clear hK60
      refine wp_ret ?_
      refine ret_then ?_
      refine ret1 F62 rfl rfl ?_
      exact ⟨congrArg (fun b => Ending.returned (.bool b)) (rfl : true = true), ((((Ext.refl w).trans hx5).trans hx13).trans hx23)⟩
    · skip
      have b63 := (b12.ext hx23)
      refine qg 9 (.agg #[(.int .i64 idx), (.slice O op.length oc), (.slice C cl.length ec), (.slice P pa.length pc)]) F49 (decide_eq_false hc50) (rn_loadBlk (F49.get rfl) b63 Tryd.underlying30 rfl inf30) fun _ F65 => ?_; clear F49
      have d66 := (((hco.ext hx5).ext hx13).ext hx23)
      have d67 := (((hce.ext hx5).ext hx13).ext hx23)
      have d68 := (((hcp.ext hx5).ext hx13).ext hx23)
      refine wpl_op (i := 10) rfl (o_call F65 rfl (wanted_guard rfl rfl rfl F65 rfl (decide_eq_false hc50) rfl) rfl rfl (rn_call (args1 (F65.get rfl)) rfl (by kernel_rfl)) (short_any O C P oc ec pc ⟨idx, op, cl, pa⟩ _) ?_)
      rintro _ w69 ⟨rfl, hx70⟩
      refine ⟨_, rfl, ?_⟩; intro a71 F72; clear F65; have z73 := hx70.size
      refine qg 11 (.bool (!(decide (((((op.length : Nat) : Int) ≤ 100 ∧ ((cl.length : Nat) : Int) ≤ 100) ∧ ((pa.length : Nat) : Int) ≤ 20))))) F72 (decide_eq_false hc50) (rn_not' (F72.get rfl) rfl) fun _ F75 => ?_; clear F72
      refine qv 12 (.bool (!(decide (((((op.length : Nat) : Int) ≤ 100 ∧ ((cl.length : Nat) : Int) ≤ 100) ∧ ((pa.length : Nat) : Int) ≤ 20))))) F75 rfl (rn_pickF (c_false F75 rfl (decide_eq_false hc50)) (F75.get rfl)) fun _ F77 => ?_; clear F75
      refine wpList_nil ?_
      refine hK30 _ _ ?_
      clear hK30
      have F78 := (((((((((F77.nil.c F77 23 rfl).c F77 10 rfl).c F77 8 rfl).c F77 7 rfl).c F77 4 rfl).c F77 3 rfl).c F77 2 rfl).c F77 1 rfl).c F77 0 rfl)
      clear F77
      by_cases hc79 : ((((op.length : Nat) : Int) ≤ 100 ∧ ((cl.length : Nat) : Int) ≤ 100) ∧ ((pa.length : Nat) : Int) ≤ 20)
      · skip
        refine wp_cond_false (c_false F78 rfl (not_t (decide_eq_true hc79))) ?_
        refine wp_skip ?_
        refine hK29 _ _ ?_
        clear hK29
        refine wp_seq_k (fun K80 hK80 => ?_)
        have hx82 : ∃ W, w69.drew = W ∧ Ext w69 W := ⟨_, rfl, (Ext.refl _).drew⟩
        obtain ⟨w81, e83, hx82⟩ := hx82
        have z84 := hx82.size
        refine any_start (fun W => Ext w81 W ∧ Blk W g2 37 (byteVals root) ∧ Blk W g10 30 [(.int .i64 idx), (.slice O op.length oc), (.slice C cl.length ec), (.slice P pa.length pc)]) (fun i => false) 12 #[false, false, false, false, false, false, false, false, false, false, false, false] rfl rfl rfl ?_
        rw [e83]; clear e83
        have b86 := ((((b4.ext hx13).ext hx23).ext hx70).ext hx82)
        have b87 := ((b63.ext hx70).ext hx82)
        have hS85 : Ext w81 w81 ∧ Blk w81 g2 37 (byteVals root) ∧ Blk w81 g10 30 [(.int .i64 idx), (.slice O op.length oc), (.slice C cl.length ec), (.slice P pa.length pc)] := ⟨(Ext.refl w81), b86, b87⟩
        refine qs 0 (.agg (byteVals root).toArray) F78 rfl rfl hS85 (fun W hW => (rn_loadBlk (F78.get rfl) hW.2.1 Tryd.underlying37 rfl (inf37.trans (congrArg some (byteVals_len hd).symm)))) fun _ F89 => ?_; clear F78
        refine qp 1 (.int .i64 n) F89 rfl rfl (fun W => (rn_move (F89.get rfl))) fun _ F91 => ?_; clear F89
        refine qp 2 (.slice B msg.length bc) F91 rfl rfl (fun W => (rn_move (F91.get rfl))) fun _ F93 => ?_; clear F91
        refine qs 3 (.agg #[(.int .i64 idx), (.slice O op.length oc), (.slice C cl.length ec), (.slice P pa.length pc)]) F93 rfl rfl hS85 (fun W hW => (rn_loadBlk (F93.get rfl) hW.2.2 Tryd.underlying30 rfl inf30)) fun _ F95 => ?_; clear F93
        refine qs 5 (.agg (byteVals root).toArray) F95 rfl rfl hS85 (fun W hW => (rn_loadBlk (F95.get rfl) hW.2.1 Tryd.underlying37 rfl (inf37.trans (congrArg some (byteVals_len hd).symm)))) fun _ F97 => ?_; clear F95
        refine qp 6 (.int .i64 n) F97 rfl rfl (fun W => (rn_move (F97.get rfl))) fun _ F99 => ?_; clear F97
        refine qp 7 (.slice B msg.length bc) F99 rfl rfl (fun W => (rn_move (F99.get rfl))) fun _ F101 => ?_; clear F99
        refine qs 8 (.agg #[(.int .i64 idx), (.slice O op.length oc), (.slice C cl.length ec), (.slice P pa.length pc)]) F101 rfl rfl hS85 (fun W hW => (rn_loadBlk (F101.get rfl) hW.2.2 Tryd.underlying30 rfl inf30)) fun _ F103 => ?_; clear F101
        refine any_one (i := 4) (by decide +kernel) rfl ?_
        have d104 := (((((hmk.ext hx5).ext hx13).ext hx23).ext hx70).ext hx82)
        have d105 := (((((hco.ext hx5).ext hx13).ext hx23).ext hx70).ext hx82)
        have d106 := (((((hce.ext hx5).ext hx13).ext hx23).ext hx70).ext hx82)
        have d107 := (((((hcp.ext hx5).ext hx13).ext hx23).ext hx70).ext hx82)
        refine o_call F103 rfl rfl rfl rfl (rn_call (args4 (F103.get rfl) (F103.get rfl) (F103.get rfl) (F103.get rfl)) rfl (by kernel_rfl)) (verify_at (v := (.slice B msg.length bc)) (m := msg.length) (u1 := (.slice O op.length oc)) (u2 := (.slice C cl.length ec)) (u3 := (.slice P pa.length pc)) (n1 := op.length) (n2 := cl.length) (n3 := pa.length) root n msg ⟨idx, op, cl, pa⟩ _ hd d104 d105 d106 d107 h32o h32c h32p (hG.ext ((((((Ext.refl w).trans hx5).trans hx13).trans hx23).trans hx70).trans hx82))) ?_
        rintro _ w108 ⟨rfl, hx109⟩
        refine ⟨_, rfl, ?_⟩; intro a110 F111; clear F103; have z112 := hx109.size
        have b113 := (b86.ext hx109)
        have b114 := (b87.ext hx109)
        refine ⟨fun _ _ => ⟨((Ext.refl w81).trans hx109), b113, b114⟩, ?_⟩
        refine any_one (i := 9) (by decide +kernel) rfl ?_
        have d115 := ((((((hmk.ext hx5).ext hx13).ext hx23).ext hx70).ext hx82).ext hx109)
        have d116 := ((((((hco.ext hx5).ext hx13).ext hx23).ext hx70).ext hx82).ext hx109)
        have d117 := ((((((hce.ext hx5).ext hx13).ext hx23).ext hx70).ext hx82).ext hx109)
        have d118 := ((((((hcp.ext hx5).ext hx13).ext hx23).ext hx70).ext hx82).ext hx109)
        refine o_call F111 rfl rfl rfl rfl (rn_call (args4 (F111.get rfl) (F111.get rfl) (F111.get rfl) (F111.get rfl)) rfl (by kernel_rfl)) (rverify_at (v := (.slice B msg.length bc)) (m := msg.length) (u1 := (.slice O op.length oc)) (u2 := (.slice C cl.length ec)) (u3 := (.slice P pa.length pc)) (n1 := op.length) (n2 := cl.length) (n3 := pa.length) root n msg ⟨idx, op, cl, pa⟩ _ hd d115 d116 d117 d118 h32o h32c h32p ) ?_
        rintro _ w119 ⟨rfl, hx120⟩
        refine ⟨_, rfl, ?_⟩; intro a121 F122; clear F111; have z123 := hx120.size
        have b124 := (b113.ext hx120)
        have b125 := (b114.ext hx120)
        refine ⟨fun _ _ => ⟨(((Ext.refl w81).trans hx109).trans hx120), b124, b125⟩, ?_⟩
        rcases Bool.eq_false_or_eq_true (verifyF root n msg ⟨idx, op, cl, pa⟩) with hc126 | hc126
        · skip
          refine qp 10 (.bool true) F122 rfl rfl (fun W => (rn_eqB Tryd.underlying4 (F122.get rfl) (F122.get rfl) (show _ = true from hc126) (show _ = true from hc126) rfl)) fun _ F128 => ?_; clear F122
          refine qp 11 (.bool true) F128 rfl rfl (fun W => (rn_assign (F128.get rfl))) fun _ F130 => ?_; clear F128
          refine any_nil (by decide +kernel) ?_
          refine hK80 _ _ ?_
          clear hK80
          have F131 := (((((((((F130.nil.c F130 23 rfl).c F130 10 rfl).c F130 8 rfl).c F130 7 rfl).c F130 4 rfl).c F130 3 rfl).c F130 2 rfl).c F130 1 rfl).c F130 0 rfl)
          clear F130
          refine wp_ret ?_
          refine ret1 F131 rfl rfl ?_
          exact ⟨congrArg (fun b => Ending.returned (.bool b)) (rfl : true = true), ((((((((Ext.refl w).trans hx5).trans hx13).trans hx23).trans hx70).trans hx82).trans hx109).trans hx120)⟩
        · skip
          refine qp 10 (.bool true) F122 rfl rfl (fun W => (rn_eqB Tryd.underlying4 (F122.get rfl) (F122.get rfl) (show _ = false from hc126) (show _ = false from hc126) rfl)) fun _ F133 => ?_; clear F122
          refine qp 11 (.bool true) F133 rfl rfl (fun W => (rn_assign (F133.get rfl))) fun _ F135 => ?_; clear F133
          refine any_nil (by decide +kernel) ?_
          refine hK80 _ _ ?_
          clear hK80
          have F136 := (((((((((F135.nil.c F135 23 rfl).c F135 10 rfl).c F135 8 rfl).c F135 7 rfl).c F135 4 rfl).c F135 3 rfl).c F135 2 rfl).c F135 1 rfl).c F135 0 rfl)
          clear F135
          refine wp_ret ?_
          refine ret1 F136 rfl rfl ?_
          exact ⟨congrArg (fun b => Ending.returned (.bool b)) (rfl : true = true), ((((((((Ext.refl w).trans hx5).trans hx13).trans hx23).trans hx70).trans hx82).trans hx109).trans hx120)⟩
      · skip
        refine wp_cond_true (c_true F78 rfl (not_f (decide_eq_false hc79))) ?_
        refine wp_seq_k (fun K137 hK137 => ?_)
        refine wp_region_lit ?_
        refine qv 0 (.bool true) F78 rfl (rn_assign rfl) fun _ F139 => ?_; clear F78
        refine wpList_nil ?_
        refine hK137 _ _ ?_
        clear hK137
        refine wp_ret ?_
        refine ret_then ?_
        refine ret1 F139 rfl rfl ?_
        exact ⟨congrArg (fun b => Ending.returned (.bool b)) (rfl : true = true), (((((Ext.refl w).trans hx5).trans hx13).trans hx23).trans hx70)⟩
  · skip
    refine qu 4 F38 (decide_eq_false hc39) fun _ F141 => ?_; clear F38
    refine qu 5 F141 (decide_eq_false hc39) fun _ F143 => ?_; clear F141
    refine qu 6 F143 (decide_eq_false hc39) fun _ F145 => ?_; clear F143
    refine qv 7 (.bool false) F145 rfl (rn_pickF (c_false F145 rfl (decide_eq_false hc39)) rfl) fun _ F147 => ?_; clear F145
    refine qv 8 (.bool false) F147 rfl (rn_move (F147.get rfl)) fun _ F149 => ?_; clear F147
    have b150 := (b12.ext hx23)
    refine qg 9 (.agg #[(.int .i64 idx), (.slice O op.length oc), (.slice C cl.length ec), (.slice P pa.length pc)]) F149 rfl (rn_loadBlk (F149.get rfl) b150 Tryd.underlying30 rfl inf30) fun _ F152 => ?_; clear F149
    have d153 := (((hco.ext hx5).ext hx13).ext hx23)
    have d154 := (((hce.ext hx5).ext hx13).ext hx23)
    have d155 := (((hcp.ext hx5).ext hx13).ext hx23)
    refine wpl_op (i := 10) rfl (o_call F152 rfl (wanted_guard rfl rfl rfl F152 rfl rfl rfl) rfl rfl (rn_call (args1 (F152.get rfl)) rfl (by kernel_rfl)) (short_any O C P oc ec pc ⟨idx, op, cl, pa⟩ _) ?_)
    rintro _ w156 ⟨rfl, hx157⟩
    refine ⟨_, rfl, ?_⟩; intro a158 F159; clear F152; have z160 := hx157.size
    refine qg 11 (.bool (!(decide (((((op.length : Nat) : Int) ≤ 100 ∧ ((cl.length : Nat) : Int) ≤ 100) ∧ ((pa.length : Nat) : Int) ≤ 20))))) F159 rfl (rn_not' (F159.get rfl) rfl) fun _ F162 => ?_; clear F159
    refine qv 12 (.bool (!(decide (((((op.length : Nat) : Int) ≤ 100 ∧ ((cl.length : Nat) : Int) ≤ 100) ∧ ((pa.length : Nat) : Int) ≤ 20))))) F162 rfl (rn_pickF (c_false F162 rfl rfl) (F162.get rfl)) fun _ F164 => ?_; clear F162
    refine wpList_nil ?_
    refine hK30 _ _ ?_
    clear hK30
    have F165 := (((((((((F164.nil.c F164 23 rfl).c F164 10 rfl).c F164 8 rfl).c F164 7 rfl).c F164 4 rfl).c F164 3 rfl).c F164 2 rfl).c F164 1 rfl).c F164 0 rfl)
    clear F164
    by_cases hc166 : ((((op.length : Nat) : Int) ≤ 100 ∧ ((cl.length : Nat) : Int) ≤ 100) ∧ ((pa.length : Nat) : Int) ≤ 20)
    · skip
      refine wp_cond_false (c_false F165 rfl (not_t (decide_eq_true hc166))) ?_
      refine wp_skip ?_
      refine hK29 _ _ ?_
      clear hK29
      refine wp_seq_k (fun K167 hK167 => ?_)
      have hx169 : ∃ W, w156.drew = W ∧ Ext w156 W := ⟨_, rfl, (Ext.refl _).drew⟩
      obtain ⟨w168, e170, hx169⟩ := hx169
      have z171 := hx169.size
      refine any_start (fun W => Ext w168 W ∧ Blk W g2 37 (byteVals root) ∧ Blk W g10 30 [(.int .i64 idx), (.slice O op.length oc), (.slice C cl.length ec), (.slice P pa.length pc)]) (fun i => false) 12 #[false, false, false, false, false, false, false, false, false, false, false, false] rfl rfl rfl ?_
      rw [e170]; clear e170
      have b173 := ((((b4.ext hx13).ext hx23).ext hx157).ext hx169)
      have b174 := ((b150.ext hx157).ext hx169)
      have hS172 : Ext w168 w168 ∧ Blk w168 g2 37 (byteVals root) ∧ Blk w168 g10 30 [(.int .i64 idx), (.slice O op.length oc), (.slice C cl.length ec), (.slice P pa.length pc)] := ⟨(Ext.refl w168), b173, b174⟩
      refine qs 0 (.agg (byteVals root).toArray) F165 rfl rfl hS172 (fun W hW => (rn_loadBlk (F165.get rfl) hW.2.1 Tryd.underlying37 rfl (inf37.trans (congrArg some (byteVals_len hd).symm)))) fun _ F176 => ?_; clear F165
      refine qp 1 (.int .i64 n) F176 rfl rfl (fun W => (rn_move (F176.get rfl))) fun _ F178 => ?_; clear F176
      refine qp 2 (.slice B msg.length bc) F178 rfl rfl (fun W => (rn_move (F178.get rfl))) fun _ F180 => ?_; clear F178
      refine qs 3 (.agg #[(.int .i64 idx), (.slice O op.length oc), (.slice C cl.length ec), (.slice P pa.length pc)]) F180 rfl rfl hS172 (fun W hW => (rn_loadBlk (F180.get rfl) hW.2.2 Tryd.underlying30 rfl inf30)) fun _ F182 => ?_; clear F180
      refine qs 5 (.agg (byteVals root).toArray) F182 rfl rfl hS172 (fun W hW => (rn_loadBlk (F182.get rfl) hW.2.1 Tryd.underlying37 rfl (inf37.trans (congrArg some (byteVals_len hd).symm)))) fun _ F184 => ?_; clear F182
      refine qp 6 (.int .i64 n) F184 rfl rfl (fun W => (rn_move (F184.get rfl))) fun _ F186 => ?_; clear F184
      refine qp 7 (.slice B msg.length bc) F186 rfl rfl (fun W => (rn_move (F186.get rfl))) fun _ F188 => ?_; clear F186
      refine qs 8 (.agg #[(.int .i64 idx), (.slice O op.length oc), (.slice C cl.length ec), (.slice P pa.length pc)]) F188 rfl rfl hS172 (fun W hW => (rn_loadBlk (F188.get rfl) hW.2.2 Tryd.underlying30 rfl inf30)) fun _ F190 => ?_; clear F188
      refine any_one (i := 4) (by decide +kernel) rfl ?_
      have d191 := (((((hmk.ext hx5).ext hx13).ext hx23).ext hx157).ext hx169)
      have d192 := (((((hco.ext hx5).ext hx13).ext hx23).ext hx157).ext hx169)
      have d193 := (((((hce.ext hx5).ext hx13).ext hx23).ext hx157).ext hx169)
      have d194 := (((((hcp.ext hx5).ext hx13).ext hx23).ext hx157).ext hx169)
      refine o_call F190 rfl rfl rfl rfl (rn_call (args4 (F190.get rfl) (F190.get rfl) (F190.get rfl) (F190.get rfl)) rfl (by kernel_rfl)) (verify_at (v := (.slice B msg.length bc)) (m := msg.length) (u1 := (.slice O op.length oc)) (u2 := (.slice C cl.length ec)) (u3 := (.slice P pa.length pc)) (n1 := op.length) (n2 := cl.length) (n3 := pa.length) root n msg ⟨idx, op, cl, pa⟩ _ hd d191 d192 d193 d194 h32o h32c h32p (hG.ext ((((((Ext.refl w).trans hx5).trans hx13).trans hx23).trans hx157).trans hx169))) ?_
      rintro _ w195 ⟨rfl, hx196⟩
      refine ⟨_, rfl, ?_⟩; intro a197 F198; clear F190; have z199 := hx196.size
      have b200 := (b173.ext hx196)
      have b201 := (b174.ext hx196)
      refine ⟨fun _ _ => ⟨((Ext.refl w168).trans hx196), b200, b201⟩, ?_⟩
      refine any_one (i := 9) (by decide +kernel) rfl ?_
      have d202 := ((((((hmk.ext hx5).ext hx13).ext hx23).ext hx157).ext hx169).ext hx196)
      have d203 := ((((((hco.ext hx5).ext hx13).ext hx23).ext hx157).ext hx169).ext hx196)
      have d204 := ((((((hce.ext hx5).ext hx13).ext hx23).ext hx157).ext hx169).ext hx196)
      have d205 := ((((((hcp.ext hx5).ext hx13).ext hx23).ext hx157).ext hx169).ext hx196)
      refine o_call F198 rfl rfl rfl rfl (rn_call (args4 (F198.get rfl) (F198.get rfl) (F198.get rfl) (F198.get rfl)) rfl (by kernel_rfl)) (rverify_at (v := (.slice B msg.length bc)) (m := msg.length) (u1 := (.slice O op.length oc)) (u2 := (.slice C cl.length ec)) (u3 := (.slice P pa.length pc)) (n1 := op.length) (n2 := cl.length) (n3 := pa.length) root n msg ⟨idx, op, cl, pa⟩ _ hd d202 d203 d204 d205 h32o h32c h32p ) ?_
      rintro _ w206 ⟨rfl, hx207⟩
      refine ⟨_, rfl, ?_⟩; intro a208 F209; clear F198; have z210 := hx207.size
      have b211 := (b200.ext hx207)
      have b212 := (b201.ext hx207)
      refine ⟨fun _ _ => ⟨(((Ext.refl w168).trans hx196).trans hx207), b211, b212⟩, ?_⟩
      rcases Bool.eq_false_or_eq_true (verifyF root n msg ⟨idx, op, cl, pa⟩) with hc213 | hc213
      · skip
        refine qp 10 (.bool true) F209 rfl rfl (fun W => (rn_eqB Tryd.underlying4 (F209.get rfl) (F209.get rfl) (show _ = true from hc213) (show _ = true from hc213) rfl)) fun _ F215 => ?_; clear F209
        refine qp 11 (.bool true) F215 rfl rfl (fun W => (rn_assign (F215.get rfl))) fun _ F217 => ?_; clear F215
        refine any_nil (by decide +kernel) ?_
        refine hK167 _ _ ?_
        clear hK167
        have F218 := (((((((((F217.nil.c F217 23 rfl).c F217 10 rfl).c F217 8 rfl).c F217 7 rfl).c F217 4 rfl).c F217 3 rfl).c F217 2 rfl).c F217 1 rfl).c F217 0 rfl)
        clear F217
        refine wp_ret ?_
        refine ret1 F218 rfl rfl ?_
        exact ⟨congrArg (fun b => Ending.returned (.bool b)) (rfl : true = true), ((((((((Ext.refl w).trans hx5).trans hx13).trans hx23).trans hx157).trans hx169).trans hx196).trans hx207)⟩
      · skip
        refine qp 10 (.bool true) F209 rfl rfl (fun W => (rn_eqB Tryd.underlying4 (F209.get rfl) (F209.get rfl) (show _ = false from hc213) (show _ = false from hc213) rfl)) fun _ F220 => ?_; clear F209
        refine qp 11 (.bool true) F220 rfl rfl (fun W => (rn_assign (F220.get rfl))) fun _ F222 => ?_; clear F220
        refine any_nil (by decide +kernel) ?_
        refine hK167 _ _ ?_
        clear hK167
        have F223 := (((((((((F222.nil.c F222 23 rfl).c F222 10 rfl).c F222 8 rfl).c F222 7 rfl).c F222 4 rfl).c F222 3 rfl).c F222 2 rfl).c F222 1 rfl).c F222 0 rfl)
        clear F222
        refine wp_ret ?_
        refine ret1 F223 rfl rfl ?_
        exact ⟨congrArg (fun b => Ending.returned (.bool b)) (rfl : true = true), ((((((((Ext.refl w).trans hx5).trans hx13).trans hx23).trans hx157).trans hx169).trans hx196).trans hx207)⟩
    · skip
      refine wp_cond_true (c_true F165 rfl (not_f (decide_eq_false hc166))) ?_
      refine wp_seq_k (fun K224 hK224 => ?_)
      refine wp_region_lit ?_
      refine qv 0 (.bool true) F165 rfl (rn_assign rfl) fun _ F226 => ?_; clear F165
      refine wpList_nil ?_
      refine hK224 _ _ ?_
      clear hK224
      refine wp_ret ?_
      refine ret_then ?_
      refine ret1 F226 rfl rfl ?_
      exact ⟨congrArg (fun b => Ending.returned (.bool b)) (rfl : true = true), (((((Ext.refl w).trans hx5).trans hx13).trans hx23).trans hx157)⟩

end Go.Proofs.YtmjgjopbeokajaaDoor
