/- The law's examples hold. -/
import Derived.Test.YtjmdodgmoehfkaaProg
import Derived.Test.YtjmdodgmoehfkaaBndC
import Derived.Test.YtjmdodgmoehfkaaBndL
import Derived.Test.YtjmdodgmoehfkaaBndN
import Derived.Test.YtjmdodgmoehfkaaBndO
import Derived.Test.YtjmdodgmoehfkaaBndR
import Derived.KernelRfl
namespace Go.Proofs.Ytjmdodgmoehfkaa
open Go.RowKit

variable {S S' : Nat → Prop}

set_option maxRecDepth 100000 in
set_option maxHeartbeats 1000000 in
theorem sane_any (w : World) : Calls Try.prog 10 #[] w (fun e w' => e = .returned (.bool true) ∧ Ext w w') := by
  refine calls_enter (l := []) Try.func10 rfl rfl rfl (fun aA hF => ?_)
  refine wp_seq_k (fun K1 hK1 => ?_)
  refine wp_region_lit ?_
  refine wpl_op (i := 0) rfl (o_val (v := (.bool false)) hF rfl rfl rfl rfl (rn_assign rfl) ?_)
  intro a2 hF3; clear hF
  refine wpList_nil ?_
  refine hK1 _ _ ?_
  clear hK1
  refine wp_seq_k (fun K4 hK4 => ?_)
  refine wp_region_lit ?_
  refine wpl_op (i := 0) rfl (o_val (v := (.agg #[(.int .i64 0), (.int .i64 1), (.int .i64 3)])) hF3 rfl rfl rfl rfl (rn_build (parts3 rfl rfl rfl) (by kernel_rfl)) ?_)
  intro a5 hF6; clear hF3
  refine wpl_op (i := 1) rfl (o_new (fun g => (.slice (some ⟨g, 0, none⟩) 1 1)) [(.int .i64 0), (.int .i64 1), (.int .i64 3)] 41 hF6 rfl rfl rfl rfl (rn_buildSlice (parts1 (hF6.get rfl)) (by kernel_rfl)) ?_)
  intro g7 w8 a13 hF14 z11 z12 b9 hx10; clear hF6
  refine wpl_op (i := 2) rfl (o_val (v := (.agg #[(.int .i64 2), (.slice (some ⟨g7, 0, none⟩) 1 1)])) hF14 rfl rfl rfl rfl (rn_build (parts2 rfl (hF14.get rfl)) (by kernel_rfl)) ?_)
  intro a15 hF16; clear hF14
  refine wpl_op (i := 3) rfl (o_new (fun g => (.pointer (some ⟨g, 0, none⟩))) [(.int .i64 0), (.slice none 0 0)] 24 hF16 rfl rfl rfl rfl (by kernel_rfl) ?_)
  intro g17 w18 a23 hF24 z21 z22 b19 hx20; clear hF16
  refine wpl_op (i := 4) rfl (o_store (cells := [(.int .i64 2), (.slice (some ⟨g7, 0, none⟩) 1 1)]) hF24 rfl rfl rfl rfl (hF24.get rfl) (hF24.get rfl) b19 (by kernel_rfl : (Try.prog.info? 24).map (·.size) = some 2) rfl (by simp [Value.oneCell']) ?_)
  intro w25 b26 hg27; have z28 := hg27.size
  refine wpList_nil ?_
  refine hK4 _ _ ?_
  clear hK4
  refine wp_seq_k (fun K29 hK29 => ?_)
  refine wp_region_lit ?_
  refine wpl_op (i := 0) rfl (o_val (v := (.agg #[(.int .i64 2), (.slice (some ⟨g7, 0, none⟩) 1 1)])) hF24 rfl rfl rfl rfl (rn_loadBlk (hF24.get rfl) b26 Try.underlying24 rfl (by kernel_rfl : (Try.prog.info? 24).map (·.size) = some 2)) ?_)
  intro a30 hF31; clear hF24
  refine wpl_op (i := 1) rfl (o_new (fun g => (.slice (some ⟨g, 0, none⟩) 2 2)) [(.int .i64 0), (.int .i64 3)] 3 hF31 rfl rfl rfl rfl (rn_buildSlice (parts2 rfl rfl) (by kernel_rfl)) ?_)
  intro g32 w33 a38 hF39 z36 z37 b34 hx35; clear hF31
  have b40 : Blk w33 g7 41 [(.int .i64 0), (.int .i64 1), (.int .i64 3)] := (((b9.ext hx20).grownN hg27 (by omega)).ext hx35)
  refine wpl_op (i := 2) rfl (o_call hF39 rfl rfl rfl rfl (rn_call (args2 (hF39.get rfl) (hF39.get rfl)) rfl (by kernel_rfl)) (bholds_at (u := (.slice (some ⟨g7, 0, none⟩) 1 1)) (z := (.slice (some ⟨g32, 0, none⟩) 2 2)) 2 ([(⟨0, 1, 3⟩ : E3)]) ([(0 : Int), (3 : Int)]) _ (Fl.blk (S := fun b => b = g7) (k := 3) (n := 1) (c := 1) (cs := edVals [(⟨0, 1, 3⟩ : E3)]) b40 rfl (edVals_one _) (by omega) rfl) (Fl.blk (S := fun b => b = g32) (k := 1) (n := 2) (c := 2) (cs := intVals [(0 : Int), (3 : Int)]) b34 rfl (intVals_one _) (by omega) rfl)) ?_)
  rintro _ w41 ⟨rfl, hx42⟩
  refine ⟨_, rfl, ?_⟩; intro a43 hF44; clear hF39; have z45 := hx42.size
  refine wpl_op (i := 3) rfl (o_val (v := (.tuple #[(.bool (hld 2 ([(⟨0, 1, 3⟩ : E3)]) ([(0 : Int), (3 : Int)]))), (.int .i64 (chk 2 ([(⟨0, 1, 3⟩ : E3)])))])) hF44 rfl rfl rfl rfl (rn_move (hF44.get rfl)) ?_)
  intro a46 hF47; clear hF44
  refine wpl_op (i := 4) rfl (o_val (v := (.bool (hld 2 ([(⟨0, 1, 3⟩ : E3)]) ([(0 : Int), (3 : Int)])))) hF47 rfl rfl rfl rfl (rn_extract (hF47.get rfl) rfl) ?_)
  intro a48 hF49; clear hF47
  refine wpl_op (i := 5) rfl (o_val (v := (.int .i64 (chk 2 ([(⟨0, 1, 3⟩ : E3)])))) hF49 rfl rfl rfl rfl (rn_extract (hF49.get rfl) rfl) ?_)
  intro a50 hF51; clear hF49
  refine wpl_op (i := 6) rfl (o_val (v := (.bool (hld 2 ([(⟨0, 1, 3⟩ : E3)]) ([(0 : Int), (3 : Int)])))) hF51 rfl rfl rfl rfl (rn_assign (hF51.get rfl)) ?_)
  intro a52 hF53; clear hF51
  refine wpl_op (i := 7) rfl (o_val (v := (.int .i64 (chk 2 ([(⟨0, 1, 3⟩ : E3)])))) hF53 rfl rfl rfl rfl (rn_assign (hF53.get rfl)) ?_)
  intro a54 hF55; clear hF53
  refine wpList_nil ?_
  refine hK29 _ _ ?_
  clear hK29
  have hF56 := ((((hF55.nil.cons (hF55.get (t := 3) (v := (.int .i64 (chk 2 ([(⟨0, 1, 3⟩ : E3)])))) rfl)).cons (hF55.get (t := 2) (v := (.bool (hld 2 ([(⟨0, 1, 3⟩ : E3)]) ([(0 : Int), (3 : Int)])))) rfl)).cons (hF55.get (t := 1) (v := (.pointer (some ⟨g17, 0, none⟩))) rfl)).cons (hF55.get (t := 0) (v := (.bool false)) rfl))
  clear hF55
  refine wp_seq_k (fun K57 hK57 => ?_)
  refine wp_region_lit ?_
  have b58 : Blk w41 g17 24 [(.int .i64 2), (.slice (some ⟨g7, 0, none⟩) 1 1)] := ((b26.ext hx35).ext hx42)
  refine wpl_op (i := 0) rfl (o_val (v := (.agg #[(.int .i64 2), (.slice (some ⟨g7, 0, none⟩) 1 1)])) hF56 rfl rfl rfl rfl (rn_loadBlk (hF56.get rfl) b58 Try.underlying24 rfl (by kernel_rfl : (Try.prog.info? 24).map (·.size) = some 2)) ?_)
  intro a59 hF60; clear hF56
  refine wpl_op (i := 1) rfl (o_new (fun g => (.slice (some ⟨g, 0, none⟩) 2 2)) [(.int .i64 0), (.int .i64 4)] 3 hF60 rfl rfl rfl rfl (rn_buildSlice (parts2 rfl rfl) (by kernel_rfl)) ?_)
  intro g61 w62 a67 hF68 z65 z66 b63 hx64; clear hF60
  have b69 : Blk w62 g7 41 [(.int .i64 0), (.int .i64 1), (.int .i64 3)] := ((b40.ext hx42).ext hx64)
  refine wpl_op (i := 2) rfl (o_call hF68 rfl rfl rfl rfl (rn_call (args2 (hF68.get rfl) (hF68.get rfl)) rfl (by kernel_rfl)) (bholds_at (u := (.slice (some ⟨g7, 0, none⟩) 1 1)) (z := (.slice (some ⟨g61, 0, none⟩) 2 2)) 2 ([(⟨0, 1, 3⟩ : E3)]) ([(0 : Int), (4 : Int)]) _ (Fl.blk (S := fun b => b = g7) (k := 3) (n := 1) (c := 1) (cs := edVals [(⟨0, 1, 3⟩ : E3)]) b69 rfl (edVals_one _) (by omega) rfl) (Fl.blk (S := fun b => b = g61) (k := 1) (n := 2) (c := 2) (cs := intVals [(0 : Int), (4 : Int)]) b63 rfl (intVals_one _) (by omega) rfl)) ?_)
  rintro _ w70 ⟨rfl, hx71⟩
  refine ⟨_, rfl, ?_⟩; intro a72 hF73; clear hF68; have z74 := hx71.size
  refine wpl_op (i := 3) rfl (o_val (v := (.tuple #[(.bool (hld 2 ([(⟨0, 1, 3⟩ : E3)]) ([(0 : Int), (4 : Int)]))), (.int .i64 (chk 2 ([(⟨0, 1, 3⟩ : E3)])))])) hF73 rfl rfl rfl rfl (rn_move (hF73.get rfl)) ?_)
  intro a75 hF76; clear hF73
  refine wpl_op (i := 4) rfl (o_val (v := (.bool (hld 2 ([(⟨0, 1, 3⟩ : E3)]) ([(0 : Int), (4 : Int)])))) hF76 rfl rfl rfl rfl (rn_extract (hF76.get rfl) rfl) ?_)
  intro a77 hF78; clear hF76
  refine wpl_op (i := 5) rfl (o_val (v := (.int .i64 (chk 2 ([(⟨0, 1, 3⟩ : E3)])))) hF78 rfl rfl rfl rfl (rn_extract (hF78.get rfl) rfl) ?_)
  intro a79 hF80; clear hF78
  refine wpl_op (i := 6) rfl (o_val (v := (.bool (hld 2 ([(⟨0, 1, 3⟩ : E3)]) ([(0 : Int), (4 : Int)])))) hF80 rfl rfl rfl rfl (rn_assign (hF80.get rfl)) ?_)
  intro a81 hF82; clear hF80
  refine wpl_op (i := 7) rfl (o_val (v := (.int .i64 (chk 2 ([(⟨0, 1, 3⟩ : E3)])))) hF82 rfl rfl rfl rfl (rn_assign (hF82.get rfl)) ?_)
  intro a83 hF84; clear hF82
  refine wpList_nil ?_
  refine hK57 _ _ ?_
  clear hK57
  have hF85 := ((((((hF84.nil.cons (hF84.get (t := 5) (v := (.int .i64 (chk 2 ([(⟨0, 1, 3⟩ : E3)])))) rfl)).cons (hF84.get (t := 4) (v := (.bool (hld 2 ([(⟨0, 1, 3⟩ : E3)]) ([(0 : Int), (4 : Int)])))) rfl)).cons (hF84.get (t := 3) (v := (.int .i64 (chk 2 ([(⟨0, 1, 3⟩ : E3)])))) rfl)).cons (hF84.get (t := 2) (v := (.bool (hld 2 ([(⟨0, 1, 3⟩ : E3)]) ([(0 : Int), (3 : Int)])))) rfl)).cons (hF84.get (t := 1) (v := (.pointer (some ⟨g17, 0, none⟩))) rfl)).cons (hF84.get (t := 0) (v := (.bool false)) rfl))
  clear hF84
  refine wp_seq_k (fun K86 hK86 => ?_)
  refine wp_region_lit ?_
  refine wpl_op (i := 0) rfl (o_val (v := (.agg #[(.int .i64 0), (.int .i64 1), (.int .i64 3)])) hF85 rfl rfl rfl rfl (rn_build (parts3 rfl rfl rfl) (by kernel_rfl)) ?_)
  intro a87 hF88; clear hF85
  refine wpl_op (i := 1) rfl (o_val (v := (.agg #[(.int .i64 1), (.int .i64 0), (.int .i64 (-5))])) hF88 rfl rfl rfl rfl (rn_build (parts3 rfl rfl rfl) (by kernel_rfl)) ?_)
  intro a89 hF90; clear hF88
  refine wpl_op (i := 2) rfl (o_new (fun g => (.slice (some ⟨g, 0, none⟩) 2 2)) [(.int .i64 0), (.int .i64 1), (.int .i64 3), (.int .i64 1), (.int .i64 0), (.int .i64 (-5))] 41 hF90 rfl rfl rfl rfl (rn_buildSlice (parts2 (hF90.get rfl) (hF90.get rfl)) (by kernel_rfl)) ?_)
  intro g91 w92 a97 hF98 z95 z96 b93 hx94; clear hF90
  refine wpl_op (i := 3) rfl (o_val (v := (.agg #[(.int .i64 2), (.slice (some ⟨g91, 0, none⟩) 2 2)])) hF98 rfl rfl rfl rfl (rn_build (parts2 rfl (hF98.get rfl)) (by kernel_rfl)) ?_)
  intro a99 hF100; clear hF98
  refine wpl_op (i := 4) rfl (o_new (fun g => (.pointer (some ⟨g, 0, none⟩))) [(.int .i64 0), (.slice none 0 0)] 24 hF100 rfl rfl rfl rfl (by kernel_rfl) ?_)
  intro g101 w102 a107 hF108 z105 z106 b103 hx104; clear hF100
  refine wpl_op (i := 5) rfl (o_store (cells := [(.int .i64 2), (.slice (some ⟨g91, 0, none⟩) 2 2)]) hF108 rfl rfl rfl rfl (hF108.get rfl) (hF108.get rfl) b103 (by kernel_rfl : (Try.prog.info? 24).map (·.size) = some 2) rfl (by simp [Value.oneCell']) ?_)
  intro w109 b110 hg111; have z112 := hg111.size
  refine wpList_nil ?_
  refine hK86 _ _ ?_
  clear hK86
  have hF113 := (((((((hF108.nil.cons (hF108.get (t := 6) (v := (.pointer (some ⟨g101, 0, none⟩))) rfl)).cons (hF108.get (t := 5) (v := (.int .i64 (chk 2 ([(⟨0, 1, 3⟩ : E3)])))) rfl)).cons (hF108.get (t := 4) (v := (.bool (hld 2 ([(⟨0, 1, 3⟩ : E3)]) ([(0 : Int), (4 : Int)])))) rfl)).cons (hF108.get (t := 3) (v := (.int .i64 (chk 2 ([(⟨0, 1, 3⟩ : E3)])))) rfl)).cons (hF108.get (t := 2) (v := (.bool (hld 2 ([(⟨0, 1, 3⟩ : E3)]) ([(0 : Int), (3 : Int)])))) rfl)).cons (hF108.get (t := 1) (v := (.pointer (some ⟨g17, 0, none⟩))) rfl)).cons (hF108.get (t := 0) (v := (.bool false)) rfl))
  clear hF108
  refine wp_seq_k (fun K114 hK114 => ?_)
  refine wp_region_lit ?_
  refine wpl_op (i := 0) rfl (o_val (v := (.agg #[(.int .i64 2), (.slice (some ⟨g91, 0, none⟩) 2 2)])) hF113 rfl rfl rfl rfl (rn_loadBlk (hF113.get rfl) b110 Try.underlying24 rfl (by kernel_rfl : (Try.prog.info? 24).map (·.size) = some 2)) ?_)
  intro a115 hF116; clear hF113
  have b117 : Blk w109 g91 41 [(.int .i64 0), (.int .i64 1), (.int .i64 3), (.int .i64 1), (.int .i64 0), (.int .i64 (-5))] := ((b93.ext hx104).grownN hg111 (by omega))
  refine wpl_op (i := 1) rfl (o_call hF116 rfl rfl rfl rfl (rn_call (args1 (hF116.get rfl)) rfl (by kernel_rfl)) (far_at (v := (.slice (some ⟨g91, 0, none⟩) 2 2)) 2 ([(⟨0, 1, 3⟩ : E3), (⟨1, 0, -5⟩ : E3)]) _ (Fl.blk (S := fun b => b = g91) (k := 3) (n := 2) (c := 2) (cs := edVals [(⟨0, 1, 3⟩ : E3), (⟨1, 0, -5⟩ : E3)]) b117 rfl (edVals_one _) (by omega) rfl) (fun _ => ⟨by decide, by decide⟩)) ?_)
  rintro _ w132 ⟨A118, m119, c120, t121, B122, k123, c124, cyc125, er126, rfl, ht127, hf128, hfar129, hx133⟩
  have z130 := RIss.len ht127
  have z131 := Fl.ilen hf128
  refine ⟨_, rfl, ?_⟩; intro a134 hF135; clear hF116; have z136 := hx133.size
  have hf137 : RIss (Clip (fun b => w109.heap.size ≤ b) w132) w132 (.slice A118 m119 c120) t121 := ht127.clip
  have hf138 : Fl (Clip (fun b => w109.heap.size ≤ b) w132) w132 1 (.slice B122 k123 c124) k123 (intVals cyc125) := hf128.clip
  have herB : er126 = 151 := hfar129.1.neg151 (by decide +kernel) exB_neg
  refine wpl_op (i := 2) rfl (o_val (v := (.tuple #[(.slice A118 m119 c120), (.slice B122 k123 c124), (.int .i64 er126)])) hF135 rfl rfl rfl rfl (rn_move (hF135.get rfl)) ?_)
  intro a139 hF140; clear hF135
  refine wpl_op (i := 3) rfl (o_val (v := (.slice A118 m119 c120)) hF140 rfl rfl rfl rfl (rn_extract (hF140.get rfl) rfl) ?_)
  intro a141 hF142; clear hF140
  refine wpl_op (i := 4) rfl (o_val (v := (.slice B122 k123 c124)) hF142 rfl rfl rfl rfl (rn_extract (hF142.get rfl) rfl) ?_)
  intro a143 hF144; clear hF142
  refine wpl_op (i := 5) rfl (o_val (v := (.int .i64 er126)) hF144 rfl rfl rfl rfl (rn_extract (hF144.get rfl) rfl) ?_)
  intro a145 hF146; clear hF144
  refine wpl_op (i := 6) rfl (o_val (v := (.slice A118 m119 c120)) hF146 rfl rfl rfl rfl (rn_assign (hF146.get rfl)) ?_)
  intro a147 hF148; clear hF146
  refine wpl_op (i := 7) rfl (o_val (v := (.slice B122 k123 c124)) hF148 rfl rfl rfl rfl (rn_assign (hF148.get rfl)) ?_)
  intro a149 hF150; clear hF148
  refine wpl_op (i := 8) rfl (o_val (v := (.int .i64 er126)) hF150 rfl rfl rfl rfl (rn_assign (hF150.get rfl)) ?_)
  intro a151 hF152; clear hF150
  refine wpList_nil ?_
  refine hK114 _ _ ?_
  clear hK114
  have hF153 := (((((((((hF152.nil.cons (hF152.get (t := 9) (v := (.int .i64 er126)) rfl)).cons (hF152.get (t := 8) (v := (.slice B122 k123 c124)) rfl)).cons (hF152.get (t := 6) (v := (.pointer (some ⟨g101, 0, none⟩))) rfl)).cons (hF152.get (t := 5) (v := (.int .i64 (chk 2 ([(⟨0, 1, 3⟩ : E3)])))) rfl)).cons (hF152.get (t := 4) (v := (.bool (hld 2 ([(⟨0, 1, 3⟩ : E3)]) ([(0 : Int), (4 : Int)])))) rfl)).cons (hF152.get (t := 3) (v := (.int .i64 (chk 2 ([(⟨0, 1, 3⟩ : E3)])))) rfl)).cons (hF152.get (t := 2) (v := (.bool (hld 2 ([(⟨0, 1, 3⟩ : E3)]) ([(0 : Int), (3 : Int)])))) rfl)).cons (hF152.get (t := 1) (v := (.pointer (some ⟨g17, 0, none⟩))) rfl)).cons (hF152.get (t := 0) (v := (.bool false)) rfl))
  clear hF152
  refine wp_seq_k (fun K154 hK154 => ?_)
  refine wp_region_lit ?_
  refine wpl_op (i := 0) rfl (o_val (v := (.agg #[(.int .i64 2), (.slice none 0 0)])) hF153 rfl rfl rfl rfl (rn_build (parts1 rfl) (by kernel_rfl)) ?_)
  intro a155 hF156; clear hF153
  refine wpl_op (i := 1) rfl (o_call hF156 rfl rfl rfl rfl (rn_call (args1 (hF156.get rfl)) rfl (by kernel_rfl)) (far_at (v := (.slice none 0 0)) 2 ([]) _ (show Fl (fun _ => False) w132 3 (.slice none 0 0) 0 (edVals []) from Fl.nil _) (fun _ => ⟨by decide, by decide⟩)) ?_)
  rintro _ w171 ⟨A157, m158, c159, t160, B161, k162, c163, cyc164, er165, rfl, ht166, hf167, hfar168, hx172⟩
  have z169 := RIss.len ht166
  have z170 := Fl.ilen hf167
  refine ⟨_, rfl, ?_⟩; intro a173 hF174; clear hF156; have z175 := hx172.size
  have hf176 : RIss (Clip (fun b => w132.heap.size ≤ b) w171) w171 (.slice A157 m158 c159) t160 := ht166.clip
  have hf177 : Fl (Clip (fun b => w132.heap.size ≤ b) w171) w171 1 (.slice B161 k162 c163) k162 (intVals cyc164) := hf167.clip
  obtain ⟨herN, hdN⟩ := hfar168.1.is0 (by decide +kernel) nil_noneg
  have htN := nil_tab hdN
  refine wpl_op (i := 2) rfl (o_val (v := (.tuple #[(.slice A157 m158 c159), (.slice B161 k162 c163), (.int .i64 er165)])) hF174 rfl rfl rfl rfl (rn_move (hF174.get rfl)) ?_)
  intro a178 hF179; clear hF174
  refine wpl_op (i := 3) rfl (o_val (v := (.slice A157 m158 c159)) hF179 rfl rfl rfl rfl (rn_extract (hF179.get rfl) rfl) ?_)
  intro a180 hF181; clear hF179
  refine wpl_op (i := 4) rfl (o_val (v := (.slice B161 k162 c163)) hF181 rfl rfl rfl rfl (rn_extract (hF181.get rfl) rfl) ?_)
  intro a182 hF183; clear hF181
  refine wpl_op (i := 5) rfl (o_val (v := (.int .i64 er165)) hF183 rfl rfl rfl rfl (rn_extract (hF183.get rfl) rfl) ?_)
  intro a184 hF185; clear hF183
  refine wpl_op (i := 6) rfl (o_val (v := (.slice A157 m158 c159)) hF185 rfl rfl rfl rfl (rn_assign (hF185.get rfl)) ?_)
  intro a186 hF187; clear hF185
  refine wpl_op (i := 7) rfl (o_val (v := (.slice B161 k162 c163)) hF187 rfl rfl rfl rfl (rn_assign (hF187.get rfl)) ?_)
  intro a188 hF189; clear hF187
  refine wpl_op (i := 8) rfl (o_val (v := (.int .i64 er165)) hF189 rfl rfl rfl rfl (rn_assign (hF189.get rfl)) ?_)
  intro a190 hF191; clear hF189
  refine wpList_nil ?_
  refine hK154 _ _ ?_
  clear hK154
  have hF192 := (((((((((((hF191.nil.cons (hF191.get (t := 12) (v := (.int .i64 er165)) rfl)).cons (hF191.get (t := 10) (v := (.slice A157 m158 c159)) rfl)).cons (hF191.get (t := 9) (v := (.int .i64 er126)) rfl)).cons (hF191.get (t := 8) (v := (.slice B122 k123 c124)) rfl)).cons (hF191.get (t := 6) (v := (.pointer (some ⟨g101, 0, none⟩))) rfl)).cons (hF191.get (t := 5) (v := (.int .i64 (chk 2 ([(⟨0, 1, 3⟩ : E3)])))) rfl)).cons (hF191.get (t := 4) (v := (.bool (hld 2 ([(⟨0, 1, 3⟩ : E3)]) ([(0 : Int), (4 : Int)])))) rfl)).cons (hF191.get (t := 3) (v := (.int .i64 (chk 2 ([(⟨0, 1, 3⟩ : E3)])))) rfl)).cons (hF191.get (t := 2) (v := (.bool (hld 2 ([(⟨0, 1, 3⟩ : E3)]) ([(0 : Int), (3 : Int)])))) rfl)).cons (hF191.get (t := 1) (v := (.pointer (some ⟨g17, 0, none⟩))) rfl)).cons (hF191.get (t := 0) (v := (.bool false)) rfl))
  clear hF191
  refine wp_seq_k (fun K193 hK193 => ?_)
  refine wp_region_lit ?_
  refine wpl_op (i := 0) rfl (o_val (v := (.agg #[(.int .i64 0), (.int .i64 1), (.int .i64 7)])) hF192 rfl rfl rfl rfl (rn_build (parts3 rfl rfl rfl) (by kernel_rfl)) ?_)
  intro a194 hF195; clear hF192
  refine wpl_op (i := 1) rfl (o_val (v := (.agg #[(.int .i64 1), (.int .i64 0), (.int .i64 (-2))])) hF195 rfl rfl rfl rfl (rn_build (parts3 rfl rfl rfl) (by kernel_rfl)) ?_)
  intro a196 hF197; clear hF195
  refine wpl_op (i := 2) rfl (o_val (v := (.agg #[(.int .i64 1), (.int .i64 2), (.int .i64 1)])) hF197 rfl rfl rfl rfl (rn_build (parts3 rfl rfl rfl) (by kernel_rfl)) ?_)
  intro a198 hF199; clear hF197
  refine wpl_op (i := 3) rfl (o_val (v := (.agg #[(.int .i64 0), (.int .i64 2), (.int .i64 9)])) hF199 rfl rfl rfl rfl (rn_build (parts3 rfl rfl rfl) (by kernel_rfl)) ?_)
  intro a200 hF201; clear hF199
  refine wpl_op (i := 4) rfl (o_val (v := (.agg #[(.int .i64 2), (.int .i64 0), (.int .i64 0)])) hF201 rfl rfl rfl rfl (rn_build (parts3 rfl rfl rfl) (by kernel_rfl)) ?_)
  intro a202 hF203; clear hF201
  refine wpl_op (i := 5) rfl (o_new (fun g => (.slice (some ⟨g, 0, none⟩) 5 5)) [(.int .i64 0), (.int .i64 1), (.int .i64 7), (.int .i64 1), (.int .i64 0), (.int .i64 (-2)), (.int .i64 1), (.int .i64 2), (.int .i64 1), (.int .i64 0), (.int .i64 2), (.int .i64 9), (.int .i64 2), (.int .i64 0), (.int .i64 0)] 41 hF203 rfl rfl rfl rfl (rn_buildSlice (parts5 (hF203.get rfl) (hF203.get rfl) (hF203.get rfl) (hF203.get rfl) (hF203.get rfl)) (by kernel_rfl)) ?_)
  intro g204 w205 a210 hF211 z208 z209 b206 hx207; clear hF203
  refine wpl_op (i := 6) rfl (o_val (v := (.agg #[(.int .i64 3), (.slice (some ⟨g204, 0, none⟩) 5 5)])) hF211 rfl rfl rfl rfl (rn_build (parts2 rfl (hF211.get rfl)) (by kernel_rfl)) ?_)
  intro a212 hF213; clear hF211
  refine wpl_op (i := 7) rfl (o_new (fun g => (.pointer (some ⟨g, 0, none⟩))) [(.int .i64 0), (.slice none 0 0)] 24 hF213 rfl rfl rfl rfl (by kernel_rfl) ?_)
  intro g214 w215 a220 hF221 z218 z219 b216 hx217; clear hF213
  refine wpl_op (i := 8) rfl (o_store (cells := [(.int .i64 3), (.slice (some ⟨g204, 0, none⟩) 5 5)]) hF221 rfl rfl rfl rfl (hF221.get rfl) (hF221.get rfl) b216 (by kernel_rfl : (Try.prog.info? 24).map (·.size) = some 2) rfl (by simp [Value.oneCell']) ?_)
  intro w222 b223 hg224; have z225 := hg224.size
  refine wpList_nil ?_
  refine hK193 _ _ ?_
  clear hK193
  have hF226 := ((((((((((((hF221.nil.cons (hF221.get (t := 13) (v := (.pointer (some ⟨g214, 0, none⟩))) rfl)).cons (hF221.get (t := 12) (v := (.int .i64 er165)) rfl)).cons (hF221.get (t := 10) (v := (.slice A157 m158 c159)) rfl)).cons (hF221.get (t := 9) (v := (.int .i64 er126)) rfl)).cons (hF221.get (t := 8) (v := (.slice B122 k123 c124)) rfl)).cons (hF221.get (t := 6) (v := (.pointer (some ⟨g101, 0, none⟩))) rfl)).cons (hF221.get (t := 5) (v := (.int .i64 (chk 2 ([(⟨0, 1, 3⟩ : E3)])))) rfl)).cons (hF221.get (t := 4) (v := (.bool (hld 2 ([(⟨0, 1, 3⟩ : E3)]) ([(0 : Int), (4 : Int)])))) rfl)).cons (hF221.get (t := 3) (v := (.int .i64 (chk 2 ([(⟨0, 1, 3⟩ : E3)])))) rfl)).cons (hF221.get (t := 2) (v := (.bool (hld 2 ([(⟨0, 1, 3⟩ : E3)]) ([(0 : Int), (3 : Int)])))) rfl)).cons (hF221.get (t := 1) (v := (.pointer (some ⟨g17, 0, none⟩))) rfl)).cons (hF221.get (t := 0) (v := (.bool false)) rfl))
  clear hF221
  refine wp_seq_k (fun K227 hK227 => ?_)
  refine wp_region_lit ?_
  refine wpl_op (i := 0) rfl (o_val (v := (.agg #[(.int .i64 3), (.slice (some ⟨g204, 0, none⟩) 5 5)])) hF226 rfl rfl rfl rfl (rn_loadBlk (hF226.get rfl) b223 Try.underlying24 rfl (by kernel_rfl : (Try.prog.info? 24).map (·.size) = some 2)) ?_)
  intro a228 hF229; clear hF226
  have b230 : Blk w222 g204 41 [(.int .i64 0), (.int .i64 1), (.int .i64 7), (.int .i64 1), (.int .i64 0), (.int .i64 (-2)), (.int .i64 1), (.int .i64 2), (.int .i64 1), (.int .i64 0), (.int .i64 2), (.int .i64 9), (.int .i64 2), (.int .i64 0), (.int .i64 0)] := ((b206.ext hx217).grownN hg224 (by omega))
  refine wpl_op (i := 1) rfl (o_call hF229 rfl rfl rfl rfl (rn_call (args3 (hF229.get rfl) rfl rfl) rfl (by kernel_rfl)) (bgreat_at (v := (.slice (some ⟨g204, 0, none⟩) 5 5)) 3 ([(⟨0, 1, 7⟩ : E3), (⟨1, 0, -2⟩ : E3), (⟨1, 2, 1⟩ : E3), (⟨0, 2, 9⟩ : E3), (⟨2, 0, 0⟩ : E3)]) 1 4 _ (Fl.blk (S := fun b => b = g204) (k := 3) (n := 5) (c := 5) (cs := edVals [(⟨0, 1, 7⟩ : E3), (⟨1, 0, -2⟩ : E3), (⟨1, 2, 1⟩ : E3), (⟨0, 2, 9⟩ : E3), (⟨2, 0, 0⟩ : E3)]) b230 rfl (edVals_one _) (by omega) rfl) (fun _ => ⟨by decide, by decide⟩)) ?_)
  rintro _ w239 ⟨A231, m232, c233, r234, e235, rfl, hf236, hs237, hx240⟩
  have z238 := Fl.ilen hf236
  refine ⟨_, rfl, ?_⟩; intro a241 hF242; clear hF229; have z243 := hx240.size
  have hf244 : Fl (Clip (fun b => w222.heap.size ≤ b) w239) w239 1 (.slice A231 m232 c233) m232 (intVals r234) := hf236.clip
  obtain ⟨he4, hr4⟩ := exC_4 hs237
  refine wpl_op (i := 2) rfl (o_val (v := (.tuple #[(.slice A231 m232 c233), (.int .i64 e235)])) hF242 rfl rfl rfl rfl (rn_move (hF242.get rfl)) ?_)
  intro a245 hF246; clear hF242
  refine wpl_op (i := 3) rfl (o_val (v := (.slice A231 m232 c233)) hF246 rfl rfl rfl rfl (rn_extract (hF246.get rfl) rfl) ?_)
  intro a247 hF248; clear hF246
  refine wpl_op (i := 4) rfl (o_val (v := (.int .i64 e235)) hF248 rfl rfl rfl rfl (rn_extract (hF248.get rfl) rfl) ?_)
  intro a249 hF250; clear hF248
  refine wpl_op (i := 5) rfl (o_val (v := (.slice A231 m232 c233)) hF250 rfl rfl rfl rfl (rn_assign (hF250.get rfl)) ?_)
  intro a251 hF252; clear hF250
  refine wpl_op (i := 6) rfl (o_val (v := (.int .i64 e235)) hF252 rfl rfl rfl rfl (rn_assign (hF252.get rfl)) ?_)
  intro a253 hF254; clear hF252
  refine wpList_nil ?_
  refine hK227 _ _ ?_
  clear hK227
  have hF255 := ((((((((((((((hF254.nil.cons (hF254.get (t := 15) (v := (.int .i64 e235)) rfl)).cons (hF254.get (t := 14) (v := (.slice A231 m232 c233)) rfl)).cons (hF254.get (t := 13) (v := (.pointer (some ⟨g214, 0, none⟩))) rfl)).cons (hF254.get (t := 12) (v := (.int .i64 er165)) rfl)).cons (hF254.get (t := 10) (v := (.slice A157 m158 c159)) rfl)).cons (hF254.get (t := 9) (v := (.int .i64 er126)) rfl)).cons (hF254.get (t := 8) (v := (.slice B122 k123 c124)) rfl)).cons (hF254.get (t := 6) (v := (.pointer (some ⟨g101, 0, none⟩))) rfl)).cons (hF254.get (t := 5) (v := (.int .i64 (chk 2 ([(⟨0, 1, 3⟩ : E3)])))) rfl)).cons (hF254.get (t := 4) (v := (.bool (hld 2 ([(⟨0, 1, 3⟩ : E3)]) ([(0 : Int), (4 : Int)])))) rfl)).cons (hF254.get (t := 3) (v := (.int .i64 (chk 2 ([(⟨0, 1, 3⟩ : E3)])))) rfl)).cons (hF254.get (t := 2) (v := (.bool (hld 2 ([(⟨0, 1, 3⟩ : E3)]) ([(0 : Int), (3 : Int)])))) rfl)).cons (hF254.get (t := 1) (v := (.pointer (some ⟨g17, 0, none⟩))) rfl)).cons (hF254.get (t := 0) (v := (.bool false)) rfl))
  clear hF254
  refine wp_seq_k (fun K256 hK256 => ?_)
  refine wp_region_lit ?_
  have b257 : Blk w239 g214 24 [(.int .i64 3), (.slice (some ⟨g204, 0, none⟩) 5 5)] := (b223.ext hx240)
  refine wpl_op (i := 0) rfl (o_val (v := (.agg #[(.int .i64 3), (.slice (some ⟨g204, 0, none⟩) 5 5)])) hF255 rfl rfl rfl rfl (rn_loadBlk (hF255.get rfl) b257 Try.underlying24 rfl (by kernel_rfl : (Try.prog.info? 24).map (·.size) = some 2)) ?_)
  intro a258 hF259; clear hF255
  have b260 : Blk w239 g204 41 [(.int .i64 0), (.int .i64 1), (.int .i64 7), (.int .i64 1), (.int .i64 0), (.int .i64 (-2)), (.int .i64 1), (.int .i64 2), (.int .i64 1), (.int .i64 0), (.int .i64 2), (.int .i64 9), (.int .i64 2), (.int .i64 0), (.int .i64 0)] := (b230.ext hx240)
  refine wpl_op (i := 1) rfl (o_call hF259 rfl rfl rfl rfl (rn_call (args3 (hF259.get rfl) rfl rfl) rfl (by kernel_rfl)) (bgreat_at (v := (.slice (some ⟨g204, 0, none⟩) 5 5)) 3 ([(⟨0, 1, 7⟩ : E3), (⟨1, 0, -2⟩ : E3), (⟨1, 2, 1⟩ : E3), (⟨0, 2, 9⟩ : E3), (⟨2, 0, 0⟩ : E3)]) 1 8 _ (Fl.blk (S := fun b => b = g204) (k := 3) (n := 5) (c := 5) (cs := edVals [(⟨0, 1, 7⟩ : E3), (⟨1, 0, -2⟩ : E3), (⟨1, 2, 1⟩ : E3), (⟨0, 2, 9⟩ : E3), (⟨2, 0, 0⟩ : E3)]) b260 rfl (edVals_one _) (by omega) rfl) (fun _ => ⟨by decide, by decide⟩)) ?_)
  rintro _ w269 ⟨A261, m262, c263, r264, e265, rfl, hf266, hs267, hx270⟩
  have z268 := Fl.ilen hf266
  refine ⟨_, rfl, ?_⟩; intro a271 hF272; clear hF259; have z273 := hx270.size
  have hf274 : Fl (Clip (fun b => w239.heap.size ≤ b) w269) w269 1 (.slice A261 m262 c263) m262 (intVals r264) := hf266.clip
  have he8 := exC_8 hs267
  refine wpl_op (i := 2) rfl (o_val (v := (.tuple #[(.slice A261 m262 c263), (.int .i64 e265)])) hF272 rfl rfl rfl rfl (rn_move (hF272.get rfl)) ?_)
  intro a275 hF276; clear hF272
  refine wpl_op (i := 3) rfl (o_val (v := (.slice A261 m262 c263)) hF276 rfl rfl rfl rfl (rn_extract (hF276.get rfl) rfl) ?_)
  intro a277 hF278; clear hF276
  refine wpl_op (i := 4) rfl (o_val (v := (.int .i64 e265)) hF278 rfl rfl rfl rfl (rn_extract (hF278.get rfl) rfl) ?_)
  intro a279 hF280; clear hF278
  refine wpl_op (i := 5) rfl (o_val (v := (.slice A261 m262 c263)) hF280 rfl rfl rfl rfl (rn_assign (hF280.get rfl)) ?_)
  intro a281 hF282; clear hF280
  refine wpl_op (i := 6) rfl (o_val (v := (.int .i64 e265)) hF282 rfl rfl rfl rfl (rn_assign (hF282.get rfl)) ?_)
  intro a283 hF284; clear hF282
  refine wpList_nil ?_
  refine hK256 _ _ ?_
  clear hK256
  have hF285 := (((((((((((((((hF284.nil.cons (hF284.get (t := 17) (v := (.int .i64 e265)) rfl)).cons (hF284.get (t := 15) (v := (.int .i64 e235)) rfl)).cons (hF284.get (t := 14) (v := (.slice A231 m232 c233)) rfl)).cons (hF284.get (t := 13) (v := (.pointer (some ⟨g214, 0, none⟩))) rfl)).cons (hF284.get (t := 12) (v := (.int .i64 er165)) rfl)).cons (hF284.get (t := 10) (v := (.slice A157 m158 c159)) rfl)).cons (hF284.get (t := 9) (v := (.int .i64 er126)) rfl)).cons (hF284.get (t := 8) (v := (.slice B122 k123 c124)) rfl)).cons (hF284.get (t := 6) (v := (.pointer (some ⟨g101, 0, none⟩))) rfl)).cons (hF284.get (t := 5) (v := (.int .i64 (chk 2 ([(⟨0, 1, 3⟩ : E3)])))) rfl)).cons (hF284.get (t := 4) (v := (.bool (hld 2 ([(⟨0, 1, 3⟩ : E3)]) ([(0 : Int), (4 : Int)])))) rfl)).cons (hF284.get (t := 3) (v := (.int .i64 (chk 2 ([(⟨0, 1, 3⟩ : E3)])))) rfl)).cons (hF284.get (t := 2) (v := (.bool (hld 2 ([(⟨0, 1, 3⟩ : E3)]) ([(0 : Int), (3 : Int)])))) rfl)).cons (hF284.get (t := 1) (v := (.pointer (some ⟨g17, 0, none⟩))) rfl)).cons (hF284.get (t := 0) (v := (.bool false)) rfl))
  clear hF284
  refine wp_seq_k (fun K286 hK286 => ?_)
  refine wp_region_lit ?_
  refine wpl_op (i := 0) rfl (o_val (v := (.bool (hld 2 ([(⟨0, 1, 3⟩ : E3)]) ([(0 : Int), (3 : Int)])))) hF285 rfl rfl rfl rfl (rn_move (hF285.get rfl)) ?_)
  intro a287 hF288; clear hF285
  refine wpl_op (i := 1) rfl (o_val (v := (.bool (hld 2 ([(⟨0, 1, 3⟩ : E3)]) ([(0 : Int), (3 : Int)])))) hF288 rfl rfl rfl rfl (rn_move (hF288.get rfl)) ?_)
  intro a289 hF290; clear hF288
  refine wpl_op (i := 2) rfl (o_val (v := (.int .i64 (chk 2 ([(⟨0, 1, 3⟩ : E3)])))) hF290 rfl (wanted_guard rfl rfl rfl hF290 rfl (by decide +kernel : hld 2 ([(⟨0, 1, 3⟩ : E3)]) ([(0 : Int), (3 : Int)]) = true) rfl) rfl rfl (rn_move (hF290.get rfl)) ?_)
  intro a292 hF293; clear hF290
  refine wpl_op (i := 3) rfl (o_val (v := (.bool (decide (((chk 2 ([(⟨0, 1, 3⟩ : E3)])) : Int) = (0 : Int))))) hF293 rfl (wanted_guard rfl rfl rfl hF293 rfl (by decide +kernel : hld 2 ([(⟨0, 1, 3⟩ : E3)]) ([(0 : Int), (3 : Int)]) = true) rfl) rfl rfl (rn_eql (hF293.get rfl) rfl) ?_)
  intro a294 hF295; clear hF293
  refine wpl_op (i := 4) rfl (o_val (v := (.bool (decide (((chk 2 ([(⟨0, 1, 3⟩ : E3)])) : Int) = (0 : Int))))) hF295 rfl rfl rfl rfl (rn_pickT (c_true hF295 rfl (by decide +kernel : hld 2 ([(⟨0, 1, 3⟩ : E3)]) ([(0 : Int), (3 : Int)]) = true)) (hF295.get rfl)) ?_)
  intro a296 hF297; clear hF295
  refine wpl_op (i := 5) rfl (o_val (v := (.bool (decide (((chk 2 ([(⟨0, 1, 3⟩ : E3)])) : Int) = (0 : Int))))) hF297 rfl rfl rfl rfl (rn_move (hF297.get rfl)) ?_)
  intro a298 hF299; clear hF297
  refine wpl_op (i := 6) rfl (o_val (v := (.bool (hld 2 ([(⟨0, 1, 3⟩ : E3)]) ([(0 : Int), (4 : Int)])))) hF299 rfl (wanted_guard rfl rfl rfl hF299 rfl (by decide +kernel : decide (((chk 2 ([(⟨0, 1, 3⟩ : E3)])) : Int) = (0 : Int)) = true) rfl) rfl rfl (rn_move (hF299.get rfl)) ?_)
  intro a301 hF302; clear hF299
  refine wpl_op (i := 7) rfl (o_val (v := (.bool (!(hld 2 ([(⟨0, 1, 3⟩ : E3)]) ([(0 : Int), (4 : Int)]))))) hF302 rfl (wanted_guard rfl rfl rfl hF302 rfl (by decide +kernel : decide (((chk 2 ([(⟨0, 1, 3⟩ : E3)])) : Int) = (0 : Int)) = true) rfl) rfl rfl (rn_not' (hF302.get rfl) rfl) ?_)
  intro a303 hF304; clear hF302
  refine wpl_op (i := 8) rfl (o_val (v := (.bool (!(hld 2 ([(⟨0, 1, 3⟩ : E3)]) ([(0 : Int), (4 : Int)]))))) hF304 rfl rfl rfl rfl (rn_pickT (c_true hF304 rfl (by decide +kernel : decide (((chk 2 ([(⟨0, 1, 3⟩ : E3)])) : Int) = (0 : Int)) = true)) (hF304.get rfl)) ?_)
  intro a305 hF306; clear hF304
  refine wpl_op (i := 9) rfl (o_val (v := (.bool (!(hld 2 ([(⟨0, 1, 3⟩ : E3)]) ([(0 : Int), (4 : Int)]))))) hF306 rfl rfl rfl rfl (rn_move (hF306.get rfl)) ?_)
  intro a307 hF308; clear hF306
  refine wpl_op (i := 10) rfl (o_val (v := (.int .i64 (chk 2 ([(⟨0, 1, 3⟩ : E3)])))) hF308 rfl (wanted_guard rfl rfl rfl hF308 rfl (not_f (by decide +kernel : hld 2 ([(⟨0, 1, 3⟩ : E3)]) ([(0 : Int), (4 : Int)]) = false)) rfl) rfl rfl (rn_move (hF308.get rfl)) ?_)
  intro a310 hF311; clear hF308
  refine wpl_op (i := 11) rfl (o_val (v := (.bool (decide (((chk 2 ([(⟨0, 1, 3⟩ : E3)])) : Int) = (0 : Int))))) hF311 rfl (wanted_guard rfl rfl rfl hF311 rfl (not_f (by decide +kernel : hld 2 ([(⟨0, 1, 3⟩ : E3)]) ([(0 : Int), (4 : Int)]) = false)) rfl) rfl rfl (rn_eql (hF311.get rfl) rfl) ?_)
  intro a312 hF313; clear hF311
  refine wpl_op (i := 12) rfl (o_val (v := (.bool (decide (((chk 2 ([(⟨0, 1, 3⟩ : E3)])) : Int) = (0 : Int))))) hF313 rfl rfl rfl rfl (rn_pickT (c_true hF313 rfl (not_f (by decide +kernel : hld 2 ([(⟨0, 1, 3⟩ : E3)]) ([(0 : Int), (4 : Int)]) = false))) (hF313.get rfl)) ?_)
  intro a314 hF315; clear hF313
  refine wpl_op (i := 13) rfl (o_val (v := (.bool (decide (((chk 2 ([(⟨0, 1, 3⟩ : E3)])) : Int) = (0 : Int))))) hF315 rfl rfl rfl rfl (rn_move (hF315.get rfl)) ?_)
  intro a316 hF317; clear hF315
  refine wpl_op (i := 14) rfl (o_val (v := (.int .i64 er126)) hF317 rfl (wanted_guard rfl rfl rfl hF317 rfl (by decide +kernel : decide (((chk 2 ([(⟨0, 1, 3⟩ : E3)])) : Int) = (0 : Int)) = true) rfl) rfl rfl (rn_move (hF317.get rfl)) ?_)
  intro a318 hF319; clear hF317
  refine wpl_op (i := 15) rfl (o_val (v := (.bool (decide ((er126 : Int) = (151 : Int))))) hF319 rfl (wanted_guard rfl rfl rfl hF319 rfl (by decide +kernel : decide (((chk 2 ([(⟨0, 1, 3⟩ : E3)])) : Int) = (0 : Int)) = true) rfl) rfl rfl (rn_eql (hF319.get rfl) rfl) ?_)
  intro a320 hF321; clear hF319
  refine wpl_op (i := 16) rfl (o_val (v := (.bool (decide ((er126 : Int) = (151 : Int))))) hF321 rfl rfl rfl rfl (rn_pickT (c_true hF321 rfl (by decide +kernel : decide (((chk 2 ([(⟨0, 1, 3⟩ : E3)])) : Int) = (0 : Int)) = true)) (hF321.get rfl)) ?_)
  intro a322 hF323; clear hF321
  refine wpl_op (i := 17) rfl (o_val (v := (.bool (decide ((er126 : Int) = (151 : Int))))) hF323 rfl rfl rfl rfl (rn_move (hF323.get rfl)) ?_)
  intro a324 hF325; clear hF323
  have b327 : Blk w269 g101 24 [(.int .i64 2), (.slice (some ⟨g91, 0, none⟩) 2 2)] := (((((((b110.ext hx133).ext hx172).ext hx207).ext hx217).grownN hg224 (by omega)).ext hx240).ext hx270)
  refine wpl_op (i := 18) rfl (o_val (v := (.agg #[(.int .i64 2), (.slice (some ⟨g91, 0, none⟩) 2 2)])) hF325 rfl (wanted_guard rfl rfl rfl hF325 rfl (decide_eq_true herB : decide ((er126 : Int) = (151 : Int)) = true) rfl) rfl rfl (rn_loadBlk (hF325.get rfl) b327 Try.underlying24 rfl (by kernel_rfl : (Try.prog.info? 24).map (·.size) = some 2)) ?_)
  intro a328 hF329; clear hF325
  refine wpl_op (i := 19) rfl (o_val (v := (.slice B122 k123 c124)) hF329 rfl (wanted_guard rfl rfl rfl hF329 rfl (decide_eq_true herB : decide ((er126 : Int) = (151 : Int)) = true) rfl) rfl rfl (rn_move (hF329.get rfl)) ?_)
  intro a330 hF331; clear hF329
  have b332 : Blk w269 g91 41 [(.int .i64 0), (.int .i64 1), (.int .i64 3), (.int .i64 1), (.int .i64 0), (.int .i64 (-5))] := (((((((b117.ext hx133).ext hx172).ext hx207).ext hx217).grownN hg224 (by omega)).ext hx240).ext hx270)
  have d333 := (hf138.pres (((((((Pres.refl w132).ext hx172).ext hx207).ext hx217).grownN hg224 (fun h => by simp only [Clip] at h; omega)).ext hx240).ext hx270))
  refine wpl_op (i := 20) rfl (o_call hF331 rfl (wanted_guard rfl rfl rfl hF331 rfl (decide_eq_true herB : decide ((er126 : Int) = (151 : Int)) = true) rfl) rfl rfl (rn_call (args2 (hF331.get rfl) (hF331.get rfl)) rfl (by kernel_rfl)) (cycle_at (u := (.slice (some ⟨g91, 0, none⟩) 2 2)) (v := (.slice B122 k123 c124)) 2 ([(⟨0, 1, 3⟩ : E3), (⟨1, 0, -5⟩ : E3)]) cyc125 _ (Fl.blk (S := fun b => b = g91) (k := 3) (n := 2) (c := 2) (cs := edVals [(⟨0, 1, 3⟩ : E3), (⟨1, 0, -5⟩ : E3)]) b332 rfl (edVals_one _) (by omega) rfl) d333 (hfar129.cycP herB) (by decide +kernel)) ?_)
  rintro _ w334 ⟨rfl, hx335⟩
  refine ⟨_, rfl, ?_⟩; intro a336 hF337; clear hF331; have z338 := hx335.size
  refine wpl_op (i := 21) rfl (o_val (v := (.bool true)) hF337 rfl rfl rfl rfl (rn_pickT (c_true hF337 rfl (decide_eq_true herB : decide ((er126 : Int) = (151 : Int)) = true)) (hF337.get rfl)) ?_)
  intro a339 hF340; clear hF337
  refine wpl_op (i := 22) rfl (o_val (v := (.bool true)) hF340 rfl rfl rfl rfl (rn_move (hF340.get rfl)) ?_)
  intro a341 hF342; clear hF340
  refine wpl_op (i := 23) rfl (o_val (v := (.int .i64 er165)) hF342 rfl (wanted_guard rfl rfl rfl hF342 rfl rfl rfl) rfl rfl (rn_move (hF342.get rfl)) ?_)
  intro a343 hF344; clear hF342
  refine wpl_op (i := 24) rfl (o_val (v := (.bool (decide ((er165 : Int) = (0 : Int))))) hF344 rfl (wanted_guard rfl rfl rfl hF344 rfl rfl rfl) rfl rfl (rn_eql (hF344.get rfl) rfl) ?_)
  intro a345 hF346; clear hF344
  refine wpl_op (i := 25) rfl (o_val (v := (.bool (decide ((er165 : Int) = (0 : Int))))) hF346 rfl rfl rfl rfl (rn_pickT (c_true hF346 rfl rfl) (hF346.get rfl)) ?_)
  intro a347 hF348; clear hF346
  refine wpl_op (i := 26) rfl (o_val (v := (.bool (decide ((er165 : Int) = (0 : Int))))) hF348 rfl rfl rfl rfl (rn_move (hF348.get rfl)) ?_)
  intro a349 hF350; clear hF348
  refine wpl_op (i := 27) rfl (o_val (v := (.slice A157 m158 c159)) hF350 rfl (wanted_guard rfl rfl rfl hF350 rfl (decide_eq_true herN : decide ((er165 : Int) = (0 : Int)) = true) rfl) rfl rfl (rn_move (hF350.get rfl)) ?_)
  intro a352 hF353; clear hF350
  refine wpl_op (i := 28) rfl (o_new (fun g => (.slice (some ⟨g, 0, none⟩) 2 2)) [(.int .i64 0), (.int .i64 1152921504606846976)] 3 hF353 rfl (wanted_guard rfl rfl rfl hF353 rfl (decide_eq_true herN : decide ((er165 : Int) = (0 : Int)) = true) rfl) rfl rfl (rn_buildSlice (parts2 rfl rfl) (by kernel_rfl)) ?_)
  intro g354 w355 a360 hF361 z358 z359 b356 hx357; clear hF353
  refine wpl_op (i := 29) rfl (o_new (fun g => (.slice (some ⟨g, 0, none⟩) 2 2)) [(.int .i64 1152921504606846976), (.int .i64 0)] 3 hF361 rfl (wanted_guard rfl rfl rfl hF361 rfl (decide_eq_true herN : decide ((er165 : Int) = (0 : Int)) = true) rfl) rfl rfl (rn_buildSlice (parts2 rfl rfl) (by kernel_rfl)) ?_)
  intro g362 w363 a368 hF369 z366 z367 b364 hx365; clear hF361
  refine wpl_op (i := 30) rfl (o_new (fun g => (.slice (some ⟨g, 0, none⟩) 2 2)) [(.slice (some ⟨g354, 0, none⟩) 2 2), (.slice (some ⟨g362, 0, none⟩) 2 2)] 25 hF369 rfl (wanted_guard rfl rfl rfl hF369 rfl (decide_eq_true herN : decide ((er165 : Int) = (0 : Int)) = true) rfl) rfl rfl (rn_buildSlice (parts2 (hF369.get rfl) (hF369.get rfl)) (by kernel_rfl)) ?_)
  intro g370 w371 a376 hF377 z374 z375 b372 hx373; clear hF369
  have d378 := (hf176.pres ((((((((((Pres.refl w171).ext hx207).ext hx217).grownN hg224 (fun h => by simp only [Clip] at h; omega)).ext hx240).ext hx270).ext hx335).ext hx357).ext hx365).ext hx373))
  have b379 : Blk w371 g354 3 [(.int .i64 0), (.int .i64 1152921504606846976)] := ((b356.ext hx365).ext hx373)
  have b380 : Blk w371 g362 3 [(.int .i64 1152921504606846976), (.int .i64 0)] := (b364.ext hx373)
  refine wpl_op (i := 31) rfl (o_call hF377 rfl (wanted_guard rfl rfl rfl hF377 rfl (decide_eq_true herN : decide ((er165 : Int) = (0 : Int)) = true) rfl) rfl rfl (rn_call (args2 (hF377.get rfl) (hF377.get rfl)) rfl (by kernel_rfl)) (samefar_at (u := (.slice A157 m158 c159)) (v := (.slice (some ⟨g370, 0, none⟩) 2 2)) t160 ([[(0 : Int), (1152921504606846976 : Int)], [(1152921504606846976 : Int), (0 : Int)]]) _ d378 (RIss.two b372 (Fl.blk (S := fun b => b = g354) (k := 1) (n := 2) (c := 2) (cs := intVals [(0 : Int), (1152921504606846976 : Int)]) b379 rfl (intVals_one _) (by omega) rfl) (Fl.blk (S := fun b => b = g362) (k := 1) (n := 2) (c := 2) (cs := intVals [(1152921504606846976 : Int), (0 : Int)]) b380 rfl (intVals_one _) (by omega) rfl))) ?_)
  rintro _ w381 ⟨rfl, hx382⟩
  refine ⟨_, rfl, ?_⟩; intro a383 hF384; clear hF377; have z385 := hx382.size
  refine wpl_op (i := 32) rfl (o_val (v := (.bool (decide (t160 = [[(0 : Int), (1152921504606846976 : Int)], [(1152921504606846976 : Int), (0 : Int)]])))) hF384 rfl rfl rfl rfl (rn_pickT (c_true hF384 rfl (decide_eq_true herN : decide ((er165 : Int) = (0 : Int)) = true)) (hF384.get rfl)) ?_)
  intro a386 hF387; clear hF384
  refine wpl_op (i := 33) rfl (o_val (v := (.bool (decide (t160 = [[(0 : Int), (1152921504606846976 : Int)], [(1152921504606846976 : Int), (0 : Int)]])))) hF387 rfl rfl rfl rfl (rn_assign (hF387.get rfl)) ?_)
  intro a388 hF389; clear hF387
  refine wpList_nil ?_
  refine hK286 _ _ ?_
  clear hK286
  have hF390 := ((((((((((((((((hF389.nil.cons (hF389.get (t := 18) (v := (.bool (decide (t160 = [[(0 : Int), (1152921504606846976 : Int)], [(1152921504606846976 : Int), (0 : Int)]])))) rfl)).cons (hF389.get (t := 17) (v := (.int .i64 e265)) rfl)).cons (hF389.get (t := 15) (v := (.int .i64 e235)) rfl)).cons (hF389.get (t := 14) (v := (.slice A231 m232 c233)) rfl)).cons (hF389.get (t := 13) (v := (.pointer (some ⟨g214, 0, none⟩))) rfl)).cons (hF389.get (t := 12) (v := (.int .i64 er165)) rfl)).cons (hF389.get (t := 10) (v := (.slice A157 m158 c159)) rfl)).cons (hF389.get (t := 9) (v := (.int .i64 er126)) rfl)).cons (hF389.get (t := 8) (v := (.slice B122 k123 c124)) rfl)).cons (hF389.get (t := 6) (v := (.pointer (some ⟨g101, 0, none⟩))) rfl)).cons (hF389.get (t := 5) (v := (.int .i64 (chk 2 ([(⟨0, 1, 3⟩ : E3)])))) rfl)).cons (hF389.get (t := 4) (v := (.bool (hld 2 ([(⟨0, 1, 3⟩ : E3)]) ([(0 : Int), (4 : Int)])))) rfl)).cons (hF389.get (t := 3) (v := (.int .i64 (chk 2 ([(⟨0, 1, 3⟩ : E3)])))) rfl)).cons (hF389.get (t := 2) (v := (.bool (hld 2 ([(⟨0, 1, 3⟩ : E3)]) ([(0 : Int), (3 : Int)])))) rfl)).cons (hF389.get (t := 1) (v := (.pointer (some ⟨g17, 0, none⟩))) rfl)).cons (hF389.get (t := 0) (v := (.bool false)) rfl))
  clear hF389
  refine wp_seq_k (fun K391 hK391 => ?_)
  refine wp_region_lit ?_
  refine wpl_op (i := 0) rfl (o_val (v := (.bool (decide (t160 = [[(0 : Int), (1152921504606846976 : Int)], [(1152921504606846976 : Int), (0 : Int)]])))) hF390 rfl rfl rfl rfl (rn_move (hF390.get rfl)) ?_)
  intro a392 hF393; clear hF390
  refine wpl_op (i := 1) rfl (o_val (v := (.bool (decide (t160 = [[(0 : Int), (1152921504606846976 : Int)], [(1152921504606846976 : Int), (0 : Int)]])))) hF393 rfl rfl rfl rfl (rn_move (hF393.get rfl)) ?_)
  intro a394 hF395; clear hF393
  refine wpl_op (i := 2) rfl (o_val (v := (.int .i64 e235)) hF395 rfl (wanted_guard rfl rfl rfl hF395 rfl (decide_eq_true htN : decide (t160 = [[(0 : Int), (1152921504606846976 : Int)], [(1152921504606846976 : Int), (0 : Int)]]) = true) rfl) rfl rfl (rn_move (hF395.get rfl)) ?_)
  intro a397 hF398; clear hF395
  refine wpl_op (i := 3) rfl (o_val (v := (.bool (decide ((e235 : Int) = (0 : Int))))) hF398 rfl (wanted_guard rfl rfl rfl hF398 rfl (decide_eq_true htN : decide (t160 = [[(0 : Int), (1152921504606846976 : Int)], [(1152921504606846976 : Int), (0 : Int)]]) = true) rfl) rfl rfl (rn_eql (hF398.get rfl) rfl) ?_)
  intro a399 hF400; clear hF398
  refine wpl_op (i := 4) rfl (o_val (v := (.bool (decide ((e235 : Int) = (0 : Int))))) hF400 rfl rfl rfl rfl (rn_pickT (c_true hF400 rfl (decide_eq_true htN : decide (t160 = [[(0 : Int), (1152921504606846976 : Int)], [(1152921504606846976 : Int), (0 : Int)]]) = true)) (hF400.get rfl)) ?_)
  intro a401 hF402; clear hF400
  refine wpl_op (i := 5) rfl (o_val (v := (.bool (decide ((e235 : Int) = (0 : Int))))) hF402 rfl rfl rfl rfl (rn_move (hF402.get rfl)) ?_)
  intro a403 hF404; clear hF402
  refine wpl_op (i := 6) rfl (o_val (v := (.slice A231 m232 c233)) hF404 rfl (wanted_guard rfl rfl rfl hF404 rfl (decide_eq_true he4 : decide ((e235 : Int) = (0 : Int)) = true) rfl) rfl rfl (rn_move (hF404.get rfl)) ?_)
  intro a406 hF407; clear hF404
  refine wpl_op (i := 7) rfl (o_new (fun g => (.slice (some ⟨g, 0, none⟩) 3 3)) [(.int .i64 0), (.int .i64 4), (.int .i64 5)] 3 hF407 rfl (wanted_guard rfl rfl rfl hF407 rfl (decide_eq_true he4 : decide ((e235 : Int) = (0 : Int)) = true) rfl) rfl rfl (rn_buildSlice (parts3 rfl rfl rfl) (by kernel_rfl)) ?_)
  intro g408 w409 a414 hF415 z412 z413 b410 hx411; clear hF407
  have d416 := (((((((hf244.ext hx270).ext hx335).ext hx357).ext hx365).ext hx373).ext hx382).ext hx411)
  refine wpl_op (i := 8) rfl (o_call hF415 rfl (wanted_guard rfl rfl rfl hF415 rfl (decide_eq_true he4 : decide ((e235 : Int) = (0 : Int)) = true) rfl) rfl rfl (rn_call (args2 (hF415.get rfl) (hF415.get rfl)) rfl (by kernel_rfl)) (same_at (u := (.slice A231 m232 c233)) (v := (.slice (some ⟨g408, 0, none⟩) 3 3)) r234 ([(0 : Int), (4 : Int), (5 : Int)]) _ d416 (Fl.blk (S := fun b => b = g408) (k := 1) (n := 3) (c := 3) (cs := intVals [(0 : Int), (4 : Int), (5 : Int)]) b410 rfl (intVals_one _) (by omega) rfl)) ?_)
  rintro _ w417 ⟨rfl, hx418⟩
  refine ⟨_, rfl, ?_⟩; intro a419 hF420; clear hF415; have z421 := hx418.size
  refine wpl_op (i := 9) rfl (o_val (v := (.bool (decide (r234 = [(0 : Int), (4 : Int), (5 : Int)])))) hF420 rfl rfl rfl rfl (rn_pickT (c_true hF420 rfl (decide_eq_true he4 : decide ((e235 : Int) = (0 : Int)) = true)) (hF420.get rfl)) ?_)
  intro a422 hF423; clear hF420
  refine wpl_op (i := 10) rfl (o_val (v := (.bool (decide (r234 = [(0 : Int), (4 : Int), (5 : Int)])))) hF423 rfl rfl rfl rfl (rn_move (hF423.get rfl)) ?_)
  intro a424 hF425; clear hF423
  refine wpl_op (i := 11) rfl (o_val (v := (.int .i64 e265)) hF425 rfl (wanted_guard rfl rfl rfl hF425 rfl (decide_eq_true hr4 : decide (r234 = [(0 : Int), (4 : Int), (5 : Int)]) = true) rfl) rfl rfl (rn_move (hF425.get rfl)) ?_)
  intro a427 hF428; clear hF425
  refine wpl_op (i := 12) rfl (o_val (v := (.bool (decide ((e265 : Int) = (1 : Int))))) hF428 rfl (wanted_guard rfl rfl rfl hF428 rfl (decide_eq_true hr4 : decide (r234 = [(0 : Int), (4 : Int), (5 : Int)]) = true) rfl) rfl rfl (rn_eql (hF428.get rfl) rfl) ?_)
  intro a429 hF430; clear hF428
  refine wpl_op (i := 13) rfl (o_val (v := (.bool (decide ((e265 : Int) = (1 : Int))))) hF430 rfl rfl rfl rfl (rn_pickT (c_true hF430 rfl (decide_eq_true hr4 : decide (r234 = [(0 : Int), (4 : Int), (5 : Int)]) = true)) (hF430.get rfl)) ?_)
  intro a431 hF432; clear hF430
  refine wpl_op (i := 14) rfl (o_val (v := (.bool (decide ((e265 : Int) = (1 : Int))))) hF432 rfl rfl rfl rfl (rn_move (hF432.get rfl)) ?_)
  intro a433 hF434; clear hF432
  refine wpl_op (i := 15) rfl (o_val (v := (.agg #[(.int .i64 0), (.slice none 0 0)])) hF434 rfl (wanted_guard rfl rfl rfl hF434 rfl (decide_eq_true he8 : decide ((e265 : Int) = (1 : Int)) = true) rfl) rfl rfl (rn_build (parts0 ) (by kernel_rfl)) ?_)
  intro a436 hF437; clear hF434
  refine wpl_op (i := 16) rfl (o_call hF437 rfl (wanted_guard rfl rfl rfl hF437 rfl (decide_eq_true he8 : decide ((e265 : Int) = (1 : Int)) = true) rfl) rfl rfl (rn_call (args1 (hF437.get rfl)) rfl (by kernel_rfl)) (bcheck_at (v := (.slice none 0 0)) 0 ([]) _ (show Fl (fun _ => False) w417 3 (.slice none 0 0) 0 (edVals []) from Fl.nil _)) ?_)
  rintro _ w438 ⟨rfl, hx439⟩
  refine ⟨_, rfl, ?_⟩; intro a440 hF441; clear hF437; have z442 := hx439.size
  refine wpl_op (i := 17) rfl (o_val (v := (.bool (decide (((chk 0 ([])) : Int) = (150 : Int))))) hF441 rfl (wanted_guard rfl rfl rfl hF441 rfl (decide_eq_true he8 : decide ((e265 : Int) = (1 : Int)) = true) rfl) rfl rfl (rn_eql (hF441.get rfl) rfl) ?_)
  intro a443 hF444; clear hF441
  refine wpl_op (i := 18) rfl (o_val (v := (.bool (decide (((chk 0 ([])) : Int) = (150 : Int))))) hF444 rfl rfl rfl rfl (rn_pickT (c_true hF444 rfl (decide_eq_true he8 : decide ((e265 : Int) = (1 : Int)) = true)) (hF444.get rfl)) ?_)
  intro a445 hF446; clear hF444
  refine wpl_op (i := 19) rfl (o_val (v := (.bool (decide (((chk 0 ([])) : Int) = (150 : Int))))) hF446 rfl rfl rfl rfl (rn_assign (hF446.get rfl)) ?_)
  intro a447 hF448; clear hF446
  refine wpList_nil ?_
  refine hK391 _ _ ?_
  clear hK391
  have hF449 := ((((((((((((((((hF448.nil.cons (hF448.get (t := 18) (v := (.bool (decide (t160 = [[(0 : Int), (1152921504606846976 : Int)], [(1152921504606846976 : Int), (0 : Int)]])))) rfl)).cons (hF448.get (t := 17) (v := (.int .i64 e265)) rfl)).cons (hF448.get (t := 15) (v := (.int .i64 e235)) rfl)).cons (hF448.get (t := 14) (v := (.slice A231 m232 c233)) rfl)).cons (hF448.get (t := 13) (v := (.pointer (some ⟨g214, 0, none⟩))) rfl)).cons (hF448.get (t := 12) (v := (.int .i64 er165)) rfl)).cons (hF448.get (t := 10) (v := (.slice A157 m158 c159)) rfl)).cons (hF448.get (t := 9) (v := (.int .i64 er126)) rfl)).cons (hF448.get (t := 8) (v := (.slice B122 k123 c124)) rfl)).cons (hF448.get (t := 6) (v := (.pointer (some ⟨g101, 0, none⟩))) rfl)).cons (hF448.get (t := 5) (v := (.int .i64 (chk 2 ([(⟨0, 1, 3⟩ : E3)])))) rfl)).cons (hF448.get (t := 4) (v := (.bool (hld 2 ([(⟨0, 1, 3⟩ : E3)]) ([(0 : Int), (4 : Int)])))) rfl)).cons (hF448.get (t := 3) (v := (.int .i64 (chk 2 ([(⟨0, 1, 3⟩ : E3)])))) rfl)).cons (hF448.get (t := 2) (v := (.bool (hld 2 ([(⟨0, 1, 3⟩ : E3)]) ([(0 : Int), (3 : Int)])))) rfl)).cons (hF448.get (t := 1) (v := (.pointer (some ⟨g17, 0, none⟩))) rfl)).cons (hF448.get (t := 0) (v := (.bool (decide (((chk 0 ([])) : Int) = (150 : Int))))) rfl))
  clear hF448
  refine wp_ret ?_
  refine ret1 hF449 rfl rfl ?_
  exact ⟨by rw [show (decide (((chk 0 ([])) : Int) = (150 : Int))) = true from by decide +kernel], ((((((((((((((((((((((((((Ext.refl w).trans hx10).trans hx20).grownN hg27 (by omega)).trans hx35).trans hx42).trans hx64).trans hx71).trans hx94).trans hx104).grownN hg111 (by omega)).trans hx133).trans hx172).trans hx207).trans hx217).grownN hg224 (by omega)).trans hx240).trans hx270).trans hx335).trans hx357).trans hx365).trans hx373).trans hx382).trans hx411).trans hx418).trans hx439)⟩

end Go.Proofs.Ytjmdodgmoehfkaa
