/- The chapter's examples, walked. -/
import Derived.Test.YtklhgghlkidfjaaLawA
namespace Go.Proofs.Ytklhgghlkidfjaa
open Go.RowKit

variable {S S' : Nat → Prop}

set_option maxRecDepth 100000 in
set_option maxHeartbeats 4000000 in
theorem sane_any  (w : World)  :
    Calls Try.prog 10 #[] w (RB w true) := by
  refine calls_enter (l := []) Try.func10 rfl rfl rfl (fun a hF => ?_)
  refine wp_seq_k (fun K1 hK1 => ?_)
  refine wp_region_lit ?_
  refine wpl_op (i := 0) rfl (o_val (v := (.bool false)) hF rfl rfl rfl rfl (rn_assign rfl) ?_)
  intro a2 hF3; clear hF
  refine wpList_nil ?_
  refine hK1 _ _ ?_
  clear hK1
  refine wp_seq_k (fun K4 hK4 => ?_)
  refine wp_region_lit ?_
  refine wpl_op (i := 0) rfl (o_call hF3 rfl rfl rfl rfl (rn_call (args1 rfl) rfl (by kernel_rfl)) (new_any (S := fun _ => False) _ _) ?_)
  rintro _ w11 ⟨v10, rfl, hd9, hx12⟩
  obtain ⟨A5, c6, B7, e8, rfl, -, -⟩ := hd9.form
  have hd9 := hd9.clip
  refine ⟨_, rfl, ?_⟩; intro a13 hF14; clear hF3; have z15 := hx12.size
  refine wpl_op (i := 1) rfl (o_val (v := (.tuple #[(.agg #[(.slice A5 (((Dk.new 0).1).sectors.length) c6), (.slice B7 (((Dk.new 0).1).pending.length) e8), (.int .i64 (((Dk.new 0).1).left)), (.bool (((Dk.new 0).1).stopped))]), (.int .i64 ((Dk.new 0).2))])) hF14 rfl rfl rfl rfl (rn_move (hF14.get rfl)) ?_)
  intro a16 hF17; clear hF14
  refine wpl_op (i := 2) rfl (o_val (v := (.agg #[(.slice A5 (((Dk.new 0).1).sectors.length) c6), (.slice B7 (((Dk.new 0).1).pending.length) e8), (.int .i64 (((Dk.new 0).1).left)), (.bool (((Dk.new 0).1).stopped))])) hF17 rfl rfl rfl rfl (rn_extract (hF17.get rfl) rfl) ?_)
  intro a18 hF19; clear hF17
  refine wpl_op (i := 3) rfl (o_val (v := (.int .i64 ((Dk.new 0).2))) hF19 rfl rfl rfl rfl (rn_extract (hF19.get rfl) rfl) ?_)
  intro a20 hF21; clear hF19
  refine wpl_op (i := 4) rfl (o_new (fun g => (.pointer (some ⟨g, 0, none⟩))) [(.slice none 0 0), (.slice none 0 0), (.int .i64 0), (.bool false)] 25 hF21 rfl rfl rfl rfl (by kernel_rfl) ?_)
  intro g22 w23 a28 hF29 z26 z27 b24 hx25; clear hF21
  refine wpl_op (i := 5) rfl (o_store (cells := [(.slice A5 (((Dk.new 0).1).sectors.length) c6), (.slice B7 (((Dk.new 0).1).pending.length) e8), (.int .i64 (((Dk.new 0).1).left)), (.bool (((Dk.new 0).1).stopped))]) hF29 rfl rfl rfl rfl (hF29.get rfl) (hF29.get rfl) b24 (by kernel_rfl : (Try.prog.info? 25).map (·.size) = some 4) rfl (by simp [Value.oneCell']) ?_)
  intro w30 b31 hg32; have z33 := hg32.size
  refine wpl_op (i := 6) rfl (o_val (v := (.int .i64 ((Dk.new 0).2))) hF29 rfl rfl rfl rfl (rn_assign (hF29.get rfl)) ?_)
  intro a34 hF35; clear hF29
  refine wpList_nil ?_
  refine hK4 _ _ ?_
  clear hK4
  have hF36 := ((hF35.nil.cons (hF35.get (t := 2) (v := (.int .i64 ((Dk.new 0).2))) rfl)).cons (hF35.get (t := 0) (v := (.bool false)) rfl))
  clear hF35
  refine wp_seq_k (fun K37 hK37 => ?_)
  refine wp_region_lit ?_
  refine wpl_op (i := 0) rfl (o_call hF36 rfl rfl rfl rfl (rn_call (args1 rfl) rfl (by kernel_rfl)) (new_any (S := fun _ => False) _ _) ?_)
  rintro _ w44 ⟨v43, rfl, hd42, hx45⟩
  obtain ⟨A38, c39, B40, e41, rfl, -, -⟩ := hd42.form
  have hd42 := hd42.clip
  refine ⟨_, rfl, ?_⟩; intro a46 hF47; clear hF36; have z48 := hx45.size
  refine wpl_op (i := 1) rfl (o_val (v := (.tuple #[(.agg #[(.slice A38 (((Dk.new 2).1).sectors.length) c39), (.slice B40 (((Dk.new 2).1).pending.length) e41), (.int .i64 (((Dk.new 2).1).left)), (.bool (((Dk.new 2).1).stopped))]), (.int .i64 ((Dk.new 2).2))])) hF47 rfl rfl rfl rfl (rn_move (hF47.get rfl)) ?_)
  intro a49 hF50; clear hF47
  refine wpl_op (i := 2) rfl (o_val (v := (.agg #[(.slice A38 (((Dk.new 2).1).sectors.length) c39), (.slice B40 (((Dk.new 2).1).pending.length) e41), (.int .i64 (((Dk.new 2).1).left)), (.bool (((Dk.new 2).1).stopped))])) hF50 rfl rfl rfl rfl (rn_extract (hF50.get rfl) rfl) ?_)
  intro a51 hF52; clear hF50
  refine wpl_op (i := 3) rfl (o_val (v := (.int .i64 ((Dk.new 2).2))) hF52 rfl rfl rfl rfl (rn_extract (hF52.get rfl) rfl) ?_)
  intro a53 hF54; clear hF52
  refine wpl_op (i := 4) rfl (o_new (fun g => (.pointer (some ⟨g, 0, none⟩))) [(.slice none 0 0), (.slice none 0 0), (.int .i64 0), (.bool false)] 25 hF54 rfl rfl rfl rfl (by kernel_rfl) ?_)
  intro g55 w56 a61 hF62 z59 z60 b57 hx58; clear hF54
  refine wpl_op (i := 5) rfl (o_store (cells := [(.slice A38 (((Dk.new 2).1).sectors.length) c39), (.slice B40 (((Dk.new 2).1).pending.length) e41), (.int .i64 (((Dk.new 2).1).left)), (.bool (((Dk.new 2).1).stopped))]) hF62 rfl rfl rfl rfl (hF62.get rfl) (hF62.get rfl) b57 (by kernel_rfl : (Try.prog.info? 25).map (·.size) = some 4) rfl (by simp [Value.oneCell']) ?_)
  intro w63 b64 hg65; have z66 := hg65.size
  refine wpl_op (i := 6) rfl (o_val (v := (.int .i64 ((Dk.new 2).2))) hF62 rfl rfl rfl rfl (rn_assign (hF62.get rfl)) ?_)
  intro a67 hF68; clear hF62
  refine wpList_nil ?_
  refine hK37 _ _ ?_
  clear hK37
  have hF69 := ((((hF68.nil.cons (hF68.get (t := 4) (v := (.int .i64 ((Dk.new 2).2))) rfl)).cons (hF68.get (t := 3) (v := (.pointer (some ⟨g55, 0, none⟩))) rfl)).cons (hF68.get (t := 2) (v := (.int .i64 ((Dk.new 0).2))) rfl)).cons (hF68.get (t := 0) (v := (.bool false)) rfl))
  clear hF68
  refine wp_seq_k (fun K70 hK70 => ?_)
  refine wp_region_lit ?_
  refine wpl_op (i := 0) rfl (o_val (v := (.agg #[(.slice A38 (((Dk.new 2).1).sectors.length) c39), (.slice B40 (((Dk.new 2).1).pending.length) e41), (.int .i64 (((Dk.new 2).1).left)), (.bool (((Dk.new 2).1).stopped))])) hF69 rfl rfl rfl rfl (rn_loadBlk (hF69.get rfl) b64 Try.underlying25 rfl (by kernel_rfl : (Try.prog.info? 25).map (·.size) = some 4)) ?_)
  intro a71 hF72; clear hF69
  refine wpl_op (i := 1) rfl (o_new (fun g => (.slice (some ⟨g, 0, none⟩) 1 1)) [(.int .u8 7)] 5 hF72 rfl rfl rfl rfl (rn_buildSlice (parts1 rfl) (by kernel_rfl)) ?_)
  intro g73 w74 a79 hF80 z77 z78 b75 hx76; clear hF72
  have d81 := (hd42.pres ((((Pres.refl w44).ext hx58).grownN hg65 (fun h => by simp only [Clip, Fr, Old] at h; omega)).ext hx76))
  refine wpl_op (i := 2) rfl (o_call hF80 rfl rfl rfl rfl (rn_call (args3 (hF80.get rfl) rfl (hF80.get rfl)) rfl (by kernel_rfl)) (write_any (S := (fun b => (Clip (Fr (fun _ => False) w30) w44) b ∨ (fun b => b = g73) b)) _ _ ((Dk.new 2).1) _ ([7]) _ (d81.sub (fun _ => Or.inl)) ((rbs_blk (S := fun b => b = g73) (n := 1) (l := [7]) b75 rfl rfl rfl (by omega)).sub (fun _ => Or.inr))) ?_)
  rintro _ w88 ⟨v87, rfl, hd86, hx89⟩
  obtain ⟨A82, c83, B84, e85, rfl, -, -⟩ := hd86.form
  have hd86 := hd86.clip
  refine ⟨_, rfl, ?_⟩; intro a90 hF91; clear hF80; have z92 := hx89.size
  refine wpl_op (i := 3) rfl (o_val (v := (.tuple #[(.agg #[(.slice A82 (((((Dk.new 2).1).write 1 ([7])).1).sectors.length) c83), (.slice B84 (((((Dk.new 2).1).write 1 ([7])).1).pending.length) e85), (.int .i64 (((((Dk.new 2).1).write 1 ([7])).1).left)), (.bool (((((Dk.new 2).1).write 1 ([7])).1).stopped))]), (.int .i64 ((((Dk.new 2).1).write 1 ([7])).2))])) hF91 rfl rfl rfl rfl (rn_move (hF91.get rfl)) ?_)
  intro a93 hF94; clear hF91
  refine wpl_op (i := 4) rfl (o_val (v := (.agg #[(.slice A82 (((((Dk.new 2).1).write 1 ([7])).1).sectors.length) c83), (.slice B84 (((((Dk.new 2).1).write 1 ([7])).1).pending.length) e85), (.int .i64 (((((Dk.new 2).1).write 1 ([7])).1).left)), (.bool (((((Dk.new 2).1).write 1 ([7])).1).stopped))])) hF94 rfl rfl rfl rfl (rn_extract (hF94.get rfl) rfl) ?_)
  intro a95 hF96; clear hF94
  refine wpl_op (i := 5) rfl (o_val (v := (.int .i64 ((((Dk.new 2).1).write 1 ([7])).2))) hF96 rfl rfl rfl rfl (rn_extract (hF96.get rfl) rfl) ?_)
  intro a97 hF98; clear hF96
  refine wpl_op (i := 6) rfl (o_new (fun g => (.pointer (some ⟨g, 0, none⟩))) [(.slice none 0 0), (.slice none 0 0), (.int .i64 0), (.bool false)] 25 hF98 rfl rfl rfl rfl (by kernel_rfl) ?_)
  intro g99 w100 a105 hF106 z103 z104 b101 hx102; clear hF98
  refine wpl_op (i := 7) rfl (o_store (cells := [(.slice A82 (((((Dk.new 2).1).write 1 ([7])).1).sectors.length) c83), (.slice B84 (((((Dk.new 2).1).write 1 ([7])).1).pending.length) e85), (.int .i64 (((((Dk.new 2).1).write 1 ([7])).1).left)), (.bool (((((Dk.new 2).1).write 1 ([7])).1).stopped))]) hF106 rfl rfl rfl rfl (hF106.get rfl) (hF106.get rfl) b101 (by kernel_rfl : (Try.prog.info? 25).map (·.size) = some 4) rfl (by simp [Value.oneCell']) ?_)
  intro w107 b108 hg109; have z110 := hg109.size
  refine wpl_op (i := 8) rfl (o_val (v := (.int .i64 ((((Dk.new 2).1).write 1 ([7])).2))) hF106 rfl rfl rfl rfl (rn_assign (hF106.get rfl)) ?_)
  intro a111 hF112; clear hF106
  refine wpList_nil ?_
  refine hK70 _ _ ?_
  clear hK70
  have hF113 := ((((((hF112.nil.cons (hF112.get (t := 6) (v := (.int .i64 ((((Dk.new 2).1).write 1 ([7])).2))) rfl)).cons (hF112.get (t := 5) (v := (.pointer (some ⟨g99, 0, none⟩))) rfl)).cons (hF112.get (t := 4) (v := (.int .i64 ((Dk.new 2).2))) rfl)).cons (hF112.get (t := 3) (v := (.pointer (some ⟨g55, 0, none⟩))) rfl)).cons (hF112.get (t := 2) (v := (.int .i64 ((Dk.new 0).2))) rfl)).cons (hF112.get (t := 0) (v := (.bool false)) rfl))
  clear hF112
  refine wp_seq_k (fun K114 hK114 => ?_)
  refine wp_region_lit ?_
  refine wpl_op (i := 0) rfl (o_val (v := (.agg #[(.slice A82 (((((Dk.new 2).1).write 1 ([7])).1).sectors.length) c83), (.slice B84 (((((Dk.new 2).1).write 1 ([7])).1).pending.length) e85), (.int .i64 (((((Dk.new 2).1).write 1 ([7])).1).left)), (.bool (((((Dk.new 2).1).write 1 ([7])).1).stopped))])) hF113 rfl rfl rfl rfl (rn_loadBlk (hF113.get rfl) b108 Try.underlying25 rfl (by kernel_rfl : (Try.prog.info? 25).map (·.size) = some 4)) ?_)
  intro a115 hF116; clear hF113
  have d117 := (hd86.pres (((Pres.refl w88).ext hx102).grownN hg109 (fun h => by simp only [Clip, Fr, Old] at h; omega)))
  refine wpl_op (i := 1) rfl (o_call hF116 rfl rfl rfl rfl (rn_call (args2 (hF116.get rfl) rfl) rfl (by kernel_rfl)) (read_any (S := (Clip (Fr (fun b => (Clip (Fr (fun _ => False) w30) w44) b ∨ (fun b => b = g73) b) w74) w88)) _ ((((Dk.new 2).1).write 1 ([7])).1) _ _ d117) ?_)
  rintro _ w125 ⟨v122, rfl, hb121, hx126⟩
  obtain ⟨b118, o119, c120, rfl, hl124, hc123⟩ := hb121.nth (by decide +kernel)
  have hb121 := hb121.clip
  refine ⟨_, rfl, ?_⟩; intro a127 hF128; clear hF116; have z129 := hx126.size
  refine wpl_op (i := 2) rfl (o_val (v := (.tuple #[(.slice (some ⟨b118, o119, none⟩) (((((((Dk.new 2).1).write 1 ([7])).1).read 1).1).length) c120), (.int .i64 ((((((Dk.new 2).1).write 1 ([7])).1).read 1).2))])) hF128 rfl rfl rfl rfl (rn_move (hF128.get rfl)) ?_)
  intro a130 hF131; clear hF128
  refine wpl_op (i := 3) rfl (o_val (v := (.slice (some ⟨b118, o119, none⟩) (((((((Dk.new 2).1).write 1 ([7])).1).read 1).1).length) c120)) hF131 rfl rfl rfl rfl (rn_extract (hF131.get rfl) rfl) ?_)
  intro a132 hF133; clear hF131
  refine wpl_op (i := 4) rfl (o_val (v := (.int .i64 ((((((Dk.new 2).1).write 1 ([7])).1).read 1).2))) hF133 rfl rfl rfl rfl (rn_extract (hF133.get rfl) rfl) ?_)
  intro a134 hF135; clear hF133
  refine wpl_op (i := 5) rfl (o_val (v := (.slice (some ⟨b118, o119, none⟩) (((((((Dk.new 2).1).write 1 ([7])).1).read 1).1).length) c120)) hF135 rfl rfl rfl rfl (rn_assign (hF135.get rfl)) ?_)
  intro a136 hF137; clear hF135
  refine wpl_op (i := 6) rfl (o_val (v := (.int .i64 ((((((Dk.new 2).1).write 1 ([7])).1).read 1).2))) hF137 rfl rfl rfl rfl (rn_assign (hF137.get rfl)) ?_)
  intro a138 hF139; clear hF137
  refine wpList_nil ?_
  refine hK114 _ _ ?_
  clear hK114
  have hF140 := ((((((((hF139.nil.cons (hF139.get (t := 8) (v := (.int .i64 ((((((Dk.new 2).1).write 1 ([7])).1).read 1).2))) rfl)).cons (hF139.get (t := 7) (v := (.slice (some ⟨b118, o119, none⟩) (((((((Dk.new 2).1).write 1 ([7])).1).read 1).1).length) c120)) rfl)).cons (hF139.get (t := 6) (v := (.int .i64 ((((Dk.new 2).1).write 1 ([7])).2))) rfl)).cons (hF139.get (t := 5) (v := (.pointer (some ⟨g99, 0, none⟩))) rfl)).cons (hF139.get (t := 4) (v := (.int .i64 ((Dk.new 2).2))) rfl)).cons (hF139.get (t := 3) (v := (.pointer (some ⟨g55, 0, none⟩))) rfl)).cons (hF139.get (t := 2) (v := (.int .i64 ((Dk.new 0).2))) rfl)).cons (hF139.get (t := 0) (v := (.bool false)) rfl))
  clear hF139
  refine wp_seq_k (fun K141 hK141 => ?_)
  refine wp_region_lit ?_
  have b142 : Blk w125 g55 25 [(.slice A38 (((Dk.new 2).1).sectors.length) c39), (.slice B40 (((Dk.new 2).1).pending.length) e41), (.int .i64 (((Dk.new 2).1).left)), (.bool (((Dk.new 2).1).stopped))] := (((((b64.ext hx76).ext hx89).ext hx102).grownN hg109 (by omega)).ext hx126)
  refine wpl_op (i := 0) rfl (o_val (v := (.agg #[(.slice A38 (((Dk.new 2).1).sectors.length) c39), (.slice B40 (((Dk.new 2).1).pending.length) e41), (.int .i64 (((Dk.new 2).1).left)), (.bool (((Dk.new 2).1).stopped))])) hF140 rfl rfl rfl rfl (rn_loadBlk (hF140.get rfl) b142 Try.underlying25 rfl (by kernel_rfl : (Try.prog.info? 25).map (·.size) = some 4)) ?_)
  intro a143 hF144; clear hF140
  have d145 := (hd42.pres ((((((((Pres.refl w44).ext hx58).grownN hg65 (fun h => by simp only [Clip, Fr, Old] at h; omega)).ext hx76).ext hx89).ext hx102).grownN hg109 (fun h => by simp only [Clip, Fr, Old] at h; omega)).ext hx126))
  refine wpl_op (i := 1) rfl (o_call hF144 rfl rfl rfl rfl (rn_call (args2 (hF144.get rfl) rfl) rfl (by kernel_rfl)) (read_any (S := (Clip (Fr (fun _ => False) w30) w44)) _ ((Dk.new 2).1) _ _ d145) ?_)
  rintro _ w150 ⟨v149, rfl, hb148, hx151⟩
  obtain ⟨A146, c147, rfl, -, -⟩ := hb148.form
  have hb148 := hb148.clip
  refine ⟨_, rfl, ?_⟩; intro a152 hF153; clear hF144; have z154 := hx151.size
  refine wpl_op (i := 2) rfl (o_val (v := (.tuple #[(.slice A146 (((((Dk.new 2).1).read 2).1).length) c147), (.int .i64 ((((Dk.new 2).1).read 2).2))])) hF153 rfl rfl rfl rfl (rn_move (hF153.get rfl)) ?_)
  intro a155 hF156; clear hF153
  refine wpl_op (i := 3) rfl (o_val (v := (.slice A146 (((((Dk.new 2).1).read 2).1).length) c147)) hF156 rfl rfl rfl rfl (rn_extract (hF156.get rfl) rfl) ?_)
  intro a157 hF158; clear hF156
  refine wpl_op (i := 4) rfl (o_val (v := (.int .i64 ((((Dk.new 2).1).read 2).2))) hF158 rfl rfl rfl rfl (rn_extract (hF158.get rfl) rfl) ?_)
  intro a159 hF160; clear hF158
  refine wpl_op (i := 5) rfl (o_val (v := (.slice A146 (((((Dk.new 2).1).read 2).1).length) c147)) hF160 rfl rfl rfl rfl (rn_assign (hF160.get rfl)) ?_)
  intro a161 hF162; clear hF160
  refine wpl_op (i := 6) rfl (o_val (v := (.int .i64 ((((Dk.new 2).1).read 2).2))) hF162 rfl rfl rfl rfl (rn_assign (hF162.get rfl)) ?_)
  intro a163 hF164; clear hF162
  refine wpList_nil ?_
  refine hK141 _ _ ?_
  clear hK141
  have hF165 := (((((((((hF164.nil.cons (hF164.get (t := 10) (v := (.int .i64 ((((Dk.new 2).1).read 2).2))) rfl)).cons (hF164.get (t := 8) (v := (.int .i64 ((((((Dk.new 2).1).write 1 ([7])).1).read 1).2))) rfl)).cons (hF164.get (t := 7) (v := (.slice (some ⟨b118, o119, none⟩) (((((((Dk.new 2).1).write 1 ([7])).1).read 1).1).length) c120)) rfl)).cons (hF164.get (t := 6) (v := (.int .i64 ((((Dk.new 2).1).write 1 ([7])).2))) rfl)).cons (hF164.get (t := 5) (v := (.pointer (some ⟨g99, 0, none⟩))) rfl)).cons (hF164.get (t := 4) (v := (.int .i64 ((Dk.new 2).2))) rfl)).cons (hF164.get (t := 3) (v := (.pointer (some ⟨g55, 0, none⟩))) rfl)).cons (hF164.get (t := 2) (v := (.int .i64 ((Dk.new 0).2))) rfl)).cons (hF164.get (t := 0) (v := (.bool false)) rfl))
  clear hF164
  refine wp_meet (fun a' W => Sl 198 [(0, (.bool false)), (2, (.int .i64 ((Dk.new 0).2))), (3, (.pointer (some ⟨g55, 0, none⟩))), (4, (.int .i64 ((Dk.new 2).2))), (5, (.pointer (some ⟨g99, 0, none⟩))), (6, (.int .i64 ((((Dk.new 2).1).write 1 ([7])).2))), (7, (.slice (some ⟨b118, o119, none⟩) (((((((Dk.new 2).1).write 1 ([7])).1).read 1).1).length) c120)), (8, (.int .i64 ((((((Dk.new 2).1).write 1 ([7])).1).read 1).2))), (10, (.int .i64 ((((Dk.new 2).1).read 2).2))), (12, (.int .i64 ((((Dk.new 2).1).write 0 (List.replicate 129 0)).2)))] a' ∧ Ext w150 W) ?_ ?_
  · skip
    have hx167 : ∃ W, w150.drew = W ∧ Ext w150 W := ⟨_, rfl, (Ext.refl _).drew⟩
    obtain ⟨w166, e168, hx167⟩ := hx167
    have z169 := hx167.size
    refine any_start (fun W => Ext w166 W ∧ Blk W g55 25 [(.slice A38 (((Dk.new 2).1).sectors.length) c39), (.slice B40 (((Dk.new 2).1).pending.length) e41), (.int .i64 (((Dk.new 2).1).left)), (.bool (((Dk.new 2).1).stopped))]) (fun i => i == 7) 9 #[false, false, false, false, false, false, false, false, false] rfl rfl rfl ?_
    rw [e168]; clear e168
    have b171 : Blk w166 g55 25 [(.slice A38 (((Dk.new 2).1).sectors.length) c39), (.slice B40 (((Dk.new 2).1).pending.length) e41), (.int .i64 (((Dk.new 2).1).left)), (.bool (((Dk.new 2).1).stopped))] := ((b142.ext hx151).ext hx167)
    have hS170 : Ext w166 w166 ∧ Blk w166 g55 25 [(.slice A38 (((Dk.new 2).1).sectors.length) c39), (.slice B40 (((Dk.new 2).1).pending.length) e41), (.int .i64 (((Dk.new 2).1).left)), (.bool (((Dk.new 2).1).stopped))] := ⟨(Ext.refl w166), b171⟩
    refine any_val (i := 0) (v := (.agg #[(.slice A38 (((Dk.new 2).1).sectors.length) c39), (.slice B40 (((Dk.new 2).1).pending.length) e41), (.int .i64 (((Dk.new 2).1).left)), (.bool (((Dk.new 2).1).stopped))])) hF165 (by decide +kernel) (by decide +kernel) rfl rfl rfl rfl (fun _ _ _ _ h => h) rfl hS170 (fun W hW => (rn_loadBlk (hF165.get rfl) hW.2 Try.underlying25 rfl (by kernel_rfl : (Try.prog.info? 25).map (·.size) = some 4))) ?_
    intro a172 hF173; clear hF165
    refine any_two (i := 1) (k := 6) (by decide +kernel) rfl rfl ?_ ?_
    · skip
      refine o_new (fun g => (.slice (some ⟨g, 0, none⟩) 129 129)) (byteVals (List.replicate 129 0)) 5 hF173 rfl rfl rfl rfl (rn_make rfl rfl (by kernel_rfl)) ?_
      intro g174 w175 a180 hF181 z178 z179 b176 hx177; clear hF173
      have b182 : Blk w175 g55 25 [(.slice A38 (((Dk.new 2).1).sectors.length) c39), (.slice B40 (((Dk.new 2).1).pending.length) e41), (.int .i64 (((Dk.new 2).1).left)), (.bool (((Dk.new 2).1).stopped))] := (b171.ext hx177)
      refine ⟨fun _ _ => ⟨((Ext.refl w166).trans hx177), b182⟩, ?_⟩
      refine any_two (i := 2) (k := 6) (by decide +kernel) rfl rfl ?_ ?_
      · skip
        have d183 := (hd42.pres (((((((((((Pres.refl w44).ext hx58).grownN hg65 (fun h => by simp only [Clip, Fr, Old] at h; omega)).ext hx76).ext hx89).ext hx102).grownN hg109 (fun h => by simp only [Clip, Fr, Old] at h; omega)).ext hx126).ext hx151).ext hx167).ext hx177))
        refine o_call hF181 rfl rfl rfl rfl (rn_call (args3 (hF181.get rfl) rfl (hF181.get rfl)) rfl (by kernel_rfl)) (write_any (S := (fun b => (Clip (Fr (fun _ => False) w30) w44) b ∨ (fun b => b = g174) b)) _ _ ((Dk.new 2).1) _ (List.replicate 129 0) _ (d183.sub (fun _ => Or.inl)) ((rbs_blk (S := fun b => b = g174) (n := 129) (l := (List.replicate 129 0)) b176 rfl rfl rfl (by omega)).sub (fun _ => Or.inr))) ?_
        rintro _ w190 ⟨v189, rfl, hd188, hx191⟩
        obtain ⟨A184, c185, B186, e187, rfl, -, -⟩ := hd188.form
        have hd188 := hd188.clip
        refine ⟨_, rfl, ?_⟩; intro a192 hF193; clear hF181; have z194 := hx191.size
        have b195 : Blk w190 g55 25 [(.slice A38 (((Dk.new 2).1).sectors.length) c39), (.slice B40 (((Dk.new 2).1).pending.length) e41), (.int .i64 (((Dk.new 2).1).left)), (.bool (((Dk.new 2).1).stopped))] := (b182.ext hx191)
        refine ⟨fun _ _ => ⟨(((Ext.refl w166).trans hx177).trans hx191), b195⟩, ?_⟩
        refine any_pure (i := 3) (v := (.tuple #[(.agg #[(.slice A184 (((((Dk.new 2).1).write 0 (List.replicate 129 0)).1).sectors.length) c185), (.slice B186 (((((Dk.new 2).1).write 0 (List.replicate 129 0)).1).pending.length) e187), (.int .i64 (((((Dk.new 2).1).write 0 (List.replicate 129 0)).1).left)), (.bool (((((Dk.new 2).1).write 0 (List.replicate 129 0)).1).stopped))]), (.int .i64 ((((Dk.new 2).1).write 0 (List.replicate 129 0)).2))])) hF193 (by decide +kernel) (by decide +kernel) rfl rfl rfl rfl (fun _ _ _ _ h => h) rfl (fun W => (rn_move (hF193.get rfl))) ?_
        intro a196 hF197; clear hF193
        refine any_pure (i := 4) (v := (.agg #[(.slice A184 (((((Dk.new 2).1).write 0 (List.replicate 129 0)).1).sectors.length) c185), (.slice B186 (((((Dk.new 2).1).write 0 (List.replicate 129 0)).1).pending.length) e187), (.int .i64 (((((Dk.new 2).1).write 0 (List.replicate 129 0)).1).left)), (.bool (((((Dk.new 2).1).write 0 (List.replicate 129 0)).1).stopped))])) hF197 (by decide +kernel) (by decide +kernel) rfl rfl rfl rfl (fun _ _ _ _ h => h) rfl (fun W => (rn_extract (hF197.get rfl) rfl)) ?_
        intro a198 hF199; clear hF197
        refine any_pure (i := 5) (v := (.int .i64 ((((Dk.new 2).1).write 0 (List.replicate 129 0)).2))) hF199 (by decide +kernel) (by decide +kernel) rfl rfl rfl rfl (fun _ _ _ _ h => h) rfl (fun W => (rn_extract (hF199.get rfl) rfl)) ?_
        intro a200 hF201; clear hF199
        refine any_one (i := 6) (by decide +kernel) rfl ?_
        refine o_new (fun g => (.pointer (some ⟨g, 0, none⟩))) [(.slice none 0 0), (.slice none 0 0), (.int .i64 0), (.bool false)] 25 hF201 rfl rfl rfl rfl (by kernel_rfl) ?_
        intro g202 w203 a208 hF209 z206 z207 b204 hx205; clear hF201
        have b210 : Blk w203 g55 25 [(.slice A38 (((Dk.new 2).1).sectors.length) c39), (.slice B40 (((Dk.new 2).1).pending.length) e41), (.int .i64 (((Dk.new 2).1).left)), (.bool (((Dk.new 2).1).stopped))] := (b195.ext hx205)
        refine ⟨fun _ _ => ⟨((((Ext.refl w166).trans hx177).trans hx191).trans hx205), b210⟩, ?_⟩
        refine any_one (i := 7) (by decide +kernel) rfl ?_
        refine o_store (cells := [(.slice A184 (((((Dk.new 2).1).write 0 (List.replicate 129 0)).1).sectors.length) c185), (.slice B186 (((((Dk.new 2).1).write 0 (List.replicate 129 0)).1).pending.length) e187), (.int .i64 (((((Dk.new 2).1).write 0 (List.replicate 129 0)).1).left)), (.bool (((((Dk.new 2).1).write 0 (List.replicate 129 0)).1).stopped))]) hF209 rfl rfl rfl rfl (hF209.get rfl) (hF209.get rfl) b204 (by kernel_rfl : (Try.prog.info? 25).map (·.size) = some 4) rfl (by simp [Value.oneCell']) ?_
        intro w211 b212 hg213; have z214 := hg213.size
        refine ⟨fun h => absurd h (by decide), ?_⟩
        refine any_pure (i := 8) (v := (.int .i64 ((((Dk.new 2).1).write 0 (List.replicate 129 0)).2))) hF209 (by decide +kernel) (by decide +kernel) rfl rfl rfl rfl (fun _ _ _ _ h => h) rfl (fun W => (rn_assign (hF209.get rfl))) ?_
        intro a215 hF216; clear hF209
        refine any_nil (by decide +kernel) ?_
        exact ⟨((((((((((hF216.nil.cons (hF216.get (t := 12) (v := (.int .i64 ((((Dk.new 2).1).write 0 (List.replicate 129 0)).2))) rfl)).cons (hF216.get (t := 10) (v := (.int .i64 ((((Dk.new 2).1).read 2).2))) rfl)).cons (hF216.get (t := 8) (v := (.int .i64 ((((((Dk.new 2).1).write 1 ([7])).1).read 1).2))) rfl)).cons (hF216.get (t := 7) (v := (.slice (some ⟨b118, o119, none⟩) (((((((Dk.new 2).1).write 1 ([7])).1).read 1).1).length) c120)) rfl)).cons (hF216.get (t := 6) (v := (.int .i64 ((((Dk.new 2).1).write 1 ([7])).2))) rfl)).cons (hF216.get (t := 5) (v := (.pointer (some ⟨g99, 0, none⟩))) rfl)).cons (hF216.get (t := 4) (v := (.int .i64 ((Dk.new 2).2))) rfl)).cons (hF216.get (t := 3) (v := (.pointer (some ⟨g55, 0, none⟩))) rfl)).cons (hF216.get (t := 2) (v := (.int .i64 ((Dk.new 0).2))) rfl)).cons (hF216.get (t := 0) (v := (.bool false)) rfl)), ((((((Ext.refl w150).trans hx167).trans hx177).trans hx191).trans hx205).grownN hg213 (by omega))⟩
      · skip
        refine o_new (fun g => (.pointer (some ⟨g, 0, none⟩))) [(.slice none 0 0), (.slice none 0 0), (.int .i64 0), (.bool false)] 25 hF181 rfl rfl rfl rfl (by kernel_rfl) ?_
        intro g217 w218 a223 hF224 z221 z222 b219 hx220; clear hF181
        have b225 : Blk w218 g55 25 [(.slice A38 (((Dk.new 2).1).sectors.length) c39), (.slice B40 (((Dk.new 2).1).pending.length) e41), (.int .i64 (((Dk.new 2).1).left)), (.bool (((Dk.new 2).1).stopped))] := (b182.ext hx220)
        refine ⟨fun _ _ => ⟨(((Ext.refl w166).trans hx177).trans hx220), b225⟩, ?_⟩
        refine any_one (i := 2) (by decide +kernel) rfl ?_
        have d226 := (hd42.pres ((((((((((((Pres.refl w44).ext hx58).grownN hg65 (fun h => by simp only [Clip, Fr, Old] at h; omega)).ext hx76).ext hx89).ext hx102).grownN hg109 (fun h => by simp only [Clip, Fr, Old] at h; omega)).ext hx126).ext hx151).ext hx167).ext hx177).ext hx220))
        have b227 : Blk w218 g174 5 (byteVals (List.replicate 129 0)) := (b176.ext hx220)
        refine o_call hF224 rfl rfl rfl rfl (rn_call (args3 (hF224.get rfl) rfl (hF224.get rfl)) rfl (by kernel_rfl)) (write_any (S := (fun b => (Clip (Fr (fun _ => False) w30) w44) b ∨ (fun b => b = g174) b)) _ _ ((Dk.new 2).1) _ (List.replicate 129 0) _ (d226.sub (fun _ => Or.inl)) ((rbs_blk (S := fun b => b = g174) (n := 129) (l := (List.replicate 129 0)) b227 rfl rfl rfl (by omega)).sub (fun _ => Or.inr))) ?_
        rintro _ w234 ⟨v233, rfl, hd232, hx235⟩
        obtain ⟨A228, c229, B230, e231, rfl, -, -⟩ := hd232.form
        have hd232 := hd232.clip
        refine ⟨_, rfl, ?_⟩; intro a236 hF237; clear hF224; have z238 := hx235.size
        have b239 : Blk w234 g55 25 [(.slice A38 (((Dk.new 2).1).sectors.length) c39), (.slice B40 (((Dk.new 2).1).pending.length) e41), (.int .i64 (((Dk.new 2).1).left)), (.bool (((Dk.new 2).1).stopped))] := (b225.ext hx235)
        refine ⟨fun _ _ => ⟨((((Ext.refl w166).trans hx177).trans hx220).trans hx235), b239⟩, ?_⟩
        refine any_pure (i := 3) (v := (.tuple #[(.agg #[(.slice A228 (((((Dk.new 2).1).write 0 (List.replicate 129 0)).1).sectors.length) c229), (.slice B230 (((((Dk.new 2).1).write 0 (List.replicate 129 0)).1).pending.length) e231), (.int .i64 (((((Dk.new 2).1).write 0 (List.replicate 129 0)).1).left)), (.bool (((((Dk.new 2).1).write 0 (List.replicate 129 0)).1).stopped))]), (.int .i64 ((((Dk.new 2).1).write 0 (List.replicate 129 0)).2))])) hF237 (by decide +kernel) (by decide +kernel) rfl rfl rfl rfl (fun _ _ _ _ h => h) rfl (fun W => (rn_move (hF237.get rfl))) ?_
        intro a240 hF241; clear hF237
        refine any_pure (i := 4) (v := (.agg #[(.slice A228 (((((Dk.new 2).1).write 0 (List.replicate 129 0)).1).sectors.length) c229), (.slice B230 (((((Dk.new 2).1).write 0 (List.replicate 129 0)).1).pending.length) e231), (.int .i64 (((((Dk.new 2).1).write 0 (List.replicate 129 0)).1).left)), (.bool (((((Dk.new 2).1).write 0 (List.replicate 129 0)).1).stopped))])) hF241 (by decide +kernel) (by decide +kernel) rfl rfl rfl rfl (fun _ _ _ _ h => h) rfl (fun W => (rn_extract (hF241.get rfl) rfl)) ?_
        intro a242 hF243; clear hF241
        refine any_pure (i := 5) (v := (.int .i64 ((((Dk.new 2).1).write 0 (List.replicate 129 0)).2))) hF243 (by decide +kernel) (by decide +kernel) rfl rfl rfl rfl (fun _ _ _ _ h => h) rfl (fun W => (rn_extract (hF243.get rfl) rfl)) ?_
        intro a244 hF245; clear hF243
        refine any_one (i := 7) (by decide +kernel) rfl ?_
        have b249 : Blk w234 g217 25 [(.slice none 0 0), (.slice none 0 0), (.int .i64 0), (.bool false)] := (b219.ext hx235)
        refine o_store (cells := [(.slice A228 (((((Dk.new 2).1).write 0 (List.replicate 129 0)).1).sectors.length) c229), (.slice B230 (((((Dk.new 2).1).write 0 (List.replicate 129 0)).1).pending.length) e231), (.int .i64 (((((Dk.new 2).1).write 0 (List.replicate 129 0)).1).left)), (.bool (((((Dk.new 2).1).write 0 (List.replicate 129 0)).1).stopped))]) hF245 rfl rfl rfl rfl (hF245.get rfl) (hF245.get rfl) b249 (by kernel_rfl : (Try.prog.info? 25).map (·.size) = some 4) rfl (by simp [Value.oneCell']) ?_
        intro w246 b247 hg248; have z250 := hg248.size
        refine ⟨fun h => absurd h (by decide), ?_⟩
        refine any_pure (i := 8) (v := (.int .i64 ((((Dk.new 2).1).write 0 (List.replicate 129 0)).2))) hF245 (by decide +kernel) (by decide +kernel) rfl rfl rfl rfl (fun _ _ _ _ h => h) rfl (fun W => (rn_assign (hF245.get rfl))) ?_
        intro a251 hF252; clear hF245
        refine any_nil (by decide +kernel) ?_
        exact ⟨((((((((((hF252.nil.cons (hF252.get (t := 12) (v := (.int .i64 ((((Dk.new 2).1).write 0 (List.replicate 129 0)).2))) rfl)).cons (hF252.get (t := 10) (v := (.int .i64 ((((Dk.new 2).1).read 2).2))) rfl)).cons (hF252.get (t := 8) (v := (.int .i64 ((((((Dk.new 2).1).write 1 ([7])).1).read 1).2))) rfl)).cons (hF252.get (t := 7) (v := (.slice (some ⟨b118, o119, none⟩) (((((((Dk.new 2).1).write 1 ([7])).1).read 1).1).length) c120)) rfl)).cons (hF252.get (t := 6) (v := (.int .i64 ((((Dk.new 2).1).write 1 ([7])).2))) rfl)).cons (hF252.get (t := 5) (v := (.pointer (some ⟨g99, 0, none⟩))) rfl)).cons (hF252.get (t := 4) (v := (.int .i64 ((Dk.new 2).2))) rfl)).cons (hF252.get (t := 3) (v := (.pointer (some ⟨g55, 0, none⟩))) rfl)).cons (hF252.get (t := 2) (v := (.int .i64 ((Dk.new 0).2))) rfl)).cons (hF252.get (t := 0) (v := (.bool false)) rfl)), ((((((Ext.refl w150).trans hx167).trans hx177).trans hx220).trans hx235).grownN hg248 (by omega))⟩
    · skip
      refine o_new (fun g => (.pointer (some ⟨g, 0, none⟩))) [(.slice none 0 0), (.slice none 0 0), (.int .i64 0), (.bool false)] 25 hF173 rfl rfl rfl rfl (by kernel_rfl) ?_
      intro g253 w254 a259 hF260 z257 z258 b255 hx256; clear hF173
      have b261 : Blk w254 g55 25 [(.slice A38 (((Dk.new 2).1).sectors.length) c39), (.slice B40 (((Dk.new 2).1).pending.length) e41), (.int .i64 (((Dk.new 2).1).left)), (.bool (((Dk.new 2).1).stopped))] := (b171.ext hx256)
      refine ⟨fun _ _ => ⟨((Ext.refl w166).trans hx256), b261⟩, ?_⟩
      refine any_one (i := 1) (by decide +kernel) rfl ?_
      refine o_new (fun g => (.slice (some ⟨g, 0, none⟩) 129 129)) (byteVals (List.replicate 129 0)) 5 hF260 rfl rfl rfl rfl (rn_make rfl rfl (by kernel_rfl)) ?_
      intro g262 w263 a268 hF269 z266 z267 b264 hx265; clear hF260
      have b270 : Blk w263 g55 25 [(.slice A38 (((Dk.new 2).1).sectors.length) c39), (.slice B40 (((Dk.new 2).1).pending.length) e41), (.int .i64 (((Dk.new 2).1).left)), (.bool (((Dk.new 2).1).stopped))] := (b261.ext hx265)
      refine ⟨fun _ _ => ⟨(((Ext.refl w166).trans hx256).trans hx265), b270⟩, ?_⟩
      refine any_one (i := 2) (by decide +kernel) rfl ?_
      have d271 := (hd42.pres ((((((((((((Pres.refl w44).ext hx58).grownN hg65 (fun h => by simp only [Clip, Fr, Old] at h; omega)).ext hx76).ext hx89).ext hx102).grownN hg109 (fun h => by simp only [Clip, Fr, Old] at h; omega)).ext hx126).ext hx151).ext hx167).ext hx256).ext hx265))
      refine o_call hF269 rfl rfl rfl rfl (rn_call (args3 (hF269.get rfl) rfl (hF269.get rfl)) rfl (by kernel_rfl)) (write_any (S := (fun b => (Clip (Fr (fun _ => False) w30) w44) b ∨ (fun b => b = g262) b)) _ _ ((Dk.new 2).1) _ (List.replicate 129 0) _ (d271.sub (fun _ => Or.inl)) ((rbs_blk (S := fun b => b = g262) (n := 129) (l := (List.replicate 129 0)) b264 rfl rfl rfl (by omega)).sub (fun _ => Or.inr))) ?_
      rintro _ w278 ⟨v277, rfl, hd276, hx279⟩
      obtain ⟨A272, c273, B274, e275, rfl, -, -⟩ := hd276.form
      have hd276 := hd276.clip
      refine ⟨_, rfl, ?_⟩; intro a280 hF281; clear hF269; have z282 := hx279.size
      have b283 : Blk w278 g55 25 [(.slice A38 (((Dk.new 2).1).sectors.length) c39), (.slice B40 (((Dk.new 2).1).pending.length) e41), (.int .i64 (((Dk.new 2).1).left)), (.bool (((Dk.new 2).1).stopped))] := (b270.ext hx279)
      refine ⟨fun _ _ => ⟨((((Ext.refl w166).trans hx256).trans hx265).trans hx279), b283⟩, ?_⟩
      refine any_pure (i := 3) (v := (.tuple #[(.agg #[(.slice A272 (((((Dk.new 2).1).write 0 (List.replicate 129 0)).1).sectors.length) c273), (.slice B274 (((((Dk.new 2).1).write 0 (List.replicate 129 0)).1).pending.length) e275), (.int .i64 (((((Dk.new 2).1).write 0 (List.replicate 129 0)).1).left)), (.bool (((((Dk.new 2).1).write 0 (List.replicate 129 0)).1).stopped))]), (.int .i64 ((((Dk.new 2).1).write 0 (List.replicate 129 0)).2))])) hF281 (by decide +kernel) (by decide +kernel) rfl rfl rfl rfl (fun _ _ _ _ h => h) rfl (fun W => (rn_move (hF281.get rfl))) ?_
      intro a284 hF285; clear hF281
      refine any_pure (i := 4) (v := (.agg #[(.slice A272 (((((Dk.new 2).1).write 0 (List.replicate 129 0)).1).sectors.length) c273), (.slice B274 (((((Dk.new 2).1).write 0 (List.replicate 129 0)).1).pending.length) e275), (.int .i64 (((((Dk.new 2).1).write 0 (List.replicate 129 0)).1).left)), (.bool (((((Dk.new 2).1).write 0 (List.replicate 129 0)).1).stopped))])) hF285 (by decide +kernel) (by decide +kernel) rfl rfl rfl rfl (fun _ _ _ _ h => h) rfl (fun W => (rn_extract (hF285.get rfl) rfl)) ?_
      intro a286 hF287; clear hF285
      refine any_pure (i := 5) (v := (.int .i64 ((((Dk.new 2).1).write 0 (List.replicate 129 0)).2))) hF287 (by decide +kernel) (by decide +kernel) rfl rfl rfl rfl (fun _ _ _ _ h => h) rfl (fun W => (rn_extract (hF287.get rfl) rfl)) ?_
      intro a288 hF289; clear hF287
      refine any_one (i := 7) (by decide +kernel) rfl ?_
      have b293 : Blk w278 g253 25 [(.slice none 0 0), (.slice none 0 0), (.int .i64 0), (.bool false)] := ((b255.ext hx265).ext hx279)
      refine o_store (cells := [(.slice A272 (((((Dk.new 2).1).write 0 (List.replicate 129 0)).1).sectors.length) c273), (.slice B274 (((((Dk.new 2).1).write 0 (List.replicate 129 0)).1).pending.length) e275), (.int .i64 (((((Dk.new 2).1).write 0 (List.replicate 129 0)).1).left)), (.bool (((((Dk.new 2).1).write 0 (List.replicate 129 0)).1).stopped))]) hF289 rfl rfl rfl rfl (hF289.get rfl) (hF289.get rfl) b293 (by kernel_rfl : (Try.prog.info? 25).map (·.size) = some 4) rfl (by simp [Value.oneCell']) ?_
      intro w290 b291 hg292; have z294 := hg292.size
      refine ⟨fun h => absurd h (by decide), ?_⟩
      refine any_pure (i := 8) (v := (.int .i64 ((((Dk.new 2).1).write 0 (List.replicate 129 0)).2))) hF289 (by decide +kernel) (by decide +kernel) rfl rfl rfl rfl (fun _ _ _ _ h => h) rfl (fun W => (rn_assign (hF289.get rfl))) ?_
      intro a295 hF296; clear hF289
      refine any_nil (by decide +kernel) ?_
      exact ⟨((((((((((hF296.nil.cons (hF296.get (t := 12) (v := (.int .i64 ((((Dk.new 2).1).write 0 (List.replicate 129 0)).2))) rfl)).cons (hF296.get (t := 10) (v := (.int .i64 ((((Dk.new 2).1).read 2).2))) rfl)).cons (hF296.get (t := 8) (v := (.int .i64 ((((((Dk.new 2).1).write 1 ([7])).1).read 1).2))) rfl)).cons (hF296.get (t := 7) (v := (.slice (some ⟨b118, o119, none⟩) (((((((Dk.new 2).1).write 1 ([7])).1).read 1).1).length) c120)) rfl)).cons (hF296.get (t := 6) (v := (.int .i64 ((((Dk.new 2).1).write 1 ([7])).2))) rfl)).cons (hF296.get (t := 5) (v := (.pointer (some ⟨g99, 0, none⟩))) rfl)).cons (hF296.get (t := 4) (v := (.int .i64 ((Dk.new 2).2))) rfl)).cons (hF296.get (t := 3) (v := (.pointer (some ⟨g55, 0, none⟩))) rfl)).cons (hF296.get (t := 2) (v := (.int .i64 ((Dk.new 0).2))) rfl)).cons (hF296.get (t := 0) (v := (.bool false)) rfl)), ((((((Ext.refl w150).trans hx167).trans hx256).trans hx265).trans hx279).grownN hg292 (by omega))⟩
  · rintro a297 w298 ⟨hF299, hx300⟩
    have z301 := hx300.size
    clear hF165
    refine wp_seq_k (fun K302 hK302 => ?_)
    refine wp_region_lit ?_
    have b303 : Blk w298 g99 25 [(.slice A82 (((((Dk.new 2).1).write 1 ([7])).1).sectors.length) c83), (.slice B84 (((((Dk.new 2).1).write 1 ([7])).1).pending.length) e85), (.int .i64 (((((Dk.new 2).1).write 1 ([7])).1).left)), (.bool (((((Dk.new 2).1).write 1 ([7])).1).stopped))] := (((b108.ext hx126).ext hx151).ext hx300)
    refine wpl_op (i := 0) rfl (o_val (v := (.agg #[(.slice A82 (((((Dk.new 2).1).write 1 ([7])).1).sectors.length) c83), (.slice B84 (((((Dk.new 2).1).write 1 ([7])).1).pending.length) e85), (.int .i64 (((((Dk.new 2).1).write 1 ([7])).1).left)), (.bool (((((Dk.new 2).1).write 1 ([7])).1).stopped))])) hF299 rfl rfl rfl rfl (rn_loadBlk (hF299.get rfl) b303 Try.underlying25 rfl (by kernel_rfl : (Try.prog.info? 25).map (·.size) = some 4)) ?_)
    intro a304 hF305; clear hF299
    have d306 := (hd86.pres ((((((Pres.refl w88).ext hx102).grownN hg109 (fun h => by simp only [Clip, Fr, Old] at h; omega)).ext hx126).ext hx151).ext hx300))
    refine wpl_op (i := 1) rfl (o_call hF305 rfl rfl rfl rfl (rn_call (args2 (hF305.get rfl) rfl) rfl (by kernel_rfl)) (stop_any (S := (Clip (Fr (fun b => (Clip (Fr (fun _ => False) w30) w44) b ∨ (fun b => b = g73) b) w74) w88)) _ ((((Dk.new 2).1).write 1 ([7])).1) _ _ d306) ?_)
    rintro _ w313 ⟨v312, rfl, hd311, hx314⟩
    obtain ⟨A307, c308, B309, e310, rfl, -, -⟩ := hd311.form
    have hd311 := hd311.clip
    refine ⟨_, rfl, ?_⟩; intro a315 hF316; clear hF305; have z317 := hx314.size
    refine wpl_op (i := 2) rfl (o_val (v := (.tuple #[(.agg #[(.slice A307 (((((((Dk.new 2).1).write 1 ([7])).1).stop 1).1).sectors.length) c308), (.slice B309 (((((((Dk.new 2).1).write 1 ([7])).1).stop 1).1).pending.length) e310), (.int .i64 (((((((Dk.new 2).1).write 1 ([7])).1).stop 1).1).left)), (.bool (((((((Dk.new 2).1).write 1 ([7])).1).stop 1).1).stopped))]), (.int .i64 ((((((Dk.new 2).1).write 1 ([7])).1).stop 1).2))])) hF316 rfl rfl rfl rfl (rn_move (hF316.get rfl)) ?_)
    intro a318 hF319; clear hF316
    refine wpl_op (i := 3) rfl (o_val (v := (.agg #[(.slice A307 (((((((Dk.new 2).1).write 1 ([7])).1).stop 1).1).sectors.length) c308), (.slice B309 (((((((Dk.new 2).1).write 1 ([7])).1).stop 1).1).pending.length) e310), (.int .i64 (((((((Dk.new 2).1).write 1 ([7])).1).stop 1).1).left)), (.bool (((((((Dk.new 2).1).write 1 ([7])).1).stop 1).1).stopped))])) hF319 rfl rfl rfl rfl (rn_extract (hF319.get rfl) rfl) ?_)
    intro a320 hF321; clear hF319
    refine wpl_op (i := 4) rfl (o_val (v := (.int .i64 ((((((Dk.new 2).1).write 1 ([7])).1).stop 1).2))) hF321 rfl rfl rfl rfl (rn_extract (hF321.get rfl) rfl) ?_)
    intro a322 hF323; clear hF321
    refine wpl_op (i := 5) rfl (o_new (fun g => (.pointer (some ⟨g, 0, none⟩))) [(.slice none 0 0), (.slice none 0 0), (.int .i64 0), (.bool false)] 25 hF323 rfl rfl rfl rfl (by kernel_rfl) ?_)
    intro g324 w325 a330 hF331 z328 z329 b326 hx327; clear hF323
    refine wpl_op (i := 6) rfl (o_store (cells := [(.slice A307 (((((((Dk.new 2).1).write 1 ([7])).1).stop 1).1).sectors.length) c308), (.slice B309 (((((((Dk.new 2).1).write 1 ([7])).1).stop 1).1).pending.length) e310), (.int .i64 (((((((Dk.new 2).1).write 1 ([7])).1).stop 1).1).left)), (.bool (((((((Dk.new 2).1).write 1 ([7])).1).stop 1).1).stopped))]) hF331 rfl rfl rfl rfl (hF331.get rfl) (hF331.get rfl) b326 (by kernel_rfl : (Try.prog.info? 25).map (·.size) = some 4) rfl (by simp [Value.oneCell']) ?_)
    intro w332 b333 hg334; have z335 := hg334.size
    refine wpl_op (i := 7) rfl (o_val (v := (.int .i64 ((((((Dk.new 2).1).write 1 ([7])).1).stop 1).2))) hF331 rfl rfl rfl rfl (rn_assign (hF331.get rfl)) ?_)
    intro a336 hF337; clear hF331
    refine wpList_nil ?_
    refine hK302 _ _ ?_
    clear hK302
    have hF338 := ((((((((((((hF337.nil.cons (hF337.get (t := 14) (v := (.int .i64 ((((((Dk.new 2).1).write 1 ([7])).1).stop 1).2))) rfl)).cons (hF337.get (t := 13) (v := (.pointer (some ⟨g324, 0, none⟩))) rfl)).cons (hF337.get (t := 12) (v := (.int .i64 ((((Dk.new 2).1).write 0 (List.replicate 129 0)).2))) rfl)).cons (hF337.get (t := 10) (v := (.int .i64 ((((Dk.new 2).1).read 2).2))) rfl)).cons (hF337.get (t := 8) (v := (.int .i64 ((((((Dk.new 2).1).write 1 ([7])).1).read 1).2))) rfl)).cons (hF337.get (t := 7) (v := (.slice (some ⟨b118, o119, none⟩) (((((((Dk.new 2).1).write 1 ([7])).1).read 1).1).length) c120)) rfl)).cons (hF337.get (t := 6) (v := (.int .i64 ((((Dk.new 2).1).write 1 ([7])).2))) rfl)).cons (hF337.get (t := 5) (v := (.pointer (some ⟨g99, 0, none⟩))) rfl)).cons (hF337.get (t := 4) (v := (.int .i64 ((Dk.new 2).2))) rfl)).cons (hF337.get (t := 3) (v := (.pointer (some ⟨g55, 0, none⟩))) rfl)).cons (hF337.get (t := 2) (v := (.int .i64 ((Dk.new 0).2))) rfl)).cons (hF337.get (t := 0) (v := (.bool false)) rfl))
    clear hF337
    refine wp_seq_k (fun K339 hK339 => ?_)
    have hx341 : ∃ W, w332.drew = W ∧ Ext w332 W := ⟨_, rfl, (Ext.refl _).drew⟩
    obtain ⟨w340, e342, hx341⟩ := hx341
    have z343 := hx341.size
    refine any_start (fun W => Ext w340 W ∧ Blk W g324 25 [(.slice A307 (((((((Dk.new 2).1).write 1 ([7])).1).stop 1).1).sectors.length) c308), (.slice B309 (((((((Dk.new 2).1).write 1 ([7])).1).stop 1).1).pending.length) e310), (.int .i64 (((((((Dk.new 2).1).write 1 ([7])).1).stop 1).1).left)), (.bool (((((((Dk.new 2).1).write 1 ([7])).1).stop 1).1).stopped))]) (fun i => i == 6) 8 #[false, false, false, false, false, false, false, false] rfl rfl rfl ?_
    rw [e342]; clear e342
    have b345 : Blk w340 g324 25 [(.slice A307 (((((((Dk.new 2).1).write 1 ([7])).1).stop 1).1).sectors.length) c308), (.slice B309 (((((((Dk.new 2).1).write 1 ([7])).1).stop 1).1).pending.length) e310), (.int .i64 (((((((Dk.new 2).1).write 1 ([7])).1).stop 1).1).left)), (.bool (((((((Dk.new 2).1).write 1 ([7])).1).stop 1).1).stopped))] := (b333.ext hx341)
    have hS344 : Ext w340 w340 ∧ Blk w340 g324 25 [(.slice A307 (((((((Dk.new 2).1).write 1 ([7])).1).stop 1).1).sectors.length) c308), (.slice B309 (((((((Dk.new 2).1).write 1 ([7])).1).stop 1).1).pending.length) e310), (.int .i64 (((((((Dk.new 2).1).write 1 ([7])).1).stop 1).1).left)), (.bool (((((((Dk.new 2).1).write 1 ([7])).1).stop 1).1).stopped))] := ⟨(Ext.refl w340), b345⟩
    refine any_val (i := 0) (v := (.agg #[(.slice A307 (((((((Dk.new 2).1).write 1 ([7])).1).stop 1).1).sectors.length) c308), (.slice B309 (((((((Dk.new 2).1).write 1 ([7])).1).stop 1).1).pending.length) e310), (.int .i64 (((((((Dk.new 2).1).write 1 ([7])).1).stop 1).1).left)), (.bool (((((((Dk.new 2).1).write 1 ([7])).1).stop 1).1).stopped))])) hF338 (by decide +kernel) (by decide +kernel) rfl rfl rfl rfl (fun _ _ _ _ h => h) rfl hS344 (fun W hW => (rn_loadBlk (hF338.get rfl) hW.2 Try.underlying25 rfl (by kernel_rfl : (Try.prog.info? 25).map (·.size) = some 4))) ?_
    intro a346 hF347; clear hF338
    refine any_one (i := 1) (by decide +kernel) rfl ?_
    refine o_call hF347 rfl rfl rfl rfl (rn_call (args1 rfl) rfl (by kernel_rfl)) (double_any (8 : UInt8) _) ?_
    rintro _ w352 ⟨v351, rfl, hb350, hx353⟩
    obtain ⟨A348, c349, rfl, -, -⟩ := hb350.form
    have hb350 := hb350.clip
    refine ⟨_, rfl, ?_⟩; intro a354 hF355; clear hF347; have z356 := hx353.size
    have b357 : Blk w352 g324 25 [(.slice A307 (((((((Dk.new 2).1).write 1 ([7])).1).stop 1).1).sectors.length) c308), (.slice B309 (((((((Dk.new 2).1).write 1 ([7])).1).stop 1).1).pending.length) e310), (.int .i64 (((((((Dk.new 2).1).write 1 ([7])).1).stop 1).1).left)), (.bool (((((((Dk.new 2).1).write 1 ([7])).1).stop 1).1).stopped))] := (b345.ext hx353)
    refine ⟨fun _ _ => ⟨((Ext.refl w340).trans hx353), b357⟩, ?_⟩
    refine any_one (i := 2) (by decide +kernel) rfl ?_
    have d358 := (hd311.pres (((((Pres.refl w313).ext hx327).grownN hg334 (fun h => by simp only [Clip, Fr, Old] at h; omega)).ext hx341).ext hx353))
    refine o_call hF355 rfl rfl rfl rfl (rn_call (args3 (hF355.get rfl) rfl (hF355.get rfl)) rfl (by kernel_rfl)) (write_any (S := (fun b => (Clip (Fr (Clip (Fr (fun b => (Clip (Fr (fun _ => False) w30) w44) b ∨ (fun b => b = g73) b) w74) w88) w298) w313) b ∨ (Clip (fun b => w340.heap.size ≤ b) w352) b)) _ _ ((((((Dk.new 2).1).write 1 ([7])).1).stop 1).1) _ (dbl 8) _ (d358.sub (fun _ => Or.inl)) (hb350.sub (fun _ => Or.inr))) ?_
    rintro _ w365 ⟨v364, rfl, hd363, hx366⟩
    obtain ⟨A359, c360, B361, e362, rfl, -, -⟩ := hd363.form
    have hd363 := hd363.clip
    refine ⟨_, rfl, ?_⟩; intro a367 hF368; clear hF355; have z369 := hx366.size
    have b370 : Blk w365 g324 25 [(.slice A307 (((((((Dk.new 2).1).write 1 ([7])).1).stop 1).1).sectors.length) c308), (.slice B309 (((((((Dk.new 2).1).write 1 ([7])).1).stop 1).1).pending.length) e310), (.int .i64 (((((((Dk.new 2).1).write 1 ([7])).1).stop 1).1).left)), (.bool (((((((Dk.new 2).1).write 1 ([7])).1).stop 1).1).stopped))] := (b357.ext hx366)
    refine ⟨fun _ _ => ⟨(((Ext.refl w340).trans hx353).trans hx366), b370⟩, ?_⟩
    refine any_pure (i := 3) (v := (.tuple #[(.agg #[(.slice A359 (((((((((Dk.new 2).1).write 1 ([7])).1).stop 1).1).write 0 (dbl 8)).1).sectors.length) c360), (.slice B361 (((((((((Dk.new 2).1).write 1 ([7])).1).stop 1).1).write 0 (dbl 8)).1).pending.length) e362), (.int .i64 (((((((((Dk.new 2).1).write 1 ([7])).1).stop 1).1).write 0 (dbl 8)).1).left)), (.bool (((((((((Dk.new 2).1).write 1 ([7])).1).stop 1).1).write 0 (dbl 8)).1).stopped))]), (.int .i64 ((((((((Dk.new 2).1).write 1 ([7])).1).stop 1).1).write 0 (dbl 8)).2))])) hF368 (by decide +kernel) (by decide +kernel) rfl rfl rfl rfl (fun _ _ _ _ h => h) rfl (fun W => (rn_move (hF368.get rfl))) ?_
    intro a371 hF372; clear hF368
    refine any_pure (i := 4) (v := (.agg #[(.slice A359 (((((((((Dk.new 2).1).write 1 ([7])).1).stop 1).1).write 0 (dbl 8)).1).sectors.length) c360), (.slice B361 (((((((((Dk.new 2).1).write 1 ([7])).1).stop 1).1).write 0 (dbl 8)).1).pending.length) e362), (.int .i64 (((((((((Dk.new 2).1).write 1 ([7])).1).stop 1).1).write 0 (dbl 8)).1).left)), (.bool (((((((((Dk.new 2).1).write 1 ([7])).1).stop 1).1).write 0 (dbl 8)).1).stopped))])) hF372 (by decide +kernel) (by decide +kernel) rfl rfl rfl rfl (fun _ _ _ _ h => h) rfl (fun W => (rn_extract (hF372.get rfl) rfl)) ?_
    intro a373 hF374; clear hF372
    refine any_pure (i := 5) (v := (.int .i64 ((((((((Dk.new 2).1).write 1 ([7])).1).stop 1).1).write 0 (dbl 8)).2))) hF374 (by decide +kernel) (by decide +kernel) rfl rfl rfl rfl (fun _ _ _ _ h => h) rfl (fun W => (rn_extract (hF374.get rfl) rfl)) ?_
    intro a375 hF376; clear hF374
    refine any_one (i := 6) (by decide +kernel) rfl ?_
    refine o_store (cells := [(.slice A359 (((((((((Dk.new 2).1).write 1 ([7])).1).stop 1).1).write 0 (dbl 8)).1).sectors.length) c360), (.slice B361 (((((((((Dk.new 2).1).write 1 ([7])).1).stop 1).1).write 0 (dbl 8)).1).pending.length) e362), (.int .i64 (((((((((Dk.new 2).1).write 1 ([7])).1).stop 1).1).write 0 (dbl 8)).1).left)), (.bool (((((((((Dk.new 2).1).write 1 ([7])).1).stop 1).1).write 0 (dbl 8)).1).stopped))]) hF376 rfl rfl rfl rfl (hF376.get rfl) (hF376.get rfl) b370 (by kernel_rfl : (Try.prog.info? 25).map (·.size) = some 4) rfl (by simp [Value.oneCell']) ?_
    intro w377 b378 hg379; have z380 := hg379.size
    refine ⟨fun h => absurd h (by decide), ?_⟩
    refine any_pure (i := 7) (v := (.int .i64 ((((((((Dk.new 2).1).write 1 ([7])).1).stop 1).1).write 0 (dbl 8)).2))) hF376 (by decide +kernel) (by decide +kernel) rfl rfl rfl rfl (fun _ _ _ _ h => h) rfl (fun W => (rn_assign (hF376.get rfl))) ?_
    intro a381 hF382; clear hF376
    refine any_nil (by decide +kernel) ?_
    refine hK339 _ _ ?_
    clear hK339
    have hF383 := (((((((((((((hF382.nil.cons (hF382.get (t := 15) (v := (.int .i64 ((((((((Dk.new 2).1).write 1 ([7])).1).stop 1).1).write 0 (dbl 8)).2))) rfl)).cons (hF382.get (t := 14) (v := (.int .i64 ((((((Dk.new 2).1).write 1 ([7])).1).stop 1).2))) rfl)).cons (hF382.get (t := 13) (v := (.pointer (some ⟨g324, 0, none⟩))) rfl)).cons (hF382.get (t := 12) (v := (.int .i64 ((((Dk.new 2).1).write 0 (List.replicate 129 0)).2))) rfl)).cons (hF382.get (t := 10) (v := (.int .i64 ((((Dk.new 2).1).read 2).2))) rfl)).cons (hF382.get (t := 8) (v := (.int .i64 ((((((Dk.new 2).1).write 1 ([7])).1).read 1).2))) rfl)).cons (hF382.get (t := 7) (v := (.slice (some ⟨b118, o119, none⟩) (((((((Dk.new 2).1).write 1 ([7])).1).read 1).1).length) c120)) rfl)).cons (hF382.get (t := 6) (v := (.int .i64 ((((Dk.new 2).1).write 1 ([7])).2))) rfl)).cons (hF382.get (t := 5) (v := (.pointer (some ⟨g99, 0, none⟩))) rfl)).cons (hF382.get (t := 4) (v := (.int .i64 ((Dk.new 2).2))) rfl)).cons (hF382.get (t := 3) (v := (.pointer (some ⟨g55, 0, none⟩))) rfl)).cons (hF382.get (t := 2) (v := (.int .i64 ((Dk.new 0).2))) rfl)).cons (hF382.get (t := 0) (v := (.bool false)) rfl))
    clear hF382
    refine wp_seq_k (fun K384 hK384 => ?_)
    refine wp_region_lit ?_
    refine wpl_op (i := 0) rfl (o_val (v := (.agg #[(.slice A359 (((((((((Dk.new 2).1).write 1 ([7])).1).stop 1).1).write 0 (dbl 8)).1).sectors.length) c360), (.slice B361 (((((((((Dk.new 2).1).write 1 ([7])).1).stop 1).1).write 0 (dbl 8)).1).pending.length) e362), (.int .i64 (((((((((Dk.new 2).1).write 1 ([7])).1).stop 1).1).write 0 (dbl 8)).1).left)), (.bool (((((((((Dk.new 2).1).write 1 ([7])).1).stop 1).1).write 0 (dbl 8)).1).stopped))])) hF383 rfl rfl rfl rfl (rn_loadBlk (hF383.get rfl) b378 Try.underlying25 rfl (by kernel_rfl : (Try.prog.info? 25).map (·.size) = some 4)) ?_)
    intro a385 hF386; clear hF383
    have d387 := (hd363.pres ((Pres.refl w365).grownN hg379 (fun h => by simp only [Clip, Fr, Old] at h; omega)))
    refine wpl_op (i := 1) rfl (o_call hF386 rfl rfl rfl rfl (rn_call (args1 (hF386.get rfl)) rfl (by kernel_rfl)) (sync_any (S := (Clip (Fr (fun b => (Clip (Fr (Clip (Fr (fun b => (Clip (Fr (fun _ => False) w30) w44) b ∨ (fun b => b = g73) b) w74) w88) w298) w313) b ∨ (Clip (fun b => w340.heap.size ≤ b) w352) b) w352) w365)) _ ((((((((Dk.new 2).1).write 1 ([7])).1).stop 1).1).write 0 (dbl 8)).1) _ d387) ?_)
    rintro _ w394 ⟨v393, rfl, hd392, hx395⟩
    obtain ⟨A388, c389, B390, e391, rfl, -, -⟩ := hd392.form
    have hd392 := hd392.clip
    refine ⟨_, rfl, ?_⟩; intro a396 hF397; clear hF386; have z398 := hx395.size
    refine wpl_op (i := 2) rfl (o_val (v := (.tuple #[(.agg #[(.slice A388 ((((((((((Dk.new 2).1).write 1 ([7])).1).stop 1).1).write 0 (dbl 8)).1).sync.1).sectors.length) c389), (.slice B390 ((((((((((Dk.new 2).1).write 1 ([7])).1).stop 1).1).write 0 (dbl 8)).1).sync.1).pending.length) e391), (.int .i64 ((((((((((Dk.new 2).1).write 1 ([7])).1).stop 1).1).write 0 (dbl 8)).1).sync.1).left)), (.bool ((((((((((Dk.new 2).1).write 1 ([7])).1).stop 1).1).write 0 (dbl 8)).1).sync.1).stopped))]), (.int .i64 (((((((((Dk.new 2).1).write 1 ([7])).1).stop 1).1).write 0 (dbl 8)).1).sync.2))])) hF397 rfl rfl rfl rfl (rn_move (hF397.get rfl)) ?_)
    intro a399 hF400; clear hF397
    refine wpl_op (i := 3) rfl (o_val (v := (.agg #[(.slice A388 ((((((((((Dk.new 2).1).write 1 ([7])).1).stop 1).1).write 0 (dbl 8)).1).sync.1).sectors.length) c389), (.slice B390 ((((((((((Dk.new 2).1).write 1 ([7])).1).stop 1).1).write 0 (dbl 8)).1).sync.1).pending.length) e391), (.int .i64 ((((((((((Dk.new 2).1).write 1 ([7])).1).stop 1).1).write 0 (dbl 8)).1).sync.1).left)), (.bool ((((((((((Dk.new 2).1).write 1 ([7])).1).stop 1).1).write 0 (dbl 8)).1).sync.1).stopped))])) hF400 rfl rfl rfl rfl (rn_extract (hF400.get rfl) rfl) ?_)
    intro a401 hF402; clear hF400
    refine wpl_op (i := 4) rfl (o_val (v := (.int .i64 (((((((((Dk.new 2).1).write 1 ([7])).1).stop 1).1).write 0 (dbl 8)).1).sync.2))) hF402 rfl rfl rfl rfl (rn_extract (hF402.get rfl) rfl) ?_)
    intro a403 hF404; clear hF402
    refine wpl_op (i := 5) rfl (o_new (fun g => (.pointer (some ⟨g, 0, none⟩))) [(.slice none 0 0), (.slice none 0 0), (.int .i64 0), (.bool false)] 25 hF404 rfl rfl rfl rfl (by kernel_rfl) ?_)
    intro g405 w406 a411 hF412 z409 z410 b407 hx408; clear hF404
    refine wpl_op (i := 6) rfl (o_store (cells := [(.slice A388 ((((((((((Dk.new 2).1).write 1 ([7])).1).stop 1).1).write 0 (dbl 8)).1).sync.1).sectors.length) c389), (.slice B390 ((((((((((Dk.new 2).1).write 1 ([7])).1).stop 1).1).write 0 (dbl 8)).1).sync.1).pending.length) e391), (.int .i64 ((((((((((Dk.new 2).1).write 1 ([7])).1).stop 1).1).write 0 (dbl 8)).1).sync.1).left)), (.bool ((((((((((Dk.new 2).1).write 1 ([7])).1).stop 1).1).write 0 (dbl 8)).1).sync.1).stopped))]) hF412 rfl rfl rfl rfl (hF412.get rfl) (hF412.get rfl) b407 (by kernel_rfl : (Try.prog.info? 25).map (·.size) = some 4) rfl (by simp [Value.oneCell']) ?_)
    intro w413 b414 hg415; have z416 := hg415.size
    refine wpl_op (i := 7) rfl (o_val (v := (.int .i64 (((((((((Dk.new 2).1).write 1 ([7])).1).stop 1).1).write 0 (dbl 8)).1).sync.2))) hF412 rfl rfl rfl rfl (rn_assign (hF412.get rfl)) ?_)
    intro a417 hF418; clear hF412
    refine wpList_nil ?_
    refine hK384 _ _ ?_
    clear hK384
    have hF419 := (((((((((((((((hF418.nil.cons (hF418.get (t := 17) (v := (.int .i64 (((((((((Dk.new 2).1).write 1 ([7])).1).stop 1).1).write 0 (dbl 8)).1).sync.2))) rfl)).cons (hF418.get (t := 16) (v := (.pointer (some ⟨g405, 0, none⟩))) rfl)).cons (hF418.get (t := 15) (v := (.int .i64 ((((((((Dk.new 2).1).write 1 ([7])).1).stop 1).1).write 0 (dbl 8)).2))) rfl)).cons (hF418.get (t := 14) (v := (.int .i64 ((((((Dk.new 2).1).write 1 ([7])).1).stop 1).2))) rfl)).cons (hF418.get (t := 13) (v := (.pointer (some ⟨g324, 0, none⟩))) rfl)).cons (hF418.get (t := 12) (v := (.int .i64 ((((Dk.new 2).1).write 0 (List.replicate 129 0)).2))) rfl)).cons (hF418.get (t := 10) (v := (.int .i64 ((((Dk.new 2).1).read 2).2))) rfl)).cons (hF418.get (t := 8) (v := (.int .i64 ((((((Dk.new 2).1).write 1 ([7])).1).read 1).2))) rfl)).cons (hF418.get (t := 7) (v := (.slice (some ⟨b118, o119, none⟩) (((((((Dk.new 2).1).write 1 ([7])).1).read 1).1).length) c120)) rfl)).cons (hF418.get (t := 6) (v := (.int .i64 ((((Dk.new 2).1).write 1 ([7])).2))) rfl)).cons (hF418.get (t := 5) (v := (.pointer (some ⟨g99, 0, none⟩))) rfl)).cons (hF418.get (t := 4) (v := (.int .i64 ((Dk.new 2).2))) rfl)).cons (hF418.get (t := 3) (v := (.pointer (some ⟨g55, 0, none⟩))) rfl)).cons (hF418.get (t := 2) (v := (.int .i64 ((Dk.new 0).2))) rfl)).cons (hF418.get (t := 0) (v := (.bool false)) rfl))
    clear hF418
    refine wp_seq_k (fun K420 hK420 => ?_)
    refine wp_seq_k (fun K421 hK421 => ?_)
    refine wp_region_lit ?_
    refine wpl_op (i := 0) rfl (o_val (v := (.int .i64 ((Dk.new 0).2))) hF419 rfl rfl rfl rfl (rn_move (hF419.get rfl)) ?_)
    intro a422 hF423; clear hF419
    refine wpl_op (i := 1) rfl (o_val (v := (.bool (decide (((Dk.new 0).2 : Int) ≠ (1 : Int))))) hF423 rfl rfl rfl rfl (rn_neq (hF423.get rfl) rfl) ?_)
    intro a424 hF425; clear hF423
    refine wpl_op (i := 2) rfl (o_val (v := (.bool (decide (((Dk.new 0).2 : Int) ≠ (1 : Int))))) hF425 rfl rfl rfl rfl (rn_move (hF425.get rfl)) ?_)
    intro a426 hF427; clear hF425
    refine wpl_op (i := 3) rfl (o_val (v := (.int .i64 ((Dk.new 2).2))) hF427 rfl (wanted_guard rfl rfl rfl hF427 rfl ((by decide +kernel) : decide (((Dk.new 0).2 : Int) ≠ (1 : Int)) = false) rfl) rfl rfl (rn_move (hF427.get rfl)) ?_)
    intro a429 hF430; clear hF427
    refine wpl_op (i := 4) rfl (o_val (v := (.bool (decide (((Dk.new 2).2 : Int) ≠ (0 : Int))))) hF430 rfl (wanted_guard rfl rfl rfl hF430 rfl ((by decide +kernel) : decide (((Dk.new 0).2 : Int) ≠ (1 : Int)) = false) rfl) rfl rfl (rn_neq (hF430.get rfl) rfl) ?_)
    intro a431 hF432; clear hF430
    refine wpl_op (i := 5) rfl (o_val (v := (.bool (decide (((Dk.new 2).2 : Int) ≠ (0 : Int))))) hF432 rfl rfl rfl rfl (rn_pickF (c_false hF432 rfl ((by decide +kernel) : decide (((Dk.new 0).2 : Int) ≠ (1 : Int)) = false)) (hF432.get rfl)) ?_)
    intro a433 hF434; clear hF432
    refine wpl_op (i := 6) rfl (o_val (v := (.bool (decide (((Dk.new 2).2 : Int) ≠ (0 : Int))))) hF434 rfl rfl rfl rfl (rn_move (hF434.get rfl)) ?_)
    intro a435 hF436; clear hF434
    refine wpl_op (i := 7) rfl (o_val (v := (.int .i64 ((((Dk.new 2).1).write 1 ([7])).2))) hF436 rfl (wanted_guard rfl rfl rfl hF436 rfl ((by decide +kernel) : decide (((Dk.new 2).2 : Int) ≠ (0 : Int)) = false) rfl) rfl rfl (rn_move (hF436.get rfl)) ?_)
    intro a438 hF439; clear hF436
    refine wpl_op (i := 8) rfl (o_val (v := (.bool (decide (((((Dk.new 2).1).write 1 ([7])).2 : Int) ≠ (0 : Int))))) hF439 rfl (wanted_guard rfl rfl rfl hF439 rfl ((by decide +kernel) : decide (((Dk.new 2).2 : Int) ≠ (0 : Int)) = false) rfl) rfl rfl (rn_neq (hF439.get rfl) rfl) ?_)
    intro a440 hF441; clear hF439
    refine wpl_op (i := 9) rfl (o_val (v := (.bool (decide (((((Dk.new 2).1).write 1 ([7])).2 : Int) ≠ (0 : Int))))) hF441 rfl rfl rfl rfl (rn_pickF (c_false hF441 rfl ((by decide +kernel) : decide (((Dk.new 2).2 : Int) ≠ (0 : Int)) = false)) (hF441.get rfl)) ?_)
    intro a442 hF443; clear hF441
    refine wpl_op (i := 10) rfl (o_val (v := (.bool (decide (((((Dk.new 2).1).write 1 ([7])).2 : Int) ≠ (0 : Int))))) hF443 rfl rfl rfl rfl (rn_move (hF443.get rfl)) ?_)
    intro a444 hF445; clear hF443
    refine wpl_op (i := 11) rfl (o_val (v := (.int .i64 ((((((Dk.new 2).1).write 1 ([7])).1).read 1).2))) hF445 rfl (wanted_guard rfl rfl rfl hF445 rfl ((by decide +kernel) : decide (((((Dk.new 2).1).write 1 ([7])).2 : Int) ≠ (0 : Int)) = false) rfl) rfl rfl (rn_move (hF445.get rfl)) ?_)
    intro a447 hF448; clear hF445
    refine wpl_op (i := 12) rfl (o_val (v := (.bool (decide (((((((Dk.new 2).1).write 1 ([7])).1).read 1).2 : Int) ≠ (0 : Int))))) hF448 rfl (wanted_guard rfl rfl rfl hF448 rfl ((by decide +kernel) : decide (((((Dk.new 2).1).write 1 ([7])).2 : Int) ≠ (0 : Int)) = false) rfl) rfl rfl (rn_neq (hF448.get rfl) rfl) ?_)
    intro a449 hF450; clear hF448
    refine wpl_op (i := 13) rfl (o_val (v := (.bool (decide (((((((Dk.new 2).1).write 1 ([7])).1).read 1).2 : Int) ≠ (0 : Int))))) hF450 rfl rfl rfl rfl (rn_pickF (c_false hF450 rfl ((by decide +kernel) : decide (((((Dk.new 2).1).write 1 ([7])).2 : Int) ≠ (0 : Int)) = false)) (hF450.get rfl)) ?_)
    intro a451 hF452; clear hF450
    refine wpl_op (i := 14) rfl (o_val (v := (.bool (decide (((((((Dk.new 2).1).write 1 ([7])).1).read 1).2 : Int) ≠ (0 : Int))))) hF452 rfl rfl rfl rfl (rn_move (hF452.get rfl)) ?_)
    intro a453 hF454; clear hF452
    refine wpl_op (i := 15) rfl (o_val (v := (.int .i64 ((((Dk.new 2).1).read 2).2))) hF454 rfl (wanted_guard rfl rfl rfl hF454 rfl ((by decide +kernel) : decide (((((((Dk.new 2).1).write 1 ([7])).1).read 1).2 : Int) ≠ (0 : Int)) = false) rfl) rfl rfl (rn_move (hF454.get rfl)) ?_)
    intro a456 hF457; clear hF454
    refine wpl_op (i := 16) rfl (o_val (v := (.bool (decide (((((Dk.new 2).1).read 2).2 : Int) ≠ (380 : Int))))) hF457 rfl (wanted_guard rfl rfl rfl hF457 rfl ((by decide +kernel) : decide (((((((Dk.new 2).1).write 1 ([7])).1).read 1).2 : Int) ≠ (0 : Int)) = false) rfl) rfl rfl (rn_neq (hF457.get rfl) rfl) ?_)
    intro a458 hF459; clear hF457
    refine wpl_op (i := 17) rfl (o_val (v := (.bool (decide (((((Dk.new 2).1).read 2).2 : Int) ≠ (380 : Int))))) hF459 rfl rfl rfl rfl (rn_pickF (c_false hF459 rfl ((by decide +kernel) : decide (((((((Dk.new 2).1).write 1 ([7])).1).read 1).2 : Int) ≠ (0 : Int)) = false)) (hF459.get rfl)) ?_)
    intro a460 hF461; clear hF459
    refine wpl_op (i := 18) rfl (o_val (v := (.bool (decide (((((Dk.new 2).1).read 2).2 : Int) ≠ (380 : Int))))) hF461 rfl rfl rfl rfl (rn_move (hF461.get rfl)) ?_)
    intro a462 hF463; clear hF461
    refine wpl_op (i := 19) rfl (o_val (v := (.int .i64 ((((Dk.new 2).1).write 0 (List.replicate 129 0)).2))) hF463 rfl (wanted_guard rfl rfl rfl hF463 rfl ((by decide +kernel) : decide (((((Dk.new 2).1).read 2).2 : Int) ≠ (380 : Int)) = false) rfl) rfl rfl (rn_move (hF463.get rfl)) ?_)
    intro a465 hF466; clear hF463
    refine wpl_op (i := 20) rfl (o_val (v := (.bool (decide (((((Dk.new 2).1).write 0 (List.replicate 129 0)).2 : Int) ≠ (1 : Int))))) hF466 rfl (wanted_guard rfl rfl rfl hF466 rfl ((by decide +kernel) : decide (((((Dk.new 2).1).read 2).2 : Int) ≠ (380 : Int)) = false) rfl) rfl rfl (rn_neq (hF466.get rfl) rfl) ?_)
    intro a467 hF468; clear hF466
    refine wpl_op (i := 21) rfl (o_val (v := (.bool (decide (((((Dk.new 2).1).write 0 (List.replicate 129 0)).2 : Int) ≠ (1 : Int))))) hF468 rfl rfl rfl rfl (rn_pickF (c_false hF468 rfl ((by decide +kernel) : decide (((((Dk.new 2).1).read 2).2 : Int) ≠ (380 : Int)) = false)) (hF468.get rfl)) ?_)
    intro a469 hF470; clear hF468
    refine wpl_op (i := 22) rfl (o_val (v := (.bool (decide (((((Dk.new 2).1).write 0 (List.replicate 129 0)).2 : Int) ≠ (1 : Int))))) hF470 rfl rfl rfl rfl (rn_move (hF470.get rfl)) ?_)
    intro a471 hF472; clear hF470
    refine wpl_op (i := 23) rfl (o_val (v := (.int .i64 ((((((Dk.new 2).1).write 1 ([7])).1).stop 1).2))) hF472 rfl (wanted_guard rfl rfl rfl hF472 rfl ((by decide +kernel) : decide (((((Dk.new 2).1).write 0 (List.replicate 129 0)).2 : Int) ≠ (1 : Int)) = false) rfl) rfl rfl (rn_move (hF472.get rfl)) ?_)
    intro a474 hF475; clear hF472
    refine wpl_op (i := 24) rfl (o_val (v := (.bool (decide (((((((Dk.new 2).1).write 1 ([7])).1).stop 1).2 : Int) ≠ (0 : Int))))) hF475 rfl (wanted_guard rfl rfl rfl hF475 rfl ((by decide +kernel) : decide (((((Dk.new 2).1).write 0 (List.replicate 129 0)).2 : Int) ≠ (1 : Int)) = false) rfl) rfl rfl (rn_neq (hF475.get rfl) rfl) ?_)
    intro a476 hF477; clear hF475
    refine wpl_op (i := 25) rfl (o_val (v := (.bool (decide (((((((Dk.new 2).1).write 1 ([7])).1).stop 1).2 : Int) ≠ (0 : Int))))) hF477 rfl rfl rfl rfl (rn_pickF (c_false hF477 rfl ((by decide +kernel) : decide (((((Dk.new 2).1).write 0 (List.replicate 129 0)).2 : Int) ≠ (1 : Int)) = false)) (hF477.get rfl)) ?_)
    intro a478 hF479; clear hF477
    refine wpl_op (i := 26) rfl (o_val (v := (.bool (decide (((((((Dk.new 2).1).write 1 ([7])).1).stop 1).2 : Int) ≠ (0 : Int))))) hF479 rfl rfl rfl rfl (rn_move (hF479.get rfl)) ?_)
    intro a480 hF481; clear hF479
    refine wpl_op (i := 27) rfl (o_val (v := (.int .i64 ((((((((Dk.new 2).1).write 1 ([7])).1).stop 1).1).write 0 (dbl 8)).2))) hF481 rfl (wanted_guard rfl rfl rfl hF481 rfl ((by decide +kernel) : decide (((((((Dk.new 2).1).write 1 ([7])).1).stop 1).2 : Int) ≠ (0 : Int)) = false) rfl) rfl rfl (rn_move (hF481.get rfl)) ?_)
    intro a483 hF484; clear hF481
    refine wpl_op (i := 28) rfl (o_val (v := (.bool (decide (((((((((Dk.new 2).1).write 1 ([7])).1).stop 1).1).write 0 (dbl 8)).2 : Int) ≠ (0 : Int))))) hF484 rfl (wanted_guard rfl rfl rfl hF484 rfl ((by decide +kernel) : decide (((((((Dk.new 2).1).write 1 ([7])).1).stop 1).2 : Int) ≠ (0 : Int)) = false) rfl) rfl rfl (rn_neq (hF484.get rfl) rfl) ?_)
    intro a485 hF486; clear hF484
    refine wpl_op (i := 29) rfl (o_val (v := (.bool (decide (((((((((Dk.new 2).1).write 1 ([7])).1).stop 1).1).write 0 (dbl 8)).2 : Int) ≠ (0 : Int))))) hF486 rfl rfl rfl rfl (rn_pickF (c_false hF486 rfl ((by decide +kernel) : decide (((((((Dk.new 2).1).write 1 ([7])).1).stop 1).2 : Int) ≠ (0 : Int)) = false)) (hF486.get rfl)) ?_)
    intro a487 hF488; clear hF486
    refine wpl_op (i := 30) rfl (o_val (v := (.bool (decide (((((((((Dk.new 2).1).write 1 ([7])).1).stop 1).1).write 0 (dbl 8)).2 : Int) ≠ (0 : Int))))) hF488 rfl rfl rfl rfl (rn_move (hF488.get rfl)) ?_)
    intro a489 hF490; clear hF488
    refine wpl_op (i := 31) rfl (o_val (v := (.int .i64 (((((((((Dk.new 2).1).write 1 ([7])).1).stop 1).1).write 0 (dbl 8)).1).sync.2))) hF490 rfl (wanted_guard rfl rfl rfl hF490 rfl ((by decide +kernel) : decide (((((((((Dk.new 2).1).write 1 ([7])).1).stop 1).1).write 0 (dbl 8)).2 : Int) ≠ (0 : Int)) = false) rfl) rfl rfl (rn_move (hF490.get rfl)) ?_)
    intro a492 hF493; clear hF490
    refine wpl_op (i := 32) rfl (o_val (v := (.bool (decide ((((((((((Dk.new 2).1).write 1 ([7])).1).stop 1).1).write 0 (dbl 8)).1).sync.2 : Int) ≠ (380 : Int))))) hF493 rfl (wanted_guard rfl rfl rfl hF493 rfl ((by decide +kernel) : decide (((((((((Dk.new 2).1).write 1 ([7])).1).stop 1).1).write 0 (dbl 8)).2 : Int) ≠ (0 : Int)) = false) rfl) rfl rfl (rn_neq (hF493.get rfl) rfl) ?_)
    intro a494 hF495; clear hF493
    refine wpl_op (i := 33) rfl (o_val (v := (.bool (decide ((((((((((Dk.new 2).1).write 1 ([7])).1).stop 1).1).write 0 (dbl 8)).1).sync.2 : Int) ≠ (380 : Int))))) hF495 rfl rfl rfl rfl (rn_pickF (c_false hF495 rfl ((by decide +kernel) : decide (((((((((Dk.new 2).1).write 1 ([7])).1).stop 1).1).write 0 (dbl 8)).2 : Int) ≠ (0 : Int)) = false)) (hF495.get rfl)) ?_)
    intro a496 hF497; clear hF495
    refine wpl_op (i := 34) rfl (o_val (v := (.bool (decide ((((((((((Dk.new 2).1).write 1 ([7])).1).stop 1).1).write 0 (dbl 8)).1).sync.2 : Int) ≠ (380 : Int))))) hF497 rfl rfl rfl rfl (rn_move (hF497.get rfl)) ?_)
    intro a498 hF499; clear hF497
    refine wpl_op (i := 35) rfl (o_val (v := (.pointer (some ⟨g405, 3, none⟩))) hF499 rfl (wanted_guard rfl rfl rfl hF499 rfl ((by decide +kernel) : decide ((((((((((Dk.new 2).1).write 1 ([7])).1).stop 1).1).write 0 (dbl 8)).1).sync.2 : Int) ≠ (380 : Int)) = false) rfl) rfl rfl (rn_field Try.underlying25 rfl (by kernel_rfl) (hF499.get rfl) rfl) ?_)
    intro a501 hF502; clear hF499
    refine wpl_op (i := 36) rfl (o_val (v := (.bool ((((((((((Dk.new 2).1).write 1 ([7])).1).stop 1).1).write 0 (dbl 8)).1).sync.1).stopped))) hF502 rfl (wanted_guard rfl rfl rfl hF502 rfl ((by decide +kernel) : decide ((((((((((Dk.new 2).1).write 1 ([7])).1).stop 1).1).write 0 (dbl 8)).1).sync.2 : Int) ≠ (380 : Int)) = false) rfl) rfl rfl (rn_load (isAgg_no Try.underlying4 rfl) (hF502.get rfl) (b414.rule.1 3)) ?_)
    intro a503 hF504; clear hF502
    refine wpl_op (i := 37) rfl (o_val (v := (.bool (!((((((((((Dk.new 2).1).write 1 ([7])).1).stop 1).1).write 0 (dbl 8)).1).sync.1).stopped)))) hF504 rfl (wanted_guard rfl rfl rfl hF504 rfl ((by decide +kernel) : decide ((((((((((Dk.new 2).1).write 1 ([7])).1).stop 1).1).write 0 (dbl 8)).1).sync.2 : Int) ≠ (380 : Int)) = false) rfl) rfl rfl (rn_not' (hF504.get rfl) rfl) ?_)
    intro a505 hF506; clear hF504
    refine wpl_op (i := 38) rfl (o_val (v := (.bool (!((((((((((Dk.new 2).1).write 1 ([7])).1).stop 1).1).write 0 (dbl 8)).1).sync.1).stopped)))) hF506 rfl rfl rfl rfl (rn_pickF (c_false hF506 rfl ((by decide +kernel) : decide ((((((((((Dk.new 2).1).write 1 ([7])).1).stop 1).1).write 0 (dbl 8)).1).sync.2 : Int) ≠ (380 : Int)) = false)) (hF506.get rfl)) ?_)
    intro a507 hF508; clear hF506
    refine wpList_nil ?_
    refine hK421 _ _ ?_
    clear hK421
    have hF509 := ((((((((((((((((hF508.nil.cons (hF508.get (t := 108) (v := (.bool (!((((((((((Dk.new 2).1).write 1 ([7])).1).stop 1).1).write 0 (dbl 8)).1).sync.1).stopped)))) rfl)).cons (hF508.get (t := 17) (v := (.int .i64 (((((((((Dk.new 2).1).write 1 ([7])).1).stop 1).1).write 0 (dbl 8)).1).sync.2))) rfl)).cons (hF508.get (t := 16) (v := (.pointer (some ⟨g405, 0, none⟩))) rfl)).cons (hF508.get (t := 15) (v := (.int .i64 ((((((((Dk.new 2).1).write 1 ([7])).1).stop 1).1).write 0 (dbl 8)).2))) rfl)).cons (hF508.get (t := 14) (v := (.int .i64 ((((((Dk.new 2).1).write 1 ([7])).1).stop 1).2))) rfl)).cons (hF508.get (t := 13) (v := (.pointer (some ⟨g324, 0, none⟩))) rfl)).cons (hF508.get (t := 12) (v := (.int .i64 ((((Dk.new 2).1).write 0 (List.replicate 129 0)).2))) rfl)).cons (hF508.get (t := 10) (v := (.int .i64 ((((Dk.new 2).1).read 2).2))) rfl)).cons (hF508.get (t := 8) (v := (.int .i64 ((((((Dk.new 2).1).write 1 ([7])).1).read 1).2))) rfl)).cons (hF508.get (t := 7) (v := (.slice (some ⟨b118, o119, none⟩) (((((((Dk.new 2).1).write 1 ([7])).1).read 1).1).length) c120)) rfl)).cons (hF508.get (t := 6) (v := (.int .i64 ((((Dk.new 2).1).write 1 ([7])).2))) rfl)).cons (hF508.get (t := 5) (v := (.pointer (some ⟨g99, 0, none⟩))) rfl)).cons (hF508.get (t := 4) (v := (.int .i64 ((Dk.new 2).2))) rfl)).cons (hF508.get (t := 3) (v := (.pointer (some ⟨g55, 0, none⟩))) rfl)).cons (hF508.get (t := 2) (v := (.int .i64 ((Dk.new 0).2))) rfl)).cons (hF508.get (t := 0) (v := (.bool false)) rfl))
    clear hF508
    refine wp_cond_false (c_false hF509 rfl (not_t ((by decide +kernel) : (((((((((Dk.new 2).1).write 1 ([7])).1).stop 1).1).write 0 (dbl 8)).1).sync.1).stopped = true))) ?_
    refine wp_skip ?_
    refine hK420 _ _ ?_
    clear hK420
    refine wp_seq_k (fun K511 hK511 => ?_)
    refine wp_region_lit ?_
    refine wpl_op (i := 0) rfl (o_val (v := (.agg #[(.slice A388 ((((((((((Dk.new 2).1).write 1 ([7])).1).stop 1).1).write 0 (dbl 8)).1).sync.1).sectors.length) c389), (.slice B390 ((((((((((Dk.new 2).1).write 1 ([7])).1).stop 1).1).write 0 (dbl 8)).1).sync.1).pending.length) e391), (.int .i64 ((((((((((Dk.new 2).1).write 1 ([7])).1).stop 1).1).write 0 (dbl 8)).1).sync.1).left)), (.bool ((((((((((Dk.new 2).1).write 1 ([7])).1).stop 1).1).write 0 (dbl 8)).1).sync.1).stopped))])) hF509 rfl rfl rfl rfl (rn_loadBlk (hF509.get rfl) b414 Try.underlying25 rfl (by kernel_rfl : (Try.prog.info? 25).map (·.size) = some 4)) ?_)
    intro a512 hF513; clear hF509
    have d514 := (hd392.pres (((Pres.refl w394).ext hx408).grownN hg415 (fun h => by simp only [Clip, Fr, Old] at h; omega)))
    refine wpl_op (i := 1) rfl (o_call hF513 rfl rfl rfl rfl (rn_call (args1 (hF513.get rfl)) rfl (by kernel_rfl)) (restart_any (S := (Clip (Fr (Clip (Fr (fun b => (Clip (Fr (Clip (Fr (fun b => (Clip (Fr (fun _ => False) w30) w44) b ∨ (fun b => b = g73) b) w74) w88) w298) w313) b ∨ (Clip (fun b => w340.heap.size ≤ b) w352) b) w352) w365) w377) w394)) _ (((((((((Dk.new 2).1).write 1 ([7])).1).stop 1).1).write 0 (dbl 8)).1).sync.1) _ d514) ?_)
    rintro _ w521 ⟨v520, rfl, hd519, hx522⟩
    obtain ⟨A515, c516, B517, e518, rfl, -, -⟩ := hd519.form
    have hd519 := hd519.clip
    refine ⟨_, rfl, ?_⟩; intro a523 hF524; clear hF513; have z525 := hx522.size
    have b529 : Blk w521 g405 25 [(.slice A388 ((((((((((Dk.new 2).1).write 1 ([7])).1).stop 1).1).write 0 (dbl 8)).1).sync.1).sectors.length) c389), (.slice B390 ((((((((((Dk.new 2).1).write 1 ([7])).1).stop 1).1).write 0 (dbl 8)).1).sync.1).pending.length) e391), (.int .i64 ((((((((((Dk.new 2).1).write 1 ([7])).1).stop 1).1).write 0 (dbl 8)).1).sync.1).left)), (.bool ((((((((((Dk.new 2).1).write 1 ([7])).1).stop 1).1).write 0 (dbl 8)).1).sync.1).stopped))] := (b414.ext hx522)
    refine wpl_op (i := 2) rfl (o_store (cells := [(.slice A515 (((((((((((Dk.new 2).1).write 1 ([7])).1).stop 1).1).write 0 (dbl 8)).1).sync.1).restart).sectors.length) c516), (.slice B517 (((((((((((Dk.new 2).1).write 1 ([7])).1).stop 1).1).write 0 (dbl 8)).1).sync.1).restart).pending.length) e518), (.int .i64 (((((((((((Dk.new 2).1).write 1 ([7])).1).stop 1).1).write 0 (dbl 8)).1).sync.1).restart).left)), (.bool (((((((((((Dk.new 2).1).write 1 ([7])).1).stop 1).1).write 0 (dbl 8)).1).sync.1).restart).stopped))]) hF524 rfl rfl rfl rfl (hF524.get rfl) (hF524.get rfl) b529 (by kernel_rfl : (Try.prog.info? 25).map (·.size) = some 4) rfl (by simp [Value.oneCell']) ?_)
    intro w526 b527 hg528; have z530 := hg528.size
    refine wpList_nil ?_
    refine hK511 _ _ ?_
    clear hK511
    refine wp_seq_k (fun K531 hK531 => ?_)
    refine wp_region_lit ?_
    refine wpl_op (i := 0) rfl (o_val (v := (.agg #[(.slice A515 (((((((((((Dk.new 2).1).write 1 ([7])).1).stop 1).1).write 0 (dbl 8)).1).sync.1).restart).sectors.length) c516), (.slice B517 (((((((((((Dk.new 2).1).write 1 ([7])).1).stop 1).1).write 0 (dbl 8)).1).sync.1).restart).pending.length) e518), (.int .i64 (((((((((((Dk.new 2).1).write 1 ([7])).1).stop 1).1).write 0 (dbl 8)).1).sync.1).restart).left)), (.bool (((((((((((Dk.new 2).1).write 1 ([7])).1).stop 1).1).write 0 (dbl 8)).1).sync.1).restart).stopped))])) hF524 rfl rfl rfl rfl (rn_loadBlk (hF524.get rfl) b527 Try.underlying25 rfl (by kernel_rfl : (Try.prog.info? 25).map (·.size) = some 4)) ?_)
    intro a532 hF533; clear hF524
    have d534 := (hd519.pres ((Pres.refl w521).grownN hg528 (fun h => by simp only [Clip, Fr, Old] at h; omega)))
    refine wpl_op (i := 1) rfl (o_call hF533 rfl rfl rfl rfl (rn_call (args2 (hF533.get rfl) rfl) rfl (by kernel_rfl)) (read_any (S := (Clip (Fr (Clip (Fr (Clip (Fr (fun b => (Clip (Fr (Clip (Fr (fun b => (Clip (Fr (fun _ => False) w30) w44) b ∨ (fun b => b = g73) b) w74) w88) w298) w313) b ∨ (Clip (fun b => w340.heap.size ≤ b) w352) b) w352) w365) w377) w394) w413) w521)) _ ((((((((((Dk.new 2).1).write 1 ([7])).1).stop 1).1).write 0 (dbl 8)).1).sync.1).restart) _ _ d534) ?_)
    rintro _ w542 ⟨v539, rfl, hb538, hx543⟩
    obtain ⟨b535, o536, c537, rfl, hl541, hc540⟩ := hb538.nth (by decide +kernel)
    have hb538 := hb538.clip
    refine ⟨_, rfl, ?_⟩; intro a544 hF545; clear hF533; have z546 := hx543.size
    refine wpl_op (i := 2) rfl (o_val (v := (.tuple #[(.slice (some ⟨b535, o536, none⟩) (((((((((((((Dk.new 2).1).write 1 ([7])).1).stop 1).1).write 0 (dbl 8)).1).sync.1).restart).read 1).1).length) c537), (.int .i64 ((((((((((((Dk.new 2).1).write 1 ([7])).1).stop 1).1).write 0 (dbl 8)).1).sync.1).restart).read 1).2))])) hF545 rfl rfl rfl rfl (rn_move (hF545.get rfl)) ?_)
    intro a547 hF548; clear hF545
    refine wpl_op (i := 3) rfl (o_val (v := (.slice (some ⟨b535, o536, none⟩) (((((((((((((Dk.new 2).1).write 1 ([7])).1).stop 1).1).write 0 (dbl 8)).1).sync.1).restart).read 1).1).length) c537)) hF548 rfl rfl rfl rfl (rn_extract (hF548.get rfl) rfl) ?_)
    intro a549 hF550; clear hF548
    refine wpl_op (i := 4) rfl (o_val (v := (.int .i64 ((((((((((((Dk.new 2).1).write 1 ([7])).1).stop 1).1).write 0 (dbl 8)).1).sync.1).restart).read 1).2))) hF550 rfl rfl rfl rfl (rn_extract (hF550.get rfl) rfl) ?_)
    intro a551 hF552; clear hF550
    refine wpl_op (i := 5) rfl (o_val (v := (.slice (some ⟨b535, o536, none⟩) (((((((((((((Dk.new 2).1).write 1 ([7])).1).stop 1).1).write 0 (dbl 8)).1).sync.1).restart).read 1).1).length) c537)) hF552 rfl rfl rfl rfl (rn_assign (hF552.get rfl)) ?_)
    intro a553 hF554; clear hF552
    refine wpl_op (i := 6) rfl (o_val (v := (.int .i64 ((((((((((((Dk.new 2).1).write 1 ([7])).1).stop 1).1).write 0 (dbl 8)).1).sync.1).restart).read 1).2))) hF554 rfl rfl rfl rfl (rn_assign (hF554.get rfl)) ?_)
    intro a555 hF556; clear hF554
    refine wpList_nil ?_
    refine hK531 _ _ ?_
    clear hK531
    have hF557 := ((((((((((((((((((hF556.nil.cons (hF556.get (t := 19) (v := (.int .i64 ((((((((((((Dk.new 2).1).write 1 ([7])).1).stop 1).1).write 0 (dbl 8)).1).sync.1).restart).read 1).2))) rfl)).cons (hF556.get (t := 18) (v := (.slice (some ⟨b535, o536, none⟩) (((((((((((((Dk.new 2).1).write 1 ([7])).1).stop 1).1).write 0 (dbl 8)).1).sync.1).restart).read 1).1).length) c537)) rfl)).cons (hF556.get (t := 108) (v := (.bool (!((((((((((Dk.new 2).1).write 1 ([7])).1).stop 1).1).write 0 (dbl 8)).1).sync.1).stopped)))) rfl)).cons (hF556.get (t := 17) (v := (.int .i64 (((((((((Dk.new 2).1).write 1 ([7])).1).stop 1).1).write 0 (dbl 8)).1).sync.2))) rfl)).cons (hF556.get (t := 16) (v := (.pointer (some ⟨g405, 0, none⟩))) rfl)).cons (hF556.get (t := 15) (v := (.int .i64 ((((((((Dk.new 2).1).write 1 ([7])).1).stop 1).1).write 0 (dbl 8)).2))) rfl)).cons (hF556.get (t := 14) (v := (.int .i64 ((((((Dk.new 2).1).write 1 ([7])).1).stop 1).2))) rfl)).cons (hF556.get (t := 13) (v := (.pointer (some ⟨g324, 0, none⟩))) rfl)).cons (hF556.get (t := 12) (v := (.int .i64 ((((Dk.new 2).1).write 0 (List.replicate 129 0)).2))) rfl)).cons (hF556.get (t := 10) (v := (.int .i64 ((((Dk.new 2).1).read 2).2))) rfl)).cons (hF556.get (t := 8) (v := (.int .i64 ((((((Dk.new 2).1).write 1 ([7])).1).read 1).2))) rfl)).cons (hF556.get (t := 7) (v := (.slice (some ⟨b118, o119, none⟩) (((((((Dk.new 2).1).write 1 ([7])).1).read 1).1).length) c120)) rfl)).cons (hF556.get (t := 6) (v := (.int .i64 ((((Dk.new 2).1).write 1 ([7])).2))) rfl)).cons (hF556.get (t := 5) (v := (.pointer (some ⟨g99, 0, none⟩))) rfl)).cons (hF556.get (t := 4) (v := (.int .i64 ((Dk.new 2).2))) rfl)).cons (hF556.get (t := 3) (v := (.pointer (some ⟨g55, 0, none⟩))) rfl)).cons (hF556.get (t := 2) (v := (.int .i64 ((Dk.new 0).2))) rfl)).cons (hF556.get (t := 0) (v := (.bool false)) rfl))
    clear hF556
    refine wp_seq_k (fun K558 hK558 => ?_)
    refine wp_region_lit ?_
    have b559 : Blk w542 g405 25 [(.slice A515 (((((((((((Dk.new 2).1).write 1 ([7])).1).stop 1).1).write 0 (dbl 8)).1).sync.1).restart).sectors.length) c516), (.slice B517 (((((((((((Dk.new 2).1).write 1 ([7])).1).stop 1).1).write 0 (dbl 8)).1).sync.1).restart).pending.length) e518), (.int .i64 (((((((((((Dk.new 2).1).write 1 ([7])).1).stop 1).1).write 0 (dbl 8)).1).sync.1).restart).left)), (.bool (((((((((((Dk.new 2).1).write 1 ([7])).1).stop 1).1).write 0 (dbl 8)).1).sync.1).restart).stopped))] := (b527.ext hx543)
    refine wpl_op (i := 0) rfl (o_val (v := (.agg #[(.slice A515 (((((((((((Dk.new 2).1).write 1 ([7])).1).stop 1).1).write 0 (dbl 8)).1).sync.1).restart).sectors.length) c516), (.slice B517 (((((((((((Dk.new 2).1).write 1 ([7])).1).stop 1).1).write 0 (dbl 8)).1).sync.1).restart).pending.length) e518), (.int .i64 (((((((((((Dk.new 2).1).write 1 ([7])).1).stop 1).1).write 0 (dbl 8)).1).sync.1).restart).left)), (.bool (((((((((((Dk.new 2).1).write 1 ([7])).1).stop 1).1).write 0 (dbl 8)).1).sync.1).restart).stopped))])) hF557 rfl rfl rfl rfl (rn_loadBlk (hF557.get rfl) b559 Try.underlying25 rfl (by kernel_rfl : (Try.prog.info? 25).map (·.size) = some 4)) ?_)
    intro a560 hF561; clear hF557
    have d562 := (hd519.pres (((Pres.refl w521).grownN hg528 (fun h => by simp only [Clip, Fr, Old] at h; omega)).ext hx543))
    refine wpl_op (i := 1) rfl (o_call hF561 rfl rfl rfl rfl (rn_call (args2 (hF561.get rfl) rfl) rfl (by kernel_rfl)) (read_any (S := (Clip (Fr (Clip (Fr (Clip (Fr (fun b => (Clip (Fr (Clip (Fr (fun b => (Clip (Fr (fun _ => False) w30) w44) b ∨ (fun b => b = g73) b) w74) w88) w298) w313) b ∨ (Clip (fun b => w340.heap.size ≤ b) w352) b) w352) w365) w377) w394) w413) w521)) _ ((((((((((Dk.new 2).1).write 1 ([7])).1).stop 1).1).write 0 (dbl 8)).1).sync.1).restart) _ _ d562) ?_)
    rintro _ w570 ⟨v567, rfl, hb566, hx571⟩
    obtain ⟨b563, o564, c565, rfl, hl569, hc568⟩ := hb566.nth (by decide +kernel)
    have hb566 := hb566.clip
    refine ⟨_, rfl, ?_⟩; intro a572 hF573; clear hF561; have z574 := hx571.size
    refine wpl_op (i := 2) rfl (o_val (v := (.tuple #[(.slice (some ⟨b563, o564, none⟩) (((((((((((((Dk.new 2).1).write 1 ([7])).1).stop 1).1).write 0 (dbl 8)).1).sync.1).restart).read 0).1).length) c565), (.int .i64 ((((((((((((Dk.new 2).1).write 1 ([7])).1).stop 1).1).write 0 (dbl 8)).1).sync.1).restart).read 0).2))])) hF573 rfl rfl rfl rfl (rn_move (hF573.get rfl)) ?_)
    intro a575 hF576; clear hF573
    refine wpl_op (i := 3) rfl (o_val (v := (.slice (some ⟨b563, o564, none⟩) (((((((((((((Dk.new 2).1).write 1 ([7])).1).stop 1).1).write 0 (dbl 8)).1).sync.1).restart).read 0).1).length) c565)) hF576 rfl rfl rfl rfl (rn_extract (hF576.get rfl) rfl) ?_)
    intro a577 hF578; clear hF576
    refine wpl_op (i := 4) rfl (o_val (v := (.int .i64 ((((((((((((Dk.new 2).1).write 1 ([7])).1).stop 1).1).write 0 (dbl 8)).1).sync.1).restart).read 0).2))) hF578 rfl rfl rfl rfl (rn_extract (hF578.get rfl) rfl) ?_)
    intro a579 hF580; clear hF578
    refine wpl_op (i := 5) rfl (o_val (v := (.slice (some ⟨b563, o564, none⟩) (((((((((((((Dk.new 2).1).write 1 ([7])).1).stop 1).1).write 0 (dbl 8)).1).sync.1).restart).read 0).1).length) c565)) hF580 rfl rfl rfl rfl (rn_assign (hF580.get rfl)) ?_)
    intro a581 hF582; clear hF580
    refine wpl_op (i := 6) rfl (o_val (v := (.int .i64 ((((((((((((Dk.new 2).1).write 1 ([7])).1).stop 1).1).write 0 (dbl 8)).1).sync.1).restart).read 0).2))) hF582 rfl rfl rfl rfl (rn_assign (hF582.get rfl)) ?_)
    intro a583 hF584; clear hF582
    refine wpList_nil ?_
    refine hK558 _ _ ?_
    clear hK558
    have hF585 := ((((((((((((((((((((hF584.nil.cons (hF584.get (t := 21) (v := (.int .i64 ((((((((((((Dk.new 2).1).write 1 ([7])).1).stop 1).1).write 0 (dbl 8)).1).sync.1).restart).read 0).2))) rfl)).cons (hF584.get (t := 20) (v := (.slice (some ⟨b563, o564, none⟩) (((((((((((((Dk.new 2).1).write 1 ([7])).1).stop 1).1).write 0 (dbl 8)).1).sync.1).restart).read 0).1).length) c565)) rfl)).cons (hF584.get (t := 19) (v := (.int .i64 ((((((((((((Dk.new 2).1).write 1 ([7])).1).stop 1).1).write 0 (dbl 8)).1).sync.1).restart).read 1).2))) rfl)).cons (hF584.get (t := 18) (v := (.slice (some ⟨b535, o536, none⟩) (((((((((((((Dk.new 2).1).write 1 ([7])).1).stop 1).1).write 0 (dbl 8)).1).sync.1).restart).read 1).1).length) c537)) rfl)).cons (hF584.get (t := 108) (v := (.bool (!((((((((((Dk.new 2).1).write 1 ([7])).1).stop 1).1).write 0 (dbl 8)).1).sync.1).stopped)))) rfl)).cons (hF584.get (t := 17) (v := (.int .i64 (((((((((Dk.new 2).1).write 1 ([7])).1).stop 1).1).write 0 (dbl 8)).1).sync.2))) rfl)).cons (hF584.get (t := 16) (v := (.pointer (some ⟨g405, 0, none⟩))) rfl)).cons (hF584.get (t := 15) (v := (.int .i64 ((((((((Dk.new 2).1).write 1 ([7])).1).stop 1).1).write 0 (dbl 8)).2))) rfl)).cons (hF584.get (t := 14) (v := (.int .i64 ((((((Dk.new 2).1).write 1 ([7])).1).stop 1).2))) rfl)).cons (hF584.get (t := 13) (v := (.pointer (some ⟨g324, 0, none⟩))) rfl)).cons (hF584.get (t := 12) (v := (.int .i64 ((((Dk.new 2).1).write 0 (List.replicate 129 0)).2))) rfl)).cons (hF584.get (t := 10) (v := (.int .i64 ((((Dk.new 2).1).read 2).2))) rfl)).cons (hF584.get (t := 8) (v := (.int .i64 ((((((Dk.new 2).1).write 1 ([7])).1).read 1).2))) rfl)).cons (hF584.get (t := 7) (v := (.slice (some ⟨b118, o119, none⟩) (((((((Dk.new 2).1).write 1 ([7])).1).read 1).1).length) c120)) rfl)).cons (hF584.get (t := 6) (v := (.int .i64 ((((Dk.new 2).1).write 1 ([7])).2))) rfl)).cons (hF584.get (t := 5) (v := (.pointer (some ⟨g99, 0, none⟩))) rfl)).cons (hF584.get (t := 4) (v := (.int .i64 ((Dk.new 2).2))) rfl)).cons (hF584.get (t := 3) (v := (.pointer (some ⟨g55, 0, none⟩))) rfl)).cons (hF584.get (t := 2) (v := (.int .i64 ((Dk.new 0).2))) rfl)).cons (hF584.get (t := 0) (v := (.bool false)) rfl))
    clear hF584
    refine wp_seq_k (fun K586 hK586 => ?_)
    refine wp_region_lit ?_
    have b587 : Blk w570 g99 25 [(.slice A82 (((((Dk.new 2).1).write 1 ([7])).1).sectors.length) c83), (.slice B84 (((((Dk.new 2).1).write 1 ([7])).1).pending.length) e85), (.int .i64 (((((Dk.new 2).1).write 1 ([7])).1).left)), (.bool (((((Dk.new 2).1).write 1 ([7])).1).stopped))] := ((((((((((((((b303.ext hx314).ext hx327).grownN hg334 (by omega)).ext hx341).ext hx353).ext hx366).grownN hg379 (by omega)).ext hx395).ext hx408).grownN hg415 (by omega)).ext hx522).grownN hg528 (by omega)).ext hx543).ext hx571)
    refine wpl_op (i := 0) rfl (o_val (v := (.agg #[(.slice A82 (((((Dk.new 2).1).write 1 ([7])).1).sectors.length) c83), (.slice B84 (((((Dk.new 2).1).write 1 ([7])).1).pending.length) e85), (.int .i64 (((((Dk.new 2).1).write 1 ([7])).1).left)), (.bool (((((Dk.new 2).1).write 1 ([7])).1).stopped))])) hF585 rfl rfl rfl rfl (rn_loadBlk (hF585.get rfl) b587 Try.underlying25 rfl (by kernel_rfl : (Try.prog.info? 25).map (·.size) = some 4)) ?_)
    intro a588 hF589; clear hF585
    have d590 := (hd86.pres ((((((((((((((((((((Pres.refl w88).ext hx102).grownN hg109 (fun h => by simp only [Clip, Fr, Old] at h; omega)).ext hx126).ext hx151).ext hx300).ext hx314).ext hx327).grownN hg334 (fun h => by simp only [Clip, Fr, Old] at h; omega)).ext hx341).ext hx353).ext hx366).grownN hg379 (fun h => by simp only [Clip, Fr, Old] at h; omega)).ext hx395).ext hx408).grownN hg415 (fun h => by simp only [Clip, Fr, Old] at h; omega)).ext hx522).grownN hg528 (fun h => by simp only [Clip, Fr, Old] at h; omega)).ext hx543).ext hx571))
    refine wpl_op (i := 1) rfl (o_call hF589 rfl rfl rfl rfl (rn_call (args1 (hF589.get rfl)) rfl (by kernel_rfl)) (restart_any (S := (Clip (Fr (fun b => (Clip (Fr (fun _ => False) w30) w44) b ∨ (fun b => b = g73) b) w74) w88)) _ ((((Dk.new 2).1).write 1 ([7])).1) _ d590) ?_)
    rintro _ w597 ⟨v596, rfl, hd595, hx598⟩
    obtain ⟨A591, c592, B593, e594, rfl, -, -⟩ := hd595.form
    have hd595 := hd595.clip
    refine ⟨_, rfl, ?_⟩; intro a599 hF600; clear hF589; have z601 := hx598.size
    refine wpl_op (i := 2) rfl (o_call hF600 rfl rfl rfl rfl (rn_call (args2 (hF600.get rfl) rfl) rfl (by kernel_rfl)) (read_any (S := (Clip (Fr (Clip (Fr (fun b => (Clip (Fr (fun _ => False) w30) w44) b ∨ (fun b => b = g73) b) w74) w88) w570) w597)) _ (((((Dk.new 2).1).write 1 ([7])).1).restart) _ _ hd595) ?_)
    rintro _ w609 ⟨v606, rfl, hb605, hx610⟩
    obtain ⟨b602, o603, c604, rfl, hl608, hc607⟩ := hb605.nth (by decide +kernel)
    have hb605 := hb605.clip
    refine ⟨_, rfl, ?_⟩; intro a611 hF612; clear hF600; have z613 := hx610.size
    refine wpl_op (i := 3) rfl (o_val (v := (.tuple #[(.slice (some ⟨b602, o603, none⟩) ((((((((Dk.new 2).1).write 1 ([7])).1).restart).read 1).1).length) c604), (.int .i64 (((((((Dk.new 2).1).write 1 ([7])).1).restart).read 1).2))])) hF612 rfl rfl rfl rfl (rn_move (hF612.get rfl)) ?_)
    intro a614 hF615; clear hF612
    refine wpl_op (i := 4) rfl (o_val (v := (.slice (some ⟨b602, o603, none⟩) ((((((((Dk.new 2).1).write 1 ([7])).1).restart).read 1).1).length) c604)) hF615 rfl rfl rfl rfl (rn_extract (hF615.get rfl) rfl) ?_)
    intro a616 hF617; clear hF615
    refine wpl_op (i := 5) rfl (o_val (v := (.int .i64 (((((((Dk.new 2).1).write 1 ([7])).1).restart).read 1).2))) hF617 rfl rfl rfl rfl (rn_extract (hF617.get rfl) rfl) ?_)
    intro a618 hF619; clear hF617
    refine wpl_op (i := 6) rfl (o_val (v := (.slice (some ⟨b602, o603, none⟩) ((((((((Dk.new 2).1).write 1 ([7])).1).restart).read 1).1).length) c604)) hF619 rfl rfl rfl rfl (rn_assign (hF619.get rfl)) ?_)
    intro a620 hF621; clear hF619
    refine wpl_op (i := 7) rfl (o_val (v := (.int .i64 (((((((Dk.new 2).1).write 1 ([7])).1).restart).read 1).2))) hF621 rfl rfl rfl rfl (rn_assign (hF621.get rfl)) ?_)
    intro a622 hF623; clear hF621
    refine wpList_nil ?_
    refine hK586 _ _ ?_
    clear hK586
    have hF624 := ((((((((((((((((((((((hF623.nil.cons (hF623.get (t := 23) (v := (.int .i64 (((((((Dk.new 2).1).write 1 ([7])).1).restart).read 1).2))) rfl)).cons (hF623.get (t := 22) (v := (.slice (some ⟨b602, o603, none⟩) ((((((((Dk.new 2).1).write 1 ([7])).1).restart).read 1).1).length) c604)) rfl)).cons (hF623.get (t := 21) (v := (.int .i64 ((((((((((((Dk.new 2).1).write 1 ([7])).1).stop 1).1).write 0 (dbl 8)).1).sync.1).restart).read 0).2))) rfl)).cons (hF623.get (t := 20) (v := (.slice (some ⟨b563, o564, none⟩) (((((((((((((Dk.new 2).1).write 1 ([7])).1).stop 1).1).write 0 (dbl 8)).1).sync.1).restart).read 0).1).length) c565)) rfl)).cons (hF623.get (t := 19) (v := (.int .i64 ((((((((((((Dk.new 2).1).write 1 ([7])).1).stop 1).1).write 0 (dbl 8)).1).sync.1).restart).read 1).2))) rfl)).cons (hF623.get (t := 18) (v := (.slice (some ⟨b535, o536, none⟩) (((((((((((((Dk.new 2).1).write 1 ([7])).1).stop 1).1).write 0 (dbl 8)).1).sync.1).restart).read 1).1).length) c537)) rfl)).cons (hF623.get (t := 108) (v := (.bool (!((((((((((Dk.new 2).1).write 1 ([7])).1).stop 1).1).write 0 (dbl 8)).1).sync.1).stopped)))) rfl)).cons (hF623.get (t := 17) (v := (.int .i64 (((((((((Dk.new 2).1).write 1 ([7])).1).stop 1).1).write 0 (dbl 8)).1).sync.2))) rfl)).cons (hF623.get (t := 16) (v := (.pointer (some ⟨g405, 0, none⟩))) rfl)).cons (hF623.get (t := 15) (v := (.int .i64 ((((((((Dk.new 2).1).write 1 ([7])).1).stop 1).1).write 0 (dbl 8)).2))) rfl)).cons (hF623.get (t := 14) (v := (.int .i64 ((((((Dk.new 2).1).write 1 ([7])).1).stop 1).2))) rfl)).cons (hF623.get (t := 13) (v := (.pointer (some ⟨g324, 0, none⟩))) rfl)).cons (hF623.get (t := 12) (v := (.int .i64 ((((Dk.new 2).1).write 0 (List.replicate 129 0)).2))) rfl)).cons (hF623.get (t := 10) (v := (.int .i64 ((((Dk.new 2).1).read 2).2))) rfl)).cons (hF623.get (t := 8) (v := (.int .i64 ((((((Dk.new 2).1).write 1 ([7])).1).read 1).2))) rfl)).cons (hF623.get (t := 7) (v := (.slice (some ⟨b118, o119, none⟩) (((((((Dk.new 2).1).write 1 ([7])).1).read 1).1).length) c120)) rfl)).cons (hF623.get (t := 6) (v := (.int .i64 ((((Dk.new 2).1).write 1 ([7])).2))) rfl)).cons (hF623.get (t := 5) (v := (.pointer (some ⟨g99, 0, none⟩))) rfl)).cons (hF623.get (t := 4) (v := (.int .i64 ((Dk.new 2).2))) rfl)).cons (hF623.get (t := 3) (v := (.pointer (some ⟨g55, 0, none⟩))) rfl)).cons (hF623.get (t := 2) (v := (.int .i64 ((Dk.new 0).2))) rfl)).cons (hF623.get (t := 0) (v := (.bool false)) rfl))
    clear hF623
    refine wp_seq_k (fun K625 hK625 => ?_)
    refine wp_region_lit ?_
    refine wpl_op (i := 0) rfl (o_val (v := (.int .i64 ((((((((((((Dk.new 2).1).write 1 ([7])).1).stop 1).1).write 0 (dbl 8)).1).sync.1).restart).read 1).2))) hF624 rfl rfl rfl rfl (rn_move (hF624.get rfl)) ?_)
    intro a626 hF627; clear hF624
    refine wpl_op (i := 1) rfl (o_val (v := (.bool (decide (((((((((((((Dk.new 2).1).write 1 ([7])).1).stop 1).1).write 0 (dbl 8)).1).sync.1).restart).read 1).2 : Int) = (0 : Int))))) hF627 rfl rfl rfl rfl (rn_eql (hF627.get rfl) rfl) ?_)
    intro a628 hF629; clear hF627
    refine wpl_op (i := 2) rfl (o_val (v := (.bool (decide (((((((((((((Dk.new 2).1).write 1 ([7])).1).stop 1).1).write 0 (dbl 8)).1).sync.1).restart).read 1).2 : Int) = (0 : Int))))) hF629 rfl rfl rfl rfl (rn_move (hF629.get rfl)) ?_)
    intro a630 hF631; clear hF629
    refine wpl_op (i := 3) rfl (o_val (v := (.int .i64 ((((((((((((Dk.new 2).1).write 1 ([7])).1).stop 1).1).write 0 (dbl 8)).1).sync.1).restart).read 0).2))) hF631 rfl (wanted_guard rfl rfl rfl hF631 rfl ((by decide +kernel) : decide (((((((((((((Dk.new 2).1).write 1 ([7])).1).stop 1).1).write 0 (dbl 8)).1).sync.1).restart).read 1).2 : Int) = (0 : Int)) = true) rfl) rfl rfl (rn_move (hF631.get rfl)) ?_)
    intro a633 hF634; clear hF631
    refine wpl_op (i := 4) rfl (o_val (v := (.bool (decide (((((((((((((Dk.new 2).1).write 1 ([7])).1).stop 1).1).write 0 (dbl 8)).1).sync.1).restart).read 0).2 : Int) = (0 : Int))))) hF634 rfl (wanted_guard rfl rfl rfl hF634 rfl ((by decide +kernel) : decide (((((((((((((Dk.new 2).1).write 1 ([7])).1).stop 1).1).write 0 (dbl 8)).1).sync.1).restart).read 1).2 : Int) = (0 : Int)) = true) rfl) rfl rfl (rn_eql (hF634.get rfl) rfl) ?_)
    intro a635 hF636; clear hF634
    refine wpl_op (i := 5) rfl (o_val (v := (.bool (decide (((((((((((((Dk.new 2).1).write 1 ([7])).1).stop 1).1).write 0 (dbl 8)).1).sync.1).restart).read 0).2 : Int) = (0 : Int))))) hF636 rfl rfl rfl rfl (rn_pickT (c_true hF636 rfl ((by decide +kernel) : decide (((((((((((((Dk.new 2).1).write 1 ([7])).1).stop 1).1).write 0 (dbl 8)).1).sync.1).restart).read 1).2 : Int) = (0 : Int)) = true)) (hF636.get rfl)) ?_)
    intro a637 hF638; clear hF636
    refine wpl_op (i := 6) rfl (o_val (v := (.bool (decide (((((((((((((Dk.new 2).1).write 1 ([7])).1).stop 1).1).write 0 (dbl 8)).1).sync.1).restart).read 0).2 : Int) = (0 : Int))))) hF638 rfl rfl rfl rfl (rn_move (hF638.get rfl)) ?_)
    intro a639 hF640; clear hF638
    refine wpl_op (i := 7) rfl (o_val (v := (.int .i64 (((((((Dk.new 2).1).write 1 ([7])).1).restart).read 1).2))) hF640 rfl (wanted_guard rfl rfl rfl hF640 rfl ((by decide +kernel) : decide (((((((((((((Dk.new 2).1).write 1 ([7])).1).stop 1).1).write 0 (dbl 8)).1).sync.1).restart).read 0).2 : Int) = (0 : Int)) = true) rfl) rfl rfl (rn_move (hF640.get rfl)) ?_)
    intro a642 hF643; clear hF640
    refine wpl_op (i := 8) rfl (o_val (v := (.bool (decide ((((((((Dk.new 2).1).write 1 ([7])).1).restart).read 1).2 : Int) = (0 : Int))))) hF643 rfl (wanted_guard rfl rfl rfl hF643 rfl ((by decide +kernel) : decide (((((((((((((Dk.new 2).1).write 1 ([7])).1).stop 1).1).write 0 (dbl 8)).1).sync.1).restart).read 0).2 : Int) = (0 : Int)) = true) rfl) rfl rfl (rn_eql (hF643.get rfl) rfl) ?_)
    intro a644 hF645; clear hF643
    refine wpl_op (i := 9) rfl (o_val (v := (.bool (decide ((((((((Dk.new 2).1).write 1 ([7])).1).restart).read 1).2 : Int) = (0 : Int))))) hF645 rfl rfl rfl rfl (rn_pickT (c_true hF645 rfl ((by decide +kernel) : decide (((((((((((((Dk.new 2).1).write 1 ([7])).1).stop 1).1).write 0 (dbl 8)).1).sync.1).restart).read 0).2 : Int) = (0 : Int)) = true)) (hF645.get rfl)) ?_)
    intro a646 hF647; clear hF645
    refine wpl_op (i := 10) rfl (o_val (v := (.bool (decide ((((((((Dk.new 2).1).write 1 ([7])).1).restart).read 1).2 : Int) = (0 : Int))))) hF647 rfl rfl rfl rfl (rn_move (hF647.get rfl)) ?_)
    intro a648 hF649; clear hF647
    refine wpl_op (i := 11) rfl (o_val (v := (.slice (some ⟨b118, o119, none⟩) (((((((Dk.new 2).1).write 1 ([7])).1).read 1).1).length) c120)) hF649 rfl (wanted_guard rfl rfl rfl hF649 rfl ((by decide +kernel) : decide ((((((((Dk.new 2).1).write 1 ([7])).1).restart).read 1).2 : Int) = (0 : Int)) = true) rfl) rfl rfl (rn_move (hF649.get rfl)) ?_)
    intro a651 hF652; clear hF649
    refine wpl_op (i := 12) rfl (o_val (v := (.int .i64 (((((((Dk.new 2).1).write 1 ([7])).1).read 1).1).length : Nat))) hF652 rfl (wanted_guard rfl rfl rfl hF652 rfl ((by decide +kernel) : decide ((((((((Dk.new 2).1).write 1 ([7])).1).restart).read 1).2 : Int) = (0 : Int)) = true) rfl) rfl rfl (rn_len_slice Try.underlying35 (hF652.get rfl)) ?_)
    intro a653 hF654; clear hF652
    refine wpl_op (i := 13) rfl (o_val (v := (.bool (decide (((((((((Dk.new 2).1).write 1 ([7])).1).read 1).1).length : Nat) : Int) = (128 : Int))))) hF654 rfl (wanted_guard rfl rfl rfl hF654 rfl ((by decide +kernel) : decide ((((((((Dk.new 2).1).write 1 ([7])).1).restart).read 1).2 : Int) = (0 : Int)) = true) rfl) rfl rfl (rn_eql (hF654.get rfl) rfl) ?_)
    intro a655 hF656; clear hF654
    refine wpl_op (i := 14) rfl (o_val (v := (.bool (decide (((((((((Dk.new 2).1).write 1 ([7])).1).read 1).1).length : Nat) : Int) = (128 : Int))))) hF656 rfl rfl rfl rfl (rn_pickT (c_true hF656 rfl ((by decide +kernel) : decide ((((((((Dk.new 2).1).write 1 ([7])).1).restart).read 1).2 : Int) = (0 : Int)) = true)) (hF656.get rfl)) ?_)
    intro a657 hF658; clear hF656
    refine wpl_op (i := 15) rfl (o_val (v := (.bool (decide (((((((((Dk.new 2).1).write 1 ([7])).1).read 1).1).length : Nat) : Int) = (128 : Int))))) hF658 rfl rfl rfl rfl (rn_move (hF658.get rfl)) ?_)
    intro a659 hF660; clear hF658
    refine wpl_op (i := 16) rfl (o_val (v := (.slice (some ⟨b118, o119, none⟩) (((((((Dk.new 2).1).write 1 ([7])).1).read 1).1).length) c120)) hF660 rfl (wanted_guard rfl rfl rfl hF660 rfl ((by decide +kernel) : decide (((((((((Dk.new 2).1).write 1 ([7])).1).read 1).1).length : Nat) : Int) = (128 : Int)) = true) rfl) rfl rfl (rn_move (hF660.get rfl)) ?_)
    intro a662 hF663; clear hF660
    refine wpl_op (i := 17) rfl (o_val (v := (.pointer (some ⟨b118, o119 + 0, none⟩))) hF663 rfl (wanted_guard rfl rfl rfl hF663 rfl ((by decide +kernel) : decide (((((((((Dk.new 2).1).write 1 ([7])).1).read 1).1).length : Nat) : Int) = (128 : Int)) = true) rfl) rfl rfl (rn_index1 Try.underlying35 (by kernel_rfl : (Try.prog.info? 5).map (·.size) = some 1) (hF663.get rfl) rfl (by decide : (0 : Int) ≤ 0) (by decide +kernel : (0 : Int) < ((((((((Dk.new 2).1).write 1 ([7])).1).read 1).1).length : Nat) : Int))) ?_)
    intro a664 hF665; clear hF663
    refine wpl_op (i := 18) rfl (o_val (v := (.int .u8 ((((((((Dk.new 2).1).write 1 ([7])).1).read 1).1).getD 0 0).toNat : Nat))) hF665 rfl (wanted_guard rfl rfl rfl hF665 rfl ((by decide +kernel) : decide (((((((((Dk.new 2).1).write 1 ([7])).1).read 1).1).length : Nat) : Int) = (128 : Int)) = true) rfl) rfl rfl (rn_load (isAgg_no Try.underlying5 rfl) (hF665.get rfl) (Ext.keep (((((((((((((((((((Ext.refl w125).trans hx151).trans hx300).trans hx314).trans hx327).grownN hg334 (by omega)).trans hx341).trans hx353).trans hx366).grownN hg379 (by omega)).trans hx395).trans hx408).grownN hg415 (by omega)).trans hx522).grownN hg528 (by omega)).trans hx543).trans hx571).trans hx598).trans hx610) (hc123 0 (by decide +kernel)))) ?_)
    intro a666 hF667; clear hF665
    refine wpl_op (i := 19) rfl (o_val (v := (.bool (decide ((((((((((Dk.new 2).1).write 1 ([7])).1).read 1).1).getD 0 0).toNat : Nat) : Int) = (7 : Int))))) hF667 rfl (wanted_guard rfl rfl rfl hF667 rfl ((by decide +kernel) : decide (((((((((Dk.new 2).1).write 1 ([7])).1).read 1).1).length : Nat) : Int) = (128 : Int)) = true) rfl) rfl rfl (rn_eql (hF667.get rfl) rfl) ?_)
    intro a668 hF669; clear hF667
    refine wpl_op (i := 20) rfl (o_val (v := (.bool (decide ((((((((((Dk.new 2).1).write 1 ([7])).1).read 1).1).getD 0 0).toNat : Nat) : Int) = (7 : Int))))) hF669 rfl rfl rfl rfl (rn_pickT (c_true hF669 rfl ((by decide +kernel) : decide (((((((((Dk.new 2).1).write 1 ([7])).1).read 1).1).length : Nat) : Int) = (128 : Int)) = true)) (hF669.get rfl)) ?_)
    intro a670 hF671; clear hF669
    refine wpl_op (i := 21) rfl (o_val (v := (.bool (decide ((((((((((Dk.new 2).1).write 1 ([7])).1).read 1).1).getD 0 0).toNat : Nat) : Int) = (7 : Int))))) hF671 rfl rfl rfl rfl (rn_move (hF671.get rfl)) ?_)
    intro a672 hF673; clear hF671
    refine wpl_op (i := 22) rfl (o_val (v := (.slice (some ⟨b535, o536, none⟩) (((((((((((((Dk.new 2).1).write 1 ([7])).1).stop 1).1).write 0 (dbl 8)).1).sync.1).restart).read 1).1).length) c537)) hF673 rfl (wanted_guard rfl rfl rfl hF673 rfl ((by decide +kernel) : decide ((((((((((Dk.new 2).1).write 1 ([7])).1).read 1).1).getD 0 0).toNat : Nat) : Int) = (7 : Int)) = true) rfl) rfl rfl (rn_move (hF673.get rfl)) ?_)
    intro a675 hF676; clear hF673
    refine wpl_op (i := 23) rfl (o_val (v := (.int .i64 (((((((((((((Dk.new 2).1).write 1 ([7])).1).stop 1).1).write 0 (dbl 8)).1).sync.1).restart).read 1).1).length : Nat))) hF676 rfl (wanted_guard rfl rfl rfl hF676 rfl ((by decide +kernel) : decide ((((((((((Dk.new 2).1).write 1 ([7])).1).read 1).1).getD 0 0).toNat : Nat) : Int) = (7 : Int)) = true) rfl) rfl rfl (rn_len_slice Try.underlying35 (hF676.get rfl)) ?_)
    intro a677 hF678; clear hF676
    refine wpl_op (i := 24) rfl (o_val (v := (.bool (decide (((((((((((((((Dk.new 2).1).write 1 ([7])).1).stop 1).1).write 0 (dbl 8)).1).sync.1).restart).read 1).1).length : Nat) : Int) = (128 : Int))))) hF678 rfl (wanted_guard rfl rfl rfl hF678 rfl ((by decide +kernel) : decide ((((((((((Dk.new 2).1).write 1 ([7])).1).read 1).1).getD 0 0).toNat : Nat) : Int) = (7 : Int)) = true) rfl) rfl rfl (rn_eql (hF678.get rfl) rfl) ?_)
    intro a679 hF680; clear hF678
    refine wpl_op (i := 25) rfl (o_val (v := (.bool (decide (((((((((((((((Dk.new 2).1).write 1 ([7])).1).stop 1).1).write 0 (dbl 8)).1).sync.1).restart).read 1).1).length : Nat) : Int) = (128 : Int))))) hF680 rfl rfl rfl rfl (rn_pickT (c_true hF680 rfl ((by decide +kernel) : decide ((((((((((Dk.new 2).1).write 1 ([7])).1).read 1).1).getD 0 0).toNat : Nat) : Int) = (7 : Int)) = true)) (hF680.get rfl)) ?_)
    intro a681 hF682; clear hF680
    refine wpl_op (i := 26) rfl (o_val (v := (.bool (decide (((((((((((((((Dk.new 2).1).write 1 ([7])).1).stop 1).1).write 0 (dbl 8)).1).sync.1).restart).read 1).1).length : Nat) : Int) = (128 : Int))))) hF682 rfl rfl rfl rfl (rn_move (hF682.get rfl)) ?_)
    intro a683 hF684; clear hF682
    refine wpl_op (i := 27) rfl (o_val (v := (.slice (some ⟨b535, o536, none⟩) (((((((((((((Dk.new 2).1).write 1 ([7])).1).stop 1).1).write 0 (dbl 8)).1).sync.1).restart).read 1).1).length) c537)) hF684 rfl (wanted_guard rfl rfl rfl hF684 rfl ((by decide +kernel) : decide (((((((((((((((Dk.new 2).1).write 1 ([7])).1).stop 1).1).write 0 (dbl 8)).1).sync.1).restart).read 1).1).length : Nat) : Int) = (128 : Int)) = true) rfl) rfl rfl (rn_move (hF684.get rfl)) ?_)
    intro a686 hF687; clear hF684
    refine wpl_op (i := 28) rfl (o_val (v := (.pointer (some ⟨b535, o536 + 0, none⟩))) hF687 rfl (wanted_guard rfl rfl rfl hF687 rfl ((by decide +kernel) : decide (((((((((((((((Dk.new 2).1).write 1 ([7])).1).stop 1).1).write 0 (dbl 8)).1).sync.1).restart).read 1).1).length : Nat) : Int) = (128 : Int)) = true) rfl) rfl rfl (rn_index1 Try.underlying35 (by kernel_rfl : (Try.prog.info? 5).map (·.size) = some 1) (hF687.get rfl) rfl (by decide : (0 : Int) ≤ 0) (by decide +kernel : (0 : Int) < ((((((((((((((Dk.new 2).1).write 1 ([7])).1).stop 1).1).write 0 (dbl 8)).1).sync.1).restart).read 1).1).length : Nat) : Int))) ?_)
    intro a688 hF689; clear hF687
    refine wpl_op (i := 29) rfl (o_val (v := (.int .u8 ((((((((((((((Dk.new 2).1).write 1 ([7])).1).stop 1).1).write 0 (dbl 8)).1).sync.1).restart).read 1).1).getD 0 0).toNat : Nat))) hF689 rfl (wanted_guard rfl rfl rfl hF689 rfl ((by decide +kernel) : decide (((((((((((((((Dk.new 2).1).write 1 ([7])).1).stop 1).1).write 0 (dbl 8)).1).sync.1).restart).read 1).1).length : Nat) : Int) = (128 : Int)) = true) rfl) rfl rfl (rn_load (isAgg_no Try.underlying5 rfl) (hF689.get rfl) (Ext.keep ((((Ext.refl w542).trans hx571).trans hx598).trans hx610) (hc540 0 (by decide +kernel)))) ?_)
    intro a690 hF691; clear hF689
    refine wpl_op (i := 30) rfl (o_val (v := (.bool (decide ((((((((((((((((Dk.new 2).1).write 1 ([7])).1).stop 1).1).write 0 (dbl 8)).1).sync.1).restart).read 1).1).getD 0 0).toNat : Nat) : Int) = (7 : Int))))) hF691 rfl (wanted_guard rfl rfl rfl hF691 rfl ((by decide +kernel) : decide (((((((((((((((Dk.new 2).1).write 1 ([7])).1).stop 1).1).write 0 (dbl 8)).1).sync.1).restart).read 1).1).length : Nat) : Int) = (128 : Int)) = true) rfl) rfl rfl (rn_eql (hF691.get rfl) rfl) ?_)
    intro a692 hF693; clear hF691
    refine wpl_op (i := 31) rfl (o_val (v := (.bool (decide ((((((((((((((((Dk.new 2).1).write 1 ([7])).1).stop 1).1).write 0 (dbl 8)).1).sync.1).restart).read 1).1).getD 0 0).toNat : Nat) : Int) = (7 : Int))))) hF693 rfl rfl rfl rfl (rn_pickT (c_true hF693 rfl ((by decide +kernel) : decide (((((((((((((((Dk.new 2).1).write 1 ([7])).1).stop 1).1).write 0 (dbl 8)).1).sync.1).restart).read 1).1).length : Nat) : Int) = (128 : Int)) = true)) (hF693.get rfl)) ?_)
    intro a694 hF695; clear hF693
    refine wpl_op (i := 32) rfl (o_val (v := (.bool (decide ((((((((((((((((Dk.new 2).1).write 1 ([7])).1).stop 1).1).write 0 (dbl 8)).1).sync.1).restart).read 1).1).getD 0 0).toNat : Nat) : Int) = (7 : Int))))) hF695 rfl rfl rfl rfl (rn_move (hF695.get rfl)) ?_)
    intro a696 hF697; clear hF695
    refine wpl_op (i := 33) rfl (o_val (v := (.slice (some ⟨b563, o564, none⟩) (((((((((((((Dk.new 2).1).write 1 ([7])).1).stop 1).1).write 0 (dbl 8)).1).sync.1).restart).read 0).1).length) c565)) hF697 rfl (wanted_guard rfl rfl rfl hF697 rfl ((by decide +kernel) : decide ((((((((((((((((Dk.new 2).1).write 1 ([7])).1).stop 1).1).write 0 (dbl 8)).1).sync.1).restart).read 1).1).getD 0 0).toNat : Nat) : Int) = (7 : Int)) = true) rfl) rfl rfl (rn_move (hF697.get rfl)) ?_)
    intro a699 hF700; clear hF697
    refine wpl_op (i := 34) rfl (o_val (v := (.int .i64 (((((((((((((Dk.new 2).1).write 1 ([7])).1).stop 1).1).write 0 (dbl 8)).1).sync.1).restart).read 0).1).length : Nat))) hF700 rfl (wanted_guard rfl rfl rfl hF700 rfl ((by decide +kernel) : decide ((((((((((((((((Dk.new 2).1).write 1 ([7])).1).stop 1).1).write 0 (dbl 8)).1).sync.1).restart).read 1).1).getD 0 0).toNat : Nat) : Int) = (7 : Int)) = true) rfl) rfl rfl (rn_len_slice Try.underlying35 (hF700.get rfl)) ?_)
    intro a701 hF702; clear hF700
    refine wpl_op (i := 35) rfl (o_val (v := (.bool (decide (((((((((((((((Dk.new 2).1).write 1 ([7])).1).stop 1).1).write 0 (dbl 8)).1).sync.1).restart).read 0).1).length : Nat) : Int) = (128 : Int))))) hF702 rfl (wanted_guard rfl rfl rfl hF702 rfl ((by decide +kernel) : decide ((((((((((((((((Dk.new 2).1).write 1 ([7])).1).stop 1).1).write 0 (dbl 8)).1).sync.1).restart).read 1).1).getD 0 0).toNat : Nat) : Int) = (7 : Int)) = true) rfl) rfl rfl (rn_eql (hF702.get rfl) rfl) ?_)
    intro a703 hF704; clear hF702
    refine wpl_op (i := 36) rfl (o_val (v := (.bool (decide (((((((((((((((Dk.new 2).1).write 1 ([7])).1).stop 1).1).write 0 (dbl 8)).1).sync.1).restart).read 0).1).length : Nat) : Int) = (128 : Int))))) hF704 rfl rfl rfl rfl (rn_pickT (c_true hF704 rfl ((by decide +kernel) : decide ((((((((((((((((Dk.new 2).1).write 1 ([7])).1).stop 1).1).write 0 (dbl 8)).1).sync.1).restart).read 1).1).getD 0 0).toNat : Nat) : Int) = (7 : Int)) = true)) (hF704.get rfl)) ?_)
    intro a705 hF706; clear hF704
    refine wpl_op (i := 37) rfl (o_val (v := (.bool (decide (((((((((((((((Dk.new 2).1).write 1 ([7])).1).stop 1).1).write 0 (dbl 8)).1).sync.1).restart).read 0).1).length : Nat) : Int) = (128 : Int))))) hF706 rfl rfl rfl rfl (rn_move (hF706.get rfl)) ?_)
    intro a707 hF708; clear hF706
    refine wpl_op (i := 38) rfl (o_val (v := (.slice (some ⟨b563, o564, none⟩) (((((((((((((Dk.new 2).1).write 1 ([7])).1).stop 1).1).write 0 (dbl 8)).1).sync.1).restart).read 0).1).length) c565)) hF708 rfl (wanted_guard rfl rfl rfl hF708 rfl ((by decide +kernel) : decide (((((((((((((((Dk.new 2).1).write 1 ([7])).1).stop 1).1).write 0 (dbl 8)).1).sync.1).restart).read 0).1).length : Nat) : Int) = (128 : Int)) = true) rfl) rfl rfl (rn_move (hF708.get rfl)) ?_)
    intro a710 hF711; clear hF708
    refine wpl_op (i := 39) rfl (o_val (v := (.pointer (some ⟨b563, o564 + 0, none⟩))) hF711 rfl (wanted_guard rfl rfl rfl hF711 rfl ((by decide +kernel) : decide (((((((((((((((Dk.new 2).1).write 1 ([7])).1).stop 1).1).write 0 (dbl 8)).1).sync.1).restart).read 0).1).length : Nat) : Int) = (128 : Int)) = true) rfl) rfl rfl (rn_index1 Try.underlying35 (by kernel_rfl : (Try.prog.info? 5).map (·.size) = some 1) (hF711.get rfl) rfl (by decide : (0 : Int) ≤ 0) (by decide +kernel : (0 : Int) < ((((((((((((((Dk.new 2).1).write 1 ([7])).1).stop 1).1).write 0 (dbl 8)).1).sync.1).restart).read 0).1).length : Nat) : Int))) ?_)
    intro a712 hF713; clear hF711
    refine wpl_op (i := 40) rfl (o_val (v := (.int .u8 ((((((((((((((Dk.new 2).1).write 1 ([7])).1).stop 1).1).write 0 (dbl 8)).1).sync.1).restart).read 0).1).getD 0 0).toNat : Nat))) hF713 rfl (wanted_guard rfl rfl rfl hF713 rfl ((by decide +kernel) : decide (((((((((((((((Dk.new 2).1).write 1 ([7])).1).stop 1).1).write 0 (dbl 8)).1).sync.1).restart).read 0).1).length : Nat) : Int) = (128 : Int)) = true) rfl) rfl rfl (rn_load (isAgg_no Try.underlying5 rfl) (hF713.get rfl) (Ext.keep (((Ext.refl w570).trans hx598).trans hx610) (hc568 0 (by decide +kernel)))) ?_)
    intro a714 hF715; clear hF713
    refine wpl_op (i := 41) rfl (o_val (v := (.bool (decide ((((((((((((((((Dk.new 2).1).write 1 ([7])).1).stop 1).1).write 0 (dbl 8)).1).sync.1).restart).read 0).1).getD 0 0).toNat : Nat) : Int) = (8 : Int))))) hF715 rfl (wanted_guard rfl rfl rfl hF715 rfl ((by decide +kernel) : decide (((((((((((((((Dk.new 2).1).write 1 ([7])).1).stop 1).1).write 0 (dbl 8)).1).sync.1).restart).read 0).1).length : Nat) : Int) = (128 : Int)) = true) rfl) rfl rfl (rn_eql (hF715.get rfl) rfl) ?_)
    intro a716 hF717; clear hF715
    refine wpl_op (i := 42) rfl (o_val (v := (.bool (decide ((((((((((((((((Dk.new 2).1).write 1 ([7])).1).stop 1).1).write 0 (dbl 8)).1).sync.1).restart).read 0).1).getD 0 0).toNat : Nat) : Int) = (8 : Int))))) hF717 rfl rfl rfl rfl (rn_pickT (c_true hF717 rfl ((by decide +kernel) : decide (((((((((((((((Dk.new 2).1).write 1 ([7])).1).stop 1).1).write 0 (dbl 8)).1).sync.1).restart).read 0).1).length : Nat) : Int) = (128 : Int)) = true)) (hF717.get rfl)) ?_)
    intro a718 hF719; clear hF717
    refine wpl_op (i := 43) rfl (o_val (v := (.bool (decide ((((((((((((((((Dk.new 2).1).write 1 ([7])).1).stop 1).1).write 0 (dbl 8)).1).sync.1).restart).read 0).1).getD 0 0).toNat : Nat) : Int) = (8 : Int))))) hF719 rfl rfl rfl rfl (rn_move (hF719.get rfl)) ?_)
    intro a720 hF721; clear hF719
    refine wpl_op (i := 44) rfl (o_val (v := (.slice (some ⟨b563, o564, none⟩) (((((((((((((Dk.new 2).1).write 1 ([7])).1).stop 1).1).write 0 (dbl 8)).1).sync.1).restart).read 0).1).length) c565)) hF721 rfl (wanted_guard rfl rfl rfl hF721 rfl ((by decide +kernel) : decide ((((((((((((((((Dk.new 2).1).write 1 ([7])).1).stop 1).1).write 0 (dbl 8)).1).sync.1).restart).read 0).1).getD 0 0).toNat : Nat) : Int) = (8 : Int)) = true) rfl) rfl rfl (rn_move (hF721.get rfl)) ?_)
    intro a723 hF724; clear hF721
    refine wpl_op (i := 45) rfl (o_val (v := (.pointer (some ⟨b563, o564 + 64, none⟩))) hF724 rfl (wanted_guard rfl rfl rfl hF724 rfl ((by decide +kernel) : decide ((((((((((((((((Dk.new 2).1).write 1 ([7])).1).stop 1).1).write 0 (dbl 8)).1).sync.1).restart).read 0).1).getD 0 0).toNat : Nat) : Int) = (8 : Int)) = true) rfl) rfl rfl (rn_index1 Try.underlying35 (by kernel_rfl : (Try.prog.info? 5).map (·.size) = some 1) (hF724.get rfl) rfl (by decide : (0 : Int) ≤ 64) (by decide +kernel : (64 : Int) < ((((((((((((((Dk.new 2).1).write 1 ([7])).1).stop 1).1).write 0 (dbl 8)).1).sync.1).restart).read 0).1).length : Nat) : Int))) ?_)
    intro a725 hF726; clear hF724
    refine wpl_op (i := 46) rfl (o_val (v := (.int .u8 ((((((((((((((Dk.new 2).1).write 1 ([7])).1).stop 1).1).write 0 (dbl 8)).1).sync.1).restart).read 0).1).getD 64 0).toNat : Nat))) hF726 rfl (wanted_guard rfl rfl rfl hF726 rfl ((by decide +kernel) : decide ((((((((((((((((Dk.new 2).1).write 1 ([7])).1).stop 1).1).write 0 (dbl 8)).1).sync.1).restart).read 0).1).getD 0 0).toNat : Nat) : Int) = (8 : Int)) = true) rfl) rfl rfl (rn_load (isAgg_no Try.underlying5 rfl) (hF726.get rfl) (Ext.keep (((Ext.refl w570).trans hx598).trans hx610) (hc568 64 (by decide +kernel)))) ?_)
    intro a727 hF728; clear hF726
    refine wpl_op (i := 47) rfl (o_val (v := (.bool (decide ((((((((((((((((Dk.new 2).1).write 1 ([7])).1).stop 1).1).write 0 (dbl 8)).1).sync.1).restart).read 0).1).getD 64 0).toNat : Nat) : Int) = (0 : Int))))) hF728 rfl (wanted_guard rfl rfl rfl hF728 rfl ((by decide +kernel) : decide ((((((((((((((((Dk.new 2).1).write 1 ([7])).1).stop 1).1).write 0 (dbl 8)).1).sync.1).restart).read 0).1).getD 0 0).toNat : Nat) : Int) = (8 : Int)) = true) rfl) rfl rfl (rn_eql (hF728.get rfl) rfl) ?_)
    intro a729 hF730; clear hF728
    refine wpl_op (i := 48) rfl (o_val (v := (.bool (decide ((((((((((((((((Dk.new 2).1).write 1 ([7])).1).stop 1).1).write 0 (dbl 8)).1).sync.1).restart).read 0).1).getD 64 0).toNat : Nat) : Int) = (0 : Int))))) hF730 rfl rfl rfl rfl (rn_pickT (c_true hF730 rfl ((by decide +kernel) : decide ((((((((((((((((Dk.new 2).1).write 1 ([7])).1).stop 1).1).write 0 (dbl 8)).1).sync.1).restart).read 0).1).getD 0 0).toNat : Nat) : Int) = (8 : Int)) = true)) (hF730.get rfl)) ?_)
    intro a731 hF732; clear hF730
    refine wpl_op (i := 49) rfl (o_val (v := (.bool (decide ((((((((((((((((Dk.new 2).1).write 1 ([7])).1).stop 1).1).write 0 (dbl 8)).1).sync.1).restart).read 0).1).getD 64 0).toNat : Nat) : Int) = (0 : Int))))) hF732 rfl rfl rfl rfl (rn_move (hF732.get rfl)) ?_)
    intro a733 hF734; clear hF732
    refine wpl_op (i := 50) rfl (o_val (v := (.slice (some ⟨b602, o603, none⟩) ((((((((Dk.new 2).1).write 1 ([7])).1).restart).read 1).1).length) c604)) hF734 rfl (wanted_guard rfl rfl rfl hF734 rfl ((by decide +kernel) : decide ((((((((((((((((Dk.new 2).1).write 1 ([7])).1).stop 1).1).write 0 (dbl 8)).1).sync.1).restart).read 0).1).getD 64 0).toNat : Nat) : Int) = (0 : Int)) = true) rfl) rfl rfl (rn_move (hF734.get rfl)) ?_)
    intro a736 hF737; clear hF734
    refine wpl_op (i := 51) rfl (o_val (v := (.int .i64 ((((((((Dk.new 2).1).write 1 ([7])).1).restart).read 1).1).length : Nat))) hF737 rfl (wanted_guard rfl rfl rfl hF737 rfl ((by decide +kernel) : decide ((((((((((((((((Dk.new 2).1).write 1 ([7])).1).stop 1).1).write 0 (dbl 8)).1).sync.1).restart).read 0).1).getD 64 0).toNat : Nat) : Int) = (0 : Int)) = true) rfl) rfl rfl (rn_len_slice Try.underlying35 (hF737.get rfl)) ?_)
    intro a738 hF739; clear hF737
    refine wpl_op (i := 52) rfl (o_val (v := (.bool (decide ((((((((((Dk.new 2).1).write 1 ([7])).1).restart).read 1).1).length : Nat) : Int) = (128 : Int))))) hF739 rfl (wanted_guard rfl rfl rfl hF739 rfl ((by decide +kernel) : decide ((((((((((((((((Dk.new 2).1).write 1 ([7])).1).stop 1).1).write 0 (dbl 8)).1).sync.1).restart).read 0).1).getD 64 0).toNat : Nat) : Int) = (0 : Int)) = true) rfl) rfl rfl (rn_eql (hF739.get rfl) rfl) ?_)
    intro a740 hF741; clear hF739
    refine wpl_op (i := 53) rfl (o_val (v := (.bool (decide ((((((((((Dk.new 2).1).write 1 ([7])).1).restart).read 1).1).length : Nat) : Int) = (128 : Int))))) hF741 rfl rfl rfl rfl (rn_pickT (c_true hF741 rfl ((by decide +kernel) : decide ((((((((((((((((Dk.new 2).1).write 1 ([7])).1).stop 1).1).write 0 (dbl 8)).1).sync.1).restart).read 0).1).getD 64 0).toNat : Nat) : Int) = (0 : Int)) = true)) (hF741.get rfl)) ?_)
    intro a742 hF743; clear hF741
    refine wpl_op (i := 54) rfl (o_val (v := (.bool (decide ((((((((((Dk.new 2).1).write 1 ([7])).1).restart).read 1).1).length : Nat) : Int) = (128 : Int))))) hF743 rfl rfl rfl rfl (rn_move (hF743.get rfl)) ?_)
    intro a744 hF745; clear hF743
    refine wpl_op (i := 55) rfl (o_val (v := (.slice (some ⟨b602, o603, none⟩) ((((((((Dk.new 2).1).write 1 ([7])).1).restart).read 1).1).length) c604)) hF745 rfl (wanted_guard rfl rfl rfl hF745 rfl ((by decide +kernel) : decide ((((((((((Dk.new 2).1).write 1 ([7])).1).restart).read 1).1).length : Nat) : Int) = (128 : Int)) = true) rfl) rfl rfl (rn_move (hF745.get rfl)) ?_)
    intro a747 hF748; clear hF745
    refine wpl_op (i := 56) rfl (o_val (v := (.pointer (some ⟨b602, o603 + 0, none⟩))) hF748 rfl (wanted_guard rfl rfl rfl hF748 rfl ((by decide +kernel) : decide ((((((((((Dk.new 2).1).write 1 ([7])).1).restart).read 1).1).length : Nat) : Int) = (128 : Int)) = true) rfl) rfl rfl (rn_index1 Try.underlying35 (by kernel_rfl : (Try.prog.info? 5).map (·.size) = some 1) (hF748.get rfl) rfl (by decide : (0 : Int) ≤ 0) (by decide +kernel : (0 : Int) < (((((((((Dk.new 2).1).write 1 ([7])).1).restart).read 1).1).length : Nat) : Int))) ?_)
    intro a749 hF750; clear hF748
    refine wpl_op (i := 57) rfl (o_val (v := (.int .u8 (((((((((Dk.new 2).1).write 1 ([7])).1).restart).read 1).1).getD 0 0).toNat : Nat))) hF750 rfl (wanted_guard rfl rfl rfl hF750 rfl ((by decide +kernel) : decide ((((((((((Dk.new 2).1).write 1 ([7])).1).restart).read 1).1).length : Nat) : Int) = (128 : Int)) = true) rfl) rfl rfl (rn_load (isAgg_no Try.underlying5 rfl) (hF750.get rfl) (Ext.keep (Ext.refl w609) (hc607 0 (by decide +kernel)))) ?_)
    intro a751 hF752; clear hF750
    refine wpl_op (i := 58) rfl (o_val (v := (.bool (decide (((((((((((Dk.new 2).1).write 1 ([7])).1).restart).read 1).1).getD 0 0).toNat : Nat) : Int) = (0 : Int))))) hF752 rfl (wanted_guard rfl rfl rfl hF752 rfl ((by decide +kernel) : decide ((((((((((Dk.new 2).1).write 1 ([7])).1).restart).read 1).1).length : Nat) : Int) = (128 : Int)) = true) rfl) rfl rfl (rn_eql (hF752.get rfl) rfl) ?_)
    intro a753 hF754; clear hF752
    refine wpl_op (i := 59) rfl (o_val (v := (.bool (decide (((((((((((Dk.new 2).1).write 1 ([7])).1).restart).read 1).1).getD 0 0).toNat : Nat) : Int) = (0 : Int))))) hF754 rfl rfl rfl rfl (rn_pickT (c_true hF754 rfl ((by decide +kernel) : decide ((((((((((Dk.new 2).1).write 1 ([7])).1).restart).read 1).1).length : Nat) : Int) = (128 : Int)) = true)) (hF754.get rfl)) ?_)
    intro a755 hF756; clear hF754
    refine wpl_op (i := 60) rfl (o_val (v := (.bool (decide (((((((((((Dk.new 2).1).write 1 ([7])).1).restart).read 1).1).getD 0 0).toNat : Nat) : Int) = (0 : Int))))) hF756 rfl rfl rfl rfl (rn_move (hF756.get rfl)) ?_)
    intro a757 hF758; clear hF756
    refine wpl_op (i := 61) rfl (o_val (v := (.agg #[(.slice none 0 0), (.slice none 0 0), (.int .i64 0), (.bool false)])) hF758 rfl (wanted_guard rfl rfl rfl hF758 rfl ((by decide +kernel) : decide (((((((((((Dk.new 2).1).write 1 ([7])).1).restart).read 1).1).getD 0 0).toNat : Nat) : Int) = (0 : Int)) = true) rfl) rfl rfl (rn_build (parts0 ) (by kernel_rfl)) ?_)
    intro a760 hF761; clear hF758
    refine wpl_op (i := 62) rfl (o_call hF761 rfl (wanted_guard rfl rfl rfl hF761 rfl ((by decide +kernel) : decide (((((((((((Dk.new 2).1).write 1 ([7])).1).restart).read 1).1).getD 0 0).toNat : Nat) : Int) = (0 : Int)) = true) rfl) rfl rfl (rn_call (args1 (hF761.get rfl)) rfl (by kernel_rfl)) (check_any (S := (fun _ => False)) _ Dk.zero _ (RDk.zero _)) ?_)
    rintro _ w762 ⟨rfl, hx763⟩
    refine ⟨_, rfl, ?_⟩; intro a764 hF765; clear hF761; have z766 := hx763.size
    refine wpl_op (i := 63) rfl (o_val (v := (.bool (decide ((Dk.zero.check : Int) = (380 : Int))))) hF765 rfl (wanted_guard rfl rfl rfl hF765 rfl ((by decide +kernel) : decide (((((((((((Dk.new 2).1).write 1 ([7])).1).restart).read 1).1).getD 0 0).toNat : Nat) : Int) = (0 : Int)) = true) rfl) rfl rfl (rn_eql (hF765.get rfl) rfl) ?_)
    intro a767 hF768; clear hF765
    refine wpl_op (i := 64) rfl (o_val (v := (.bool (decide ((Dk.zero.check : Int) = (380 : Int))))) hF768 rfl rfl rfl rfl (rn_pickT (c_true hF768 rfl ((by decide +kernel) : decide (((((((((((Dk.new 2).1).write 1 ([7])).1).restart).read 1).1).getD 0 0).toNat : Nat) : Int) = (0 : Int)) = true)) (hF768.get rfl)) ?_)
    intro a769 hF770; clear hF768
    refine wpl_op (i := 65) rfl (o_val (v := (.bool (decide ((Dk.zero.check : Int) = (380 : Int))))) hF770 rfl rfl rfl rfl (rn_move (hF770.get rfl)) ?_)
    intro a771 hF772; clear hF770
    refine wpl_op (i := 66) rfl (o_val (v := (.agg #[(.slice none 0 0), (.slice none 0 0), (.int .i64 0), (.bool false)])) hF772 rfl (wanted_guard rfl rfl rfl hF772 rfl ((by decide +kernel) : decide ((Dk.zero.check : Int) = (380 : Int)) = true) rfl) rfl rfl (rn_build (parts0 ) (by kernel_rfl)) ?_)
    intro a774 hF775; clear hF772
    refine wpl_op (i := 67) rfl (o_call hF775 rfl (wanted_guard rfl rfl rfl hF775 rfl ((by decide +kernel) : decide ((Dk.zero.check : Int) = (380 : Int)) = true) rfl) rfl rfl (rn_call (args1 (hF775.get rfl)) rfl (by kernel_rfl)) (restart_any (S := (fun _ => False)) _ Dk.zero _ (RDk.zero _)) ?_)
    rintro _ w782 ⟨v781, rfl, hd780, hx783⟩
    obtain ⟨A776, c777, B778, e779, rfl, -, -⟩ := hd780.form
    have hd780 := hd780.clip
    refine ⟨_, rfl, ?_⟩; intro a784 hF785; clear hF775; have z786 := hx783.size
    refine wpl_op (i := 68) rfl (o_val (v := (.int .i64 Dk.zero.restart.left)) hF785 rfl (wanted_guard rfl rfl rfl hF785 rfl ((by decide +kernel) : decide ((Dk.zero.check : Int) = (380 : Int)) = true) rfl) rfl rfl (rn_fieldv (hF785.get rfl) (by kernel_rfl)) ?_)
    intro a787 hF788; clear hF785
    refine wpl_op (i := 69) rfl (o_val (v := (.bool (decide ((Dk.zero.restart.left : Int) = (-1 : Int))))) hF788 rfl (wanted_guard rfl rfl rfl hF788 rfl ((by decide +kernel) : decide ((Dk.zero.check : Int) = (380 : Int)) = true) rfl) rfl rfl (rn_eql (hF788.get rfl) rfl) ?_)
    intro a789 hF790; clear hF788
    refine wpl_op (i := 70) rfl (o_val (v := (.bool (decide ((Dk.zero.restart.left : Int) = (-1 : Int))))) hF790 rfl rfl rfl rfl (rn_pickT (c_true hF790 rfl ((by decide +kernel) : decide ((Dk.zero.check : Int) = (380 : Int)) = true)) (hF790.get rfl)) ?_)
    intro a791 hF792; clear hF790
    refine wpl_op (i := 71) rfl (o_val (v := (.bool (decide ((Dk.zero.restart.left : Int) = (-1 : Int))))) hF792 rfl rfl rfl rfl (rn_assign (hF792.get rfl)) ?_)
    intro a793 hF794; clear hF792
    refine wpList_nil ?_
    refine hK625 _ _ ?_
    clear hK625
    have hF795 := ((((((((((((((((((((((hF794.nil.cons (hF794.get (t := 23) (v := (.int .i64 (((((((Dk.new 2).1).write 1 ([7])).1).restart).read 1).2))) rfl)).cons (hF794.get (t := 22) (v := (.slice (some ⟨b602, o603, none⟩) ((((((((Dk.new 2).1).write 1 ([7])).1).restart).read 1).1).length) c604)) rfl)).cons (hF794.get (t := 21) (v := (.int .i64 ((((((((((((Dk.new 2).1).write 1 ([7])).1).stop 1).1).write 0 (dbl 8)).1).sync.1).restart).read 0).2))) rfl)).cons (hF794.get (t := 20) (v := (.slice (some ⟨b563, o564, none⟩) (((((((((((((Dk.new 2).1).write 1 ([7])).1).stop 1).1).write 0 (dbl 8)).1).sync.1).restart).read 0).1).length) c565)) rfl)).cons (hF794.get (t := 19) (v := (.int .i64 ((((((((((((Dk.new 2).1).write 1 ([7])).1).stop 1).1).write 0 (dbl 8)).1).sync.1).restart).read 1).2))) rfl)).cons (hF794.get (t := 18) (v := (.slice (some ⟨b535, o536, none⟩) (((((((((((((Dk.new 2).1).write 1 ([7])).1).stop 1).1).write 0 (dbl 8)).1).sync.1).restart).read 1).1).length) c537)) rfl)).cons (hF794.get (t := 108) (v := (.bool (!((((((((((Dk.new 2).1).write 1 ([7])).1).stop 1).1).write 0 (dbl 8)).1).sync.1).stopped)))) rfl)).cons (hF794.get (t := 17) (v := (.int .i64 (((((((((Dk.new 2).1).write 1 ([7])).1).stop 1).1).write 0 (dbl 8)).1).sync.2))) rfl)).cons (hF794.get (t := 16) (v := (.pointer (some ⟨g405, 0, none⟩))) rfl)).cons (hF794.get (t := 15) (v := (.int .i64 ((((((((Dk.new 2).1).write 1 ([7])).1).stop 1).1).write 0 (dbl 8)).2))) rfl)).cons (hF794.get (t := 14) (v := (.int .i64 ((((((Dk.new 2).1).write 1 ([7])).1).stop 1).2))) rfl)).cons (hF794.get (t := 13) (v := (.pointer (some ⟨g324, 0, none⟩))) rfl)).cons (hF794.get (t := 12) (v := (.int .i64 ((((Dk.new 2).1).write 0 (List.replicate 129 0)).2))) rfl)).cons (hF794.get (t := 10) (v := (.int .i64 ((((Dk.new 2).1).read 2).2))) rfl)).cons (hF794.get (t := 8) (v := (.int .i64 ((((((Dk.new 2).1).write 1 ([7])).1).read 1).2))) rfl)).cons (hF794.get (t := 7) (v := (.slice (some ⟨b118, o119, none⟩) (((((((Dk.new 2).1).write 1 ([7])).1).read 1).1).length) c120)) rfl)).cons (hF794.get (t := 6) (v := (.int .i64 ((((Dk.new 2).1).write 1 ([7])).2))) rfl)).cons (hF794.get (t := 5) (v := (.pointer (some ⟨g99, 0, none⟩))) rfl)).cons (hF794.get (t := 4) (v := (.int .i64 ((Dk.new 2).2))) rfl)).cons (hF794.get (t := 3) (v := (.pointer (some ⟨g55, 0, none⟩))) rfl)).cons (hF794.get (t := 2) (v := (.int .i64 ((Dk.new 0).2))) rfl)).cons (hF794.get (t := 0) (v := (.bool (decide ((Dk.zero.restart.left : Int) = (-1 : Int))))) rfl))
    clear hF794
    refine wp_ret ?_
    refine ret1 hF795 rfl rfl ?_
    exact ⟨congrArg (fun b => Ending.returned (.bool b)) ((by decide +kernel) : decide ((Dk.zero.restart.left : Int) = (-1 : Int)) = true), ((((((((((((((((((((((((((((((((Ext.refl w).trans hx12).trans hx25).grownN hg32 (by omega)).trans hx45).trans hx58).grownN hg65 (by omega)).trans hx76).trans hx89).trans hx102).grownN hg109 (by omega)).trans hx126).trans hx151).trans hx300).trans hx314).trans hx327).grownN hg334 (by omega)).trans hx341).trans hx353).trans hx366).grownN hg379 (by omega)).trans hx395).trans hx408).grownN hg415 (by omega)).trans hx522).grownN hg528 (by omega)).trans hx543).trans hx571).trans hx598).trans hx610).trans hx763).trans hx783)⟩

end Go.Proofs.Ytklhgghlkidfjaa
