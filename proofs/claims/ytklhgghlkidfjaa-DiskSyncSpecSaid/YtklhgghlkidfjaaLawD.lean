/- The law DiskSyncSpec, walked. -/
import Derived.Test.YtklhgghlkidfjaaLawA
import Derived.Test.YtklhgghlkidfjaaSane
import Derived.Test.YtklhgghlkidfjaaRefC
namespace Go.Proofs.Ytklhgghlkidfjaa
open Go.RowKit

variable {S S' : Nat → Prop}

set_option maxRecDepth 100000 in
set_option maxHeartbeats 4000000 in
theorem syncSpec_any (A : Option Addr) (c : Nat) (B : Option Addr) (e : Nat) (d : Dk) (n : Int) (w : World) (hd : RDk (Old w) w (.agg #[.slice A d.sectors.length c, .slice B d.pending.length e, .int .i64 d.left, .bool d.stopped]) d) (s1 : ∀ x ∈ d.sectors, x.length ≤ 140737488355328) (s2 : ∀ x ∈ d.pending, x.2.length ≤ 140737488355328) :
    Calls Try.prog 5 #[(.agg #[(.slice A d.sectors.length c), (.slice B d.pending.length e), (.int .i64 d.left), (.bool d.stopped)]), (.int .i64 n)] w (RB w true) := by
  refine calls_enter (l := [(.agg #[(.slice A d.sectors.length c), (.slice B d.pending.length e), (.int .i64 d.left), (.bool d.stopped)]), (.int .i64 n)]) Try.func5 rfl rfl rfl (fun a hF => ?_)
  refine wp_seq_k (fun K1 hK1 => ?_)
  refine wp_region_lit ?_
  refine wpl_op (i := 0) rfl (o_new (fun g => (.pointer (some ⟨g, 0, none⟩))) [(.slice A d.sectors.length c), (.slice B d.pending.length e), (.int .i64 d.left), (.bool d.stopped)] 25 hF rfl rfl rfl rfl (rn_box (hF.get rfl) (by kernel_rfl)) ?_)
  intro g2 w3 a8 hF9 z6 z7 b4 hx5; clear hF
  refine wpl_op (i := 1) rfl (o_val (v := (.bool false)) hF9 rfl rfl rfl rfl (rn_assign rfl) ?_)
  intro a10 hF11; clear hF9
  refine wpList_nil ?_
  refine hK1 _ _ ?_
  clear hK1
  refine wp_seq_k (fun K12 hK12 => ?_)
  refine wp_seq_k (fun K13 hK13 => ?_)
  refine wp_region_lit ?_
  refine wpl_op (i := 0) rfl (o_call hF11 rfl rfl rfl rfl (rn_call (args0 ) rfl (by kernel_rfl)) (sane_any _) ?_)
  rintro _ w14 ⟨rfl, hx15⟩
  refine ⟨_, rfl, ?_⟩; intro a16 hF17; clear hF11; have z18 := hx15.size
  refine wpl_op (i := 1) rfl (o_val (v := (.bool false)) hF17 rfl rfl rfl rfl (rn_not' (hF17.get rfl) rfl) ?_)
  intro a19 hF20; clear hF17
  refine wpList_nil ?_
  refine hK13 _ _ ?_
  clear hK13
  refine wp_cond_false (c_false hF20 rfl rfl) ?_
  refine wp_skip ?_
  refine hK12 _ _ ?_
  clear hK12
  refine wp_seq_k (fun K21 hK21 => ?_)
  refine wp_seq_k (fun K22 hK22 => ?_)
  refine wp_region_lit ?_
  have b23 : Blk w14 g2 25 [(.slice A d.sectors.length c), (.slice B d.pending.length e), (.int .i64 d.left), (.bool d.stopped)] := (b4.ext hx15)
  refine wpl_op (i := 0) rfl (o_val (v := (.agg #[(.slice A d.sectors.length c), (.slice B d.pending.length e), (.int .i64 d.left), (.bool d.stopped)])) hF20 rfl rfl rfl rfl (rn_loadBlk (hF20.get rfl) b23 Try.underlying25 rfl (by kernel_rfl : (Try.prog.info? 25).map (·.size) = some 4)) ?_)
  intro a24 hF25; clear hF20
  have d26 := ((hd.ext hx5).ext hx15)
  refine wpl_op (i := 1) rfl (o_call hF25 rfl rfl rfl rfl (rn_call (args1 (hF25.get rfl)) rfl (by kernel_rfl)) (few_any (S := (Old w)) _ d _ d26 s1 s2) ?_)
  rintro _ w27 ⟨rfl, hx28⟩
  refine ⟨_, rfl, ?_⟩; intro a29 hF30; clear hF25; have z31 := hx28.size
  refine wpl_op (i := 2) rfl (o_val (v := (.bool (!d.few))) hF30 rfl rfl rfl rfl (rn_not' (hF30.get rfl) rfl) ?_)
  intro a32 hF33; clear hF30
  refine wpList_nil ?_
  refine hK22 _ _ ?_
  clear hK22
  rcases Bool.eq_false_or_eq_true d.few with hc34 | hc34
  · skip
    refine wp_cond_false (c_false hF33 rfl (not_t hc34)) ?_
    refine wp_skip ?_
    refine hK21 _ _ ?_
    clear hK21
    refine wp_seq_k (fun K35 hK35 => ?_)
    refine wp_region_lit ?_
    have b36 : Blk w27 g2 25 [(.slice A d.sectors.length c), (.slice B d.pending.length e), (.int .i64 d.left), (.bool d.stopped)] := (b23.ext hx28)
    refine wpl_op (i := 0) rfl (o_val (v := (.agg #[(.slice A d.sectors.length c), (.slice B d.pending.length e), (.int .i64 d.left), (.bool d.stopped)])) hF33 rfl rfl rfl rfl (rn_loadBlk (hF33.get rfl) b36 Try.underlying25 rfl (by kernel_rfl : (Try.prog.info? 25).map (·.size) = some 4)) ?_)
    intro a37 hF38; clear hF33
    have d39 := (((hd.ext hx5).ext hx15).ext hx28)
    refine wpl_op (i := 1) rfl (o_call hF38 rfl rfl rfl rfl (rn_call (args1 (hF38.get rfl)) rfl (by kernel_rfl)) (sync_any (S := (Old w)) _ d _ d39) ?_)
    rintro _ w46 ⟨v45, rfl, hd44, hx47⟩
    obtain ⟨A40, c41, B42, e43, rfl, -, -⟩ := hd44.form
    have hd44 := hd44.clip
    refine ⟨_, rfl, ?_⟩; intro a48 hF49; clear hF38; have z50 := hx47.size
    refine wpl_op (i := 2) rfl (o_val (v := (.tuple #[(.agg #[(.slice A40 d.sync.1.sectors.length c41), (.slice B42 d.sync.1.pending.length e43), (.int .i64 d.sync.1.left), (.bool d.sync.1.stopped)]), (.int .i64 d.sync.2)])) hF49 rfl rfl rfl rfl (rn_move (hF49.get rfl)) ?_)
    intro a51 hF52; clear hF49
    refine wpl_op (i := 3) rfl (o_val (v := (.agg #[(.slice A40 d.sync.1.sectors.length c41), (.slice B42 d.sync.1.pending.length e43), (.int .i64 d.sync.1.left), (.bool d.sync.1.stopped)])) hF52 rfl rfl rfl rfl (rn_extract (hF52.get rfl) rfl) ?_)
    intro a53 hF54; clear hF52
    refine wpl_op (i := 4) rfl (o_val (v := (.int .i64 d.sync.2)) hF54 rfl rfl rfl rfl (rn_extract (hF54.get rfl) rfl) ?_)
    intro a55 hF56; clear hF54
    refine wpl_op (i := 5) rfl (o_new (fun g => (.pointer (some ⟨g, 0, none⟩))) [(.slice none 0 0), (.slice none 0 0), (.int .i64 0), (.bool false)] 25 hF56 rfl rfl rfl rfl (by kernel_rfl) ?_)
    intro g57 w58 a63 hF64 z61 z62 b59 hx60; clear hF56
    refine wpl_op (i := 6) rfl (o_store (cells := [(.slice A40 d.sync.1.sectors.length c41), (.slice B42 d.sync.1.pending.length e43), (.int .i64 d.sync.1.left), (.bool d.sync.1.stopped)]) hF64 rfl rfl rfl rfl (hF64.get rfl) (hF64.get rfl) b59 (by kernel_rfl : (Try.prog.info? 25).map (·.size) = some 4) rfl (by simp [Value.oneCell']) ?_)
    intro w65 b66 hg67; have z68 := hg67.size
    refine wpl_op (i := 7) rfl (o_val (v := (.int .i64 d.sync.2)) hF64 rfl rfl rfl rfl (rn_assign (hF64.get rfl)) ?_)
    intro a69 hF70; clear hF64
    refine wpList_nil ?_
    refine hK35 _ _ ?_
    clear hK35
    have hF71 := ((((((((hF70.nil.cons (hF70.get (t := 6) (v := (.int .i64 d.sync.2)) rfl)).cons (hF70.get (t := 5) (v := (.pointer (some ⟨g57, 0, none⟩))) rfl)).cons (hF70.get (t := 17) (v := (.bool (!d.few))) rfl)).cons (hF70.get (t := 14) (v := (.bool false)) rfl)).cons (hF70.get (t := 4) (v := (.bool false)) rfl)).cons (hF70.get (t := 2) (v := (.pointer (some ⟨g2, 0, none⟩))) rfl)).cons (hF70.get (t := 1) (v := (.int .i64 n)) rfl)).cons (hF70.get (t := 0) (v := (.agg #[(.slice A d.sectors.length c), (.slice B d.pending.length e), (.int .i64 d.left), (.bool d.stopped)])) rfl))
    clear hF70
    refine wp_seq_k (fun K72 hK72 => ?_)
    refine wp_region_lit ?_
    have b73 : Blk w65 g2 25 [(.slice A d.sectors.length c), (.slice B d.pending.length e), (.int .i64 d.left), (.bool d.stopped)] := (((b36.ext hx47).ext hx60).grownN hg67 (by omega))
    refine wpl_op (i := 0) rfl (o_val (v := (.agg #[(.slice A d.sectors.length c), (.slice B d.pending.length e), (.int .i64 d.left), (.bool d.stopped)])) hF71 rfl rfl rfl rfl (rn_loadBlk (hF71.get rfl) b73 Try.underlying25 rfl (by kernel_rfl : (Try.prog.info? 25).map (·.size) = some 4)) ?_)
    intro a74 hF75; clear hF71
    have d76 := (hd.pres (((((((Pres.refl w).ext hx5).ext hx15).ext hx28).ext hx47).ext hx60).grownN hg67 (fun h => by simp only [Clip, Fr, Old] at h; omega)))
    refine wpl_op (i := 1) rfl (o_call hF75 rfl rfl rfl rfl (rn_call (args1 (hF75.get rfl)) rfl (by kernel_rfl)) (rsync_any (S := (Old w)) _ d _ d76) ?_)
    rintro _ w83 ⟨v82, rfl, hd81, hx84⟩
    obtain ⟨A77, c78, B79, e80, rfl, -, -⟩ := hd81.form
    have hd81 := hd81.clip
    refine ⟨_, rfl, ?_⟩; intro a85 hF86; clear hF75; have z87 := hx84.size
    refine wpl_op (i := 2) rfl (o_val (v := (.tuple #[(.agg #[(.slice A77 d.sync.1.sectors.length c78), (.slice B79 d.sync.1.pending.length e80), (.int .i64 d.sync.1.left), (.bool d.sync.1.stopped)]), (.int .i64 d.sync.2)])) hF86 rfl rfl rfl rfl (rn_move (hF86.get rfl)) ?_)
    intro a88 hF89; clear hF86
    refine wpl_op (i := 3) rfl (o_val (v := (.agg #[(.slice A77 d.sync.1.sectors.length c78), (.slice B79 d.sync.1.pending.length e80), (.int .i64 d.sync.1.left), (.bool d.sync.1.stopped)])) hF89 rfl rfl rfl rfl (rn_extract (hF89.get rfl) rfl) ?_)
    intro a90 hF91; clear hF89
    refine wpl_op (i := 4) rfl (o_val (v := (.int .i64 d.sync.2)) hF91 rfl rfl rfl rfl (rn_extract (hF91.get rfl) rfl) ?_)
    intro a92 hF93; clear hF91
    refine wpl_op (i := 5) rfl (o_new (fun g => (.pointer (some ⟨g, 0, none⟩))) [(.slice none 0 0), (.slice none 0 0), (.int .i64 0), (.bool false)] 25 hF93 rfl rfl rfl rfl (by kernel_rfl) ?_)
    intro g94 w95 a100 hF101 z98 z99 b96 hx97; clear hF93
    refine wpl_op (i := 6) rfl (o_store (cells := [(.slice A77 d.sync.1.sectors.length c78), (.slice B79 d.sync.1.pending.length e80), (.int .i64 d.sync.1.left), (.bool d.sync.1.stopped)]) hF101 rfl rfl rfl rfl (hF101.get rfl) (hF101.get rfl) b96 (by kernel_rfl : (Try.prog.info? 25).map (·.size) = some 4) rfl (by simp [Value.oneCell']) ?_)
    intro w102 b103 hg104; have z105 := hg104.size
    refine wpl_op (i := 7) rfl (o_val (v := (.int .i64 d.sync.2)) hF101 rfl rfl rfl rfl (rn_assign (hF101.get rfl)) ?_)
    intro a106 hF107; clear hF101
    refine wpList_nil ?_
    refine hK72 _ _ ?_
    clear hK72
    have hF108 := ((((((((((hF107.nil.cons (hF107.get (t := 8) (v := (.int .i64 d.sync.2)) rfl)).cons (hF107.get (t := 7) (v := (.pointer (some ⟨g94, 0, none⟩))) rfl)).cons (hF107.get (t := 6) (v := (.int .i64 d.sync.2)) rfl)).cons (hF107.get (t := 5) (v := (.pointer (some ⟨g57, 0, none⟩))) rfl)).cons (hF107.get (t := 17) (v := (.bool (!d.few))) rfl)).cons (hF107.get (t := 14) (v := (.bool false)) rfl)).cons (hF107.get (t := 4) (v := (.bool false)) rfl)).cons (hF107.get (t := 2) (v := (.pointer (some ⟨g2, 0, none⟩))) rfl)).cons (hF107.get (t := 1) (v := (.int .i64 n)) rfl)).cons (hF107.get (t := 0) (v := (.agg #[(.slice A d.sectors.length c), (.slice B d.pending.length e), (.int .i64 d.left), (.bool d.stopped)])) rfl))
    clear hF107
    refine wp_seq_k (fun K109 hK109 => ?_)
    refine wp_region_lit ?_
    have b110 : Blk w102 g2 25 [(.slice A d.sectors.length c), (.slice B d.pending.length e), (.int .i64 d.left), (.bool d.stopped)] := (((b73.ext hx84).ext hx97).grownN hg104 (by omega))
    refine wpl_op (i := 0) rfl (o_val (v := (.agg #[(.slice A d.sectors.length c), (.slice B d.pending.length e), (.int .i64 d.left), (.bool d.stopped)])) hF108 rfl rfl rfl rfl (rn_loadBlk (hF108.get rfl) b110 Try.underlying25 rfl (by kernel_rfl : (Try.prog.info? 25).map (·.size) = some 4)) ?_)
    intro a111 hF112; clear hF108
    refine wpl_op (i := 1) rfl (o_val (v := (.int .i64 n)) hF112 rfl rfl rfl rfl (rn_move (hF112.get rfl)) ?_)
    intro a113 hF114; clear hF112
    have d115 := (hd.pres ((((((((((Pres.refl w).ext hx5).ext hx15).ext hx28).ext hx47).ext hx60).grownN hg67 (fun h => by simp only [Clip, Fr, Old] at h; omega)).ext hx84).ext hx97).grownN hg104 (fun h => by simp only [Clip, Fr, Old] at h; omega)))
    refine wpl_op (i := 2) rfl (o_call hF114 rfl rfl rfl rfl (rn_call (args2 (hF114.get rfl) (hF114.get rfl)) rfl (by kernel_rfl)) (stop_any (S := (Old w)) _ d _ _ d115) ?_)
    rintro _ w122 ⟨v121, rfl, hd120, hx123⟩
    obtain ⟨A116, c117, B118, e119, rfl, -, -⟩ := hd120.form
    have hd120 := hd120.clip
    refine ⟨_, rfl, ?_⟩; intro a124 hF125; clear hF114; have z126 := hx123.size
    refine wpl_op (i := 3) rfl (o_val (v := (.tuple #[(.agg #[(.slice A116 (((d.stop n).1).sectors.length) c117), (.slice B118 (((d.stop n).1).pending.length) e119), (.int .i64 (((d.stop n).1).left)), (.bool (((d.stop n).1).stopped))]), (.int .i64 ((d.stop n).2))])) hF125 rfl rfl rfl rfl (rn_move (hF125.get rfl)) ?_)
    intro a127 hF128; clear hF125
    refine wpl_op (i := 4) rfl (o_val (v := (.agg #[(.slice A116 (((d.stop n).1).sectors.length) c117), (.slice B118 (((d.stop n).1).pending.length) e119), (.int .i64 (((d.stop n).1).left)), (.bool (((d.stop n).1).stopped))])) hF128 rfl rfl rfl rfl (rn_extract (hF128.get rfl) rfl) ?_)
    intro a129 hF130; clear hF128
    refine wpl_op (i := 5) rfl (o_val (v := (.int .i64 ((d.stop n).2))) hF130 rfl rfl rfl rfl (rn_extract (hF130.get rfl) rfl) ?_)
    intro a131 hF132; clear hF130
    refine wpl_op (i := 6) rfl (o_new (fun g => (.pointer (some ⟨g, 0, none⟩))) [(.slice none 0 0), (.slice none 0 0), (.int .i64 0), (.bool false)] 25 hF132 rfl rfl rfl rfl (by kernel_rfl) ?_)
    intro g133 w134 a139 hF140 z137 z138 b135 hx136; clear hF132
    refine wpl_op (i := 7) rfl (o_store (cells := [(.slice A116 (((d.stop n).1).sectors.length) c117), (.slice B118 (((d.stop n).1).pending.length) e119), (.int .i64 (((d.stop n).1).left)), (.bool (((d.stop n).1).stopped))]) hF140 rfl rfl rfl rfl (hF140.get rfl) (hF140.get rfl) b135 (by kernel_rfl : (Try.prog.info? 25).map (·.size) = some 4) rfl (by simp [Value.oneCell']) ?_)
    intro w141 b142 hg143; have z144 := hg143.size
    refine wpl_op (i := 8) rfl (o_val (v := (.int .i64 ((d.stop n).2))) hF140 rfl rfl rfl rfl (rn_assign (hF140.get rfl)) ?_)
    intro a145 hF146; clear hF140
    refine wpList_nil ?_
    refine hK109 _ _ ?_
    clear hK109
    have hF147 := ((((((((((((hF146.nil.cons (hF146.get (t := 10) (v := (.int .i64 ((d.stop n).2))) rfl)).cons (hF146.get (t := 9) (v := (.pointer (some ⟨g133, 0, none⟩))) rfl)).cons (hF146.get (t := 8) (v := (.int .i64 d.sync.2)) rfl)).cons (hF146.get (t := 7) (v := (.pointer (some ⟨g94, 0, none⟩))) rfl)).cons (hF146.get (t := 6) (v := (.int .i64 d.sync.2)) rfl)).cons (hF146.get (t := 5) (v := (.pointer (some ⟨g57, 0, none⟩))) rfl)).cons (hF146.get (t := 17) (v := (.bool (!d.few))) rfl)).cons (hF146.get (t := 14) (v := (.bool false)) rfl)).cons (hF146.get (t := 4) (v := (.bool false)) rfl)).cons (hF146.get (t := 2) (v := (.pointer (some ⟨g2, 0, none⟩))) rfl)).cons (hF146.get (t := 1) (v := (.int .i64 n)) rfl)).cons (hF146.get (t := 0) (v := (.agg #[(.slice A d.sectors.length c), (.slice B d.pending.length e), (.int .i64 d.left), (.bool d.stopped)])) rfl))
    clear hF146
    refine wp_seq_k (fun K148 hK148 => ?_)
    refine wp_region_lit ?_
    have b149 : Blk w141 g2 25 [(.slice A d.sectors.length c), (.slice B d.pending.length e), (.int .i64 d.left), (.bool d.stopped)] := (((b110.ext hx123).ext hx136).grownN hg143 (by omega))
    refine wpl_op (i := 0) rfl (o_val (v := (.agg #[(.slice A d.sectors.length c), (.slice B d.pending.length e), (.int .i64 d.left), (.bool d.stopped)])) hF147 rfl rfl rfl rfl (rn_loadBlk (hF147.get rfl) b149 Try.underlying25 rfl (by kernel_rfl : (Try.prog.info? 25).map (·.size) = some 4)) ?_)
    intro a150 hF151; clear hF147
    refine wpl_op (i := 1) rfl (o_val (v := (.int .i64 n)) hF151 rfl rfl rfl rfl (rn_move (hF151.get rfl)) ?_)
    intro a152 hF153; clear hF151
    have d154 := (hd.pres (((((((((((((Pres.refl w).ext hx5).ext hx15).ext hx28).ext hx47).ext hx60).grownN hg67 (fun h => by simp only [Clip, Fr, Old] at h; omega)).ext hx84).ext hx97).grownN hg104 (fun h => by simp only [Clip, Fr, Old] at h; omega)).ext hx123).ext hx136).grownN hg143 (fun h => by simp only [Clip, Fr, Old] at h; omega)))
    refine wpl_op (i := 2) rfl (o_call hF153 rfl rfl rfl rfl (rn_call (args2 (hF153.get rfl) (hF153.get rfl)) rfl (by kernel_rfl)) (rstop_any (S := (Old w)) _ d _ _ d154) ?_)
    rintro _ w161 ⟨v160, rfl, hd159, hx162⟩
    obtain ⟨A155, c156, B157, e158, rfl, -, -⟩ := hd159.form
    have hd159 := hd159.clip
    refine ⟨_, rfl, ?_⟩; intro a163 hF164; clear hF153; have z165 := hx162.size
    refine wpl_op (i := 3) rfl (o_val (v := (.tuple #[(.agg #[(.slice A155 (((d.stop n).1).sectors.length) c156), (.slice B157 (((d.stop n).1).pending.length) e158), (.int .i64 (((d.stop n).1).left)), (.bool (((d.stop n).1).stopped))]), (.int .i64 ((d.stop n).2))])) hF164 rfl rfl rfl rfl (rn_move (hF164.get rfl)) ?_)
    intro a166 hF167; clear hF164
    refine wpl_op (i := 4) rfl (o_val (v := (.agg #[(.slice A155 (((d.stop n).1).sectors.length) c156), (.slice B157 (((d.stop n).1).pending.length) e158), (.int .i64 (((d.stop n).1).left)), (.bool (((d.stop n).1).stopped))])) hF167 rfl rfl rfl rfl (rn_extract (hF167.get rfl) rfl) ?_)
    intro a168 hF169; clear hF167
    refine wpl_op (i := 5) rfl (o_val (v := (.int .i64 ((d.stop n).2))) hF169 rfl rfl rfl rfl (rn_extract (hF169.get rfl) rfl) ?_)
    intro a170 hF171; clear hF169
    refine wpl_op (i := 6) rfl (o_new (fun g => (.pointer (some ⟨g, 0, none⟩))) [(.slice none 0 0), (.slice none 0 0), (.int .i64 0), (.bool false)] 25 hF171 rfl rfl rfl rfl (by kernel_rfl) ?_)
    intro g172 w173 a178 hF179 z176 z177 b174 hx175; clear hF171
    refine wpl_op (i := 7) rfl (o_store (cells := [(.slice A155 (((d.stop n).1).sectors.length) c156), (.slice B157 (((d.stop n).1).pending.length) e158), (.int .i64 (((d.stop n).1).left)), (.bool (((d.stop n).1).stopped))]) hF179 rfl rfl rfl rfl (hF179.get rfl) (hF179.get rfl) b174 (by kernel_rfl : (Try.prog.info? 25).map (·.size) = some 4) rfl (by simp [Value.oneCell']) ?_)
    intro w180 b181 hg182; have z183 := hg182.size
    refine wpl_op (i := 8) rfl (o_val (v := (.int .i64 ((d.stop n).2))) hF179 rfl rfl rfl rfl (rn_assign (hF179.get rfl)) ?_)
    intro a184 hF185; clear hF179
    refine wpList_nil ?_
    refine hK148 _ _ ?_
    clear hK148
    have hF186 := ((((((((((((((hF185.nil.cons (hF185.get (t := 12) (v := (.int .i64 ((d.stop n).2))) rfl)).cons (hF185.get (t := 11) (v := (.pointer (some ⟨g172, 0, none⟩))) rfl)).cons (hF185.get (t := 10) (v := (.int .i64 ((d.stop n).2))) rfl)).cons (hF185.get (t := 9) (v := (.pointer (some ⟨g133, 0, none⟩))) rfl)).cons (hF185.get (t := 8) (v := (.int .i64 d.sync.2)) rfl)).cons (hF185.get (t := 7) (v := (.pointer (some ⟨g94, 0, none⟩))) rfl)).cons (hF185.get (t := 6) (v := (.int .i64 d.sync.2)) rfl)).cons (hF185.get (t := 5) (v := (.pointer (some ⟨g57, 0, none⟩))) rfl)).cons (hF185.get (t := 17) (v := (.bool (!d.few))) rfl)).cons (hF185.get (t := 14) (v := (.bool false)) rfl)).cons (hF185.get (t := 4) (v := (.bool false)) rfl)).cons (hF185.get (t := 2) (v := (.pointer (some ⟨g2, 0, none⟩))) rfl)).cons (hF185.get (t := 1) (v := (.int .i64 n)) rfl)).cons (hF185.get (t := 0) (v := (.agg #[(.slice A d.sectors.length c), (.slice B d.pending.length e), (.int .i64 d.left), (.bool d.stopped)])) rfl))
    clear hF185
    refine wp_seq_k (fun K187 hK187 => ?_)
    refine wp_region_lit ?_
    have b188 : Blk w180 g57 25 [(.slice A40 d.sync.1.sectors.length c41), (.slice B42 d.sync.1.pending.length e43), (.int .i64 d.sync.1.left), (.bool d.sync.1.stopped)] := (((((((((b66.ext hx84).ext hx97).grownN hg104 (by omega)).ext hx123).ext hx136).grownN hg143 (by omega)).ext hx162).ext hx175).grownN hg182 (by omega))
    refine wpl_op (i := 0) rfl (o_val (v := (.agg #[(.slice A40 d.sync.1.sectors.length c41), (.slice B42 d.sync.1.pending.length e43), (.int .i64 d.sync.1.left), (.bool d.sync.1.stopped)])) hF186 rfl rfl rfl rfl (rn_loadBlk (hF186.get rfl) b188 Try.underlying25 rfl (by kernel_rfl : (Try.prog.info? 25).map (·.size) = some 4)) ?_)
    intro a189 hF190; clear hF186
    have b191 : Blk w180 g94 25 [(.slice A77 d.sync.1.sectors.length c78), (.slice B79 d.sync.1.pending.length e80), (.int .i64 d.sync.1.left), (.bool d.sync.1.stopped)] := ((((((b103.ext hx123).ext hx136).grownN hg143 (by omega)).ext hx162).ext hx175).grownN hg182 (by omega))
    refine wpl_op (i := 1) rfl (o_val (v := (.agg #[(.slice A77 d.sync.1.sectors.length c78), (.slice B79 d.sync.1.pending.length e80), (.int .i64 d.sync.1.left), (.bool d.sync.1.stopped)])) hF190 rfl rfl rfl rfl (rn_loadBlk (hF190.get rfl) b191 Try.underlying25 rfl (by kernel_rfl : (Try.prog.info? 25).map (·.size) = some 4)) ?_)
    intro a192 hF193; clear hF190
    have d194 := (hd44.pres ((((((((((((Pres.refl w46).ext hx60).grownN hg67 (fun h => by simp only [Clip, Fr, Old] at h; omega)).ext hx84).ext hx97).grownN hg104 (fun h => by simp only [Clip, Fr, Old] at h; omega)).ext hx123).ext hx136).grownN hg143 (fun h => by simp only [Clip, Fr, Old] at h; omega)).ext hx162).ext hx175).grownN hg182 (fun h => by simp only [Clip, Fr, Old] at h; omega)))
    have d195 := (hd81.pres (((((((((Pres.refl w83).ext hx97).grownN hg104 (fun h => by simp only [Clip, Fr, Old] at h; omega)).ext hx123).ext hx136).grownN hg143 (fun h => by simp only [Clip, Fr, Old] at h; omega)).ext hx162).ext hx175).grownN hg182 (fun h => by simp only [Clip, Fr, Old] at h; omega)))
    refine wpl_op (i := 2) rfl (o_call hF193 rfl rfl rfl rfl (rn_call (args2 (hF193.get rfl) (hF193.get rfl)) rfl (by kernel_rfl)) (same_any (S := fun _ => True) _ _ d.sync.1 d.sync.1 _ d194.all d195.all) ?_)
    rintro _ w196 ⟨rfl, hx197⟩
    refine ⟨_, rfl, ?_⟩; intro a198 hF199; clear hF193; have z200 := hx197.size
    refine wpl_op (i := 3) rfl (o_val (v := (.bool (d.sync.1.same d.sync.1))) hF199 rfl rfl rfl rfl (rn_move (hF199.get rfl)) ?_)
    intro a201 hF202; clear hF199
    refine wpl_op (i := 4) rfl (o_val (v := (.int .i64 d.sync.2)) hF202 rfl (wanted_guard rfl rfl rfl hF202 rfl (same_self _) rfl) rfl rfl (rn_move (hF202.get rfl)) ?_)
    intro a203 hF204; clear hF202
    refine wpl_op (i := 5) rfl (o_val (v := (.int .i64 d.sync.2)) hF204 rfl (wanted_guard rfl rfl rfl hF204 rfl (same_self _) rfl) rfl rfl (rn_move (hF204.get rfl)) ?_)
    intro a205 hF206; clear hF204
    refine wpl_op (i := 6) rfl (o_val (v := (.bool (decide ((d.sync.2 : Int) = (d.sync.2 : Int))))) hF206 rfl (wanted_guard rfl rfl rfl hF206 rfl (same_self _) rfl) rfl rfl (rn_eql (hF206.get rfl) (hF206.get rfl)) ?_)
    intro a207 hF208; clear hF206
    refine wpl_op (i := 7) rfl (o_val (v := (.bool (decide ((d.sync.2 : Int) = (d.sync.2 : Int))))) hF208 rfl rfl rfl rfl (rn_pickT (c_true hF208 rfl (same_self _)) (hF208.get rfl)) ?_)
    intro a209 hF210; clear hF208
    refine wpl_op (i := 8) rfl (o_val (v := (.bool (decide ((d.sync.2 : Int) = (d.sync.2 : Int))))) hF210 rfl rfl rfl rfl (rn_move (hF210.get rfl)) ?_)
    intro a211 hF212; clear hF210
    have b214 : Blk w196 g133 25 [(.slice A116 (((d.stop n).1).sectors.length) c117), (.slice B118 (((d.stop n).1).pending.length) e119), (.int .i64 (((d.stop n).1).left)), (.bool (((d.stop n).1).stopped))] := ((((b142.ext hx162).ext hx175).grownN hg182 (by omega)).ext hx197)
    refine wpl_op (i := 9) rfl (o_val (v := (.agg #[(.slice A116 (((d.stop n).1).sectors.length) c117), (.slice B118 (((d.stop n).1).pending.length) e119), (.int .i64 (((d.stop n).1).left)), (.bool (((d.stop n).1).stopped))])) hF212 rfl (wanted_guard rfl rfl rfl hF212 rfl ((decide_eq_true rfl) : decide ((d.sync.2 : Int) = (d.sync.2 : Int)) = true) rfl) rfl rfl (rn_loadBlk (hF212.get rfl) b214 Try.underlying25 rfl (by kernel_rfl : (Try.prog.info? 25).map (·.size) = some 4)) ?_)
    intro a215 hF216; clear hF212
    have b217 : Blk w196 g172 25 [(.slice A155 (((d.stop n).1).sectors.length) c156), (.slice B157 (((d.stop n).1).pending.length) e158), (.int .i64 (((d.stop n).1).left)), (.bool (((d.stop n).1).stopped))] := (b181.ext hx197)
    refine wpl_op (i := 10) rfl (o_val (v := (.agg #[(.slice A155 (((d.stop n).1).sectors.length) c156), (.slice B157 (((d.stop n).1).pending.length) e158), (.int .i64 (((d.stop n).1).left)), (.bool (((d.stop n).1).stopped))])) hF216 rfl (wanted_guard rfl rfl rfl hF216 rfl ((decide_eq_true rfl) : decide ((d.sync.2 : Int) = (d.sync.2 : Int)) = true) rfl) rfl rfl (rn_loadBlk (hF216.get rfl) b217 Try.underlying25 rfl (by kernel_rfl : (Try.prog.info? 25).map (·.size) = some 4)) ?_)
    intro a218 hF219; clear hF216
    have d220 := (hd120.pres (((((((Pres.refl w122).ext hx136).grownN hg143 (fun h => by simp only [Clip, Fr, Old] at h; omega)).ext hx162).ext hx175).grownN hg182 (fun h => by simp only [Clip, Fr, Old] at h; omega)).ext hx197))
    have d221 := (hd159.pres ((((Pres.refl w161).ext hx175).grownN hg182 (fun h => by simp only [Clip, Fr, Old] at h; omega)).ext hx197))
    refine wpl_op (i := 11) rfl (o_call hF219 rfl (wanted_guard rfl rfl rfl hF219 rfl ((decide_eq_true rfl) : decide ((d.sync.2 : Int) = (d.sync.2 : Int)) = true) rfl) rfl rfl (rn_call (args2 (hF219.get rfl) (hF219.get rfl)) rfl (by kernel_rfl)) (same_any (S := fun _ => True) _ _ ((d.stop n).1) ((d.stop n).1) _ d220.all d221.all) ?_)
    rintro _ w222 ⟨rfl, hx223⟩
    refine ⟨_, rfl, ?_⟩; intro a224 hF225; clear hF219; have z226 := hx223.size
    refine wpl_op (i := 12) rfl (o_val (v := (.bool (((d.stop n).1).same ((d.stop n).1)))) hF225 rfl rfl rfl rfl (rn_pickT (c_true hF225 rfl ((decide_eq_true rfl) : decide ((d.sync.2 : Int) = (d.sync.2 : Int)) = true)) (hF225.get rfl)) ?_)
    intro a227 hF228; clear hF225
    refine wpl_op (i := 13) rfl (o_val (v := (.bool (((d.stop n).1).same ((d.stop n).1)))) hF228 rfl rfl rfl rfl (rn_move (hF228.get rfl)) ?_)
    intro a229 hF230; clear hF228
    refine wpl_op (i := 14) rfl (o_val (v := (.int .i64 ((d.stop n).2))) hF230 rfl (wanted_guard rfl rfl rfl hF230 rfl (same_self _) rfl) rfl rfl (rn_move (hF230.get rfl)) ?_)
    intro a231 hF232; clear hF230
    refine wpl_op (i := 15) rfl (o_val (v := (.int .i64 ((d.stop n).2))) hF232 rfl (wanted_guard rfl rfl rfl hF232 rfl (same_self _) rfl) rfl rfl (rn_move (hF232.get rfl)) ?_)
    intro a233 hF234; clear hF232
    refine wpl_op (i := 16) rfl (o_val (v := (.bool (decide (((d.stop n).2 : Int) = ((d.stop n).2 : Int))))) hF234 rfl (wanted_guard rfl rfl rfl hF234 rfl (same_self _) rfl) rfl rfl (rn_eql (hF234.get rfl) (hF234.get rfl)) ?_)
    intro a235 hF236; clear hF234
    refine wpl_op (i := 17) rfl (o_val (v := (.bool (decide (((d.stop n).2 : Int) = ((d.stop n).2 : Int))))) hF236 rfl rfl rfl rfl (rn_pickT (c_true hF236 rfl (same_self _)) (hF236.get rfl)) ?_)
    intro a237 hF238; clear hF236
    refine wpl_op (i := 18) rfl (o_val (v := (.bool (decide (((d.stop n).2 : Int) = ((d.stop n).2 : Int))))) hF238 rfl rfl rfl rfl (rn_assign (hF238.get rfl)) ?_)
    intro a239 hF240; clear hF238
    refine wpList_nil ?_
    refine hK187 _ _ ?_
    clear hK187
    have hF241 := ((((((((((((((hF240.nil.cons (hF240.get (t := 12) (v := (.int .i64 ((d.stop n).2))) rfl)).cons (hF240.get (t := 11) (v := (.pointer (some ⟨g172, 0, none⟩))) rfl)).cons (hF240.get (t := 10) (v := (.int .i64 ((d.stop n).2))) rfl)).cons (hF240.get (t := 9) (v := (.pointer (some ⟨g133, 0, none⟩))) rfl)).cons (hF240.get (t := 8) (v := (.int .i64 d.sync.2)) rfl)).cons (hF240.get (t := 7) (v := (.pointer (some ⟨g94, 0, none⟩))) rfl)).cons (hF240.get (t := 6) (v := (.int .i64 d.sync.2)) rfl)).cons (hF240.get (t := 5) (v := (.pointer (some ⟨g57, 0, none⟩))) rfl)).cons (hF240.get (t := 17) (v := (.bool (!d.few))) rfl)).cons (hF240.get (t := 14) (v := (.bool false)) rfl)).cons (hF240.get (t := 4) (v := (.bool (decide (((d.stop n).2 : Int) = ((d.stop n).2 : Int))))) rfl)).cons (hF240.get (t := 2) (v := (.pointer (some ⟨g2, 0, none⟩))) rfl)).cons (hF240.get (t := 1) (v := (.int .i64 n)) rfl)).cons (hF240.get (t := 0) (v := (.agg #[(.slice A d.sectors.length c), (.slice B d.pending.length e), (.int .i64 d.left), (.bool d.stopped)])) rfl))
    clear hF240
    refine wp_ret ?_
    refine ret1 hF241 rfl rfl ?_
    exact ⟨congrArg (fun b => Ending.returned (.bool b)) ((decide_eq_true rfl) : decide (((d.stop n).2 : Int) = ((d.stop n).2 : Int)) = true), ((((((((((((((((((Ext.refl w).trans hx5).trans hx15).trans hx28).trans hx47).trans hx60).grownN hg67 (by omega)).trans hx84).trans hx97).grownN hg104 (by omega)).trans hx123).trans hx136).grownN hg143 (by omega)).trans hx162).trans hx175).grownN hg182 (by omega)).trans hx197).trans hx223)⟩
  · skip
    refine wp_cond_true (c_true hF33 rfl (not_f hc34)) ?_
    refine wp_seq_k (fun K242 hK242 => ?_)
    refine wp_region_lit ?_
    refine wpl_op (i := 0) rfl (o_val (v := (.bool true)) hF33 rfl rfl rfl rfl (rn_assign rfl) ?_)
    intro a243 hF244; clear hF33
    refine wpList_nil ?_
    refine hK242 _ _ ?_
    clear hK242
    refine wp_ret ?_
    refine ret1 hF244 rfl rfl ?_
    exact ⟨congrArg (fun b => Ending.returned (.bool b)) (rfl : true = true), ((((Ext.refl w).trans hx5).trans hx15).trans hx28)⟩

end Go.Proofs.Ytklhgghlkidfjaa
