/- Contract of disk.Sync where the disk stops. -/
import Derived.Test.YtklhgghlkidfjaaDiskF
import Derived.Deep.DeepCutAuto
namespace Go.Proofs.Ytklhgghlkidfjaa
open Go.RowKit

variable {S S' : Nat → Prop}

theorem RWs.take {w : World} {A : Option Addr} {n cap : Nat} {l : List (Int × List UInt8)} (h : RWs S w (.slice A n cap) l) {m c : Nat} (hm : m ≤ n) (hc : m ≤ c) (hc2 : c ≤ 9223372036854775807) : RWs S w (.slice A m c) (l.take m) := RSl.take h hm hc hc2

theorem perform_len (l : List (Int × List UInt8)) : ∀ (ss : List (List UInt8)), (∀ x ∈ ss, x.length = 128) → (∀ x ∈ l, x.2.length = 128) → ∀ x ∈ performL ss l, x.length = 128 := by
  induction l with
  | nil => intro ss h _ x hx; exact h x hx
  | cons y l ih =>
    intro ss h h2 x hx
    refine ih (ss.set y.1.toNat y.2) (fun z hz => ?_) (fun z hz => h2 z (List.mem_cons_of_mem _ hz)) x hx
    rcases List.mem_or_eq_of_mem_set hz with hz | hz
    · exact h z hz
    · rw [hz]; exact h2 y (List.mem_cons_self ..)

theorem row_at {w w3 : World} {base g n cap : Nat} {e : TypeId} {vs : List Value} {ps : List (List UInt8)} (ho : w3.ownsRow base e 1 (.slice (some ⟨g, 0, none⟩) n cap) n vs)
    (hr : ∀ i (h : i < ps.length) (h' : i < vs.length), RBs S w vs[i] ps[i]) (hp : ps.length = n) {at_ : Nat} (h : at_ < n) :
    ∃ A c old, ps[at_]? = some old ∧ w3.cell? ⟨g, at_, none⟩ = some (.slice A old.length c) ∧ w3.frozen? ⟨g, at_, none⟩ = false ∧ RBs S w (.slice A old.length c) old ∧ old.length ≤ c ∧ c ≤ 9223372036854775807 := by
  have hv : vs.length = n := by have := ho.1; omega
  have h1 := hr at_ (by omega) (by omega)
  obtain ⟨A, c, hf, h2, h3⟩ := h1.form
  refine ⟨A, c, ps[at_], List.getElem?_eq_getElem (by omega), ?_, ho.frozenAt at_, ?_, h2, h3⟩
  · rw [ho.cellAt at_ (by omega), List.getElem?_eq_getElem (by omega), hf]
  · rw [← hf]; exact h1

theorem copy_src {w : World} {A : Option Addr} {cs : List Value} (h : ∃ ad, A = some ad) (hp : ∀ j v, cs[j]? = some v → ∃ ad, A = some ad ∧ w.cell? (ad.add j) = some v) : ∃ ad, A = some ad ∧ ∀ j v, cs[j]? = some v → w.cell? (ad.add j) = some v := by
  obtain ⟨ad, ha⟩ := h
  refine ⟨ad, ha, fun j v hv => ?_⟩
  obtain ⟨ad', ha', h⟩ := hp j v hv
  rw [ha] at ha'
  injection ha' with ha'
  rw [ha']; exact h

theorem torn_vals {cur : List Value} {data old : List UInt8} {c : Nat} (hct : cur.take (128 * 1) = byteVals old) (hd : data.length = 128) (ho : old.length = 128) (hc : cur.length = c * 1) (hcc : 128 ≤ c) :
    (splice cur 0 (byteVals (data.take 64))).take (128 * 1) = byteVals (torn data old) := by
  have h64 : (byteVals (data.take 64)).length = 64 := by simp [byteVals]; omega
  unfold splice
  rw [List.take_zero, List.nil_append, h64, List.take_append, h64, List.take_of_length_le (by omega)]
  have : List.take (128 * 1 - 64) (List.drop (0 + 64) cur) = (cur.take (128 * 1)).drop 64 := by rw [List.drop_take]
  rw [this, hct]
  simp [torn, byteVals]

theorem stop_fin {w w' : World} {base g n cap : Nat} {vs : List Value} {ps : List (List UInt8)} {at_ g4 cap4 : Nat} {cur : List Value} {data old : List UInt8} {e e4 : TypeId}
    (ho : w'.ownsRow base e 1 (.slice (some ⟨g, 0, none⟩) n cap) n (vs.set at_ (.slice (some ⟨g4, 0, none⟩) 128 cap4)))
    (hr : ∀ i (h : i < ps.length) (h' : i < vs.length), RBs S w vs[i] ps[i]) (hx : Ext w w') (hp : ps.length = n)
    (hg : Blk w' g4 e4 (splice cur 0 (byteVals (data.take 64)))) (hct : cur.take (128 * 1) = byteVals old) (hc : 128 ≤ cap4) (hm : cap4 ≤ 9223372036854775807) (hd : data.length = 128) (hol : old.length = 128)
    (hcur : cur.length = cap4 * 1) (hgw : w.heap.size ≤ g4) (hbw : w.heap.size ≤ base) : RBss (Fr S w) w' (.slice (some ⟨g, 0, none⟩) n cap) (ps.set at_ (torn data old)) := by
  have hv : vs.length = n := by have := ho.1; simp at this; omega
  have htl : (torn data old).length = 128 := by simp [torn]; omega
  have hdata : RBs (Fr S w) w' (.slice (some ⟨g4, 0, none⟩) 128 cap4) (torn data old) := by
    have := own_of_blk (n := 128) (cap := cap4) (k := 1) hg hc hm (by rw [length_splice _ _ _ (by simp [byteVals]; omega)]; exact hcur) (Nat.le_refl _)
    rw [torn_vals hct hd hol hcur hc] at this
    exact RBs.own this (fun b h => .inr (Nat.le_trans hgw h))
  refine RSl.own ho (fun b h => .inr (Nat.le_trans hbw h)) (by simp [hp]) (fun u hu => ?_) (fun i hi => ?_)
  · rcases List.mem_or_eq_of_mem_set hu with h | h
    · obtain ⟨i, hi, rfl⟩ := List.getElem_of_mem h
      obtain ⟨A, c, hf, _⟩ := (hr i (by omega) hi).form
      rw [hf]; rfl
    · rw [h]; rfl
  · simp at hi
    rw [chunk_one (by simp; omega)]
    refine ⟨_, rfl, ?_⟩
    rw [List.getElem_set, List.getElem_set]
    split
    · exact hdata
    · exact ((hr i hi (by omega)).ext hx).up

set_option maxHeartbeats 2000000 in
theorem sync_stop (v : Value) (d : Dk) (w : World) (k : Nat) (hd : RDk S w v d) (h1 : d.runs = true) (h2 : d.left = k) (h3 : k < d.pending.length) :
    Calls Try.prog 23 #[v] w (RDE S w (d.syncStop k d.pending[k]) 380) := by
  obtain ⟨A, c, B, e, rfl, q1, q2⟩ := hd.form
  obtain ⟨f1, f2, f3, f4, f5, f6, f7, f8⟩ := runs_facts h1
  have HD := Lib.hid hd
  have H1 := Lib.hid h1
  have HS := Lib.hid q1
  have HP := Lib.hid q2
  have H7 := Lib.hid f7
  have H8 := Lib.hid f8
  obtain ⟨hqa, hqb⟩ := q2.at.2.1
  obtain ⟨bp, offp, rfl, hbp, hcp⟩ := q2.at.2.2 (by omega)
  obtain ⟨x, c1, c2, hx⟩ := hcp k h3
  obtain ⟨x1, x2, x3⟩ := f7 _ (List.getElem_mem h3)
  obtain ⟨at_, hat⟩ : ∃ at_ : Nat, d.pending[k].1 = at_ := ⟨d.pending[k].1.toNat, by omega⟩
  obtain ⟨data, hdata⟩ : ∃ data, d.pending[k].2 = data := ⟨_, rfl⟩
  rw [hat] at c1 x1 x2
  rw [hdata] at hx x3
  obtain ⟨Ax, cx, rfl, hcx, hmx⟩ := hx.form
  have HX := Lib.hid hx
  have HAT := Lib.hid hat
  have HDA := Lib.hid hdata
  have C1 := Lib.hid c1
  have C2 := Lib.hid c2
  rw [h2] at *
  have H2 := Lib.hid h2
  have X3 := Lib.hid x3
  clear hd h1 h2 q1 q2 f7 f8 f6 hcp hx hat hdata c1 c2 x3
  go_enter Try.func23, Try.ntmps23
  go_wp2_with fail
  (with_reducible refine (runs_any _ d _ (HD.out.ext (((Ext.refl _).alloc _).alloc _))).mono ?_)
  rintro e1 w1 ⟨rfl, hx1⟩
  have B0 := Lib.hid (((Blk.new w w.heap.size _ _ rfl).alloc _).ext hx1)
  have B1 := Lib.hid ((Blk.new _ (w.heap.size + 1) _ _ (by simp)).ext hx1)
  have HX1 := Lib.hid ((((Ext.refl w).alloc _).alloc _).trans hx1)
  have r1 : w.heap.size ≤ w.heap.size + 1 := Nat.le_succ _
  clear hx1
  obtain ⟨k0, z0⟩ := B0.out.rule
  obtain ⟨k1, z1⟩ := B1.out.rule
  rw [H1.out]
  go_wp2_with fail
  (with_reducible refine (perform_any _ _ d.sectors (d.pending.take k) w _ HX1.out HS.out (HP.out.take (Nat.le_of_lt h3) (Nat.le_refl _) (by omega)) (by omega) (by rw [List.length_take]; omega) (fun i hi => by
    have hm : (d.pending.take k)[i] ∈ d.pending := List.mem_of_mem_take (List.getElem_mem hi)
    have := H7.out _ hm; omega)).mono ?_)
  rintro e2 w2 ⟨v2, vs, rfl, hown, hr, hx2⟩
  have hpl : (performL d.sectors (d.pending.take k)).length = d.sectors.length := performL_length _ _
  obtain ⟨ps, hps⟩ : ∃ ps, performL d.sectors (d.pending.take k) = ps := ⟨_, rfl⟩
  rw [hps] at hown hr hpl
  have HPS := Lib.hid hps
  rw [hpl] at hown
  obtain ⟨g, cap2, rfl, hg1, hg2, hc2, hm2⟩ := own_form hown (by omega)
  have hvl : vs.length = d.sectors.length := by have := hown.1; omega
  have HPL := Lib.hid hpl
  have HVL := Lib.hid hvl
  have C0 := Lib.hid (B0.out.ext hx2)
  have D1 := Lib.hid (B1.out.ext hx2)
  have HX2 := Lib.hid (HX1.out.trans hx2)
  have g1 := B1.out.lt
  have HO := Lib.hid hown
  have HR := Lib.hid hr
  clear k0 z0 k1 z1 hown hr hx2 hps hpl hvl B0 B1
  obtain ⟨k0, z0⟩ := C0.out.rule
  obtain ⟨k1, z1⟩ := D1.out.rule
  have hlt1 := D1.out.lt
  have e1 := HX2.out.keep C1.out
  have e2 := HX2.out.keep C2.out
  go_upto_region 7 with (fail)
  obtain ⟨w3, e3, E1, hg3⟩ := set4 D1.out (.slice (some ⟨g, 0, none⟩) d.sectors.length cap2) (.slice none 0 0) (.int .i64 0) (.bool true)
  rw [e3]
  have F0 := Lib.hid (C0.out.grownN hg3 (by omega))
  have F1 := Lib.hid E1
  have HX3 := Lib.hid (HX2.out.grownN hg3 r1)
  have HO3 := Lib.hid (own_grownN HO.out hg3 g1)
  have hz3 := hg3.size
  clear k0 z0 k1 z1 e1 e2 e3 E1 hg3 HX2 C0 D1 HO
  obtain ⟨k0, z0⟩ := F0.out.rule
  obtain ⟨k1, z1⟩ := F1.out.rule
  have e1 := HX3.out.keep C1.out
  have e2 := HX3.out.keep C2.out
  have hlt1 := F1.out.lt
  obtain ⟨Ay, cy, old, hold, q1, q2, hrat, hcy, hmy⟩ := row_at HO3.out HR.out HPL.out (at_ := at_) (by omega)
  have HOLD := Lib.hid hold
  have hll : old.length = 128 := by
    rw [← HPS.out] at hold
    exact perform_len _ _ (fun x hx => H8.out x hx) (fun x hx => (H7.out x (List.mem_of_mem_take hx)).2.2) _ (List.mem_of_getElem? hold)
  rw [hll] at q1 hrat hcy
  have HLL := Lib.hid hll
  have HRAT := Lib.hid hrat
  clear hrat hold hll
  have hgl : g < w3.heap.size := by omega
  go_wp2_with fail
  obtain ⟨-, -, hcel⟩ := HRAT.out.vals
  (with_reducible refine (cloneB_any _ _ _ (byteVals old) _ (hcel.ext (HX3.out.alloc _)) (by omega)).mono ?_)
  rintro e4 w4 ⟨v4, rfl, hown4, hx4⟩
  obtain ⟨g4, cap4, rfl, hg41, hg42, hc4, hm4⟩ := own_form hown4 (by omega)
  have G0 := Lib.hid ((F0.out.alloc _).ext hx4)
  have G1 := Lib.hid ((F1.out.alloc _).ext hx4)
  have G2 := Lib.hid ((Blk.new w3 w3.heap.size _ _ rfl).ext hx4)
  have HX4 := Lib.hid ((HX3.out.alloc _).trans hx4)
  have HO4 := Lib.hid (own_ext (HO3.out.alloc _) hx4)
  have HN4 := Lib.hid hown4
  simp only [World.size_alloc] at hg41
  clear k0 z0 k1 z1 e1 e2 q1 q2 hown4 hx4 hcel F0 F1 HX3 HO3
  obtain ⟨k0, z0⟩ := G0.out.rule
  obtain ⟨k1, z1⟩ := G1.out.rule
  obtain ⟨k2, z2⟩ := G2.out.rule
  have h64 : (0 : Int) ≤ 64 ∧ (64 : Int) ≤ (cap4 : Int) := by omega
  obtain ⟨cur4, hcur4, hcl4, hct4⟩ := own_blk HN4.out
  have HCUR := Lib.hid hcur4
  have HCT := Lib.hid hct4
  obtain ⟨-, -, hdc⟩ := (HX.out.ext HX4.out).vals
  have hd128 := X3.out
  have hs1 : ((Try.prog.info? 5).map (·.size)) = some 1 := by kernel_rfl
  have HCS : Hid ((byteVals (data.take 64)).length = Nat.min data.length 64) := by show _ = _; rw [hd128]; simp [byteVals, hd128]
  have HPOS : Hid (∀ j v, (byteVals (data.take 64))[j]? = some v → ∃ ad, Ax = some ad ∧ w4.drew.cell? (ad.add j) = some v) := by
    intro j v hv
    obtain ⟨b, off, ha, hb, hx⟩ := hdc.2.2 (by omega)
    refine ⟨_, ha, ?_⟩
    rw [addr_add]
    refine hx j v ?_
    simp only [byteVals, List.map_take, List.getElem?_take] at hv
    split at hv
    · exact hv
    · cases hv
  have HAX : Hid (∃ ad, Ax = some ad) := by
    obtain ⟨b, off, ha, _⟩ := hdc.2.2 (by omega)
    exact ⟨_, ha⟩
  have HLE : Hid (0 + (byteVals (data.take 64)).length ≤ cur4.length) := by show _ ≤ _; rw [hcl4]; simp [byteVals]; omega
  have HBW : Hid (Below (w3.heap.size + 1) w4 w4.drew) := (Below.refl _ _).drew
  have HCL := Lib.hid hcl4
  clear hdc hd128 hcur4 hct4 hcl4
  go_wp2_with fail
  go_region_law (refine step_copy_splice rfl (.tmp 50) (.tmp 52) 35 35 rfl 5 Try.underlying35 hs1 _ _ _ _ _ _ rfl rfl g4 0 cur4 5 HCUR.out (byteVals (data.take 64)) HCS.out (fun _ => ⟨rfl, copy_src HAX.out HPOS.out⟩) HLE.out (byteVals_one _) (w3.heap.size + 1) w4 HBW.out hg41 ?_; intro w5 HG5 hb5)
  have hz0 := G0.out.lt
  have hz1 := G1.out.lt
  have hz2 := G2.out.lt
  have I0 := Lib.hid (G0.out.below hb5 (by omega))
  have I1 := Lib.hid (G1.out.below hb5 (by omega))
  have I2 := Lib.hid (G2.out.below hb5 (by omega))
  have HX5 := Lib.hid (HX4.out.belowN hb5 (by omega))
  have HO5 := Lib.hid (own_below HO4.out hb5 (by omega))
  have hz5 := hb5.size
  clear k0 z0 k1 z1 k2 z2 G0 G1 G2 HX4 HO4 hb5
  obtain ⟨k0, z0⟩ := I0.out.rule
  obtain ⟨k1, z1⟩ := I1.out.rule
  obtain ⟨k2, z2⟩ := I2.out.rule
  obtain ⟨Az, cz, old', hold', q1, q2, -, -, -⟩ := row_at HO5.out HR.out HPL.out (at_ := at_) (by omega)
  clear hold'
  have hgne : g ≠ w.heap.size + 1 := by omega
  go_upto_region 11 with (fail)
  obtain ⟨hown6, hg6⟩ := HO5.out.stored at_ (.slice (some ⟨g4, 0, none⟩) 128 cap4)
  obtain ⟨w6, e6⟩ : ∃ w6, w5.setCell ⟨g, at_, none⟩ (.slice (some ⟨g4, 0, none⟩) 128 cap4) = w6 := ⟨_, rfl⟩
  rw [e6] at hown6 hg6
  rw [e6]
  have J1 := Lib.hid (I1.out.grownN hg6 (by omega))
  have HX6 := Lib.hid (HX5.out.grownN hg6 (by omega))
  have HG6 := Lib.hid (Blk.grownN HG5.out hg6 (by omega))
  have HO6 := Lib.hid hown6
  clear k0 z0 k1 z1 k2 z2 q1 q2 e6 hown6 hg6 I0 I1 I2 HX5 HG5 HO5
  obtain ⟨k1, z1⟩ := J1.out.rule
  go_wp2
  obtain ⟨w7, e7, L1, hg7⟩ := set4 J1.out (.slice (some ⟨g, 0, none⟩) d.sectors.length cap2) (.slice none 0 0) (.int .i64 0) (.bool true)
  rw [e7]
  obtain ⟨k2, z2⟩ := L1.rule
  refine bodyPost_ret (v := .tuple #[.agg #[.slice (some ⟨g, 0, none⟩) d.sectors.length cap2, .slice none 0 0, .int .i64 0, .bool true], .int .i64 380]) (by simp [results, Try.results23, go_sem, k2, z2]) rfl ?_
  have HX7 := HX6.out.grownN hg7 r1
  refine ⟨_, rfl, ?_, HX7⟩
  unfold Dk.syncStop
  rw [HPS.out, HAT.out, HDA.out, Int.toNat_natCast, List.getD_eq_getElem?_getD, HOLD.out, Option.getD_some]
  exact RDk.mk (stop_fin (own_grownN HO6.out hg7 g1) HR.out HX7 HPL.out (Blk.grownN HG6.out hg7 (by omega)) HCT.out hc4 hm4 X3.out HLL.out HCL.out (by omega) (by omega)) (RSl.nil _)

theorem sync_any (v : Value) (d : Dk) (w : World) (hd : RDk S w v d) : Calls Try.prog 23 #[v] w (RDE S w d.sync.1 d.sync.2) := by
  unfold Dk.sync
  cases hr : d.runs
  · simp only [if_true]
    exact sync_bad v d w hd hr
  · simp only [Bool.true_eq_false, if_false]
    by_cases hl : 0 ≤ d.left ∧ d.left < d.pending.length
    · rw [if_pos hl]
      have hk : d.left.toNat < d.pending.length := by omega
      rw [List.getD_eq_getElem?_getD, List.getElem?_eq_getElem hk, Option.getD_some]
      exact sync_stop v d w d.left.toNat hd hr (by omega) hk
    · rw [if_neg hl]
      exact sync_ok v d w hd hr (by omega)

end Go.Proofs.Ytklhgghlkidfjaa
