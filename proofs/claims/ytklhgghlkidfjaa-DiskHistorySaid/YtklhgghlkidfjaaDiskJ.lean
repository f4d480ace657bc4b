/- Contract of disk.Read. -/
import Derived.Test.YtklhgghlkidfjaaDiskI
namespace Go.Proofs.Ytklhgghlkidfjaa
open Go.RowKit Go.Shelf

variable {S S' : Nat → Prop}

attribute [local go_sem] Oper.semAt_some

/-- returned bytes and a number. -/
def RBE (S : Nat → Prop) (w : World) (l : List UInt8) (n : Int) (e : Ending) (w' : World) : Prop := ∃ v, e = .returned (.tuple #[v, .int .i64 n]) ∧ RBs S w' v l ∧ Ext w w'

def Dk.look (d : Dk) (at_ : Int) : List UInt8 := match d.pending.reverse.find? (fun x => x.1 == at_) with | some x => x.2 | none => d.sectors.getD at_.toNat []
def Dk.read (d : Dk) (at_ : Int) : List UInt8 × Int := if (d.runs && d.has at_) = false then ([], 380) else (d.look at_, 0)

theorem look_hit {d : Dk} {at_ : Int} {i : Nat} (hi : i < d.pending.length) (h1 : d.pending[i].1 = at_) (h2 : ∀ j (hj : j < d.pending.length), i < j → d.pending[j].1 ≠ at_) : d.look at_ = d.pending[i].2 := by
  unfold Dk.look
  have hs : d.pending = d.pending.take i ++ (d.pending[i] :: d.pending.drop (i + 1)) := by rw [← List.drop_eq_getElem_cons hi, List.take_append_drop]
  have hf : d.pending.reverse.find? (fun x => x.1 == at_) = some d.pending[i] := by
    rw [show d.pending.reverse = (d.pending.drop (i + 1)).reverse ++ (d.pending[i] :: (d.pending.take i).reverse) from by rw [congrArg List.reverse hs, List.reverse_append, List.reverse_cons, List.append_assoc]; rfl]
    rw [List.find?_append, List.find?_eq_none.2]
    · simp [h1]
    · intro x hx
      rw [List.mem_reverse] at hx
      obtain ⟨j, hj, rfl⟩ := List.getElem_of_mem hx
      rw [List.getElem_drop]
      simp only [beq_iff_eq]
      exact h2 _ _ (by omega)
  rw [hf]

theorem look_miss {d : Dk} {at_ : Int} (h2 : ∀ j (hj : j < d.pending.length), d.pending[j].1 ≠ at_) : d.look at_ = d.sectors.getD at_.toNat [] := by
  unfold Dk.look
  rw [List.find?_eq_none.2]
  intro x hx
  rw [List.mem_reverse] at hx
  obtain ⟨j, hj, rfl⟩ := List.getElem_of_mem hx
  simp only [beq_iff_eq]
  exact h2 _ _

/-- The elements as they lie in memory. -/
theorem its {w : World} {A : Option Addr} {n cap : Nat} {l : List (Int × List UInt8)} (h : RWs S w (.slice A n cap) l) :
    ∃ f : Nat → It, (∀ j, (f j).i = j) ∧ (∀ j (hj : j < l.length), (f j).at_ = l[j].1 ∧ RBs S w (.slice (f j).a (f j).n (f j).c) l[j].2) ∧
      (0 < n → ∃ b off, A = some ⟨b, off, none⟩ ∧ b < w.heap.size ∧ ∀ j, j < n → w.cell? ⟨b, off + j * 2, none⟩ = some (.int .i64 (f j).at_) ∧ w.cell? ⟨b, off + j * 2 + 1, none⟩ = some (.slice (f j).a (f j).n (f j).c)) := by
  obtain ⟨hn, _, hx⟩ := h.at
  rcases Nat.eq_zero_or_pos n with h0 | h0
  · refine ⟨fun j => ⟨j, 0, none, 0, 0⟩, fun _ => rfl, fun j hj => by omega, fun h => by omega⟩
  · obtain ⟨b, off, ha, hb, hc⟩ := hx h0
    have hex : ∀ j : Nat, ∃ x : It, x.i = j ∧ ∀ hj : j < l.length, x.at_ = l[j].1 ∧ RBs S w (.slice x.a x.n x.c) l[j].2 ∧ w.cell? ⟨b, off + j * 2, none⟩ = some (.int .i64 x.at_) ∧ w.cell? ⟨b, off + j * 2 + 1, none⟩ = some (.slice x.a x.n x.c) := by
      intro j
      by_cases hj : j < l.length
      · obtain ⟨v, c1, c2, c3⟩ := hc j hj
        obtain ⟨A', cap', rfl, _⟩ := c3.form
        exact ⟨⟨j, l[j].1, A', l[j].2.length, cap'⟩, rfl, fun _ => ⟨rfl, c3, c1, c2⟩⟩
      · exact ⟨⟨j, 0, none, 0, 0⟩, rfl, fun h => absurd h hj⟩
    obtain ⟨f, hf⟩ := Classical.axiomOfChoice hex
    exact ⟨f, fun j => (hf j).1, fun j hj => ⟨((hf j).2 hj).1, ((hf j).2 hj).2.1⟩, fun _ => ⟨b, off, ha, hb, fun j hj => ((hf j).2 (by omega)).2.2⟩⟩

theorem blk_own {β : Type} (n : Nat) (t : TypeId) (cs : List Value) : Own (fun (_ : β) W => Blk W n t cs) := fun _ X Y row hs hg hrow =>
  hs.grown hg (fun e => by obtain ⟨o, ho, hc⟩ := hrow n e.symm; rw [show X.heap[n]? = _ from hs] at ho; cases ho; cases hc)

def readAct (w : World) (A B : Option Addr) (d : Dk) (c e : Nat) (at_ : Int) (Bq Bx : Nat) (x : It) : Act :=
  { tmps := #[.agg #[.slice A d.sectors.length c, .slice B d.pending.length e, .int .i64 d.left, .bool d.stopped], .int .i64 at_, .pointer (some ⟨w.heap.size, 0, none⟩), .pointer (some ⟨w.heap.size + 1, 0, none⟩), .pointer (some ⟨w.heap.size + 1 + 1, 0, none⟩),
      .pointer (some ⟨w.heap.size + 1 + 1 + 1, 0, none⟩), undef, .pointer (some ⟨Bx, 0, none⟩), .agg #[.slice A d.sectors.length c, .slice B d.pending.length e, .int .i64 d.left, .bool d.stopped], .bool true, .bool false, .bool false,
      .agg #[.slice A d.sectors.length c, .slice B d.pending.length e, .int .i64 d.left, .bool d.stopped], .int .i64 at_, .bool true, .bool false, .bool false, .pointer (some ⟨w.heap.size, 1, none⟩), .slice B d.pending.length e,
      .func (.func 45) #[] #[.pointer (some ⟨Bq, 0, none⟩)], .int .i64 x.i, .agg #[.int .i64 x.at_, .slice x.a x.n x.c], undef, undef, undef, undef, undef, undef, undef, undef, undef, undef, undef], defers := [] }

set_option maxRecDepth 100000 in
set_option maxHeartbeats 4000000 in
theorem read_ok (v : Value) (d : Dk) (at_ : Int) (w : World) (hd : RDk S w v d) (h1 : d.runs = true) (h2 : d.has at_ = true) :
    Calls Try.prog 21 #[v, .int .i64 at_] w (RBE S w (d.look at_) 0) := by
  obtain ⟨A, c, B, e, rfl, q1, q2⟩ := hd.form
  obtain ⟨f1, f2, f3, f4, f5, f6, f7, f8⟩ := runs_facts h1
  have HD := Lib.hid hd
  have HS := Lib.hid q1
  have HP := Lib.hid q2
  have H1 := Lib.hid h1
  have H2 := Lib.hid h2
  clear hd q1 q2 h1 h2 f6 f7 f8
  refine (callsIn_wide (n := 4)).1 ?_
  refine callsIn_of_wp_marks Try.func21 rfl trivial ?_ rfl
  simp only [Try.ntmps21, List.size_toArray, List.length_cons, List.length_nil, Nat.reduceAdd, Nat.reduceSub, Array.replicate_succ, Array.replicate_zero, List.push_toArray, List.append_toArray, List.nil_append, List.cons_append]
  gi_wp2_with fail
  refine ⟨trivial, ?_⟩
  (with_reducible refine (callsIn_wide.2 (runs_any _ d _ (HD.out.ext (((((Ext.refl _).alloc _).alloc _).alloc _).alloc _)))).mono ?_)
  rintro e1 w1 ⟨rfl, hx1⟩
  have B0 := Lib.hid (((((Blk.new w w.heap.size _ _ rfl).alloc _).alloc _).alloc _).ext hx1)
  have B1 := Lib.hid ((((Blk.new _ (w.heap.size + 1) _ _ (by simp)).alloc _).alloc _).ext hx1)
  have B2 := Lib.hid (((Blk.new _ (w.heap.size + 1 + 1) _ _ (by simp)).alloc _).ext hx1)
  have B3 := Lib.hid ((Blk.new _ (w.heap.size + 1 + 1 + 1) _ _ (by simp)).ext hx1)
  have HX1 := Lib.hid ((((((Ext.refl w).alloc _).alloc _).alloc _).alloc _).trans hx1)
  clear hx1
  obtain ⟨k0, z0⟩ := B0.out.rule
  obtain ⟨k1, z1⟩ := B1.out.rule
  rw [H1.out]
  gi_wp2_with fail
  refine ⟨trivial, ?_⟩
  (with_reducible refine (callsIn_wide.2 (has_any _ d _ _ (HD.out.ext HX1.out))).mono ?_)
  rintro e2 w2 ⟨rfl, hx2⟩
  have C0 := Lib.hid (B0.out.ext hx2)
  have C1 := Lib.hid (B1.out.ext hx2)
  have C2 := Lib.hid (B2.out.ext hx2)
  have C3 := Lib.hid (B3.out.ext hx2)
  have HX2 := Lib.hid (HX1.out.trans hx2)
  clear hx2 k0 z0 k1 z1 B0 B1 B2 B3 HX1
  obtain ⟨k0, z0⟩ := C0.out.rule
  rw [H2.out]
  gi_wp2_with fail
  refine ⟨trivial, ?_⟩
  have hfn : Fence.wide.fn 39 := trivial
  (with_reducible refine (back_in Fence.wide _ hfn rfl _ B d.pending.length e rfl _).mono ?_)
  rintro e3 w3 ⟨rfl, rfl⟩
  gi_wp2_with fail
  obtain ⟨f, hfi, hfr, hfc⟩ := its HP.out
  have hB0 : Ext w (w2.alloc (.cells #[.slice B d.pending.length e] 23)) := HX2.out.alloc _
  have D0 := C0.out.alloc (.cells #[.slice B d.pending.length e] 23)
  have D1 := C1.out.alloc (.cells #[.slice B d.pending.length e] 23)
  have D2 := C2.out.alloc (.cells #[.slice B d.pending.length e] 23)
  have D3 := C3.out.alloc (.cells #[.slice B d.pending.length e] 23)
  have D4 := Blk.new w2 w2.heap.size 23 [.slice B d.pending.length e] rfl
  obtain ⟨W0, hW0⟩ : ∃ W0, w2.alloc (.cells #[.slice B d.pending.length e] 23) = W0 := ⟨_, rfl⟩
  have hz : W0.heap.size = w2.heap.size + 1 := by rw [← hW0]; simp
  have hx02 : Ext w2 W0 := by rw [← hW0]; exact (Ext.refl _).alloc _
  rw [show [Value.slice B d.pending.length e].toArray = #[Value.slice B d.pending.length e] from rfl] at D4
  rw [hW0] at hB0 D0 D1 D2 D3 D4 ⊢
  have hlt3 := C3.out.lt
  clear k0 z0 hW0
  refine wpIn_rangeFunc_ownH rfl (by omega) (gf := 45) (lb := #[.pointer (some ⟨w2.heap.size, 0, none⟩)]) rfl trivial (enters_of Try.func45 (by kernel_rfl) rfl)
    (back_stops Fence.wide 3 trivial rfl (by omega) w2.heap.size W0.heap.size d.pending.length e B f hfi (by omega) W0 (by omega) (Nat.le_refl _) (by rw [D4.rule.1]; rfl) (fun h => by
      obtain ⟨b, off, ha, hb, hx⟩ := hfc h
      exact ⟨b, off, ha, Nat.lt_of_lt_of_le hb hB0.size, fun j hj => ⟨hB0.keep (hx j hj).1, hB0.keep (hx j hj).2⟩⟩))
    belowK_t (belowK_b (Nat.le_refl _)) (Below.refl _ _) (fun _ => rfl)
    (fun pre W => ((((∀ x ∈ pre, x.at_ ≠ at_) ∧ Blk W (w.heap.size + 1) 3 [.int .i64 at_]) ∧ Blk W (w.heap.size + 1 + 1) 35 [.slice none 0 0]) ∧ Blk W (w.heap.size + 1 + 1 + 1) 28 [.int .i64 0] ∧ Blk W w.heap.size 25 [.slice A d.sectors.length c, .slice B d.pending.length e, .int .i64 d.left, .bool d.stopped]) ∧ Below w.heap.size w W ∧ W0.heap.size ≤ W.heap.size)
    (fun cc pre W => (∃ pre' x, (cc = .ret ∧ pre = pre' ++ [x] ∧ (∀ y ∈ pre', y.at_ ≠ at_) ∧ x.at_ = at_) ∧ Blk W (w.heap.size + 1 + 1) 35 [.slice x.a x.n x.c] ∧ Blk W (w.heap.size + 1 + 1 + 1) 28 [.int .i64 0]) ∧ Below w.heap.size w W)
    (OwnFrom.and (OwnFrom.and (OwnFrom.and (OwnFrom.and (ownFrom_pure _ _) (Own.from (blk_own _ _ _) _)) (Own.from (blk_own _ _ _) _)) (OwnFrom.and (Own.from (blk_own _ _ _) _) (Own.from (blk_own _ _ _) _))) (OwnFrom.and (ownFrom_below (Nat.le_refl _) (by omega)) (fun _ _ _ _ hs hg _ => Nat.le_trans hs hg.size)))
    (fun cc => OwnFrom.and (fun s X Y row hs hg hr => by
      obtain ⟨pre', x, h1, h2, h3⟩ := hs
      exact ⟨pre', x, h1, Own.from (blk_own _ _ _) _ s X Y row h2 hg hr, Own.from (blk_own _ _ _) _ s X Y row h3 hg hr⟩) (ownFrom_below (Nat.le_refl _) (by omega)))
    ⟨⟨⟨⟨by simp, D1⟩, D2⟩, D3, D0⟩, hB0, Nat.le_refl _⟩
    (fun x a' W => ∃ Bx, W0.heap.size ≤ Bx ∧ Blk W Bx 54 [.int .i64 x.at_, .slice x.a x.n x.c] ∧ a' = readAct w A B d c e at_ w2.heap.size Bx x)
    (fun x a' s X Y row hs hg hr => by obtain ⟨Bx, e1, e2, e3⟩ := hs; exact ⟨Bx, e1, Own.from (blk_own (β := Unit) _ _ _) _ s X Y row e2 hg hr, e3⟩)
    ?assign ?body ?done ?stop
  case assign =>
    rintro l pre x W K hI hK
    have hBW := hI.2.1
    have hsz : W0.heap.size ≤ W.heap.size := hI.2.2
    gi_wp2
    exact hK _ _ ((KeepsOthers.alloc _ _).from _) ((Below.refl _ W).alloc hsz _) ⟨⟨⟨⟨hI.1.1.1.1, hI.1.1.1.2.alloc _⟩, hI.1.1.2.alloc _⟩, hI.1.2.1.alloc _, hI.1.2.2.alloc _⟩, hBW.alloc hBW.size _, by simp; omega⟩ ⟨W.heap.size, hsz, Blk.new W _ _ _ rfl, rfl⟩
  case body =>
    rintro l pre x a' W hl hr ⟨⟨⟨⟨hp, I1⟩, I2⟩, I3, I0⟩, hBW, hsz⟩ ⟨Bx, hBx, bX, rfl⟩ hlt
    unfold readAct
    obtain ⟨k1, z1⟩ := I1.rule
    obtain ⟨k2, z2⟩ := I2.rule
    obtain ⟨k3, z3⟩ := I3.rule
    obtain ⟨kx, zx⟩ := bX.rule
    cases hq : (x.at_ == at_)
    · gi_wp2
      exact ⟨KeepsFrom.refl _ _, Below.refl _ _, ⟨⟨⟨fun y hy => (List.mem_append.1 hy).elim (hp y) (fun hy => by
        simp at hy; subst hy; simpa using hq), I1⟩, I2⟩, I3, I0⟩, hBW, hsz⟩
    · gi_wp2
      exact ⟨((KeepsOthers.setCell _ _ _).trans (KeepsOthers.setCell _ _ _)).from _, ⟨pre, x, ⟨rfl, rfl, hp, by simpa using hq⟩, (I2.set 0 _).farC (by omega), (I3.farC (by omega)).set 0 _⟩, (hBW.setCell (p := ⟨w.heap.size + 1 + 1, 0, none⟩) (by show _ ≤ w.heap.size + 1 + 1; omega) _).setCell (p := ⟨w.heap.size + 1 + 1 + 1, 0, none⟩) (by show _ ≤ w.heap.size + 1 + 1 + 1; omega) _⟩
  case done =>
    rintro D ys W hD rfl ⟨⟨⟨⟨hp, I1⟩, I2⟩, I3, I0⟩, hBW, hsz⟩ hK
    obtain ⟨k0, z0⟩ := I0.rule
    obtain ⟨k1, z1⟩ := I1.rule
    obtain ⟨k2, z2⟩ := I2.rule
    obtain ⟨k3, z3⟩ := I3.rule
    have h2 := H2.out
    unfold Dk.has at h2
    simp only [Bool.and_eq_true, decide_eq_true_eq] at h2
    obtain ⟨n, rfl⟩ : ∃ n : Nat, at_ = n := ⟨at_.toNat, by omega⟩
    obtain ⟨sec, hsec⟩ : ∃ sec, d.sectors[n]? = some sec := ⟨d.sectors[n]'(by omega), List.getElem?_eq_getElem (by omega)⟩
    obtain ⟨b, off, Av, cv, rfl, hb, c1, hv, hcv, hmv⟩ := HS.out.get hsec
    have e1 := (hBW.cell (p := ⟨b, off + n, none⟩) hb).trans c1
    have HV := Lib.hid hv
    have HSEC := Lib.hid hsec
    have HP' := Lib.hid hp
    have hnl : n < d.sectors.length := by omega
    have HFR := Lib.hid hfr
    clear hv c1 h2 hp hsec hfr hfi hfc
    gi_wp2
    have J2 := (I2.set 0 (.slice Av sec.length cv)).farC (m := w.heap.size + 1 + 1 + 1) (i := 0) (u := .int .i64 0) (by omega)
    have J3 := (I3.farC (m := w.heap.size + 1 + 1) (i := 0) (u := .slice Av sec.length cv) (by omega)).set 0 (.int .i64 0)
    have hK' := ((KeepsOthers.setCell W ⟨w.heap.size + 1 + 1, 0, none⟩ (.slice Av sec.length cv)).trans (KeepsOthers.setCell _ ⟨w.heap.size + 1 + 1 + 1, 0, none⟩ (.int .i64 0))).same D _ hK rfl
    have hE : Below w.heap.size w ((W.setCell ⟨w.heap.size + 1 + 1, 0, none⟩ (.slice Av sec.length cv)).setCell ⟨w.heap.size + 1 + 1 + 1, 0, none⟩ (.int .i64 0)) :=
      (hBW.setCell (p := ⟨w.heap.size + 1 + 1, 0, none⟩) (by show _ ≤ w.heap.size + 1 + 1; omega) _).setCell (p := ⟨w.heap.size + 1 + 1 + 1, 0, none⟩) (by show _ ≤ w.heap.size + 1 + 1 + 1; omega) _
    have hE2 := hE.trans (belowK_b (w := w) (Nat.le_refl _) _ D _ (.deferred none) (by omega) hK' rfl rfl)
    refine ⟨by simp, .inl ⟨_, _, rfl, run_takeDeferred hK', ?_⟩⟩
    have L2 := (J2.grown (grownBy_putObj' _ D (.deferred none)) (fun e => by injection e; omega)).rule.1 0
    have L3 := (J3.grown (grownBy_putObj' _ D (.deferred none)) (fun e => by injection e; omega)).rule.1 0
    refine ⟨.tuple #[.slice Av sec.length cv, .int .i64 0], ?_, _, rfl, ?_, hE2⟩
    · simp [results, Try.f21, go_sem, L2, L3]
    · rw [look_miss (fun j hj => ?_), Int.toNat_natCast, List.getD_eq_getElem?_getD, HSEC.out, Option.getD_some]
      · exact HV.out.ext hE2
      · rw [← (HFR.out j hj).1]
        refine HP'.out _ ?_
        unfold bwd
        rw [List.mem_map]
        exact ⟨d.pending.length - 1 - j, List.mem_range.2 (by omega), by rw [show d.pending.length - 1 - (d.pending.length - 1 - j) = j from by omega]⟩
  case stop =>
    rintro D cc pre W hD ⟨k, hk, hpre⟩ ⟨⟨pre', x, ⟨rfl, hpx, hno, hxa⟩, I2, I3⟩, hBW⟩ hK
    have hkp : 1 ≤ k := by
      have := congrArg List.length (hpre.symm.trans hpx)
      rw [bwd_length] at this
      simp at this
      omega
    obtain ⟨k', rfl⟩ : ∃ k', k = k' + 1 := ⟨k - 1, by omega⟩
    rw [bwd_succ, hpx] at hpre
    obtain ⟨h3, h4⟩ := List.append_inj' hpre (by simp)
    simp at h4
    have hil : d.pending.length - 1 - k' < d.pending.length := by omega
    obtain ⟨g1, g2⟩ := hfr _ hil
    rw [← h4] at g1 g2
    have hlook := look_hit (d := d) (at_ := at_) hil (by rw [← g1]; exact hxa) (fun j hj hij => by
      rw [← (hfr j hj).1]
      refine hno _ ?_
      rw [h3]
      unfold bwd
      rw [List.mem_map]
      exact ⟨d.pending.length - 1 - j, List.mem_range.2 (by omega), by rw [show d.pending.length - 1 - (d.pending.length - 1 - j) = j from by omega]⟩)
    gi_wp2
    have hE2 := hBW.trans (belowK_b (w := w) (Nat.le_refl _) _ D _ (.deferred none) (by omega) hK rfl rfl)
    refine ⟨by simp, .inl ⟨_, _, rfl, run_takeDeferred hK, ?_⟩⟩
    have L2 := (I2.grown (grownBy_putObj' _ D (.deferred none)) (fun e => by injection e; omega)).rule.1 0
    have L3 := (I3.grown (grownBy_putObj' _ D (.deferred none)) (fun e => by injection e; omega)).rule.1 0
    refine ⟨.tuple #[.slice x.a x.n x.c, .int .i64 0], ?_, _, rfl, ?_, hE2⟩
    · simp [results, Try.f21, go_sem, L2, L3]
    · rw [hlook]
      exact g2.ext hE2

set_option maxHeartbeats 2000000 in
theorem read_bad (v : Value) (d : Dk) (at_ : Int) (w : World) (hd : RDk S w v d) (h : d.runs = false ∨ d.runs = true ∧ d.has at_ = false) :
    Calls Try.prog 21 #[v, .int .i64 at_] w (RBE S w [] 380) := by
  obtain ⟨A, c, B, e, rfl, q1, q2⟩ := hd.form
  have HD := Lib.hid hd
  have HH := Lib.hid h
  clear hd q1 q2 h
  go_enter Try.func21, Try.ntmps21
  go_wp2_with fail
  (with_reducible refine (runs_any _ d _ (HD.out.ext (((((Ext.refl _).alloc _).alloc _).alloc _).alloc _))).mono ?_)
  rintro e1 w1 ⟨rfl, hx1⟩
  have B0 := Lib.hid (((((Blk.new w w.heap.size _ _ rfl).alloc _).alloc _).alloc _).ext hx1)
  have B1 := Lib.hid ((((Blk.new _ (w.heap.size + 1) _ _ (by simp)).alloc _).alloc _).ext hx1)
  have B2 := Lib.hid (((Blk.new _ (w.heap.size + 1 + 1) _ _ (by simp)).alloc _).ext hx1)
  have B3 := Lib.hid ((Blk.new _ (w.heap.size + 1 + 1 + 1) _ _ (by simp)).ext hx1)
  have HX1 := Lib.hid ((((((Ext.refl w).alloc _).alloc _).alloc _).alloc _).trans hx1)
  have r2 : w.heap.size ≤ w.heap.size + 1 + 1 := by omega
  have r3 : w.heap.size ≤ w.heap.size + 1 + 1 + 1 := by omega
  clear hx1
  rcases HH.out with h | ⟨h, h'⟩
  · rw [h]
    clear h HH
    obtain ⟨k2, z2⟩ := B2.out.rule
    obtain ⟨k3, z3⟩ := B3.out.rule
    go_wp2
    refine bodyPost_ret (v := .tuple #[.slice none 0 0, .int .i64 380]) (by simp [results, Try.f21, go_sem, k2, z2, k3, z3]) rfl ?_
    exact ⟨_, rfl, RSl.nil _, (HX1.out.setC r2).setC r3⟩
  · rw [h]
    have H' := Lib.hid h'
    clear h HH h'
    obtain ⟨k0, z0⟩ := B0.out.rule
    obtain ⟨k1, z1⟩ := B1.out.rule
    go_wp2_with fail
    (with_reducible refine (has_any _ d _ _ (HD.out.ext HX1.out)).mono ?_)
    rintro e2 w2 ⟨rfl, hx2⟩
    have C2 := Lib.hid (B2.out.ext hx2)
    have C3 := Lib.hid (B3.out.ext hx2)
    have HX2 := Lib.hid (HX1.out.trans hx2)
    rw [H'.out]
    clear hx2 k0 z0 k1 z1 B0 B1 B2 B3 HX1 H'
    obtain ⟨k2, z2⟩ := C2.out.rule
    obtain ⟨k3, z3⟩ := C3.out.rule
    go_wp2
    refine bodyPost_ret (v := .tuple #[.slice none 0 0, .int .i64 380]) (by simp [results, Try.f21, go_sem, k2, z2, k3, z3]) rfl ?_
    exact ⟨_, rfl, RSl.nil _, (HX2.out.setC r2).setC r3⟩

theorem read_any (v : Value) (d : Dk) (at_ : Int) (w : World) (hd : RDk S w v d) : Calls Try.prog 21 #[v, .int .i64 at_] w (RBE S w (d.read at_).1 (d.read at_).2) := by
  unfold Dk.read
  cases hr : d.runs
  · simp only [Bool.false_and, if_true]
    exact read_bad v d at_ w hd (.inl hr)
  cases hh : d.has at_
  · simp only [Bool.and_false, if_true]
    exact read_bad v d at_ w hd (.inr ⟨hr, hh⟩)
  simp only [Bool.and_self, Bool.true_eq_false, if_false]
  exact read_ok v d at_ w hd hr hh

end Go.Proofs.Ytklhgghlkidfjaa
