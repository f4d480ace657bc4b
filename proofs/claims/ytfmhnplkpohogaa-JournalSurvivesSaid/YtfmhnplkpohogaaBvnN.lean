/- Several texts in one: JrS1, JrS2. -/
import Derived.Test.YtfmhnplkpohogaaBvnL
set_option linter.unusedVariables false
set_option linter.unusedSimpArgs false
namespace Go.Proofs.Ytfmhnplkpohogaa
open Go.RowKit

def newD (n : Nat) : Dk := ⟨List.replicate n (List.replicate 128 0), [], -1, false⟩
theorem new_n {n : Nat} (h1 : 1 ≤ n) (h2 : n ≤ 4096) : Dk.new (n : Nat) = (newD n, 0) := by
  unfold Dk.new
  rw [if_neg (by omega), Int.toNat_natCast]; rfl
theorem zero_bad : goodS (List.replicate 128 0) 0 = false := by kernel_rfl
theorem zero_gen : gen (List.replicate 128 0) = 0 ∧ gen2 (List.replicate 128 0) = 0 := ⟨by kernel_rfl, by kernel_rfl⟩
theorem st_new {n : Nat} (h1 : 1 ≤ n) (h2 : n ≤ 4096) : St n (newD n) [] 0 := by
  refine ⟨runs_of (by show 1 ≤ (List.replicate n _).length; rw [List.length_replicate]; exact h1) (by show (List.replicate n _).length ≤ 4096; rw [List.length_replicate]; exact h2) (by show (0 : Nat) ≤ _; omega) (by show (-1 : Int) ≤ -1; omega) (by show (-1 : Int) ≤ _; omega) rfl (fun x hx => by cases hx) (fun x hx => by rw [List.eq_of_mem_replicate hx, List.length_replicate]), rfl, List.length_replicate, ?_, ?_⟩
  · obtain ⟨m, rfl⟩ : ∃ m, n = m + 1 := ⟨n - 1, by omega⟩
    show recsOf (List.replicate (m + 1) (List.replicate 128 0)) = []
    rw [recsOf_at, List.replicate_succ]
    refine recsAt_none ?_
    rw [recFrom, if_neg]
    rw [zero_bad]; simp
  · refine maxG_le fun x hx => ?_
    rw [List.eq_of_mem_replicate hx, zero_gen.1, zero_gen.2]; omega
section
variable {n G : Nat} {d : Dk} {R R' : List (List UInt8)} {s : Int}
theorem St.same {d' : Dk} (h : St n d R G) (hs : d'.sectors = d.sectors) (hp : d'.pending = []) (hst : d'.stopped = false) (h1 : -1 ≤ d'.left) (h2 : d'.left ≤ 65536) : St n d' R G := by
  obtain ⟨f1, f2, f3, f4, f5, f6, f7, f8⟩ := runs_facts h.run
  exact ⟨runs_of (by rw [hs]; exact f1) (by rw [hs]; exact f2) (by rw [hp]; exact Nat.zero_le _) h1 h2 hst (fun x hx => by rw [hp] at hx; cases hx) (by rw [hs]; exact f8), hp, by rw [hs]; exact h.sect, by rw [hs]; exact h.rcs, by rw [hs]; exact h.gn⟩
theorem St.restart (h : St n d R G) : St n d.restart R G := h.same rfl rfl rfl (by show (-1 : Int) ≤ -1; omega) (by show (-1 : Int) ≤ _; omega)
theorem St.stop (h : St n d R G) {l : Int} (h1 : 0 ≤ l) (h2 : l ≤ 65536) : d.stop l = (⟨d.sectors, d.pending, l, d.stopped⟩, 0) ∧ St n ⟨d.sectors, d.pending, l, d.stopped⟩ R G := by
  refine ⟨?_, h.same rfl h.pend (runs_facts h.run).2.2.2.2.2.1 (by show -1 ≤ l; omega) h2⟩
  unfold Dk.stop
  rw [h.run, if_neg (by decide), if_neg (by omega)]
theorem gen_torn {s t : List UInt8} (hs : s.length = 128) : gen (torn s t) = gen s := by
  unfold gen torn
  rw [List.take_append_of_le_length (by rw [List.length_take]; omega), List.take_take]
  rfl
theorem gen2_torn {s t : List UInt8} (hs : s.length = 128) : gen2 (torn s t) = gen2 t := by
  unfold gen2 torn
  rw [List.drop_append, List.length_take, List.drop_eq_nil_of_le (by rw [List.length_take]; omega), List.nil_append, List.drop_drop]
  congr 2
  omega
theorem St.breaks (h : St n d R G) (hG : G + 1 < 4294967296) (hs : s = (R.length : Nat)) (hR : R'.take R.length = R) (hf : usedL R' ≤ n) (h0 : 0 ≤ d.left) (hl : d.left < ((usedL (R'.drop R.length) : Nat) : Int)) :
    ∃ d' R3, (Lg.mk (n : Nat) R' s).sync d = (Lg.zero, d', 380) ∧ St n d'.restart R3 (G + 1) ∧ R3 = R'.take R3.length ∧ R.length ≤ R3.length ∧ R3.length ≤ R'.length := by
  have hg := h.goes hG hs hR hf
  have hn := h.nb
  have hst : s.toNat = R.length := by omega
  have hrl := congrArg List.length hR
  rw [List.length_take] at hrl
  have hu : usedL (Lg.mk (n : Nat) R' s).recs < 9223372036854775808 := by show usedL R' < _; omega
  have hat : (Lg.mk (n : Nat) R' s).at = usedL R := by show usedL (R'.take s.toNat) = _; rw [hst, hR]
  have hdl : (Lg.mk (n : Nat) R' s).recs.drop (Lg.mk (n : Nat) R' s).synced.toNat = R'.drop R.length := by show R'.drop s.toNat = _; rw [hst]
  have h6 : s ≠ (R'.length : Nat) := fun e => by
    rw [List.drop_eq_nil_of_le (by omega)] at hl
    rw [usedL_nil] at hl
    omega
  obtain ⟨x, t, r, hx, ht, hr, hsy⟩ := sync_torn hg hu h0 (by rw [hdl]; exact hl)
  have hx2 := List.mem_of_getElem? hx
  have hfit := wr_fit hg hu
  rw [secs_len, hdl] at hfit
  have hsl := secs_len (l := Lg.mk (n : Nat) R' s) (d := d)
  rw [hdl] at hsl
  have h8 := (runs_facts h.run).2.2.2.2.2.2.2
  have htk : R'.take s.toNat = R := by rw [hst]; exact hR
  have hrec := recs_torn (r := r) hg (j := d.left.toNat) (by rw [hdl]; omega) hx ht
  rw [hdl] at hrec
  have htk' : (Lg.mk (n : Nat) R' s).recs.take (Lg.mk (n : Nat) R' s).synced.toNat = R := htk
  rw [htk'] at hrec
  have hel := ended_le d.left.toNat (R'.drop R.length)
  rw [List.length_drop] at hel
  refine ⟨_, R ++ (R'.drop R.length).take (ended d.left.toNat (R'.drop R.length)), (sync_7 hg h6 (by rw [hsy]; show (380 : Int) ≠ 0; decide)).trans (by rw [hsy]), ?_, ?_, ?_, ?_⟩
  · have hse := h.sect
    have hlen : (d.sectors.take (Lg.mk (n : Nat) R' s).at ++ (((Lg.mk (n : Nat) R' s).secs d).take d.left.toNat ++ torn x t :: r)).length = n := by
      rw [List.length_append, List.length_append, List.length_cons, List.length_take, List.length_take, hr, List.length_drop]; omega
    have hxl := secs_128 x hx2
    have htl := h8 t ht
    have hm : ∀ y ∈ (d.sectors.take (Lg.mk (n : Nat) R' s).at ++ (((Lg.mk (n : Nat) R' s).secs d).take d.left.toNat ++ torn x t :: r)), y.length = 128 ∧ gen y ≤ G + 1 ∧ gen2 y ≤ G + 1 := fun y hy => by
      have hgn := h.gn
      have hold : ∀ z ∈ d.sectors, z.length = 128 ∧ gen z ≤ G + 1 ∧ gen2 z ≤ G + 1 := fun z hz => ⟨h8 z hz, by have := (le_maxG z hz).1; omega, by have := (le_maxG z hz).2; omega⟩
      rcases List.mem_append.1 hy with hy | hy
      · exact hold y (List.mem_of_mem_take hy)
      · rcases List.mem_append.1 hy with hy | hy
        · have hy2 := List.mem_of_mem_take hy
          have := secs_gens hg y hy2
          exact ⟨secs_128 y hy2, by omega, by omega⟩
        · rcases List.mem_cons.1 hy with rfl | hy
          · have h1 := secs_gens hg x hx2
            have h2 := (hold t ht).2.2
            exact ⟨by unfold torn; rw [List.length_append, List.length_take, List.length_drop]; omega, by rw [gen_torn hxl]; omega, by rw [gen2_torn hxl]; exact h2⟩
          · rw [hr] at hy
            exact hold y (List.mem_of_mem_drop hy)
    refine ⟨runs_of (Nat.le_trans hn.1 (Nat.le_of_eq hlen.symm)) (Nat.le_trans (Nat.le_of_eq hlen) hn.2) (by show (0 : Nat) ≤ _; omega) (by show (-1 : Int) ≤ -1; omega) (by show (-1 : Int) ≤ _; omega) rfl (fun x hx => by cases hx) (fun y hy => (hm y hy).1), rfl, hlen, hrec, maxG_le fun y hy => (hm y hy).2⟩
  · rw [List.length_append, List.length_take, List.length_drop, Nat.min_eq_left hel, List.take_add, hR]
  · rw [List.length_append]; omega
  · rw [List.length_append, List.length_take, List.length_drop]; omega
end

end Go.Proofs.Ytfmhnplkpohogaa

namespace Go.Proofs.Ytfmhnplkpohogaa
open Go.RowKit

variable {S S' : Nat → Prop}

structure Cr where
  recs : List (List UInt8)
  stop : Bool
  left : UInt8
def RCr (S : Nat → Prop) (w : World) (cs : List Value) (x : Cr) : Prop := ∃ v, cs = [v, .bool x.stop, .int .u8 (x.left.toNat : Nat)] ∧ RBss S w v x.recs
def RCrs (S : Nat → Prop) (w : World) (v : Value) (l : List Cr) : Prop := RSl S 3 (RCr S) w v l
theorem RCr.keep {w w' : World} {cs : List Value} {x : Cr} (h : RCr S w cs x) (hz : w.heap.size ≤ w'.heap.size) (hk : ∀ b, S b → b < w.heap.size → w'.heap[b]? = w.heap[b]?) : RCr S w' cs x := by
  obtain ⟨v, hv, h⟩ := h
  exact ⟨v, hv, h.keep hz hk⟩
theorem RCrs.ext {w w' : World} {v : Value} {l : List Cr} (h : RCrs S w v l) (he : Ext w w') : RCrs S w' v l := RSl.keep h he.size (fun b _ hlt => he.below.block b hlt) fun _ _ h => h.keep he.size fun b _ hlt => he.below.block b hlt
theorem RCrs.pres {w w' : World} {v : Value} {l : List Cr} (h : RCrs S w v l) (hp : Pres S w w') : RCrs S w' v l := RSl.keep h hp.1 hp.2 fun _ _ h => h.keep hp.1 hp.2
theorem RCrs.get {w : World} {A : Option Addr} {n cap : Nat} {l : List Cr} (h : RCrs S w (.slice A n cap) l) {i : Nat} {x : Cr} (hi : l[i]? = some x) :
    ∃ b off A' c', A = some ⟨b, off, none⟩ ∧ b < w.heap.size ∧ w.cell? ⟨b, off + i * 3, none⟩ = some (.slice A' x.recs.length c') ∧ w.cell? ⟨b, off + i * 3 + 1, none⟩ = some (.bool x.stop) ∧ w.cell? ⟨b, off + i * 3 + 2, none⟩ = some (.int .u8 (x.left.toNat : Nat)) ∧ RBss S w (.slice A' x.recs.length c') x.recs := by
  obtain ⟨hl, rfl⟩ := List.getElem?_eq_some_iff.1 hi
  obtain ⟨hn, _, hx⟩ := RSl.elem h
  obtain ⟨b, off, ha, hb, hc⟩ := hx (by omega)
  obtain ⟨cs, _, hcs, v, rfl, hr⟩ := hc i hl
  obtain ⟨A', c', rfl, _, _⟩ := hr.form
  exact ⟨b, off, A', c', ha, hb, by simpa using hcs 0 _ rfl, by simpa using hcs 1 _ rfl, by simpa using hcs 2 _ rfl, hr⟩
theorem RCrs.clip {w : World} {v : Value} {l : List Cr} (h : RCrs S w v l) (hs : ∀ b, S b → b < w.heap.size) : RCrs (Clip S w) w v l := RSl.sub h (fun b hb => ⟨hb, hs b hb⟩) fun _ _ ⟨v, hv, h⟩ => ⟨v, hv, h.sub fun b hb => ⟨hb, hs b hb⟩⟩
theorem mod30 (x : UInt8) : 1 ≤ (x % 30).toNat + 1 ∧ (x % 30).toNat + 1 ≤ 30 := by
  rw [UInt8.toNat_mod, show (30 : UInt8).toNat = 30 from rfl]
  omega
theorem mod40 (x : UInt8) : (x % 40).toNat ≤ 39 := by
  rw [UInt8.toNat_mod, show (40 : UInt8).toNat = 40 from rfl]
  omega

end Go.Proofs.Ytfmhnplkpohogaa
