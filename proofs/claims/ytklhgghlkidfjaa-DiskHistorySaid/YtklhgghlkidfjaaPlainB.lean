/- Plain law of DiskTogether. -/
import Derived.Test.YtklhgghlkidfjaaPlain
import Derived.Test.YtklhgghlkidfjaaWk3
namespace Go.Proofs.Ytklhgghlkidfjaa

def atOf (n : Nat) (a : Ac) : Int := ((a.at_.toNat : Nat) : Int) % (n : Int)
def wOf (n : Nat) (a : Ac) : Int × List UInt8 := (atOf n a, fill128 [a.byte])
def wsOf (n : Nat) (l : List Ac) : List (Int × List UInt8) := l.map (wOf n)
def Dk.st (d : Dk) (ws : List (Int × List UInt8)) (k : Nat) : Dk := ⟨performL d.sectors (ws.take k), [], if 0 ≤ d.left then d.left - k else d.left, false⟩
def Dk.wi (d : Dk) (ws : List (Int × List UInt8)) (k : Nat) : Dk := ⟨d.sectors, ws.take k, d.left, d.stopped⟩
def TogI (d : Dk) (l : List Ac) (k : Nat) (x : Dk) (ev : Int) : Prop :=
  (ev = 0 ∧ x = d.st (wsOf d.sectors.length l) k ∧ (0 ≤ d.left → k ≤ d.left)) ∨
  (ev = 380 ∧ x = (d.wi (wsOf d.sectors.length l) l.length).sync.1 ∧ (d.wi (wsOf d.sectors.length l) l.length).sync.2 = 380)

theorem ws_length (n : Nat) (l : List Ac) : (wsOf n l).length = l.length := by simp [wsOf]
theorem ws_get {n : Nat} {l : List Ac} {k : Nat} {x : Ac} (h : l[k]? = some x) : (wsOf n l)[k]? = some (wOf n x) := by simp [wsOf, h]
theorem ws_take {n : Nat} {l : List Ac} {k : Nat} {x : Ac} (h : l[k]? = some x) : (wsOf n l).take (k + 1) = (wsOf n l).take k ++ [wOf n x] := by
  rw [List.take_add_one, ws_get h]; rfl
theorem atOf_has {n : Nat} (h : 1 ≤ n) (a : Ac) : 0 ≤ atOf n a ∧ atOf n a < n := ⟨Int.emod_nonneg _ (by omega), Int.emod_lt_of_pos _ (by omega)⟩
theorem ws_ok {n : Nat} (h : 1 ≤ n) {l : List Ac} : ∀ x ∈ wsOf n l, 0 ≤ x.1 ∧ x.1 < n ∧ x.2.length = 128 := by
  intro x hx
  obtain ⟨a, _, rfl⟩ := List.mem_map.1 hx
  exact ⟨(atOf_has h a).1, (atOf_has h a).2, fill_len (by simp)⟩

theorem tog_init {d : Dk} (hr : d.runs = true) (hp : d.pending.length = 0) (l : List Ac) : TogI d l 0 d 0 := by
  obtain ⟨f1, f2, f3, f4, f5, f6, f7, f8⟩ := runs_facts hr
  refine .inl ⟨rfl, ?_, fun h => by simpa using h⟩
  have hp' : d.pending = [] := List.eq_nil_of_length_eq_zero hp
  cases d
  simp only [Dk.st, List.take_zero, performL, List.foldl_nil] at *
  simp_all

theorem st_runs {d : Dk} (hr : d.runs = true) {l : List Ac} {k : Nat} (hk : 0 ≤ d.left → k ≤ d.left) : (d.st (wsOf d.sectors.length l) k).runs = true := by
  obtain ⟨f1, f2, f3, f4, f5, f6, f7, f8⟩ := runs_facts hr
  have hl : (d.st (wsOf d.sectors.length l) k).sectors.length = d.sectors.length := performL_length _ _
  refine runs_of (by omega) (by omega) (Nat.zero_le _) ?_ ?_ rfl (fun x hx => absurd hx (by simp [Dk.st])) ?_
  · unfold Dk.st; dsimp only; split
    · have := hk (by assumption); omega
    · omega
  · unfold Dk.st; dsimp only; split <;> omega
  · exact perform_len _ _ f8 (fun x hx => (ws_ok f1 x (List.mem_of_mem_take hx)).2.2)

theorem tog_write {d : Dk} (hr : d.runs = true) {l : List Ac} {k : Nat} {xd : Dk} {x : Ac} (h : TogI d l k xd 0) (_ : l[k]? = some x) :
    xd.write (atOf d.sectors.length x) [x.byte] = (⟨xd.sectors, [wOf d.sectors.length x], xd.left, false⟩, 0) ∧ (Dk.mk xd.sectors [wOf d.sectors.length x] xd.left false).runs = true ∧ xd = d.st (wsOf d.sectors.length l) k ∧ (0 ≤ d.left → k ≤ d.left) := by
  obtain ⟨f1, f2, f3, f4, f5, f6, f7, f8⟩ := runs_facts hr
  rcases h with ⟨_, h1, h2⟩ | ⟨h, _, _⟩
  · have hrx : xd.runs = true := h1 ▸ st_runs hr h2
    have hsl : xd.sectors.length = d.sectors.length := by rw [h1]; exact performL_length _ _
    have hh : xd.has (atOf d.sectors.length x) = true := has_iff.2 (by rw [hsl]; exact atOf_has f1 x)
    have hp : xd.pending = [] := by rw [h1]; rfl
    have hs : xd.stopped = false := by rw [h1]; rfl
    have hw := write_good (b := [x.byte]) hrx hh (by simp) (by rw [hp]; simp)
    have ha := add_runs (b := [x.byte]) hrx hh (by simp) (by rw [hp]; simp)
    rw [hp, hs] at hw ha
    exact ⟨hw, ha, h1, h2⟩
  · cases h

theorem tog_w0 {d : Dk} (hr : d.runs = true) {l : List Ac} {k : Nat} {xd : Dk} {x : Ac} (h : TogI d l k xd 0) (hx : l[k]? = some x) : (xd.write (atOf d.sectors.length x) [x.byte]).2 = 0 := by rw [(tog_write hr h hx).1]

theorem tog_step {d : Dk} (hr : d.runs = true) {l : List Ac} {k : Nat} {xd : Dk} {x : Ac} (h : TogI d l k xd 0) (hx : l[k]? = some x) (hl20 : l.length ≤ 4096) :
    TogI d l (k + 1) (xd.write (atOf d.sectors.length x) [x.byte]).1.sync.1 (xd.write (atOf d.sectors.length x) [x.byte]).1.sync.2 := by
  obtain ⟨f1, f2, f3, f4, f5, f6, f7, f8⟩ := runs_facts hr
  obtain ⟨hw, ha, h1, h2⟩ := tog_write hr h hx
  have hkl : k < l.length := by rw [List.getElem?_eq_some_iff] at hx; exact hx.1
  rw [hw]
  have hxl : xd.left = if 0 ≤ d.left then d.left - k else d.left := by rw [h1]; rfl
  have hxs : xd.sectors = performL d.sectors ((wsOf d.sectors.length l).take k) := by rw [h1]; rfl
  by_cases hs : 0 ≤ xd.left ∧ xd.left < 1
  · right
    have hdl : 0 ≤ d.left := by
      rcases Int.lt_or_le d.left 0 with h | h
      · rw [if_neg (by omega)] at hxl; omega
      · exact h
    rw [if_pos hdl] at hxl
    have hk : d.left = k := by omega
    have hwr : (d.wi (wsOf d.sectors.length l) l.length).runs = true := by
      refine runs_of f1 f2 ?_ f4 f5 f6 ?_ f8
      · show (((wsOf d.sectors.length l).take l.length)).length ≤ 4096
        simp [ws_length]; omega
      · intro y hy; exact ws_ok f1 y (List.mem_of_mem_take hy)
    have htk : (wsOf d.sectors.length l).take l.length = wsOf d.sectors.length l := List.take_of_length_le (by rw [ws_length]; omega)
    have h3 : (Dk.mk xd.sectors [wOf d.sectors.length x] xd.left false).sync = (Dk.syncStop ⟨xd.sectors, [wOf d.sectors.length x], xd.left, false⟩ xd.left.toNat (([wOf d.sectors.length x] : List (Int × List UInt8)).getD xd.left.toNat (0, [])), 380) := by
      unfold Dk.sync; rw [if_neg (by rw [ha]; simp), if_pos (by simpa using hs)]
    have h4 : (d.wi (wsOf d.sectors.length l) l.length).sync = ((d.wi (wsOf d.sectors.length l) l.length).syncStop d.left.toNat (((wsOf d.sectors.length l).take l.length).getD d.left.toNat (0, [])), 380) := by
      unfold Dk.sync; rw [if_neg (by rw [hwr]; simp), if_pos ⟨hdl, by show d.left < ((List.take _ _).length : Nat); simp [ws_length]; omega⟩]; rfl
    rw [h3, h4]
    refine ⟨rfl, ?_, rfl⟩
    have e1 : xd.left.toNat = 0 := by omega
    have e2 : d.left.toNat = k := by omega
    rw [e1, e2, htk]
    have e3 : (wsOf d.sectors.length l).getD k (0, []) = wOf d.sectors.length x := by rw [List.getD_eq_getElem?_getD, ws_get hx]; rfl
    rw [e3]
    show Dk.syncStop _ 0 (wOf d.sectors.length x) = _
    unfold Dk.syncStop Dk.wi
    simp only [List.take_zero, htk]
    rw [← hxs]
    rfl
  · left
    have h3 : (Dk.mk xd.sectors [wOf d.sectors.length x] xd.left false).sync = (Dk.syncOk ⟨xd.sectors, [wOf d.sectors.length x], xd.left, false⟩, 0) := by
      unfold Dk.sync; rw [if_neg (by rw [ha]; simp), if_neg (by simpa using hs)]
    rw [h3]
    refine ⟨rfl, ?_, ?_⟩
    · unfold Dk.syncOk Dk.st
      simp only [ws_take hx, hxs]
      congr 1
      · rw [performL_snoc]; rfl
      · rw [hxl]
        by_cases hd : 0 ≤ d.left
        · have := h2 hd
          rw [if_pos hd, if_pos hd, if_pos (by omega)]; simp; omega
        · rw [if_neg hd, if_neg hd, if_neg hd]
    · intro hd
      have := h2 hd
      rw [if_pos hd] at hxl
      simp at hs
      omega

theorem tog_next {d : Dk} (hr : d.runs = true) {l : List Ac} {k : Nat} {x : Ac} (hx : l[k]? = some x) (hl : l.length ≤ 4096) :
    (d.wi (wsOf d.sectors.length l) k).write (atOf d.sectors.length x) [x.byte] = (d.wi (wsOf d.sectors.length l) (k + 1), 0) := by
  obtain ⟨f1, f2, f3, f4, f5, f6, f7, f8⟩ := runs_facts hr
  have hkl : k < l.length := by rw [List.getElem?_eq_some_iff] at hx; exact hx.1
  have hwl : ((wsOf d.sectors.length l).take k).length = k := by simp [ws_length]; omega
  have hwr : (d.wi (wsOf d.sectors.length l) k).runs = true := by
    refine runs_of f1 f2 ?_ f4 f5 f6 ?_ f8
    · show ((wsOf d.sectors.length l).take k).length ≤ 4096
      omega
    · intro y hy; exact ws_ok f1 y (List.mem_of_mem_take hy)
  have hh : (d.wi (wsOf d.sectors.length l) k).has (atOf d.sectors.length x) = true := has_iff.2 (atOf_has f1 x)
  rw [write_good (b := [x.byte]) hwr hh (by simp) (by show ((wsOf d.sectors.length l).take k).length < 4096; omega)]
  unfold Dk.wi
  rw [ws_take hx]
  rfl

theorem wi_zero {d : Dk} {ws : List (Int × List UInt8)} (hp : d.pending.length = 0) : d = d.wi ws 0 := by
  have hp' : d.pending = [] := List.eq_nil_of_length_eq_zero hp
  cases d
  simp only [Dk.wi, List.take_zero] at *
  rw [hp']

theorem tog_end {d : Dk} (hr : d.runs = true) {l : List Ac} {k : Nat} {xd : Dk} {ev : Int} (h : TogI d l k xd ev) (hk : ev = 0 → k = l.length) (hl : l.length ≤ 4096) : ev = (d.wi (wsOf d.sectors.length l) l.length).sync.2 ∧ xd = (d.wi (wsOf d.sectors.length l) l.length).sync.1 := by
  obtain ⟨f1, f2, f3, f4, f5, f6, f7, f8⟩ := runs_facts hr
  rcases h with ⟨h0, h1, h2⟩ | ⟨h0, h1, h2⟩
  · have hwl : ((wsOf d.sectors.length l).take l.length).length = l.length := by simp [ws_length]
    have hwr : (d.wi (wsOf d.sectors.length l) l.length).runs = true := by
      refine runs_of f1 f2 ?_ f4 f5 f6 ?_ f8
      · show ((wsOf d.sectors.length l).take l.length).length ≤ 4096
        omega
      · intro y hy; exact ws_ok f1 y (List.mem_of_mem_take hy)
    have hkk := hk h0
    subst hkk
    have h3 : (d.wi (wsOf d.sectors.length l) l.length).sync = ((d.wi (wsOf d.sectors.length l) l.length).syncOk, 0) := by
      unfold Dk.sync; rw [if_neg (by rw [hwr]; simp), if_neg]
      rintro ⟨a, b⟩
      have b' : d.left < (((wsOf d.sectors.length l).take l.length).length : Nat) := b
      have := h2 a
      omega
    rw [h3]
    refine ⟨h0, ?_⟩
    rw [h1]
    unfold Dk.st Dk.syncOk Dk.wi
    simp only
    congr 1
    rw [hwl]
  · exact ⟨by omega, h1⟩

end Go.Proofs.Ytklhgghlkidfjaa
