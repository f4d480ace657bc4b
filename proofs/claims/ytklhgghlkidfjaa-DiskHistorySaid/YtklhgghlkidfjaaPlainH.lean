/- Plain law of DiskHistory. -/
import Derived.Test.YtklhgghlkidfjaaPlainB
namespace Go.Proofs.Ytklhgghlkidfjaa

/-- A sector whose halves begin with two bytes. -/
def two (f s : UInt8) : List UInt8 := ((List.replicate 128 (0 : UInt8)).set 0 f).set 64 s
theorem two_len (f s : UInt8) : (two f s).length = 128 := by simp [two]
theorem two_0 (f s : UInt8) : (two f s).getD 0 0 = f := rfl
theorem two_64 (f s : UInt8) : (two f s).getD 64 0 = s := rfl
theorem two_1 (f s : UInt8) : (two f s).getD 1 0 = 0 := rfl
theorem two_127 (f s : UInt8) : (two f s).getD 127 0 = 0 := rfl
theorem dbl_two (c : UInt8) : dbl c = two c c := rfl
theorem fill_two (f s : UInt8) : fill128 (two f s) = two f s := by simp [fill128, two_len]
theorem torn_two (c e f s : UInt8) : torn (two c e) (two f s) = two c s := rfl
theorem zeros_two : List.replicate 128 (0 : UInt8) = two 0 0 := rfl

/-- What holds asks of each sector. -/
def HB (d : Dk) (fa sa : List UInt8) (i : Nat) : Prop := d.read i = (two (fa.getD i 0) (sa.getD i 0), 0)

/-- The sectors whose halves begin with these bytes. -/
def sec (fa sa : List UInt8) : List (List UInt8) := [two (fa.getD 0 0) (sa.getD 0 0), two (fa.getD 1 0) (sa.getD 1 0), two (fa.getD 2 0) (sa.getD 2 0), two (fa.getD 3 0) (sa.getD 3 0)]
theorem four {i : Nat} (h : i < 4) : i = 0 ∨ i = 1 ∨ i = 2 ∨ i = 3 := by omega
theorem list4 {α : Type} {l : List α} (h : l.length = 4) : ∃ a b c d, l = [a, b, c, d] := by
  match l, h with
  | [a, b, c, d], _ => exact ⟨a, b, c, d, rfl⟩
theorem sec_get {fa sa : List UInt8} {i : Nat} (h : i < 4) : (sec fa sa).getD i [] = two (fa.getD i 0) (sa.getD i 0) := by
  rcases four h with rfl | rfl | rfl | rfl <;> rfl
theorem sec_set {fa sa : List UInt8} {i : Nat} {c e : UInt8} (hf : fa.length = 4) (hs : sa.length = 4) (h : i < 4) : (sec fa sa).set i (two c e) = sec (fa.set i c) (sa.set i e) := by
  obtain ⟨a, b, x, y, rfl⟩ := list4 hf
  obtain ⟨a', b', x', y', rfl⟩ := list4 hs
  rcases four h with rfl | rfl | rfl | rfl <;> rfl
theorem set_get {l : List UInt8} {i : Nat} (h : i < l.length) : l.set i (l.getD i 0) = l := by
  apply List.ext_getElem
  · simp
  · intro n h1 h2
    rw [List.getElem_set]
    split
    · rename_i hn; subst hn; rw [List.getD_eq_getElem?_getD, List.getElem?_eq_getElem h, Option.getD_some]
    · rfl

def ix (a : Ac) : Nat := a.at_.toNat % 4
theorem ix_lt (a : Ac) : ix a < 4 := Nat.mod_lt _ (by omega)
theorem atOf4 (a : Ac) : atOf 4 a = (ix a : Nat) := by unfold atOf ix; omega
def pw (a : Ac) : Int × List UInt8 := ((ix a : Nat), two a.byte a.byte)
def setA (fa : List UInt8) (l : List Ac) : List UInt8 := l.foldl (fun f a => f.set (ix a) a.byte) fa
theorem setA_len (l : List Ac) : ∀ fa : List UInt8, (setA fa l).length = fa.length := by
  induction l with
  | nil => intro fa; rfl
  | cons a l ih => intro fa; show (setA (fa.set (ix a) a.byte) l).length = _; rw [ih]; simp
theorem setA_snoc (fa : List UInt8) (l : List Ac) (a : Ac) : setA fa (l ++ [a]) = (setA fa l).set (ix a) a.byte := by simp [setA]
theorem perform_sec (l : List Ac) : ∀ fa sa : List UInt8, fa.length = 4 → sa.length = 4 → performL (sec fa sa) (l.map pw) = sec (setA fa l) (setA sa l) := by
  induction l with
  | nil => intro fa sa _ _; rfl
  | cons a l ih =>
    intro fa sa h1 h2
    show performL ((sec fa sa).set (((ix a : Nat) : Int)).toNat (two a.byte a.byte)) (l.map pw) = _
    rw [Int.toNat_natCast, sec_set h1 h2 (ix_lt a), ih _ _ (by simp [h1]) (by simp [h2])]
    rfl

/-- What is true of the disk in the middle of a history. -/
structure Hist (d : Dk) (la fa sa : List UInt8) (wt : List Ac) (room : Int) : Prop where
  la4 : la.length = 4
  fa4 : fa.length = 4
  sa4 : sa.length = 4
  runs : d.runs = true
  secs : d.sectors = sec fa sa
  pend : d.pending = wt.map pw
  left : d.left = room
  r0 : 0 ≤ room
  looks : ∀ i : Nat, i < 4 → d.look i = two (la.getD i 0) (la.getD i 0)

theorem Hist.len {d : Dk} {la fa sa : List UInt8} {wt : List Ac} {room : Int} (h : Hist d la fa sa wt room) : d.sectors.length = 4 := by rw [h.secs]; rfl
theorem Hist.has {d : Dk} {la fa sa : List UInt8} {wt : List Ac} {room : Int} (h : Hist d la fa sa wt room) {i : Nat} (hi : i < 4) : d.has i = true := has_iff.2 (by rw [h.len]; omega)
theorem Hist.hb {d : Dk} {la fa sa : List UInt8} {wt : List Ac} {room : Int} (h : Hist d la fa sa wt room) : ∀ i, i < 4 → HB d la la i := fun i hi => by
  unfold HB; rw [read_of h.runs (h.has hi), h.looks i hi]

theorem restart_hb {d : Dk} {fa sa : List UInt8} (h : d.sectors = sec fa sa) : ∀ i, i < 4 → HB d.restart fa sa i := fun i hi => by
  have hr : d.restart.runs = true := by
    refine runs_of ?_ ?_ (Nat.zero_le _) (by show (-1 : Int) ≤ -1; omega) (by show (-1 : Int) ≤ 65536; omega) rfl (fun x hx => absurd hx (by simp [Dk.restart])) ?_
    · show 1 ≤ d.sectors.length; rw [h]; show 1 ≤ 4; omega
    · show d.sectors.length ≤ 4096; rw [h]; show 4 ≤ 4096; omega
    · intro x hx
      have hx' : x ∈ d.sectors := hx
      rw [h] at hx'
      simp only [sec, List.mem_cons, List.not_mem_nil, or_false] at hx'
      rcases hx' with rfl | rfl | rfl | rfl <;> exact two_len _ _
  have hh : d.restart.has i = true := has_iff.2 ⟨by omega, by show (i : Int) < d.sectors.length; rw [h]; show (i : Int) < 4; omega⟩
  unfold HB
  rw [read_of hr hh]
  show (d.sectors.getD ((i : Int)).toNat [], (0 : Int)) = _
  rw [h, Int.toNat_natCast, sec_get hi]

theorem hist_init {left : Int} (h0 : 0 ≤ left) (h1 : left ≤ 65536) : Hist ((Dk.new 4).1.stop left).1 [0, 0, 0, 0] [0, 0, 0, 0] [0, 0, 0, 0] [] left ∧ (Dk.new 4).2 = 0 ∧ ((Dk.new 4).1.stop left).2 = 0 := by
  have hn : Dk.new 4 = (⟨sec [0, 0, 0, 0] [0, 0, 0, 0], [], -1, false⟩, 0) := rfl
  have hr : (Dk.mk (sec [0, 0, 0, 0] [0, 0, 0, 0]) [] (-1) false).runs = true := by decide +kernel
  have hs : (Dk.mk (sec [0, 0, 0, 0] [0, 0, 0, 0]) [] (-1) false).stop left = (⟨sec [0, 0, 0, 0] [0, 0, 0, 0], [], left, false⟩, 0) := by
    unfold Dk.stop; rw [if_neg (by rw [hr]; simp), if_neg (by omega)]
  rw [hn, hs]
  refine ⟨⟨rfl, rfl, rfl, ?_, rfl, rfl, rfl, h0, ?_⟩, rfl, rfl⟩
  · obtain ⟨f1, f2, f3, f4, f5, f6, f7, f8⟩ := runs_facts hr
    exact runs_of f1 f2 f3 (by show -1 ≤ left; omega) h1 rfl f7 f8
  · intro i hi
    show (sec [0, 0, 0, 0] [0, 0, 0, 0]).getD ((i : Int)).toNat [] = _
    rw [Int.toNat_natCast, sec_get hi]

theorem dbl_len (c : UInt8) : (dbl c).length = 128 := by rw [dbl_two, two_len]

theorem hist_write {d : Dk} {la fa sa : List UInt8} {wt : List Ac} {room : Int} (h : Hist d la fa sa wt room) (a : Ac) (hw : wt.length < 4096) :
    (d.write ((ix a : Nat) : Int) (dbl a.byte)).2 = 0 ∧ Hist (d.write ((ix a : Nat) : Int) (dbl a.byte)).1 (la.set (ix a) a.byte) fa sa (wt ++ [a]) room := by
  have hp : d.pending.length < 4096 := by rw [h.pend]; simpa using hw
  have hok := write_good (n := ((ix a : Nat) : Int)) (b := dbl a.byte) h.runs (h.has (ix_lt a)) (by rw [dbl_len]; omega) hp
  have h0 : (d.write ((ix a : Nat) : Int) (dbl a.byte)).2 = 0 := by rw [hok]
  refine ⟨h0, ⟨by simp [h.la4], h.fa4, h.sa4, write_runs h0, ?_, ?_, ?_, h.r0, fun i hi => ?_⟩⟩
  · rw [hok]; exact h.secs
  · rw [hok]
    show d.pending ++ [(((ix a : Nat) : Int), fill128 (dbl a.byte))] = _
    rw [h.pend, dbl_two, fill_two, List.map_append]; rfl
  · rw [hok]; exact h.left
  · rw [write_look h0, h.looks i hi, dbl_two, fill_two]
    have hl := h.la4
    by_cases hx : ix a = i
    · rw [if_pos (by omega), List.getD_eq_getElem?_getD, List.getElem?_set, if_pos hx, if_pos (by omega)]; rfl
    · rw [if_neg (by omega), List.getD_eq_getElem?_getD, List.getD_eq_getElem?_getD, List.getElem?_set, if_neg hx]

theorem ix_int (a : Ac) : (((a.at_.toNat : Nat) : Int) % (4 : Int)) = ((ix a : Nat) : Int) := by unfold ix; omega
theorem hist_writeT {d : Dk} {la fa sa : List UInt8} {wt : List Ac} {room : Int} (h : Hist d la fa sa wt room) (a : Ac) (hw : wt.length < 4096) :
    (d.write (((a.at_.toNat : Nat) : Int) % (4 : Int)) (dbl a.byte)).2 = 0 ∧ Hist (d.write (((a.at_.toNat : Nat) : Int) % (4 : Int)) (dbl a.byte)).1 (la.set (ix a) a.byte) fa sa (wt ++ [a]) room := by
  rw [ix_int]; exact hist_write h a hw
theorem setA_take {fa : List UInt8} {l : List Ac} {j : Nat} {x : Ac} (hx : l[j]? = some x) : setA fa (l.take (j + 1)) = (setA fa (l.take j)).set (ix x) x.byte := by
  rw [List.take_add_one, hx]; exact setA_snoc _ _ _
theorem setA_min1 {fa : List UInt8} {l : List Ac} {j r : Nat} {x : Ac} (hx : l[j]? = some x) (h : j < r) : setA fa (l.take (min (j + 1) r)) = (setA fa (l.take (min j r))).set (ix x) x.byte := by
  rw [Nat.min_eq_left (by omega), Nat.min_eq_left (by omega)]; exact setA_take hx
theorem setA_min2 {a : List UInt8} {l : List Ac} {j r : Nat} (h : r ≤ j) : setA a (l.take (min (j + 1) r)) = setA a (l.take (min j r)) := by
  rw [Nat.min_eq_right (by omega), Nat.min_eq_right (by omega)]

/-- A sync that does not stop. -/
theorem hist_sync {d : Dk} {la fa sa : List UInt8} {wt : List Ac} {room : Int} (h : Hist d la fa sa wt room) (hr : (wt.length : Int) ≤ room) :
    d.sync.2 = 0 ∧ Hist d.sync.1 la (setA fa wt) (setA sa wt) [] (room - wt.length) := by
  have hp : d.pending.length = wt.length := by rw [h.pend]; simp
  have hl := h.left
  have hok : d.sync = (d.syncOk, 0) := by
    unfold Dk.sync; rw [if_neg (by rw [h.runs]; simp), if_neg (by omega)]
  have h0 : d.sync.2 = 0 := by rw [hok]
  have hr0 := h.r0
  refine ⟨h0, ⟨h.la4, (setA_len _ _).trans h.fa4, (setA_len _ _).trans h.sa4, sync_runs h0, ?_, ?_, ?_, by omega, fun i hi => ?_⟩⟩
  · rw [hok]
    show performL d.sectors d.pending = _
    rw [h.secs, h.pend, perform_sec _ _ _ h.fa4 h.sa4]
  · rw [hok]; rfl
  · rw [hok]
    show (if 0 ≤ d.left then d.left - (d.pending.length : Nat) else d.left) = _
    rw [if_pos (by omega)]; omega
  · rw [sync_look h0 (h.has hi)]; exact h.looks i hi

/-- A sync that stops. -/
theorem hist_stop {d : Dk} {la fa sa : List UInt8} {wt : List Ac} {room : Int} (h : Hist d la fa sa wt room) (hr : room < (wt.length : Int)) :
    d.sync.2 = 380 ∧ d.sync.1.stopped = true ∧ d.sync.1.sectors = sec (setA fa (wt.take (room.toNat + 1))) (setA sa (wt.take room.toNat)) := by
  have hp : d.pending.length = wt.length := by rw [h.pend]; simp
  have hl := h.left
  have hr0 := h.r0
  have hok : d.sync = (d.syncStop d.left.toNat (d.pending.getD d.left.toNat (0, [])), 380) := by
    unfold Dk.sync; rw [if_neg (by rw [h.runs]; simp), if_pos (by omega)]
  rw [hok]
  refine ⟨rfl, rfl, ?_⟩
  unfold Dk.syncStop
  dsimp only
  have hk : room.toNat < wt.length := by omega
  have hg : d.pending.getD d.left.toNat (0, []) = pw wt[room.toNat] := by
    rw [h.pend, hl, List.getD_eq_getElem?_getD, List.getElem?_map, List.getElem?_eq_getElem hk]; rfl
  rw [hg, hl, h.pend, h.secs, ← List.map_take, perform_sec _ _ _ h.fa4 h.sa4]
  show List.set _ ((((ix wt[room.toNat] : Nat) : Int)).toNat) (torn (two _ _) ((sec _ _).getD ((((ix wt[room.toNat] : Nat) : Int)).toNat) [])) = _
  rw [Int.toNat_natCast, sec_get (ix_lt _), torn_two, sec_set ((setA_len _ _).trans h.fa4) ((setA_len _ _).trans h.sa4) (ix_lt _), List.take_succ_eq_append_getElem hk, setA_snoc]
  congr 1
  exact set_get (by rw [setA_len, h.sa4]; exact ix_lt _)

end Go.Proofs.Ytklhgghlkidfjaa
