/- Several texts in one: SealA, RefC3, Seq3, Wk11, Tab, Wk12, Wk13, Seq4, Wk14, SealB, SealC, CloneB, SealD, SealE. -/
import Derived.Test.YtmjgjopbeokajaaDoorBunD
import Derived.Test.YtmjgjopbeokajaaDoorProg
import Derived.Test.YtmjgjopbeokajaaDoorBunC
import Derived.Test.YtmjgjopbeokajaaDoorBunB
import Derived.KernelRfl
import Derived.Test.YtmjgjopbeokajaaDoorBunA
import Derived.Scope
import Derived.Lib.MinMax
import Derived.WalkSpells
import Derived.Handy
namespace Go.Proofs.YtmjgjopbeokajaaDoor
open Go.RowKit

def kOk (sd : List UInt8) (many used : Int) : Bool := decide ((1 ≤ sd.length ∧ sd.length ≤ 64) ∧ (1 ≤ many ∧ many ≤ 4096) ∧ 0 ≤ used ∧ used ≤ many)
def two (n : Nat) : List UInt8 := [UInt8.ofNat (n / 256), UInt8.ofNat n]
def bitB (b : Bool) : UInt8 := if b then 1 else 0
def secretD (sd : List UInt8) (i j : Nat) (b : Bool) : List UInt8 := tagged [115, 101, 99, 114, 101, 116] (sd ++ two i ++ [UInt8.ofNat j, bitB b])
def openD (d : List UInt8) : List UInt8 := tagged [111, 112, 101, 110] d
def hashD (sd : List UInt8) (i j : Nat) (b : Bool) : List UInt8 := openD (secretD sd i j b)
/-- the hashes of k bits, one behind the other -/
def manyD (h : Nat → Bool → List UInt8) (k : Nat) : List UInt8 := (List.range k).flatMap fun j => h j false ++ h j true
def publicD (h : Nat → Bool → List UInt8) : List UInt8 := tagged [111, 110, 101] (manyD h 64)
def pubsL (sd : List UInt8) (k : Nat) : List (List UInt8) := (List.range k).map fun i => publicD (hashD sd i)
def pubD (sd : List UInt8) (many : Nat) : List UInt8 := treeD (pubsL sd many)
def msgD (root : List UInt8) (i : Nat) (msg : List UInt8) : List UInt8 := tagged [109, 101, 115, 115, 97, 103, 101] (root ++ two i ++ msg)
def bitOf (d : List UInt8) (k : Nat) : Bool := decide ((((d.getD (k / 8) 0 >>> UInt8.ofNat (7 - k % 8)) &&& 1).toNat : Int) = 1)
def bitsTo (d : List UInt8) (k : Nat) : List Bool := (List.range k).map (bitOf d)
def bitsL (root : List UInt8) (i : Nat) (msg : List UInt8) : List Bool := bitsTo (msgD root i msg) 64
theorem secretD_len (sd : List UInt8) (i j : Nat) (b : Bool) : (secretD sd i j b).length = 32 := tagged_len _ _
theorem openD_len (d : List UInt8) : (openD d).length = 32 := tagged_len _ _
theorem hashD_len (sd : List UInt8) (i j : Nat) (b : Bool) : (hashD sd i j b).length = 32 := tagged_len _ _
theorem publicD_len (h : Nat → Bool → List UInt8) : (publicD h).length = 32 := tagged_len _ _
theorem pubsL_len (sd : List UInt8) (k : Nat) : (pubsL sd k).length = k := by simp [pubsL]
theorem pubsL_32 (sd : List UInt8) (k : Nat) : All32 (pubsL sd k) := fun x hx => by
  obtain ⟨i, _, rfl⟩ := List.mem_map.1 hx; exact publicD_len _
theorem pubsL_step (sd : List UInt8) (k : Nat) : pubsL sd k ++ [publicD (hashD sd k)] = pubsL sd (k + 1) := by rw [pubsL, pubsL, List.range_succ, List.map_append]; rfl
theorem bitsTo_len (d : List UInt8) (k : Nat) : (bitsTo d k).length = k := by simp [bitsTo]
theorem bitsL_len (root : List UInt8) (i : Nat) (msg : List UInt8) : (bitsL root i msg).length = 64 := bitsTo_len _ _
theorem bitsTo_step (d : List UInt8) (k : Nat) : bitsTo d k ++ [bitOf d k] = bitsTo d (k + 1) := by rw [bitsTo, bitsTo, List.range_succ, List.map_append]; rfl
theorem manyD_step (h : Nat → Bool → List UInt8) (k : Nat) : (manyD h k ++ h k false) ++ h k true = manyD h (k + 1) := by
  rw [manyD, manyD, List.range_succ, List.flatMap_append, List.flatMap_cons, List.flatMap_nil, List.append_nil, List.append_assoc]
theorem manyD_congr {g h : Nat → Bool → List UInt8} : ∀ {k : Nat}, (∀ j b, j < k → g j b = h j b) → manyD g k = manyD h k
  | 0, _ => rfl
  | k + 1, e => by rw [← manyD_step, ← manyD_step, manyD_congr (k := k) fun j b hj => e j b (by omega), e k false (by omega), e k true (by omega)]
theorem publicD_congr {g h : Nat → Bool → List UInt8} (e : ∀ j b, j < 64 → g j b = h j b) : publicD g = publicD h := by rw [publicD, publicD, manyD_congr e]
/-! signatures -/
structure Sg where
  (index : Int)
  (op cl path : List (List UInt8))
def opTo (sd : List UInt8) (i : Nat) (bs : List Bool) (k : Nat) : List (List UInt8) := (List.range k).map fun j => secretD sd i j (bs.getD j false)
def clTo (sd : List UInt8) (i : Nat) (bs : List Bool) (k : Nat) : List (List UInt8) := (List.range k).map fun j => hashD sd i j (!bs.getD j false)
theorem opTo_step (sd : List UInt8) (i : Nat) (bs : List Bool) (k : Nat) : opTo sd i bs k ++ [secretD sd i k (bs.getD k false)] = opTo sd i bs (k + 1) := by rw [opTo, opTo, List.range_succ, List.map_append]; rfl
theorem clTo_step (sd : List UInt8) (i : Nat) (bs : List Bool) (k : Nat) : clTo sd i bs k ++ [hashD sd i k (!bs.getD k false)] = clTo sd i bs (k + 1) := by rw [clTo, clTo, List.range_succ, List.map_append]; rfl
theorem opTo_len (sd : List UInt8) (i : Nat) (bs : List Bool) (k : Nat) : (opTo sd i bs k).length = k := by simp [opTo]
theorem clTo_len (sd : List UInt8) (i : Nat) (bs : List Bool) (k : Nat) : (clTo sd i bs k).length = k := by simp [clTo]
theorem opTo_32 (sd : List UInt8) (i : Nat) (bs : List Bool) (k : Nat) : All32 (opTo sd i bs k) := fun x hx => by obtain ⟨j, _, rfl⟩ := List.mem_map.1 hx; exact secretD_len _ _ _ _
theorem clTo_32 (sd : List UInt8) (i : Nat) (bs : List Bool) (k : Nat) : All32 (clTo sd i bs k) := fun x hx => by obtain ⟨j, _, rfl⟩ := List.mem_map.1 hx; exact hashD_len _ _ _ _
theorem opTo_at {sd : List UInt8} {i : Nat} {bs : List Bool} {k j : Nat} (h : j < k) : (opTo sd i bs k).getD j [] = secretD sd i j (bs.getD j false) := by
  rw [List.getD_eq_getElem?_getD, opTo, List.getElem?_map, List.getElem?_range h]; rfl
theorem clTo_at {sd : List UInt8} {i : Nat} {bs : List Bool} {k j : Nat} (h : j < k) : (clTo sd i bs k).getD j [] = hashD sd i j (!bs.getD j false) := by
  rw [List.getD_eq_getElem?_getD, clTo, List.getElem?_map, List.getElem?_range h]; rfl
def sgNil : Sg := ⟨0, [], [], []⟩
def signE (sd : List UInt8) (many used idx : Int) (msg : List UInt8) : Int := if kOk sd many used = false then 40 else if 65536 < msg.length then 2 else if idx < 0 ∨ many ≤ idx then 40 else 0
def sgOf (sd : List UInt8) (many idx : Nat) (msg : List UInt8) : Sg :=
  ⟨idx, opTo sd idx (bitsL (pubD sd many) idx msg) 64, clTo sd idx (bitsL (pubD sd many) idx msg) 64, pathD (pubsL sd many) idx⟩
def signF (sd : List UInt8) (many used idx : Int) (msg : List UInt8) : Sg := if signE sd many used idx msg = 0 then sgOf sd many.toNat idx.toNat msg else sgNil
/-- the hash that a signature shows for a bit -/
def shown (bs : List Bool) (s : Sg) (j : Nat) (b : Bool) : List UInt8 := if bs.getD j false = b then openD (s.op.getD j []) else s.cl.getD j []
def vShape (n : Int) (msg : List UInt8) (s : Sg) : Prop := ¬ (n < 1 ∨ 4096 < n ∨ s.index < 0 ∨ n ≤ s.index ∨ s.op.length ≠ 64 ∨ s.cl.length ≠ 64 ∨ 65536 < msg.length)
instance (n : Int) (msg : List UInt8) (s : Sg) : Decidable (vShape n msg s) := by unfold vShape; exact inferInstance
def climbS (root : List UInt8) (n : Int) (msg : List UInt8) (s : Sg) : List UInt8 × Int := climbF (publicD (shown (bitsL root s.index.toNat msg) s)) s.index n s.path
def verifyF (root : List UInt8) (n : Int) (msg : List UInt8) (s : Sg) : Bool := decide (vShape n msg s) && (decide ((climbS root n msg s).2 = 0) && decide ((climbS root n msg s).1 = root))
theorem climb_pubs {sd : List UInt8} {many i : Nat} (h : i < many) (hm : many ≤ 4096) : climbF (publicD (hashD sd i)) i many (pathD (pubsL sd many) i) = (pubD sd many, 0) := by
  have h1 := climbs nodeD leafD emptyD (pubsL sd many) i (by rw [pubsL_len]; exact h)
  have h2 := path_len nodeD leafD emptyD (pubsL sd many) i
  rw [pubsL_len] at h1 h2
  have h3 : (pubsL sd many).getD i [] = publicD (hashD sd i) := by
    rw [List.getD_eq_getElem?_getD, pubsL, List.getElem?_map, List.getElem?_range h]; rfl
  rw [h3] at h1
  rw [climbF, if_neg (by simp only [Int.toNat_natCast, pathD]; omega)]
  simp only [Int.toNat_natCast, pathD]
  rw [h1]; rfl
/-- what a signature of a key shows are the hashes of its secrets, for any bits that are those that were signed -/
theorem shown_sg {sd : List UInt8} {many i : Nat} {msg : List UInt8} {j : Nat} {b : Bool} (hj : j < 64) : shown (bitsL (pubD sd many) i msg) (sgOf sd many i msg) j b = hashD sd i j b := by
  unfold shown
  simp only [sgOf]
  rw [opTo_at hj, clTo_at hj]
  generalize (bitsL (pubD sd many) i msg).getD j false = c
  cases c <;> cases b <;> rfl
theorem verify_sg {sd : List UInt8} {many i : Nat} {msg other : List UInt8} (h : i < many) (hm : many ≤ 4096) (hl : other.length ≤ 65536) (hb : bitsL (pubD sd many) i msg = bitsL (pubD sd many) i other) : verifyF (pubD sd many) many other (sgOf sd many i msg) = true := by
  have e : climbS (pubD sd many) many other (sgOf sd many i msg) = (pubD sd many, 0) := by
    unfold climbS
    have h1 : publicD (shown (bitsL (pubD sd many) (sgOf sd many i msg).index.toNat other) (sgOf sd many i msg)) = publicD (hashD sd i) := publicD_congr fun j b hj => by
      have : (sgOf sd many i msg).index.toNat = i := by simp [sgOf]
      rw [this, ← hb]; exact shown_sg hj
    rw [h1]
    exact climb_pubs h hm
  have hv : vShape many other (sgOf sd many i msg) := by
    have h1 : (sgOf sd many i msg).op.length = 64 := opTo_len _ _ _ _
    have h2 : (sgOf sd many i msg).cl.length = 64 := clTo_len _ _ _ _
    have h3 : (sgOf sd many i msg).index = i := rfl
    unfold vShape
    omega
  unfold verifyF
  rw [e, decide_eq_true hv]; simp
theorem verify_not {root : List UInt8} {n : Int} {msg : List UInt8} {s : Sg} (h : ¬ vShape n msg s) : verifyF root n msg s = false := by rw [verifyF, decide_eq_false h]; rfl
theorem verify_yes {root : List UInt8} {n : Int} {msg : List UInt8} {s : Sg} (h : vShape n msg s) : verifyF root n msg s = (decide ((climbS root n msg s).2 = 0) && decide ((climbS root n msg s).1 = root)) := by rw [verifyF, decide_eq_true h]; rfl
theorem kOk_iff {sd : List UInt8} {many used : Int} : kOk sd many used = true ↔ (1 ≤ sd.length ∧ sd.length ≤ 64) ∧ (1 ≤ many ∧ many ≤ 4096) ∧ 0 ≤ used ∧ used ≤ many := decide_eq_true_iff
end Go.Proofs.YtmjgjopbeokajaaDoor

namespace Go.Proofs.YtmjgjopbeokajaaDoor
open Go.RowKit

variable {S S' : Nat → Prop}

/-- what the state is behind n bytes of the filled ones -/
def SumInv (b f : List UInt8) (n : Nat) (h : List UInt32) : Prop := (n < f.length ∧ feed h n (b.drop n) = feed first 0 b) ∨ (n = f.length ∧ h = feed first 0 b)
theorem SumInv.start {b f : List UInt8} (h0 : 0 < f.length) : SumInv b f 0 first := .inl ⟨h0, rfl⟩
theorem SumInv.done {b f : List UInt8} {n : Nat} {h : List UInt32} (e : SumInv b f n h) (hn : f.length ≤ n) : h = feed first 0 b := by
  rcases e with ⟨h1, _⟩ | ⟨_, h1⟩
  · omega
  · exact h1

end Go.Proofs.YtmjgjopbeokajaaDoor

namespace Go.Proofs.YtmjgjopbeokajaaDoor
open Go.RowKit

section
variable {P : Program} {ops : Array Oper} {Q : Exit → Act → World → Prop} {S S2 : World → Prop} {F : Nat → Bool}
theorem any_have {n n1 : Nat} {L L1 : Array Bool} {a : Act} {w : World} (R : Act → World → Prop) (h1 : ∀ a W, R a W → wpAnyF P ops Q S F n1 L1 a W) (h2 : (∀ a W, R a W → wpAnyF P ops Q S F n1 L1 a W) → wpAnyF P ops Q S F n L a w) : wpAnyF P ops Q S F n L a w := h2 h1
end
/-! a block is not that of a row of the call's own -/
theorem own_new {w : World} {base g : Nat} {e : TypeId} {k n : Nat} {v : Value} {xs : List Value} (h : w.ownsRow base e k v n xs) (hg : w.heap.size = g) : some g ≠ v.ownBlock := fun e1 => by
  have := (h.lt g e1.symm).2
  omega
section
variable {N : Nat} {m : List (Nat × Value)} {a : Act} {P : Program} {ops : Array Oper} {Q : Exit → Act → World → Prop} {i : Nat} {w : World} {o : Oper} {K : Act → World → Prop} {d : Nat}
/-- append onto a row of the call's own, with where it lies then -/
theorem o_appB {t e : TypeId} {z : Value} {k bytes : Nat} (E : El P t e z k bytes) (hF : Sl N m a) (ho : ops[i]? = some o) (hw : Region.wanted o (yielded ops a.tmps) = true) (hd : o.dst = some d) (hN : Nat.blt d N = true) {s x : Operand}
    (hop : o.op = .call { callee := .builtin .append, args := #[s, x], argTypes := #[t, t] }) {B : Option Addr} {n c0 : Nat} (hs : a.eval s = .slice B n c0) {A : Option Addr} {n2 c : Nat} (hx : a.eval x = .slice A n2 c)
    {base : Nat} {xs ys zs : List Value} (hown : w.ownsRow base e k (.slice B n c0) n xs) (hr : Cel w k A n2 ys) (hbase : base ≤ w.heap.size)
    (h63 : n + n2 ≤ 9223372036854775807) (hbytes : (n + n2) * bytes ≤ 140737488355328) (hz : xs ++ ys = zs)
    (h : ∀ A' c' w' a', Sl N ((d, .slice A' (n + n2) c') :: m) a' → w'.ownsRow base e k (.slice A' (n + n2) c') (n + n2) zs → w.grownBy w' (Value.slice B n c0).ownBlock → n + n2 ≤ c' → c' ≤ 9223372036854775807 →
      (∀ g, g < w.heap.size → some g ≠ (Value.slice B n c0).ownBlock → some g ≠ (Value.slice A' (n + n2) c').ownBlock) → K a' w') : wpOp P ops Q i K a w := by
  subst hz
  refine op_app E ho hw hop hs hx hown hr hbase h63 hbytes fun v' w' h1 h2 h5 => ?_
  obtain ⟨A', c', rfl, h3, h4⟩ := own_any h1
  refine h A' c' w' _ (by rw [hd]; exact hF.put hN) h1 h2 h3 h4 fun g hg hne => ?_
  rcases h5 with h5 | h5
  · rw [h5]; exact hne
  · rw [h5]; exact fun e => by injection e with e; omega
end
theorem ne_slice {g n c : Nat} {b : Nat} (h : g ≠ b) : some g ≠ (Value.slice (some ⟨b, 0, none⟩) n c).ownBlock := fun e => h (by injection e)
end Go.Proofs.YtmjgjopbeokajaaDoor

namespace Go.Proofs.YtmjgjopbeokajaaDoor
open Go.RowKit
section
variable {P : Program} {ρ : Operand → Value} {W : World} {d : Option Tmp} {t xt yt : TypeId} {p : String} {af : Array Edge} {g : Option (Nat × Bool)} {x y : Operand} {a b a' b' r : Bool}
theorem rn_eqB (hu : P.underlying xt = some .bool) (hx : ρ x = .bool a) (hy : ρ y = .bool b) (ha : a = a') (hb : b = b') (hr : (a' == b') = r) : (execOp ρ ⟨d, .binOp .eql xt x y yt, t, p, af, g⟩).run P W = .ok (.value (.bool r)) W := by
  subst ha hb hr
  exact rn_bin hx hy guard_bool (by simp [binOp, run_equal_bool W xt a b hu])
theorem rn_neB (hu : P.underlying xt = some .bool) (hx : ρ x = .bool a) (hy : ρ y = .bool b) (ha : a = a') (hb : b = b') (hr : (a' != b') = r) : (execOp ρ ⟨d, .binOp .neq xt x y yt, t, p, af, g⟩).run P W = .ok (.value (.bool r)) W := by
  subst ha hb hr
  exact rn_bin hx hy guard_bool (by simp [binOp, run_equal_bool W xt a b hu]; cases a <;> cases b <;> rfl)
end
section
variable {P : Program} {ops : Array Oper} {Q : Exit → Act → World → Prop} {S S2 : World → Prop} {F : Nat → Bool}
end
end Go.Proofs.YtmjgjopbeokajaaDoor

namespace Go.Proofs.YtmjgjopbeokajaaDoor
open Go.RowKit

variable {S S' : Nat → Prop} {α : Type}
/-! tables of ints -/
def RI1 (S : Nat → Prop) (w : World) (cs : List Value) (l : List Int) : Prop := ∃ v, cs = [v] ∧ Fl S w 1 v l.length (intVals l)
theorem RI1.ext {w w' : World} {cs : List Value} {l : List Int} (h : RI1 S w cs l) (he : Ext w w') : RI1 S w' cs l := by
  obtain ⟨v, hv, h⟩ := h; exact ⟨v, hv, h.ext he⟩
def RIss (S : Nat → Prop) (w : World) (v : Value) (l : List (List Int)) : Prop := RSl S 1 (RI1 S) w v l
theorem RIss.ext {w w' : World} {v : Value} {l : List (List Int)} (h : RIss S w v l) (he : Ext w w') : RIss S w' v l := RSl.ext h he fun _ _ h => h.ext he
theorem RIss.pres {w w' : World} {v : Value} {l : List (List Int)} (h : RIss S w v l) (hp : Pres S w w') : RIss S w' v l := RSl.keep h hp.1 hp.2 fun _ _ ⟨v, hv, h⟩ => ⟨v, hv, h.pres hp⟩
theorem RIss.subB {w : World} {v : Value} {l : List (List Int)} (h : RIss S w v l) (hs : ∀ b, b < w.heap.size → S b → S' b) : RIss S' w v l := RSl.subB h hs fun _ _ ⟨v, hv, h⟩ => ⟨v, hv, h.subB hs⟩
theorem RIss.clip {w : World} {v : Value} {l : List (List Int)} (h : RIss S w v l) : RIss (Clip S w) w v l := h.subB fun _ hb hs => ⟨hs, hb⟩
theorem RIss.nil (w : World) : RIss S w (.slice none 0 0) [] := RSl.nil w
theorem RIss.form {w : World} {v : Value} {l : List (List Int)} (h : RIss S w v l) : ∃ A cap, v = .slice A l.length cap ∧ l.length ≤ cap ∧ cap ≤ 9223372036854775807 := RSl.form h
theorem RIss.get {w : World} {A : Option Addr} {n cap : Nat} {l : List (List Int)} (h : RIss S w (.slice A n cap) l) {i : Nat} (hi : i < n) :
    ∃ b off A' c, A = some ⟨b, off, none⟩ ∧ b < w.heap.size ∧ w.cell? ⟨b, off + i, none⟩ = some (.slice A' (l.getD i []).length c) ∧ Fl S w 1 (.slice A' (l.getD i []).length c) (l.getD i []).length (intVals (l.getD i [])) ∧ (l.getD i []).length ≤ c ∧ c ≤ 9223372036854775807 := by
  obtain ⟨hn, hc, h3⟩ := RSl.elem h
  obtain ⟨b, off, ha, hb, hx⟩ := h3 (by omega)
  obtain ⟨cs, hk, hcs, v, rfl, hv⟩ := hx i (by omega)
  have e : l.getD i [] = l[i]'(by omega) := by rw [List.getD_eq_getElem?_getD, List.getElem?_eq_getElem (by omega), Option.getD_some]
  rw [← e] at hv
  obtain ⟨A', c, rfl, h5, h6⟩ := hv.form
  refine ⟨b, off, A', c, ha, hb, ?_, hv, h5, h6⟩
  have := hcs 0 _ rfl
  rw [Nat.mul_one, Nat.add_zero] at this
  exact this
theorem RIss.of_fl {w : World} {v : Value} {n : Nat} {vs : List Value} {l : List (List Int)} (h : Fl S w 1 v n vs) (hn : l.length = n) (hr : ∀ i, i < n → ∃ u, vs[i]? = some u ∧ Fl S w 1 u (l.getD i []).length (intVals (l.getD i []))) : RIss S w v l := by
  subst hn
  obtain ⟨A, cap, rfl, hc, hl, hs⟩ := h
  refine ⟨A, cap, vs, rfl, hc, hl, fun i hi => ?_, hs⟩
  have hv : i < vs.length := by rw [hl.1]; omega
  rw [chunk_one hv]
  obtain ⟨u, h1, h2⟩ := hr i hi
  rw [List.getElem?_eq_getElem hv] at h1
  injection h1 with h1
  have e : l.getD i [] = l[i] := by rw [List.getD_eq_getElem?_getD, List.getElem?_eq_getElem hi, Option.getD_some]
  rw [e] at h2
  exact ⟨vs[i], rfl, h1 ▸ h2⟩
/-- a row of slices, each of ints -/
theorem RIss.own {w : World} {base : Nat} {e : TypeId} {v : Value} {n : Nat} {vs : List Value} {l : List (List Int)} (h : w.ownsRow base e 1 v n vs) (hS : ∀ b, base ≤ b → S b) (hn : l.length = n) (h1 : ∀ u ∈ vs, u.oneCell' = true) (hr : ∀ i, i < n → ∃ u, vs[i]? = some u ∧ Fl S w 1 u (l.getD i []).length (intVals (l.getD i []))) : RIss S w v l :=
  RIss.of_fl (Fl.own h hS h1) hn hr

end Go.Proofs.YtmjgjopbeokajaaDoor

namespace Go.Proofs.YtmjgjopbeokajaaDoor
open Go.RowKit

variable {S S' : Nat → Prop}
section
variable {P : Program} {ρ : Operand → Value} {W : World} {d : Option Tmp} {t xt yt : TypeId} {p : String} {af : Array Edge} {g : Option (Nat × Bool)} {x y : Operand}
theorem rn_callvc {f : FuncId} {xs : Array Operand} {ts : Array TypeId} {first cap vs : Array Value} (hf : ρ x = .func (.func f) first cap) (ha : (first ++ xs.map ρ) ++ cap = vs) (hc : (callFunc f vs).run P W = .ok (.enter f vs) W) :
    (execOp ρ ⟨d, .call { callee := .value x, args := xs, argTypes := ts }, t, p, af, g⟩).run P W = .ok (.enter f vs) W := by
  simp [execOp, resolve, hf, ha, Deferred.ofValue, invoke, hc]
theorem rn_neg {s : TypeId} {n m : Int} (hx : ρ x = .int .i64 n) (hb : -9223372036854775808 ≤ -n ∧ -n ≤ 9223372036854775807) (hm : -n = m) : (execOp ρ ⟨d, .unOp .neg s x, t, p, af, g⟩).run P W = .ok (.value (.int .i64 m)) W := by
  subst hm
  simp [execOp, hx, Op.unary, Op.intArith, IntWalk.i64_in _ hb]
theorem rn_min2 {s : TypeId} {k : IntKind} {a b : Int} {u : TypeDesc} (_hu : P.underlying s = some u) (hx : ρ x = .int k a) (hy : ρ y = .int k b) : (execOp ρ ⟨d, .call { callee := .builtin .min, args := #[x, y], argTypes := #[s, s] }, t, p, af, g⟩).run P W = .ok (.value (.int k (min a b))) W := by
  simp [execOp, resolve, invoke, builtin, hx, hy, Lib.run_min_ints]
theorem rn_max2 {s : TypeId} {k : IntKind} {a b : Int} {u : TypeDesc} (_hu : P.underlying s = some u) (hx : ρ x = .int k a) (hy : ρ y = .int k b) : (execOp ρ ⟨d, .call { callee := .builtin .max, args := #[x, y], argTypes := #[s, s] }, t, p, af, g⟩).run P W = .ok (.value (.int k (max a b))) W := by
  simp [execOp, resolve, invoke, builtin, hx, hy, Lib.run_max_ints]
end
/-! two elder blocks are written -/
def Two (w w' : World) (p q : Nat) : Prop := w'.os = w.os ∧ w'.tape = w.tape ∧ w'.output = w.output ∧ w.heap.size ≤ w'.heap.size ∧ ∀ b, b < w.heap.size → b ≠ p → b ≠ q → w'.heap[b]? = w.heap[b]?
theorem Two.refl (w : World) (p q : Nat) : Two w w p q := ⟨rfl, rfl, rfl, Nat.le_refl _, fun _ _ _ _ => rfl⟩
theorem Two.ext {w w1 w2 : World} {p q : Nat} (h : Two w w1 p q) (k : Ext w1 w2) : Two w w2 p q :=
  ⟨k.below.os.trans h.1, k.below.tape.trans h.2.1, k.below.output.trans h.2.2.1, Nat.le_trans h.2.2.2.1 k.size, fun b hb h1 h2 => (k.below.block b (Nat.lt_of_lt_of_le hb h.2.2.2.1)).trans (h.2.2.2.2 b hb h1 h2)⟩
theorem Two.grown {w w1 w2 : World} {p q n : Nat} (h : Two w w1 p q) (k : w1.grownBy w2 (some n)) (hn : n = p ∨ n = q ∨ w.heap.size ≤ n) : Two w w2 p q :=
  ⟨k.os.trans h.1, k.tape.trans h.2.1, k.output.trans h.2.2.1, Nat.le_trans h.2.2.2.1 k.size, fun b hb h1 h2 => (k.block b (Nat.lt_of_lt_of_le hb h.2.2.2.1) (fun e => by injection e with e; omega)).trans (h.2.2.2.2 b hb h1 h2)⟩
theorem Two.trans {w w1 w2 : World} {p q : Nat} (h : Two w w1 p q) (k : Two w1 w2 p q) : Two w w2 p q :=
  ⟨k.1.trans h.1, k.2.1.trans h.2.1, k.2.2.1.trans h.2.2.1, Nat.le_trans h.2.2.2.1 k.2.2.2.1, fun b hb h1 h2 => (k.2.2.2.2 b (Nat.lt_of_lt_of_le hb h.2.2.2.1) h1 h2).trans (h.2.2.2.2 b hb h1 h2)⟩
theorem Two.size {w w' : World} {p q : Nat} (h : Two w w' p q) : w.heap.size ≤ w'.heap.size := h.2.2.2.1
theorem Two.blk {w w' : World} {p q n : Nat} {t : TypeId} {cs : List Value} (h : Two w w' p q) (hb : Blk w n t cs) (h1 : n ≠ p) (h2 : n ≠ q) : Blk w' n t cs := (h.2.2.2.2 n hb.lt h1 h2).trans hb
theorem Two.pres {w w' : World} {p q : Nat} (h : Two w w' p q) (h1 : ¬ S p) (h2 : ¬ S q) : Pres S w w' := ⟨h.size, fun b hb hl => h.2.2.2.2 b hl (fun e => h1 (e ▸ hb)) (fun e => h2 (e ▸ hb))⟩
/-- two blocks written are one after the other -/
theorem Two.split {w w' : World} {p q : Nat} (h : Two w w' p q) (hq : q < w.heap.size) : ∃ w1, w.grownBy w1 (some p) ∧ w1.grownBy w' (some q) := by
  refine ⟨{ w' with heap := w'.heap.setIfInBounds q w.heap[q] }, ⟨h.1, h.2.1, h.2.2.1, by simpa using h.size, fun b hb hne => ?_⟩, ⟨rfl, rfl, rfl, by simp, fun b _ hne => ?_⟩⟩
  · by_cases hc : b = q
    · subst hc
      have := h.size
      simp only [Array.getElem?_setIfInBounds_self_of_lt (show b < w'.heap.size by omega)]
      exact (Array.getElem?_eq_getElem hb).symm
    · have hc' : q ≠ b := fun e => hc e.symm
      simp only [Array.getElem?_setIfInBounds_ne hc']
      exact h.2.2.2.2 b hb (fun e => hne (by rw [e])) hc
  · have hc : q ≠ b := fun e => hne (by rw [e])
    simp only [Array.getElem?_setIfInBounds_ne hc]

end Go.Proofs.YtmjgjopbeokajaaDoor

namespace Go.Proofs.YtmjgjopbeokajaaDoor
open Go.RowKit

variable {S S' : Nat → Prop}
section
variable {P : Program} {ρ : Operand → Value} {W : World} {d : Option Tmp} {t : TypeId} {p : String} {af : Array Edge} {g : Option (Nat × Bool)}
end
/-- the first k are u -/
def RepI (u : Int) (m k : Nat) (cur : List Int) : Prop := cur.length = m ∧ ∀ i, i < k → cur.getD i 0 = u
theorem RepI.zero (u : Int) (m : Nat) : RepI u m 0 (List.replicate m 0) := ⟨by simp, fun i hi => by omega⟩
theorem RepI.step {u : Int} {m k n : Nat} {cur ys : List Int} (h : RepI u m k cur) (hk : k + n ≤ m) (hl : n ≤ ys.length) (hy : ∀ i, i < n → ys.getD i 0 = u) : RepI u m (k + n) (splice cur k (ys.take n)) := by
  have hn : (ys.take n).length = n := by rw [List.length_take]; omega
  have hk' : (cur.take k).length = k := by rw [List.length_take, h.1]; omega
  refine ⟨by rw [splice_len (by rw [hn, h.1]; exact hk)]; exact h.1, fun i hi => ?_⟩
  unfold splice
  by_cases hc : i < k
  · have := h.2 i hc
    rw [List.getD_eq_getElem?_getD] at this ⊢
    rw [List.getElem?_append_left (by omega), List.getElem?_take, if_pos hc]
    exact this
  · have := hy (i - k) (by omega)
    rw [List.getD_eq_getElem?_getD] at this ⊢
    rw [List.getElem?_append_right (by omega), hk', List.getElem?_append_left (by omega), List.getElem?_take, if_pos (by omega)]
    exact this
theorem RepI.one {u : Int} {m k : Nat} {cur : List Int} (h : RepI u m k cur) (hk : k < m) : RepI u m (k + 1) (cur.set k u) := by
  refine ⟨by rw [List.length_set]; exact h.1, fun i hi => ?_⟩
  by_cases hc : i = k
  · subst hc
    rw [List.getD_eq_getElem?_getD, List.getElem?_set_self (by rw [h.1]; exact hk)]; rfl
  · have := h.2 i (by omega)
    rw [List.getD_eq_getElem?_getD] at this ⊢
    rw [List.getElem?_set_ne (fun e => hc e.symm)]
    exact this
theorem RepI.take {u : Int} {m k n : Nat} {cur : List Int} (h : RepI u m k cur) (hn : n ≤ k) (hk : k ≤ m) : n ≤ ((cur.drop 0).take k).length ∧ ∀ i, i < n → ((cur.drop 0).take k).getD i 0 = u := by
  refine ⟨by rw [List.length_take, List.length_drop, h.1]; omega, fun i hi => ?_⟩
  have := h.2 i (by omega)
  rw [List.getD_eq_getElem?_getD] at this ⊢
  rw [List.getElem?_take, if_pos (by omega), List.getElem?_drop, Nat.zero_add]
  exact this
theorem RepI.all {u : Int} {m : Nat} {cur : List Int} (h : RepI u m m cur) : cur = List.replicate m u := by
  apply List.ext_getElem (by rw [h.1, List.length_replicate])
  intro i h1 h2
  have := h.2 i (by rw [← h.1]; exact h1)
  rw [List.getD_eq_getElem?_getD, List.getElem?_eq_getElem h1, Option.getD_some] at this
  rw [this, List.getElem_replicate]
end Go.Proofs.YtmjgjopbeokajaaDoor

namespace Go.Proofs.YtmjgjopbeokajaaDoor
open Go.RowKit

section
variable {P : Program} {ops : Array Oper} {Q : Exit → Act → World → Prop} {S : World → Prop} {F : Nat → Bool}
theorem wpAnyF_firstT {i : Nat} {oi : Oper} {v : Value} (Wt : Nat → Bool) (hi : ops[i]? = some oi) (hsel : ∀ (j : Nat) (o : Oper) cs b, ops[j]? = some o → o.op ≠ .select cs b)
    (hQ : ∀ c a w, Q (.panic c) (a.put oi.dst v) w → Q (.panic c) a w)
    (hF : ∀ j, F j = true → Wt j = true) (hW : ∀ j, Wt j = true → j ≠ i) (hwait : ∀ j oj, ops[j]? = some oj → Wt j = true → ∃ e ∈ oj.after, Region.binds .any e = true ∧ (e.on = i ∨ Wt e.on = true)) (hFi : F i = false) :
    ∀ (fuel : Nat) (listed : Array Bool) (a : Act) (w : World),
      (∀ j oj, ops[j]? = some oj → j ≠ i → listed.getD j true = false → (∀ e ∈ oj.after, Region.binds .any e = true → e.on ≠ i) → oi.apart ops oj = true) →
      (∀ j, Wt j = true → listed.getD j true = false) →
      i ∈ Region.ready .any ops listed → YieldsIf P ops S oi v a → S w →
      wpAnyF P ops Q S F fuel (listed.setIfInBounds i true) (a.put oi.dst v) w → wpAnyF P ops Q S F (fuel + 1) listed a w := by
  intro fuel
  induction fuel with
  | zero =>
    intro listed a w _ _ hr hy hS H
    refine ⟨fun h => (by rw [h] at hr; cases hr), fun j hj => ?_⟩
    by_cases hji : j = i
    · subst hji; exact hy.wpOp hi hS ⟨fun _ h => h, H⟩
    · have := ready_mono hj hji
      rw [H.1] at this
      cases this
  | succ fuel ih =>
    intro listed a w hfree hun0 hr hy hS H
    refine ⟨fun h => (by rw [h] at hr; cases hr), fun j hj => ?_⟩
    by_cases hji : j = i
    · subst hji; exact hy.wpOp hi hS ⟨fun _ h => h, H⟩
    · have h1 := H.2 j (ready_mono hj hji)
      obtain ⟨hjun, oj, hoj, hall⟩ := mem_ready.1 hj
      have hno : ∀ k, listed.getD k true = false → ∀ e ∈ oj.after, Region.binds .any e = true → e.on ≠ k := fun k h0 e he hb heq => by
        have h1 := hall e he hb
        rw [heq] at h1
        rcases Nat.lt_or_ge k listed.size with h' | h'
        · simp [h'] at h0 h1; rw [h0] at h1; cases h1
        · simp [Array.getElem?_eq_none h'] at h1
      have hnot := hno i (mem_ready.1 hr).1
      have hWj : Wt j = false := by
        cases hF : Wt j with
        | false => rfl
        | true =>
          obtain ⟨e, he, hb, heq⟩ := hwait j oj hoj hF
          rcases heq with heq | heq
          · exact absurd heq (hnot e he hb)
          · exact absurd rfl (hno e.on (hun0 _ heq) e he hb)
      have hFj : F j = false := by
        cases h : F j with
        | false => rfl
        | true => rw [hF j h] at hWj; cases hWj
      have h2 := wpOp_putIf hoj (hfree j oj hoj hji hjun hnot) (fun cs b => hsel i oi cs b hi) (fun cs b => hsel j oj cs b hoj) hQ hy h1
      have hfree' : ∀ k ok, ops[k]? = some ok → k ≠ i → (listed.setIfInBounds j true).getD k true = false →
          (∀ e ∈ ok.after, Region.binds .any e = true → e.on ≠ i) → oi.apart ops ok = true := fun k ok hk hki hun hno => by
        refine hfree k ok hk hki ?_ hno
        by_cases hjk : j = k
        · subst hjk; exact hjun
        · rw [getD_set_ne true hjk] at hun; exact hun
      refine wpOp_mono (fun a' w' h3 => ⟨h3.2.1, ih (listed.setIfInBounds j true) a' w' hfree' (fun k hk => by rw [getD_set_ne true (fun e => by rw [e] at hWj; rw [hWj] at hk; cases hk)]; exact hun0 k hk) (ready_mono hr (Ne.symm hji)) h3.1 (h3.2.1 hFj hS) ?_⟩) h2
      rw [Array.setIfInBounds_comm _ _ hji]
      exact h3.2.2
def lightT (ops : Array Oper) (F : Nat → Bool) (Wt : List Nat) (L : Array Bool) (i : Nat) : Bool :=
  !F i && Region.free .any ops L i && (Region.ready .any ops L).contains i && (List.range ops.size).all (fun j => !F j || Wt.contains j) &&
    Wt.all fun j => j != i && !L.getD j true && ((ops[j]?).map fun o => o.after.any fun e => Region.binds .any e && (e.on == i || Wt.contains e.on)).getD true
/-- F names operations of the region alone -/
theorem any_lightT {i n : Nat} {L L' : Array Bool} {a : Act} {w : World} {o : Oper} {v : Value} (Wt : List Nat) (hFo : ∀ j, F j = true → j < ops.size) (hs : Region.noSelect ops = true) (hb : lightT ops F Wt L i = true) (hL : L.setIfInBounds i true = L') (ho : ops[i]? = some o) (hQ : ∀ c a w, Q (.panic c) (a.put o.dst v) w → Q (.panic c) a w) (hw : Region.wanted o (yielded ops a.tmps) = true) (hS : S w)
    (hr : ∀ W, S W → (execOp a.eval o).run P W = .ok (.value v) W) (h : wpAnyF P ops Q S F n L' (a.put o.dst v) w) : wpAnyF P ops Q S F (n + 1) L a w := by
  subst hL
  simp only [lightT, Bool.and_eq_true, Bool.not_eq_true', List.all_eq_true, List.mem_range, Bool.or_eq_true] at hb
  obtain ⟨⟨⟨⟨h2, h3⟩, h4⟩, h5⟩, h6⟩ := hb
  have mem : ∀ {j}, Wt.contains j = true → j ∈ Wt := fun h => by simpa using h
  refine wpAnyF_firstT (fun j => Wt.contains j) ho (Region.noSelect_spec hs) hQ (fun j hj => ?_) (fun j hj => ?_) (fun j oj hj hw => ?_) h2 n L a w (Region.free_spec ho h3) (fun j hj => ?_) (by simpa using h4) (.inl ⟨hw, hr⟩) hS h
  · rcases h5 j (hFo j hj) with h | h
    · rw [hj] at h; cases h
    · exact h
  · have := (h6 j (mem hj)).1.1; simpa using this
  · have := (h6 j (mem hw)).2
    rw [hj] at this
    simp only [Option.map_some, Option.getD_some] at this
    obtain ⟨e, he, h7⟩ := Array.any_eq_true'.1 this
    simp only [Bool.and_eq_true, Bool.or_eq_true, beq_iff_eq] at h7
    exact ⟨e, he, h7.1, h7.2⟩
  · exact (h6 j (mem hj)).1.2
variable {N : Nat} {m : List (Nat × Value)} {a : Act} {w : World} {i d : Nat} {o : Oper} {v : Value}
theorem anyt_val {n : Nat} {L L' : Array Bool} (Wt : List Nat) (hF : Sl N m a) (hFo : ∀ j, F j = true → j < ops.size) (hs : Region.noSelect ops = true) (hb : lightT ops F Wt L i = true) (hL : L.setIfInBounds i true = L') (ho : ops[i]? = some o) (hd : o.dst = some d) (hN : Nat.blt d N = true)
    (hQ : ∀ c a w v, Q (.panic c) (a.put (some d) v) w → Q (.panic c) a w) (hw : Region.wanted o (yielded ops a.tmps) = true) (hS : S w)
    (hr : ∀ W, S W → (execOp a.eval o).run P W = .ok (.value v) W) (h : ∀ a', Sl N ((d, v) :: m) a' → wpAnyF P ops Q S F n L' a' w) : wpAnyF P ops Q S F (n + 1) L a w :=
  any_lightT Wt hFo hs hb hL ho (by rw [hd]; exact fun c a w => hQ c a w _) hw hS hr (h _ (by rw [hd]; exact hF.put hN))
end

end Go.Proofs.YtmjgjopbeokajaaDoor

namespace Go.Proofs.YtmjgjopbeokajaaDoor
open Go.RowKit

variable {S S' : Nat → Prop}
section
variable {P : Program} {ρ : Operand → Value} {W : World} {d : Option Tmp} {t xt yt : TypeId} {p : String} {af : Array Edge} {g : Option (Nat × Bool)} {x y : Operand}
theorem rn_shrN {k : IntKind} {a n m : Nat} (hx : ρ x = .int .i64 (a : Nat)) (hy : ρ y = .int k (n : Nat)) (h : n < 64) (hm : a / 2 ^ n = m) : (execOp ρ ⟨d, .binOp .shr xt x y yt, t, p, af, g⟩).run P W = .ok (.value (.int .i64 (m : Nat))) W := by
  subst hm
  refine rn_bin hx hy guard_int ?_
  have hn : min n IntKind.i64.bits = n := Nat.min_eq_left (by show n ≤ 64; omega)
  have h0 : ¬ ((n : Int) < 0) := by omega
  show Sem.run P (Op.shift .shr .i64 ((a : Nat) : Int) k (n : Nat)) W = _
  unfold Op.shift
  rw [if_neg h0]
  show Sem.run P (pure (Value.int .i64 (Int.fdiv ((a : Nat) : Int) (2 ^ (min ((n : Int)).toNat IntKind.i64.bits))))) W = _
  rw [Int.toNat_natCast, hn, Sem.run_pure]
  congr 2
  rw [Int.fdiv_eq_ediv_of_nonneg _ (by exact Int.pow_nonneg (by omega))]
  rw [Int.natCast_ediv, Int.natCast_pow]
  rfl
theorem b_shr8 (a : UInt8) (k : IntKind) (n : Nat) (h : n < 8) : (binOp .shr t (.int .u8 (a.toNat : Nat)) (.int k (n : Nat))).run P W = .ok (.int .u8 ((a >>> UInt8.ofNat n).toNat : Nat)) W := by
  have hn : min n IntKind.u8.bits = n := Nat.min_eq_left (by show n ≤ 8; omega)
  have h0 : ¬ ((n : Int) < 0) := by omega
  show Sem.run P (Op.shift .shr .u8 ((a.toNat : Nat) : Int) k (n : Nat)) W = _
  unfold Op.shift
  rw [if_neg h0]
  show Sem.run P (pure (Value.int .u8 (Int.fdiv ((a.toNat : Nat) : Int) (2 ^ (min ((n : Int)).toNat IntKind.u8.bits))))) W = _
  rw [Int.toNat_natCast, hn, Sem.run_pure]
  congr 2
  rw [UInt8.toNat_shiftRight, UInt8.toNat_ofNat_of_lt' (by show n < 256; omega), Nat.mod_eq_of_lt h, Nat.shiftRight_eq_div_pow, Int.fdiv_eq_ediv_of_nonneg _ (by exact Int.pow_nonneg (by omega))]
  rw [Int.natCast_ediv, Int.natCast_pow]
  rfl
theorem rn_shr8 {a : UInt8} {k : IntKind} {n : Nat} (hx : ρ x = .int .u8 (a.toNat : Nat)) (hy : ρ y = .int k (n : Nat)) (h : n < 8) : (execOp ρ ⟨d, .binOp .shr xt x y yt, t, p, af, g⟩).run P W = .ok (.value (.int .u8 ((a >>> UInt8.ofNat n).toNat : Nat))) W := rn_bin hx hy guard_int (b_shr8 a k n h)
theorem ofInt8 (a : UInt8) : BitVec.ofInt IntKind.u8.bits ((a.toNat : Nat) : Int) = a.toBitVec := by
  apply BitVec.eq_of_toNat_eq
  rw [BitVec.toNat_ofInt]
  show (((a.toNat : Nat) : Int) % 256).toNat = a.toNat
  have := UInt8.toNat_lt a
  omega
theorem wrap8n (n : Nat) (h : n < 256) : IntKind.u8.wrap (n : Int) = n := by rw [wrap8m]; omega
theorem b_and8 (a b : UInt8) : (binOp .and t (.int .u8 (a.toNat : Nat)) (.int .u8 (b.toNat : Nat))).run P W = .ok (.int .u8 ((a &&& b).toNat : Nat)) W := by
  show Sem.run P (pure (Value.int .u8 (IntKind.u8.wrap ((BitVec.ofInt IntKind.u8.bits ((a.toNat : Nat) : Int) &&& BitVec.ofInt IntKind.u8.bits ((b.toNat : Nat) : Int)).toNat : Nat)))) W = _
  rw [ofInt8, ofInt8, Sem.run_pure, wrap8n _ (BitVec.isLt _)]
  rfl
theorem rn_and8 {a b : UInt8} (hx : ρ x = .int .u8 (a.toNat : Nat)) (hy : ρ y = .int .u8 (b.toNat : Nat)) : (execOp ρ ⟨d, .binOp .and xt x y yt, t, p, af, g⟩).run P W = .ok (.value (.int .u8 ((a &&& b).toNat : Nat))) W := rn_bin hx hy guard_int (b_and8 a b)
/-- a slice of nothing, with room -/
theorem rn_makeC {s e : TypeId} {z : Value} {bytes : Nat} (E : El P s e z 1 bytes) (hz : z.cells = #[z]) {kx ky : IntKind} {c : Nat} {cs : List Value} (hx : ρ x = .int kx 0) (hy : ρ y = .int ky c) (h : c * bytes ≤ 140737488355328) (h2 : c ≤ 9223372036854775807) (hc : List.replicate c z = cs) :
    (execOp ρ ⟨d, .makeSlice s x y, t, p, af, g⟩).run P W = .ok (.value (.slice (some ⟨W.heap.size, 0, none⟩) 0 c)) (W.alloc (.cells cs.toArray e)) := by
  obtain ⟨ii, hi, hz0, hz1, hz2⟩ := info_parts E.hi
  have hb : (ii.bytes : Int) * (c : Int) ≤ 281474976710656 := by
    rw [← Int.natCast_mul, hz2, Nat.mul_comm]; omega
  have hr := run_make (P := P) W s e ii z E.ht hi hz0 kx ky 0 c (by omega) (by omega) hb (by omega)
  refine rn_make hx hy (hr.trans ?_)
  rw [Int.toNat_natCast, hz1, hz, made_one, hc]
  rfl
theorem argsw_2 {x0 x1 : Operand} {v0 v1 : Value} {first cap : Array Value} {arg : Value → Value → Array Value} (harg : ∀ u v, (first ++ #[u, v]) ++ cap = arg u v) (h0 : ρ x0 = v0) (h1 : ρ x1 = v1) : (first ++ #[x0, x1].map ρ) ++ cap = arg v0 v1 := by rw [← harg]; simp [h0, h1]
end
theorem own_room {w : World} {g c : Nat} {e : TypeId} {cs : List Value} (h : Blk w g e cs) (hl : cs.length = c) (hc : c ≤ 9223372036854775807) : w.ownsRow g e 1 (.slice (some ⟨g, 0, none⟩) 0 c) 0 [] :=
  ⟨by simp, .inr ⟨g, c, cs.toArray, rfl, Nat.le_refl _, h, Nat.zero_le _, by unfold maxLen; omega, by simp [hl], by simp⟩⟩
/-! rows of one type side by side -/
theorem Apart.app {w : World} {base : Nat} {e : TypeId} {k n : Nat} {v u u' : Value} {xs : List Value} (h : w.ownsRow base e k v n xs) (ha : Apart v u) (hn : ∀ g, g < w.heap.size → some g ≠ u.ownBlock → some g ≠ u'.ownBlock) : Apart v u' := fun g hg hu => by
  obtain ⟨cur, hc⟩ := own_heap h hg
  exact hn g (Array.getElem?_eq_some_iff.1 hc).1 (fun e1 => ha g hg e1.symm) hu.symm
theorem Apart.types {w : World} {base base' : Nat} {e e' : TypeId} {k k' n n' : Nat} {v u : Value} {xs ys : List Value} (h : w.ownsRow base e k v n xs) (h' : w.ownsRow base' e' k' u n' ys) (hne : e ≠ e') : Apart v u := fun g hg hu => by
  obtain ⟨c1, h1⟩ := own_heap h hg
  obtain ⟨c2, h2⟩ := own_heap h' hu
  rw [h1] at h2
  injection h2 with h2
  injection h2 with _ h2
  exact hne h2
theorem Apart.below {w : World} {base : Nat} {e : TypeId} {k n : Nat} {v u : Value} {xs : List Value} (h : w.ownsRow base e k u n xs) (hv : ∀ g, v.ownBlock = some g → g < base) : Apart v u := fun g hg hu => by
  have := (h.lt g hu).1
  have := hv g hg
  omega
end Go.Proofs.YtmjgjopbeokajaaDoor

namespace Go.Proofs.YtmjgjopbeokajaaDoor
open Go.RowKit

variable {S S' : Nat → Prop}

set_option maxRecDepth 100000 in
set_option maxHeartbeats 1000000 in
theorem valid_any (A : Option Addr) (c : Nat) (sd : List UInt8) (many used : Int) (w : World) (hf : Fl S w 1 (.slice A sd.length c) sd.length (byteVals sd)) :
    Calls Tryd.prog 30 #[.agg #[.slice A sd.length c, .int .i64 many, .int .i64 used]] w (fun e w' => e = .returned (.bool (kOk sd many used)) ∧ Ext w w') := by
  have hc : Fl (Clip S w) w 1 (.slice A sd.length c) sd.length (byteVals sd) := hf.clip
  have hcc := (Fl.cel hc).2.1
  refine calls_enter (l := [(.agg #[(.slice A sd.length c), (.int .i64 many), (.int .i64 used)])]) Tryd.func30 rfl rfl rfl (fun aA hF => ?_)
  refine wp_seq_k (fun K1 hK1 => ?_)
  refine wp_region_lit ?_
  refine wpl_op (i := 0) rfl (o_new (fun g => (.pointer (some ⟨g, 0, none⟩))) [(.slice A sd.length c), (.int .i64 many), (.int .i64 used)] 24 hF rfl rfl rfl rfl (rn_box (hF.get rfl) (by kernel_rfl)) ?_)
  intro g2 w3 a8 F9 z6 z7 b4 hx5; clear hF
  refine qv 1 (.bool false) F9 rfl (rn_assign rfl) fun _ F11 => ?_; clear F9
  refine wpList_nil ?_
  refine hK1 _ _ ?_
  clear hK1
  refine wp_seq_k (fun K12 hK12 => ?_)
  refine wp_region_lit ?_
  refine qv 0 (.pointer (some ⟨g2, 0, none⟩)) F11 rfl (rn_field Tryd.underlying24 rfl (by kernel_rfl) (F11.get rfl) rfl) fun _ F14 => ?_; clear F11
  refine qv 1 (.slice A sd.length c) F14 rfl (rn_load (isAgg_no Tryd.underlying22 rfl) (F14.get rfl) (b4.rule.1 0)) fun _ F16 => ?_; clear F14
  refine qv 2 (.int .i64 (sd.length : Nat)) F16 rfl (rn_len_slice Tryd.underlying22 (F16.get rfl)) fun _ F18 => ?_; clear F16
  refine qv 3 (.bool (decide ((1 : Int) ≤ ((sd.length : Nat) : Int)))) F18 rfl (rn_geq (F18.get rfl) rfl) fun _ F20 => ?_; clear F18
  refine qv 4 (.bool (decide ((1 : Int) ≤ ((sd.length : Nat) : Int)))) F20 rfl (rn_move (F20.get rfl)) fun _ F22 => ?_; clear F20
  by_cases hc23 : (1 : Int) ≤ ((sd.length : Nat) : Int)
  · skip
    refine qg 5 (.pointer (some ⟨g2, 0, none⟩)) F22 (decide_eq_true hc23) (rn_field Tryd.underlying24 rfl (by kernel_rfl) (F22.get rfl) rfl) fun _ F25 => ?_; clear F22
    refine qg 6 (.slice A sd.length c) F25 (decide_eq_true hc23) (rn_load (isAgg_no Tryd.underlying22 rfl) (F25.get rfl) (b4.rule.1 0)) fun _ F27 => ?_; clear F25
    refine qg 7 (.int .i64 (sd.length : Nat)) F27 (decide_eq_true hc23) (rn_len_slice Tryd.underlying22 (F27.get rfl)) fun _ F29 => ?_; clear F27
    refine qg 8 (.bool (decide (((sd.length : Nat) : Int) ≤ (64 : Int)))) F29 (decide_eq_true hc23) (rn_leq (F29.get rfl) rfl) fun _ F31 => ?_; clear F29
    refine qv 9 (.bool (decide (((sd.length : Nat) : Int) ≤ (64 : Int)))) F31 rfl (rn_pickT (c_true F31 rfl (decide_eq_true hc23)) (F31.get rfl)) fun _ F33 => ?_; clear F31
    refine qv 10 (.bool (decide (((sd.length : Nat) : Int) ≤ (64 : Int)))) F33 rfl (rn_move (F33.get rfl)) fun _ F35 => ?_; clear F33
    by_cases hc36 : ((sd.length : Nat) : Int) ≤ (64 : Int)
    · skip
      refine qg 11 (.pointer (some ⟨g2, 1, none⟩)) F35 (decide_eq_true hc36) (rn_field Tryd.underlying24 rfl (by kernel_rfl) (F35.get rfl) rfl) fun _ F38 => ?_; clear F35
      refine qg 12 (.int .i64 many) F38 (decide_eq_true hc36) (rn_load (isAgg_no Tryd.underlying3 rfl) (F38.get rfl) (b4.rule.1 1)) fun _ F40 => ?_; clear F38
      refine qg 13 (.bool (decide ((1 : Int) ≤ (many : Int)))) F40 (decide_eq_true hc36) (rn_geq (F40.get rfl) rfl) fun _ F42 => ?_; clear F40
      refine qv 14 (.bool (decide ((1 : Int) ≤ (many : Int)))) F42 rfl (rn_pickT (c_true F42 rfl (decide_eq_true hc36)) (F42.get rfl)) fun _ F44 => ?_; clear F42
      refine qv 15 (.bool (decide ((1 : Int) ≤ (many : Int)))) F44 rfl (rn_move (F44.get rfl)) fun _ F46 => ?_; clear F44
      by_cases hc47 : (1 : Int) ≤ (many : Int)
      · skip
        refine qg 16 (.pointer (some ⟨g2, 1, none⟩)) F46 (decide_eq_true hc47) (rn_field Tryd.underlying24 rfl (by kernel_rfl) (F46.get rfl) rfl) fun _ F49 => ?_; clear F46
        refine qg 17 (.int .i64 many) F49 (decide_eq_true hc47) (rn_load (isAgg_no Tryd.underlying3 rfl) (F49.get rfl) (b4.rule.1 1)) fun _ F51 => ?_; clear F49
        refine qg 18 (.bool (decide ((many : Int) ≤ (4096 : Int)))) F51 (decide_eq_true hc47) (rn_leq (F51.get rfl) rfl) fun _ F53 => ?_; clear F51
        refine qv 19 (.bool (decide ((many : Int) ≤ (4096 : Int)))) F53 rfl (rn_pickT (c_true F53 rfl (decide_eq_true hc47)) (F53.get rfl)) fun _ F55 => ?_; clear F53
        refine qv 20 (.bool (decide ((many : Int) ≤ (4096 : Int)))) F55 rfl (rn_move (F55.get rfl)) fun _ F57 => ?_; clear F55
        by_cases hc58 : (many : Int) ≤ (4096 : Int)
        · skip
          refine qg 21 (.pointer (some ⟨g2, 2, none⟩)) F57 (decide_eq_true hc58) (rn_field Tryd.underlying24 rfl (by kernel_rfl) (F57.get rfl) rfl) fun _ F60 => ?_; clear F57
          refine qg 22 (.int .i64 used) F60 (decide_eq_true hc58) (rn_load (isAgg_no Tryd.underlying3 rfl) (F60.get rfl) (b4.rule.1 2)) fun _ F62 => ?_; clear F60
          refine qg 23 (.bool (decide ((0 : Int) ≤ (used : Int)))) F62 (decide_eq_true hc58) (rn_geq (F62.get rfl) rfl) fun _ F64 => ?_; clear F62
          refine qv 24 (.bool (decide ((0 : Int) ≤ (used : Int)))) F64 rfl (rn_pickT (c_true F64 rfl (decide_eq_true hc58)) (F64.get rfl)) fun _ F66 => ?_; clear F64
          refine qv 25 (.bool (decide ((0 : Int) ≤ (used : Int)))) F66 rfl (rn_move (F66.get rfl)) fun _ F68 => ?_; clear F66
          by_cases hc69 : (0 : Int) ≤ (used : Int)
          · skip
            refine qg 26 (.pointer (some ⟨g2, 2, none⟩)) F68 (decide_eq_true hc69) (rn_field Tryd.underlying24 rfl (by kernel_rfl) (F68.get rfl) rfl) fun _ F71 => ?_; clear F68
            refine qg 27 (.int .i64 used) F71 (decide_eq_true hc69) (rn_load (isAgg_no Tryd.underlying3 rfl) (F71.get rfl) (b4.rule.1 2)) fun _ F73 => ?_; clear F71
            refine qg 28 (.pointer (some ⟨g2, 1, none⟩)) F73 (decide_eq_true hc69) (rn_field Tryd.underlying24 rfl (by kernel_rfl) (F73.get rfl) rfl) fun _ F75 => ?_; clear F73
            refine qg 29 (.int .i64 many) F75 (decide_eq_true hc69) (rn_load (isAgg_no Tryd.underlying3 rfl) (F75.get rfl) (b4.rule.1 1)) fun _ F77 => ?_; clear F75
            refine qg 30 (.bool (decide ((used : Int) ≤ (many : Int)))) F77 (decide_eq_true hc69) (rn_leq (F77.get rfl) (F77.get rfl)) fun _ F79 => ?_; clear F77
            refine qv 31 (.bool (decide ((used : Int) ≤ (many : Int)))) F79 rfl (rn_pickT (c_true F79 rfl (decide_eq_true hc69)) (F79.get rfl)) fun _ F81 => ?_; clear F79
            refine qv 32 (.bool (decide ((used : Int) ≤ (many : Int)))) F81 rfl (rn_assign (F81.get rfl)) fun _ F83 => ?_; clear F81
            refine wpList_nil ?_
            refine hK12 _ _ ?_
            clear hK12
            have F84 := (((F83.nil.c F83 2 rfl).c F83 1 rfl).c F83 0 rfl)
            clear F83
            refine wp_ret ?_
            refine ret1 F84 rfl rfl ?_
            exact ⟨congrArg (fun b => Ending.returned (.bool b)) (show (decide ((used : Int) ≤ (many : Int))) = kOk sd many used from by unfold kOk; exact decide_eq_decide.2 ⟨fun h => by omega, fun h => by omega⟩), ((Ext.refl w).trans hx5)⟩
          · skip
            refine qu 26 F68 (decide_eq_false hc69) fun _ F86 => ?_; clear F68
            refine qu 27 F86 (decide_eq_false hc69) fun _ F88 => ?_; clear F86
            refine qu 28 F88 (decide_eq_false hc69) fun _ F90 => ?_; clear F88
            refine qu 29 F90 (decide_eq_false hc69) fun _ F92 => ?_; clear F90
            refine qu 30 F92 (decide_eq_false hc69) fun _ F94 => ?_; clear F92
            refine qv 31 (.bool false) F94 rfl (rn_pickF (c_false F94 rfl (decide_eq_false hc69)) rfl) fun _ F96 => ?_; clear F94
            refine qv 32 (.bool false) F96 rfl (rn_assign (F96.get rfl)) fun _ F98 => ?_; clear F96
            refine wpList_nil ?_
            refine hK12 _ _ ?_
            clear hK12
            have F99 := (((F98.nil.c F98 2 rfl).c F98 1 rfl).c F98 0 rfl)
            clear F98
            refine wp_ret ?_
            refine ret1 F99 rfl rfl ?_
            exact ⟨by rw [kOk, decide_eq_false (by omega)], ((Ext.refl w).trans hx5)⟩
        · skip
          refine qu 21 F57 (decide_eq_false hc58) fun _ F101 => ?_; clear F57
          refine qu 22 F101 (decide_eq_false hc58) fun _ F103 => ?_; clear F101
          refine qu 23 F103 (decide_eq_false hc58) fun _ F105 => ?_; clear F103
          refine qv 24 (.bool false) F105 rfl (rn_pickF (c_false F105 rfl (decide_eq_false hc58)) rfl) fun _ F107 => ?_; clear F105
          refine qv 25 (.bool false) F107 rfl (rn_move (F107.get rfl)) fun _ F109 => ?_; clear F107
          refine qu 26 F109 rfl fun _ F111 => ?_; clear F109
          refine qu 27 F111 rfl fun _ F113 => ?_; clear F111
          refine qu 28 F113 rfl fun _ F115 => ?_; clear F113
          refine qu 29 F115 rfl fun _ F117 => ?_; clear F115
          refine qu 30 F117 rfl fun _ F119 => ?_; clear F117
          refine qv 31 (.bool false) F119 rfl (rn_pickF (c_false F119 rfl rfl) rfl) fun _ F121 => ?_; clear F119
          refine qv 32 (.bool false) F121 rfl (rn_assign (F121.get rfl)) fun _ F123 => ?_; clear F121
          refine wpList_nil ?_
          refine hK12 _ _ ?_
          clear hK12
          have F124 := (((F123.nil.c F123 2 rfl).c F123 1 rfl).c F123 0 rfl)
          clear F123
          refine wp_ret ?_
          refine ret1 F124 rfl rfl ?_
          exact ⟨by rw [kOk, decide_eq_false (by omega)], ((Ext.refl w).trans hx5)⟩
      · skip
        refine qu 16 F46 (decide_eq_false hc47) fun _ F126 => ?_; clear F46
        refine qu 17 F126 (decide_eq_false hc47) fun _ F128 => ?_; clear F126
        refine qu 18 F128 (decide_eq_false hc47) fun _ F130 => ?_; clear F128
        refine qv 19 (.bool false) F130 rfl (rn_pickF (c_false F130 rfl (decide_eq_false hc47)) rfl) fun _ F132 => ?_; clear F130
        refine qv 20 (.bool false) F132 rfl (rn_move (F132.get rfl)) fun _ F134 => ?_; clear F132
        refine qu 21 F134 rfl fun _ F136 => ?_; clear F134
        refine qu 22 F136 rfl fun _ F138 => ?_; clear F136
        refine qu 23 F138 rfl fun _ F140 => ?_; clear F138
        refine qv 24 (.bool false) F140 rfl (rn_pickF (c_false F140 rfl rfl) rfl) fun _ F142 => ?_; clear F140
        refine qv 25 (.bool false) F142 rfl (rn_move (F142.get rfl)) fun _ F144 => ?_; clear F142
        refine qu 26 F144 rfl fun _ F146 => ?_; clear F144
        refine qu 27 F146 rfl fun _ F148 => ?_; clear F146
        refine qu 28 F148 rfl fun _ F150 => ?_; clear F148
        refine qu 29 F150 rfl fun _ F152 => ?_; clear F150
        refine qu 30 F152 rfl fun _ F154 => ?_; clear F152
        refine qv 31 (.bool false) F154 rfl (rn_pickF (c_false F154 rfl rfl) rfl) fun _ F156 => ?_; clear F154
        refine qv 32 (.bool false) F156 rfl (rn_assign (F156.get rfl)) fun _ F158 => ?_; clear F156
        refine wpList_nil ?_
        refine hK12 _ _ ?_
        clear hK12
        have F159 := (((F158.nil.c F158 2 rfl).c F158 1 rfl).c F158 0 rfl)
        clear F158
        refine wp_ret ?_
        refine ret1 F159 rfl rfl ?_
        exact ⟨by rw [kOk, decide_eq_false (by omega)], ((Ext.refl w).trans hx5)⟩
    · skip
      refine qu 11 F35 (decide_eq_false hc36) fun _ F161 => ?_; clear F35
      refine qu 12 F161 (decide_eq_false hc36) fun _ F163 => ?_; clear F161
      refine qu 13 F163 (decide_eq_false hc36) fun _ F165 => ?_; clear F163
      refine qv 14 (.bool false) F165 rfl (rn_pickF (c_false F165 rfl (decide_eq_false hc36)) rfl) fun _ F167 => ?_; clear F165
      refine qv 15 (.bool false) F167 rfl (rn_move (F167.get rfl)) fun _ F169 => ?_; clear F167
      refine qu 16 F169 rfl fun _ F171 => ?_; clear F169
      refine qu 17 F171 rfl fun _ F173 => ?_; clear F171
      refine qu 18 F173 rfl fun _ F175 => ?_; clear F173
      refine qv 19 (.bool false) F175 rfl (rn_pickF (c_false F175 rfl rfl) rfl) fun _ F177 => ?_; clear F175
      refine qv 20 (.bool false) F177 rfl (rn_move (F177.get rfl)) fun _ F179 => ?_; clear F177
      refine qu 21 F179 rfl fun _ F181 => ?_; clear F179
      refine qu 22 F181 rfl fun _ F183 => ?_; clear F181
      refine qu 23 F183 rfl fun _ F185 => ?_; clear F183
      refine qv 24 (.bool false) F185 rfl (rn_pickF (c_false F185 rfl rfl) rfl) fun _ F187 => ?_; clear F185
      refine qv 25 (.bool false) F187 rfl (rn_move (F187.get rfl)) fun _ F189 => ?_; clear F187
      refine qu 26 F189 rfl fun _ F191 => ?_; clear F189
      refine qu 27 F191 rfl fun _ F193 => ?_; clear F191
      refine qu 28 F193 rfl fun _ F195 => ?_; clear F193
      refine qu 29 F195 rfl fun _ F197 => ?_; clear F195
      refine qu 30 F197 rfl fun _ F199 => ?_; clear F197
      refine qv 31 (.bool false) F199 rfl (rn_pickF (c_false F199 rfl rfl) rfl) fun _ F201 => ?_; clear F199
      refine qv 32 (.bool false) F201 rfl (rn_assign (F201.get rfl)) fun _ F203 => ?_; clear F201
      refine wpList_nil ?_
      refine hK12 _ _ ?_
      clear hK12
      have F204 := (((F203.nil.c F203 2 rfl).c F203 1 rfl).c F203 0 rfl)
      clear F203
      refine wp_ret ?_
      refine ret1 F204 rfl rfl ?_
      exact ⟨by rw [kOk, decide_eq_false (by omega)], ((Ext.refl w).trans hx5)⟩
  · skip
    refine qu 5 F22 (decide_eq_false hc23) fun _ F206 => ?_; clear F22
    refine qu 6 F206 (decide_eq_false hc23) fun _ F208 => ?_; clear F206
    refine qu 7 F208 (decide_eq_false hc23) fun _ F210 => ?_; clear F208
    refine qu 8 F210 (decide_eq_false hc23) fun _ F212 => ?_; clear F210
    refine qv 9 (.bool false) F212 rfl (rn_pickF (c_false F212 rfl (decide_eq_false hc23)) rfl) fun _ F214 => ?_; clear F212
    refine qv 10 (.bool false) F214 rfl (rn_move (F214.get rfl)) fun _ F216 => ?_; clear F214
    refine qu 11 F216 rfl fun _ F218 => ?_; clear F216
    refine qu 12 F218 rfl fun _ F220 => ?_; clear F218
    refine qu 13 F220 rfl fun _ F222 => ?_; clear F220
    refine qv 14 (.bool false) F222 rfl (rn_pickF (c_false F222 rfl rfl) rfl) fun _ F224 => ?_; clear F222
    refine qv 15 (.bool false) F224 rfl (rn_move (F224.get rfl)) fun _ F226 => ?_; clear F224
    refine qu 16 F226 rfl fun _ F228 => ?_; clear F226
    refine qu 17 F228 rfl fun _ F230 => ?_; clear F228
    refine qu 18 F230 rfl fun _ F232 => ?_; clear F230
    refine qv 19 (.bool false) F232 rfl (rn_pickF (c_false F232 rfl rfl) rfl) fun _ F234 => ?_; clear F232
    refine qv 20 (.bool false) F234 rfl (rn_move (F234.get rfl)) fun _ F236 => ?_; clear F234
    refine qu 21 F236 rfl fun _ F238 => ?_; clear F236
    refine qu 22 F238 rfl fun _ F240 => ?_; clear F238
    refine qu 23 F240 rfl fun _ F242 => ?_; clear F240
    refine qv 24 (.bool false) F242 rfl (rn_pickF (c_false F242 rfl rfl) rfl) fun _ F244 => ?_; clear F242
    refine qv 25 (.bool false) F244 rfl (rn_move (F244.get rfl)) fun _ F246 => ?_; clear F244
    refine qu 26 F246 rfl fun _ F248 => ?_; clear F246
    refine qu 27 F248 rfl fun _ F250 => ?_; clear F248
    refine qu 28 F250 rfl fun _ F252 => ?_; clear F250
    refine qu 29 F252 rfl fun _ F254 => ?_; clear F252
    refine qu 30 F254 rfl fun _ F256 => ?_; clear F254
    refine qv 31 (.bool false) F256 rfl (rn_pickF (c_false F256 rfl rfl) rfl) fun _ F258 => ?_; clear F256
    refine qv 32 (.bool false) F258 rfl (rn_assign (F258.get rfl)) fun _ F260 => ?_; clear F258
    refine wpList_nil ?_
    refine hK12 _ _ ?_
    clear hK12
    have F261 := (((F260.nil.c F260 2 rfl).c F260 1 rfl).c F260 0 rfl)
    clear F260
    refine wp_ret ?_
    refine ret1 F261 rfl rfl ?_
    exact ⟨by rw [kOk, decide_eq_false (by omega)], ((Ext.refl w).trans hx5)⟩

theorem valid_at {v : Value} {m : Nat} (sd : List UInt8) (many used : Int) (w : World) (hf : Fl S w 1 v m (byteVals sd)) :
    Calls Tryd.prog 30 #[.agg #[v, .int .i64 many, .int .i64 used]] w (fun e w' => e = .returned (.bool (kOk sd many used)) ∧ Ext w w') := by
  have hm := hf.blen
  subst hm
  obtain ⟨A, c, rfl, _⟩ := hf.form
  exact valid_any A c sd many used w hf

set_option maxRecDepth 100000 in
set_option maxHeartbeats 1000000 in
theorem two_any (n : Nat) (w : World) (hn : n < 65536) :
    Calls Tryd.prog 55 #[.int .i64 (n : Nat)] w (fun e w' => ∃ A c, e = .returned (.slice A 2 c) ∧ Fl (fun b => w.heap.size ≤ b) w' 1 (.slice A 2 c) 2 (byteVals (two n)) ∧ Ext w w') := by
  refine calls_enter (l := [(.int .i64 (n : Nat))]) Tryd.func55 rfl rfl rfl (fun aA hF => ?_)
  refine wp_seq_k (fun K1 hK1 => ?_)
  refine wp_region_lit ?_
  refine qv 0 (.slice none 0 0) hF rfl (rn_assign rfl) fun _ F3 => ?_; clear hF
  refine wpList_nil ?_
  refine hK1 _ _ ?_
  clear hK1
  refine wp_seq_k (fun K4 hK4 => ?_)
  refine wp_region_lit ?_
  refine qv 0 (.int .i64 (n : Nat)) F3 rfl (rn_move (F3.get rfl)) fun _ F6 => ?_; clear F3
  refine qv 1 (.int .i64 (n / 256 : Nat)) F6 rfl (rn_shrN (a := n) (n := 8) (m := n / 256) (F6.get rfl) rfl (by omega) (by rw [show 2 ^ 8 = 256 from rfl])) fun _ F8 => ?_; clear F6
  refine qv 2 (.int .u8 ((UInt8.ofNat (n / 256)).toNat : Nat)) F8 rfl (rn_convW Tryd.underlying3 Tryd.underlying5 (F8.get rfl) (cvi_8 (n / 256))) fun _ F10 => ?_; clear F8
  refine qv 3 (.int .i64 (n : Nat)) F10 rfl (rn_move (F10.get rfl)) fun _ F12 => ?_; clear F10
  refine qv 4 (.int .u8 ((UInt8.ofNat n).toNat : Nat)) F12 rfl (rn_convW Tryd.underlying3 Tryd.underlying5 (F12.get rfl) (cvi_8 n)) fun _ F14 => ?_; clear F12
  refine wpl_op (i := 5) rfl (o_new (fun g => (.slice (some ⟨g, 0, none⟩) 2 2)) [(.int .u8 ((UInt8.ofNat (n / 256)).toNat : Nat)), (.int .u8 ((UInt8.ofNat n).toNat : Nat))] 5 F14 rfl rfl rfl rfl (rn_buildSlice (parts2 (F14.get rfl) (F14.get rfl)) (by kernel_rfl)) ?_)
  intro g15 w16 a21 F22 z19 z20 b17 hx18; clear F14
  refine qv 6 (.slice (some ⟨g15, 0, none⟩) 2 2) F22 rfl (rn_assign (F22.get rfl)) fun _ F24 => ?_; clear F22
  refine wpList_nil ?_
  refine hK4 _ _ ?_
  clear hK4
  have F25 := ((F24.nil.c F24 2 rfl).c F24 0 rfl)
  clear F24
  refine wp_ret ?_
  refine ret1 F25 rfl rfl ?_
  exact ⟨_, _, rfl, (Fl.sub (Fl.blk (S := fun b => b = g15) (k := 1) (n := 2) (c := 2) (cs := byteVals [(UInt8.ofNat (n / 256)), (UInt8.ofNat n)]) b17 rfl (byteVals_one _) (by omega) rfl) (fun b hb => by omega)), ((Ext.refl w).trans hx18)⟩

set_option maxRecDepth 100000 in
set_option maxHeartbeats 1000000 in
theorem open_any (d : List UInt8) (w : World) (hd : d.length = 32) (hG : Glob w) :
    Calls Tryd.prog 43 #[.agg (byteVals d).toArray] w (fun e w' => e = .returned (.agg (byteVals (openD d)).toArray) ∧ Ext w w') := by
  refine calls_enter (l := [(.agg (byteVals d).toArray)]) Tryd.func43 rfl rfl rfl (fun aA hF => ?_)
  refine wp_seq_k (fun K1 hK1 => ?_)
  refine wp_region_lit ?_
  refine wpl_op (i := 0) rfl (o_new (fun g => (.pointer (some ⟨g, 0, none⟩))) (byteVals d) 37 hF rfl rfl rfl rfl (rn_box (hF.get rfl) (box_arr _)) ?_)
  intro g2 w3 a8 F9 z6 z7 b4 hx5; clear hF
  refine wpl_op (i := 1) rfl (o_new (fun g => (.pointer (some ⟨g, 0, none⟩))) (byteVals (List.replicate 32 0)) 37 F9 rfl rfl rfl rfl (by kernel_rfl) ?_)
  intro g10 w11 a16 F17 z14 z15 b12 hx13; clear F9
  refine wpList_nil ?_
  refine hK1 _ _ ?_
  clear hK1
  refine wp_seq_k (fun K18 hK18 => ?_)
  refine wp_region_lit ?_
  refine qv 0 (.slice (some ⟨g2, 0, none⟩) 32 32) F17 rfl (rn_arrAll Tryd.underlying37 inf5 (F17.get rfl)) fun _ F20 => ?_; clear F17
  have b21 := (b4.ext hx13)
  refine wpl_op (i := 1) rfl (o_call F20 rfl rfl rfl rfl (rn_call (args2 rfl (F20.get rfl)) rfl (by kernel_rfl)) (tagged_at ([111, 112, 101, 110]) (v := (.slice (some ⟨g2, 0, none⟩) 32 32)) (n := 32) d _ (Fl.blk (S := fun b => b = g2) (k := 1) (n := 32) (c := 32) b21 (by rw [byteVals_len hd, Nat.mul_one]) (byteVals_one _) (by omega) rfl) (hG.ext (((Ext.refl w).trans hx5).trans hx13)) (by simp <;> omega) (by omega)) ?_)
  rintro _ w22 ⟨rfl, hx23⟩
  refine ⟨_, rfl, ?_⟩; intro a24 F25; clear F20; have z26 := hx23.size
  have b30 := (b12.ext hx23)
  refine wpl_op (i := 2) rfl (o_store (cells := (byteVals (tagged ([111, 112, 101, 110]) d))) F25 rfl rfl rfl rfl (F25.get rfl) (F25.get rfl) b30 (inf37.trans (congrArg some (byteVals_len (tagged_len _ _)).symm)) ((byteVals_len (show List.length (List.replicate 32 0) = _ from List.length_replicate)).trans (byteVals_len (tagged_len _ _)).symm) (byteVals_one _) ?_)
  intro w27 b28 hg29; have z31 := hg29.size
  refine wpList_nil ?_
  refine hK18 _ _ ?_
  clear hK18
  refine wp_ret ?_
  refine retC F25 rfl rfl b28 Tryd.underlying37 rfl (inf37.trans (congrArg some (byteVals_len (tagged_len _ _)).symm)) ?_
  exact ⟨rfl, (((((Ext.refl w).trans hx5).trans hx13).trans hx23).grownN hg29 (by omega))⟩

end Go.Proofs.YtmjgjopbeokajaaDoor

namespace Go.Proofs.YtmjgjopbeokajaaDoor
open Go.RowKit

variable {S S' : Nat → Prop}

set_option maxRecDepth 100000 in
set_option maxHeartbeats 1000000 in
theorem secret_any (A : Option Addr) (c : Nat) (sd : List UInt8) (i j : Nat) (b : Bool) (w : World) (hf : Fl S w 1 (.slice A sd.length c) sd.length (byteVals sd)) (hG : Glob w) (hsd : sd.length ≤ 4194304) (hi : i < 65536) (hj : j < 256) :
    Calls Tryd.prog 35 #[.agg #[.slice A sd.length c, .int .i64 (i : Nat)], .int .i64 (j : Nat), .bool b] w (fun e w' => e = .returned (.agg (byteVals (secretD sd i j b)).toArray) ∧ Ext w w') := by
  have hc : Fl (Clip S w) w 1 (.slice A sd.length c) sd.length (byteVals sd) := hf.clip
  have hcc := (Fl.cel hc).2.1
  refine calls_enter (l := [(.agg #[(.slice A sd.length c), (.int .i64 (i : Nat))]), (.int .i64 (j : Nat)), (.bool b)]) Tryd.func35 rfl rfl rfl (fun aA hF => ?_)
  refine wp_seq_k (fun K1 hK1 => ?_)
  refine wp_region_lit ?_
  refine wpl_op (i := 0) rfl (o_new (fun g => (.pointer (some ⟨g, 0, none⟩))) [(.slice A sd.length c), (.int .i64 (i : Nat))] 58 hF rfl rfl rfl rfl (rn_box (hF.get rfl) (by kernel_rfl)) ?_)
  intro g2 w3 a8 F9 z6 z7 b4 hx5; clear hF
  refine wpl_op (i := 1) rfl (o_new (fun g => (.pointer (some ⟨g, 0, none⟩))) (byteVals (List.replicate 32 0)) 37 F9 rfl rfl rfl rfl (by kernel_rfl) ?_)
  intro g10 w11 a16 F17 z14 z15 b12 hx13; clear F9
  refine wpList_nil ?_
  refine hK1 _ _ ?_
  clear hK1
  refine wp_seq_k (fun K18 hK18 => ?_)
  refine wp_region_lit ?_
  refine qv 0 (.int .u8 0) F17 rfl (rn_assign rfl) fun _ F20 => ?_; clear F17
  refine wpList_nil ?_
  refine hK18 _ _ ?_
  clear hK18
  refine wp_seq_k (fun K21 hK21 => ?_)
  refine wp_seq_k (fun K22 hK22 => ?_)
  refine wp_region_lit ?_
  refine qv 0 (.bool b) F20 rfl (rn_move (F20.get rfl)) fun _ F24 => ?_; clear F20
  refine wpList_nil ?_
  refine hK22 _ _ ?_
  clear hK22
  rcases Bool.eq_false_or_eq_true b with hc25 | hc25
  · skip
    refine wp_cond_true (c_true F24 rfl hc25) ?_
    refine wp_region_lit ?_
    refine qv 0 (.int .u8 1) F24 rfl (rn_assign rfl) fun _ F27 => ?_; clear F24
    refine wpList_nil ?_
    refine hK21 _ _ ?_
    clear hK21
    refine wp_seq_k (fun K28 hK28 => ?_)
    have hx30 : ∃ W, w11.drew = W ∧ Ext w11 W := ⟨_, rfl, (Ext.refl _).drew⟩
    obtain ⟨w29, e31, hx30⟩ := hx30
    have z32 := hx30.size
    refine any_start (fun W => Ext w29 W ∧ Blk W g2 58 [(.slice A sd.length c), (.int .i64 (i : Nat))] ∧ Blk W g10 37 (byteVals (List.replicate 32 0))) (fun i => i == 12) 13 #[false, false, false, false, false, false, false, false, false, false, false, false, false] rfl rfl rfl ?_
    rw [e31]; clear e31
    refine any_have (n1 := 4) (L1 := #[true, true, true, true, true, true, true, true, true, false, false, false, false]) (fun a' W => ∃ (A50 : Option Addr) (c51 : Nat) (g72 : Nat), Sl 21 [(0, (.agg #[(.slice A sd.length c), (.int .i64 (i : Nat))])), (1, (.int .i64 (j : Nat))), (2, (.bool b)), (3, (.pointer (some ⟨g2, 0, none⟩))), (6, (.pointer (some ⟨g10, 0, none⟩))), (7, (.int .u8 1)), (8, (.bool b)), (10, (.slice A sd.length c)), (13, (.slice A50 2 c51)), (17, (.slice (some ⟨g72, 0, none⟩) 2 2))] a' ∧ Ext w29 W ∧ Blk W g72 5 [(.int .u8 ((UInt8.ofNat j).toNat : Nat)), (.int .u8 1)] ∧ w29.heap.size ≤ g72 ∧ Fl (fun b => w29.heap.size ≤ b) W 1 (.slice A50 2 c51) 2 (byteVals (two i))) ?_ (fun st120 => ?_)
    · skip
      rintro a121 w122 ⟨A50, c51, g72, F123, hx124, b125, z126, hf127⟩
      clear F27
      have z128 := hx124.size
      have z129 := b125.lt
      have z130 := (Fl.cel hf127).2.1
      have z131 := Fl.blen hf127
      refine any_one (i := 9) (by decide +kernel) rfl ?_
      refine o_new (fun g => (.slice (some ⟨g, 0, none⟩) 3 3)) [(.slice A sd.length c), (.slice A50 2 c51), (.slice (some ⟨g72, 0, none⟩) 2 2)] 22 F123 rfl rfl rfl rfl (rn_buildSlice (parts3 (F123.get rfl) (F123.get rfl) (F123.get rfl)) (by kernel_rfl)) ?_
      intro g132 w133 a138 F139 z136 z137 b134 hx135; clear F123
      have b140 := ((((b4.ext hx13).ext hx30).ext hx124).ext hx135)
      have b141 := (((b12.ext hx30).ext hx124).ext hx135)
      refine ⟨fun _ _ => ⟨(((Ext.refl w29).trans hx124).trans hx135), b140, b141⟩, ?_⟩
      refine any_one (i := 10) (by decide +kernel) rfl ?_
      have d142 := (((((hc.ext hx5).ext hx13).ext hx30).ext hx124).ext hx135)
      have d143 := (hf127.ext hx135)
      have b144 := (b125.ext hx135)
      have hn148 := Fl.blen d142
      have hn149 := Fl.blen d143
      have hn150 := Fl.blen (Fl.blk (S := fun b => b = g72) (k := 1) (n := 2) (c := 2) (cs := byteVals [(UInt8.ofNat j), (1 : UInt8)]) b144 rfl (byteVals_one _) (by omega) rfl)
      have hn151 : ([sd, two i, [(UInt8.ofNat j), (1 : UInt8)]]).flatten.length = sd.length + 2 + 2 := by simp only [List.flatten_cons, List.flatten_nil, List.length_append, List.length_nil]; omega
      refine o_call F139 rfl rfl rfl rfl (rn_call (args1 (F139.get rfl)) rfl (by kernel_rfl)) (concat_at [sd, two i, [(UInt8.ofNat j), (1 : UInt8)]] _ (RBss.three b134 d142 d143 (Fl.blk (S := fun b => b = g72) (k := 1) (n := 2) (c := 2) (cs := byteVals [(UInt8.ofNat j), (1 : UInt8)]) b144 rfl (byteVals_one _) (by omega) rfl)) hn151 (by omega)) ?_
      rintro _ w152 ⟨A145, c146, rfl, hf147, hx153⟩
      rw [show ([sd, two i, [(UInt8.ofNat j), (1 : UInt8)]]).flatten = sd ++ (two i) ++ ([(UInt8.ofNat j), (1 : UInt8)]) from by simp] at hf147
      refine ⟨_, rfl, ?_⟩; intro a154 F155; clear F139; have z156 := hx153.size
      have b157 := (b140.ext hx153)
      have b158 := (b141.ext hx153)
      refine ⟨fun _ _ => ⟨((((Ext.refl w29).trans hx124).trans hx135).trans hx153), b157, b158⟩, ?_⟩
      refine any_one (i := 11) (by decide +kernel) rfl ?_
      refine o_call F155 rfl rfl rfl rfl (rn_call (args2 rfl (F155.get rfl)) rfl (by kernel_rfl)) (tagged_at ([115, 101, 99, 114, 101, 116]) (v := (.slice A145 (sd.length + 2 + 2) c146)) (n := (sd.length + 2 + 2)) (sd ++ (two i) ++ ([(UInt8.ofNat j), (1 : UInt8)])) _ hf147 (hG.ext (((((((Ext.refl w).trans hx5).trans hx13).trans hx30).trans hx124).trans hx135).trans hx153)) (by simp <;> omega) (by omega)) ?_
      rintro _ w159 ⟨rfl, hx160⟩
      refine ⟨_, rfl, ?_⟩; intro a161 F162; clear F155; have z163 := hx160.size
      have b164 := (b157.ext hx160)
      have b165 := (b158.ext hx160)
      refine ⟨fun _ _ => ⟨(((((Ext.refl w29).trans hx124).trans hx135).trans hx153).trans hx160), b164, b165⟩, ?_⟩
      refine any_one (i := 12) (by decide +kernel) rfl ?_
      refine o_store (cells := (byteVals (tagged ([115, 101, 99, 114, 101, 116]) (sd ++ (two i) ++ ([(UInt8.ofNat j), (1 : UInt8)]))))) F162 rfl rfl rfl rfl (F162.get rfl) (F162.get rfl) b165 (inf37.trans (congrArg some (byteVals_len (tagged_len _ _)).symm)) ((byteVals_len (show List.length (List.replicate 32 0) = _ from List.length_replicate)).trans (byteVals_len (tagged_len _ _)).symm) (byteVals_one _) ?_
      intro w166 b167 hg168; have z169 := hg168.size
      refine ⟨fun h => absurd h (by decide), ?_⟩
      refine any_nil (by decide +kernel) ?_
      refine hK28 _ _ ?_
      clear hK28
      have F170 := (((((((F162.nil.c F162 8 rfl).c F162 7 rfl).c F162 6 rfl).c F162 3 rfl).c F162 2 rfl).c F162 1 rfl).c F162 0 rfl)
      clear F162
      refine wp_ret ?_
      refine retC F170 rfl rfl b167 Tryd.underlying37 rfl (inf37.trans (congrArg some (byteVals_len (tagged_len _ _)).symm)) ?_
      exact ⟨by subst hc25; rfl, (((((((((Ext.refl w).trans hx5).trans hx13).trans hx30).trans hx124).trans hx135).trans hx153).trans hx160).grownN hg168 (by omega))⟩
    refine qp 0 (.pointer (some ⟨g2, 0, none⟩)) F27 rfl rfl (fun W => (rn_field Tryd.underlying58 rfl (by kernel_rfl) (F27.get rfl) rfl)) fun _ F172 => ?_; clear F27
    have b174 := ((b4.ext hx13).ext hx30)
    have b175 := (b12.ext hx30)
    have hS173 : Ext w29 w29 ∧ Blk w29 g2 58 [(.slice A sd.length c), (.int .i64 (i : Nat))] ∧ Blk w29 g10 37 (byteVals (List.replicate 32 0)) := ⟨(Ext.refl w29), b174, b175⟩
    refine qs 1 (.slice A sd.length c) F172 rfl rfl hS173 (fun W hW => (rn_load (isAgg_no Tryd.underlying22 rfl) (F172.get rfl) (hW.2.1.rule.1 0))) fun _ F177 => ?_; clear F172
    refine qp 2 (.pointer (some ⟨g2, 1, none⟩)) F177 rfl rfl (fun W => (rn_field Tryd.underlying58 rfl (by kernel_rfl) (F177.get rfl) rfl)) fun _ F179 => ?_; clear F177
    refine qs 3 (.int .i64 (i : Nat)) F179 rfl rfl hS173 (fun W hW => (rn_load (isAgg_no Tryd.underlying3 rfl) (F179.get rfl) (hW.2.1.rule.1 1))) fun _ F181 => ?_; clear F179
    refine qp 5 (.int .i64 (j : Nat)) F181 rfl rfl (fun W => (rn_move (F181.get rfl))) fun _ F183 => ?_; clear F181
    refine qs 6 (.int .u8 ((UInt8.ofNat j).toNat : Nat)) F183 rfl rfl hS173 (fun W hW => (rn_convW Tryd.underlying3 Tryd.underlying5 (F183.get rfl) (cvi_8 j))) fun _ F185 => ?_; clear F183
    refine qp 7 (.int .u8 1) F185 rfl rfl (fun W => (rn_move (F185.get rfl))) fun _ F187 => ?_; clear F185
    refine any_two (i := 4) (k := 8) (by decide +kernel) rfl rfl ?_ ?_
    · skip
      refine o_call F187 rfl rfl rfl rfl (rn_call (args1 (F187.get rfl)) rfl (by kernel_rfl)) (two_any i _ (by omega)) ?_
      rintro _ w192 ⟨A188, c189, rfl, hf190, hx193⟩
      have z191 := (Fl.cel hf190).2.1
      refine ⟨_, rfl, ?_⟩; intro a194 F195; clear F187; have z196 := hx193.size
      have hf197 : Fl (Clip (fun b => w29.heap.size ≤ b) w192) w192 1 (.slice A188 2 c189) 2 (byteVals (two i)) := hf190.clip
      have b198 := (b174.ext hx193)
      have b199 := (b175.ext hx193)
      refine ⟨fun _ _ => ⟨((Ext.refl w29).trans hx193), b198, b199⟩, ?_⟩
      refine any_one (i := 8) (by decide +kernel) rfl ?_
      refine o_new (fun g => (.slice (some ⟨g, 0, none⟩) 2 2)) [(.int .u8 ((UInt8.ofNat j).toNat : Nat)), (.int .u8 1)] 5 F195 rfl rfl rfl rfl (rn_buildSlice (parts2 (F195.get rfl) (F195.get rfl)) (by kernel_rfl)) ?_
      intro g200 w201 a206 F207 z204 z205 b202 hx203; clear F195
      have b208 := (b198.ext hx203)
      have b209 := (b199.ext hx203)
      refine ⟨fun _ _ => ⟨(((Ext.refl w29).trans hx193).trans hx203), b208, b209⟩, ?_⟩
      have d210 := (hf197.ext hx203)
      exact st120 _ _ ⟨A188, c189, g200, ((((((((((F207.nil.c F207 17 rfl).c F207 13 rfl).c F207 10 rfl).c F207 8 rfl).c F207 7 rfl).c F207 6 rfl).c F207 3 rfl).c F207 2 rfl).c F207 1 rfl).c F207 0 rfl), (((Ext.refl w29).trans hx193).trans hx203), b202, (by omega), (Fl.sub d210 (fun b hb => by first | omega | (simp only [Clip] at hb; omega)))⟩
    · skip
      refine o_new (fun g => (.slice (some ⟨g, 0, none⟩) 2 2)) [(.int .u8 ((UInt8.ofNat j).toNat : Nat)), (.int .u8 1)] 5 F187 rfl rfl rfl rfl (rn_buildSlice (parts2 (F187.get rfl) (F187.get rfl)) (by kernel_rfl)) ?_
      intro g211 w212 a217 F218 z215 z216 b213 hx214; clear F187
      have b219 := (b174.ext hx214)
      have b220 := (b175.ext hx214)
      refine ⟨fun _ _ => ⟨((Ext.refl w29).trans hx214), b219, b220⟩, ?_⟩
      refine any_one (i := 4) (by decide +kernel) rfl ?_
      refine o_call F218 rfl rfl rfl rfl (rn_call (args1 (F218.get rfl)) rfl (by kernel_rfl)) (two_any i _ (by omega)) ?_
      rintro _ w225 ⟨A221, c222, rfl, hf223, hx226⟩
      have z224 := (Fl.cel hf223).2.1
      refine ⟨_, rfl, ?_⟩; intro a227 F228; clear F218; have z229 := hx226.size
      have hf230 : Fl (Clip (fun b => w212.heap.size ≤ b) w225) w225 1 (.slice A221 2 c222) 2 (byteVals (two i)) := hf223.clip
      have b231 := (b219.ext hx226)
      have b232 := (b220.ext hx226)
      refine ⟨fun _ _ => ⟨(((Ext.refl w29).trans hx214).trans hx226), b231, b232⟩, ?_⟩
      have b233 := (b213.ext hx226)
      exact st120 _ _ ⟨A221, c222, g211, ((((((((((F228.nil.c F228 17 rfl).c F228 13 rfl).c F228 10 rfl).c F228 8 rfl).c F228 7 rfl).c F228 6 rfl).c F228 3 rfl).c F228 2 rfl).c F228 1 rfl).c F228 0 rfl), (((Ext.refl w29).trans hx214).trans hx226), b233, (by omega), (Fl.sub hf230 (fun b hb => by first | omega | (simp only [Clip] at hb; omega)))⟩
  · skip
    refine wp_cond_false (c_false F24 rfl hc25) ?_
    refine wp_skip ?_
    refine hK21 _ _ ?_
    clear hK21
    refine wp_seq_k (fun K234 hK234 => ?_)
    have hx236 : ∃ W, w11.drew = W ∧ Ext w11 W := ⟨_, rfl, (Ext.refl _).drew⟩
    obtain ⟨w235, e237, hx236⟩ := hx236
    have z238 := hx236.size
    refine any_start (fun W => Ext w235 W ∧ Blk W g2 58 [(.slice A sd.length c), (.int .i64 (i : Nat))] ∧ Blk W g10 37 (byteVals (List.replicate 32 0))) (fun i => i == 12) 13 #[false, false, false, false, false, false, false, false, false, false, false, false, false] rfl rfl rfl ?_
    rw [e237]; clear e237
    refine any_have (n1 := 4) (L1 := #[true, true, true, true, true, true, true, true, true, false, false, false, false]) (fun a' W => ∃ (A256 : Option Addr) (c257 : Nat) (g278 : Nat), Sl 21 [(0, (.agg #[(.slice A sd.length c), (.int .i64 (i : Nat))])), (1, (.int .i64 (j : Nat))), (2, (.bool b)), (3, (.pointer (some ⟨g2, 0, none⟩))), (6, (.pointer (some ⟨g10, 0, none⟩))), (7, (.int .u8 0)), (8, (.bool b)), (10, (.slice A sd.length c)), (13, (.slice A256 2 c257)), (17, (.slice (some ⟨g278, 0, none⟩) 2 2))] a' ∧ Ext w235 W ∧ Blk W g278 5 [(.int .u8 ((UInt8.ofNat j).toNat : Nat)), (.int .u8 0)] ∧ w235.heap.size ≤ g278 ∧ Fl (fun b => w235.heap.size ≤ b) W 1 (.slice A256 2 c257) 2 (byteVals (two i))) ?_ (fun st326 => ?_)
    · skip
      rintro a327 w328 ⟨A256, c257, g278, F329, hx330, b331, z332, hf333⟩
      clear F24
      have z334 := hx330.size
      have z335 := b331.lt
      have z336 := (Fl.cel hf333).2.1
      have z337 := Fl.blen hf333
      refine any_one (i := 9) (by decide +kernel) rfl ?_
      refine o_new (fun g => (.slice (some ⟨g, 0, none⟩) 3 3)) [(.slice A sd.length c), (.slice A256 2 c257), (.slice (some ⟨g278, 0, none⟩) 2 2)] 22 F329 rfl rfl rfl rfl (rn_buildSlice (parts3 (F329.get rfl) (F329.get rfl) (F329.get rfl)) (by kernel_rfl)) ?_
      intro g338 w339 a344 F345 z342 z343 b340 hx341; clear F329
      have b346 := ((((b4.ext hx13).ext hx236).ext hx330).ext hx341)
      have b347 := (((b12.ext hx236).ext hx330).ext hx341)
      refine ⟨fun _ _ => ⟨(((Ext.refl w235).trans hx330).trans hx341), b346, b347⟩, ?_⟩
      refine any_one (i := 10) (by decide +kernel) rfl ?_
      have d348 := (((((hc.ext hx5).ext hx13).ext hx236).ext hx330).ext hx341)
      have d349 := (hf333.ext hx341)
      have b350 := (b331.ext hx341)
      have hn354 := Fl.blen d348
      have hn355 := Fl.blen d349
      have hn356 := Fl.blen (Fl.blk (S := fun b => b = g278) (k := 1) (n := 2) (c := 2) (cs := byteVals [(UInt8.ofNat j), (0 : UInt8)]) b350 rfl (byteVals_one _) (by omega) rfl)
      have hn357 : ([sd, two i, [(UInt8.ofNat j), (0 : UInt8)]]).flatten.length = sd.length + 2 + 2 := by simp only [List.flatten_cons, List.flatten_nil, List.length_append, List.length_nil]; omega
      refine o_call F345 rfl rfl rfl rfl (rn_call (args1 (F345.get rfl)) rfl (by kernel_rfl)) (concat_at [sd, two i, [(UInt8.ofNat j), (0 : UInt8)]] _ (RBss.three b340 d348 d349 (Fl.blk (S := fun b => b = g278) (k := 1) (n := 2) (c := 2) (cs := byteVals [(UInt8.ofNat j), (0 : UInt8)]) b350 rfl (byteVals_one _) (by omega) rfl)) hn357 (by omega)) ?_
      rintro _ w358 ⟨A351, c352, rfl, hf353, hx359⟩
      rw [show ([sd, two i, [(UInt8.ofNat j), (0 : UInt8)]]).flatten = sd ++ (two i) ++ ([(UInt8.ofNat j), (0 : UInt8)]) from by simp] at hf353
      refine ⟨_, rfl, ?_⟩; intro a360 F361; clear F345; have z362 := hx359.size
      have b363 := (b346.ext hx359)
      have b364 := (b347.ext hx359)
      refine ⟨fun _ _ => ⟨((((Ext.refl w235).trans hx330).trans hx341).trans hx359), b363, b364⟩, ?_⟩
      refine any_one (i := 11) (by decide +kernel) rfl ?_
      refine o_call F361 rfl rfl rfl rfl (rn_call (args2 rfl (F361.get rfl)) rfl (by kernel_rfl)) (tagged_at ([115, 101, 99, 114, 101, 116]) (v := (.slice A351 (sd.length + 2 + 2) c352)) (n := (sd.length + 2 + 2)) (sd ++ (two i) ++ ([(UInt8.ofNat j), (0 : UInt8)])) _ hf353 (hG.ext (((((((Ext.refl w).trans hx5).trans hx13).trans hx236).trans hx330).trans hx341).trans hx359)) (by simp <;> omega) (by omega)) ?_
      rintro _ w365 ⟨rfl, hx366⟩
      refine ⟨_, rfl, ?_⟩; intro a367 F368; clear F361; have z369 := hx366.size
      have b370 := (b363.ext hx366)
      have b371 := (b364.ext hx366)
      refine ⟨fun _ _ => ⟨(((((Ext.refl w235).trans hx330).trans hx341).trans hx359).trans hx366), b370, b371⟩, ?_⟩
      refine any_one (i := 12) (by decide +kernel) rfl ?_
      refine o_store (cells := (byteVals (tagged ([115, 101, 99, 114, 101, 116]) (sd ++ (two i) ++ ([(UInt8.ofNat j), (0 : UInt8)]))))) F368 rfl rfl rfl rfl (F368.get rfl) (F368.get rfl) b371 (inf37.trans (congrArg some (byteVals_len (tagged_len _ _)).symm)) ((byteVals_len (show List.length (List.replicate 32 0) = _ from List.length_replicate)).trans (byteVals_len (tagged_len _ _)).symm) (byteVals_one _) ?_
      intro w372 b373 hg374; have z375 := hg374.size
      refine ⟨fun h => absurd h (by decide), ?_⟩
      refine any_nil (by decide +kernel) ?_
      refine hK234 _ _ ?_
      clear hK234
      have F376 := (((((((F368.nil.c F368 8 rfl).c F368 7 rfl).c F368 6 rfl).c F368 3 rfl).c F368 2 rfl).c F368 1 rfl).c F368 0 rfl)
      clear F368
      refine wp_ret ?_
      refine retC F376 rfl rfl b373 Tryd.underlying37 rfl (inf37.trans (congrArg some (byteVals_len (tagged_len _ _)).symm)) ?_
      exact ⟨by subst hc25; rfl, (((((((((Ext.refl w).trans hx5).trans hx13).trans hx236).trans hx330).trans hx341).trans hx359).trans hx366).grownN hg374 (by omega))⟩
    refine qp 0 (.pointer (some ⟨g2, 0, none⟩)) F24 rfl rfl (fun W => (rn_field Tryd.underlying58 rfl (by kernel_rfl) (F24.get rfl) rfl)) fun _ F378 => ?_; clear F24
    have b380 := ((b4.ext hx13).ext hx236)
    have b381 := (b12.ext hx236)
    have hS379 : Ext w235 w235 ∧ Blk w235 g2 58 [(.slice A sd.length c), (.int .i64 (i : Nat))] ∧ Blk w235 g10 37 (byteVals (List.replicate 32 0)) := ⟨(Ext.refl w235), b380, b381⟩
    refine qs 1 (.slice A sd.length c) F378 rfl rfl hS379 (fun W hW => (rn_load (isAgg_no Tryd.underlying22 rfl) (F378.get rfl) (hW.2.1.rule.1 0))) fun _ F383 => ?_; clear F378
    refine qp 2 (.pointer (some ⟨g2, 1, none⟩)) F383 rfl rfl (fun W => (rn_field Tryd.underlying58 rfl (by kernel_rfl) (F383.get rfl) rfl)) fun _ F385 => ?_; clear F383
    refine qs 3 (.int .i64 (i : Nat)) F385 rfl rfl hS379 (fun W hW => (rn_load (isAgg_no Tryd.underlying3 rfl) (F385.get rfl) (hW.2.1.rule.1 1))) fun _ F387 => ?_; clear F385
    refine qp 5 (.int .i64 (j : Nat)) F387 rfl rfl (fun W => (rn_move (F387.get rfl))) fun _ F389 => ?_; clear F387
    refine qs 6 (.int .u8 ((UInt8.ofNat j).toNat : Nat)) F389 rfl rfl hS379 (fun W hW => (rn_convW Tryd.underlying3 Tryd.underlying5 (F389.get rfl) (cvi_8 j))) fun _ F391 => ?_; clear F389
    refine qp 7 (.int .u8 0) F391 rfl rfl (fun W => (rn_move (F391.get rfl))) fun _ F393 => ?_; clear F391
    refine any_two (i := 4) (k := 8) (by decide +kernel) rfl rfl ?_ ?_
    · skip
      refine o_call F393 rfl rfl rfl rfl (rn_call (args1 (F393.get rfl)) rfl (by kernel_rfl)) (two_any i _ (by omega)) ?_
      rintro _ w398 ⟨A394, c395, rfl, hf396, hx399⟩
      have z397 := (Fl.cel hf396).2.1
      refine ⟨_, rfl, ?_⟩; intro a400 F401; clear F393; have z402 := hx399.size
      have hf403 : Fl (Clip (fun b => w235.heap.size ≤ b) w398) w398 1 (.slice A394 2 c395) 2 (byteVals (two i)) := hf396.clip
      have b404 := (b380.ext hx399)
      have b405 := (b381.ext hx399)
      refine ⟨fun _ _ => ⟨((Ext.refl w235).trans hx399), b404, b405⟩, ?_⟩
      refine any_one (i := 8) (by decide +kernel) rfl ?_
      refine o_new (fun g => (.slice (some ⟨g, 0, none⟩) 2 2)) [(.int .u8 ((UInt8.ofNat j).toNat : Nat)), (.int .u8 0)] 5 F401 rfl rfl rfl rfl (rn_buildSlice (parts2 (F401.get rfl) (F401.get rfl)) (by kernel_rfl)) ?_
      intro g406 w407 a412 F413 z410 z411 b408 hx409; clear F401
      have b414 := (b404.ext hx409)
      have b415 := (b405.ext hx409)
      refine ⟨fun _ _ => ⟨(((Ext.refl w235).trans hx399).trans hx409), b414, b415⟩, ?_⟩
      have d416 := (hf403.ext hx409)
      exact st326 _ _ ⟨A394, c395, g406, ((((((((((F413.nil.c F413 17 rfl).c F413 13 rfl).c F413 10 rfl).c F413 8 rfl).c F413 7 rfl).c F413 6 rfl).c F413 3 rfl).c F413 2 rfl).c F413 1 rfl).c F413 0 rfl), (((Ext.refl w235).trans hx399).trans hx409), b408, (by omega), (Fl.sub d416 (fun b hb => by first | omega | (simp only [Clip] at hb; omega)))⟩
    · skip
      refine o_new (fun g => (.slice (some ⟨g, 0, none⟩) 2 2)) [(.int .u8 ((UInt8.ofNat j).toNat : Nat)), (.int .u8 0)] 5 F393 rfl rfl rfl rfl (rn_buildSlice (parts2 (F393.get rfl) (F393.get rfl)) (by kernel_rfl)) ?_
      intro g417 w418 a423 F424 z421 z422 b419 hx420; clear F393
      have b425 := (b380.ext hx420)
      have b426 := (b381.ext hx420)
      refine ⟨fun _ _ => ⟨((Ext.refl w235).trans hx420), b425, b426⟩, ?_⟩
      refine any_one (i := 4) (by decide +kernel) rfl ?_
      refine o_call F424 rfl rfl rfl rfl (rn_call (args1 (F424.get rfl)) rfl (by kernel_rfl)) (two_any i _ (by omega)) ?_
      rintro _ w431 ⟨A427, c428, rfl, hf429, hx432⟩
      have z430 := (Fl.cel hf429).2.1
      refine ⟨_, rfl, ?_⟩; intro a433 F434; clear F424; have z435 := hx432.size
      have hf436 : Fl (Clip (fun b => w418.heap.size ≤ b) w431) w431 1 (.slice A427 2 c428) 2 (byteVals (two i)) := hf429.clip
      have b437 := (b425.ext hx432)
      have b438 := (b426.ext hx432)
      refine ⟨fun _ _ => ⟨(((Ext.refl w235).trans hx420).trans hx432), b437, b438⟩, ?_⟩
      have b439 := (b419.ext hx432)
      exact st326 _ _ ⟨A427, c428, g417, ((((((((((F434.nil.c F434 17 rfl).c F434 13 rfl).c F434 10 rfl).c F434 8 rfl).c F434 7 rfl).c F434 6 rfl).c F434 3 rfl).c F434 2 rfl).c F434 1 rfl).c F434 0 rfl), (((Ext.refl w235).trans hx420).trans hx432), b439, (by omega), (Fl.sub hf436 (fun b hb => by first | omega | (simp only [Clip] at hb; omega)))⟩

theorem secret_at {v : Value} {m : Nat} (sd : List UInt8) (i j : Nat) (b : Bool) (w : World) (hf : Fl S w 1 v m (byteVals sd)) (hG : Glob w) (hsd : m ≤ 4194304) (hi : i < 65536) (hj : j < 256) :
    Calls Tryd.prog 35 #[.agg #[v, .int .i64 (i : Nat)], .int .i64 (j : Nat), .bool b] w (fun e w' => e = .returned (.agg (byteVals (secretD sd i j b)).toArray) ∧ Ext w w') := by
  have hm := hf.blen
  subst hm
  obtain ⟨A, c, rfl, _⟩ := hf.form
  exact secret_any A c sd i j b w hf hG hsd hi hj

set_option maxRecDepth 100000 in
set_option maxHeartbeats 1000000 in
theorem hash_any (A : Option Addr) (c : Nat) (sd : List UInt8) (i j : Nat) (b : Bool) (w : World) (hf : Fl S w 1 (.slice A sd.length c) sd.length (byteVals sd)) (hG : Glob w) (hsd : sd.length ≤ 4194304) (hi : i < 65536) (hj : j < 256) :
    Calls Tryd.prog 36 #[.agg #[.slice A sd.length c, .int .i64 (i : Nat)], .int .i64 (j : Nat), .bool b] w (fun e w' => e = .returned (.agg (byteVals (hashD sd i j b)).toArray) ∧ Ext w w') := by
  have hc : Fl (Clip S w) w 1 (.slice A sd.length c) sd.length (byteVals sd) := hf.clip
  have hcc := (Fl.cel hc).2.1
  refine calls_enter (l := [(.agg #[(.slice A sd.length c), (.int .i64 (i : Nat))]), (.int .i64 (j : Nat)), (.bool b)]) Tryd.func36 rfl rfl rfl (fun aA hF => ?_)
  refine wp_seq_k (fun K1 hK1 => ?_)
  refine wp_region_lit ?_
  refine wpl_op (i := 0) rfl (o_new (fun g => (.pointer (some ⟨g, 0, none⟩))) [(.slice A sd.length c), (.int .i64 (i : Nat))] 58 hF rfl rfl rfl rfl (rn_box (hF.get rfl) (by kernel_rfl)) ?_)
  intro g2 w3 a8 F9 z6 z7 b4 hx5; clear hF
  refine wpl_op (i := 1) rfl (o_new (fun g => (.pointer (some ⟨g, 0, none⟩))) (byteVals (List.replicate 32 0)) 37 F9 rfl rfl rfl rfl (by kernel_rfl) ?_)
  intro g10 w11 a16 F17 z14 z15 b12 hx13; clear F9
  refine wpList_nil ?_
  refine hK1 _ _ ?_
  clear hK1
  refine wp_seq_k (fun K18 hK18 => ?_)
  refine wp_region_lit ?_
  have b19 := (b4.ext hx13)
  refine qv 0 (.agg #[(.slice A sd.length c), (.int .i64 (i : Nat))]) F17 rfl (rn_loadBlk (F17.get rfl) b19 Tryd.underlying58 rfl inf58) fun _ F21 => ?_; clear F17
  refine qv 1 (.int .i64 (j : Nat)) F21 rfl (rn_move (F21.get rfl)) fun _ F23 => ?_; clear F21
  refine qv 2 (.bool b) F23 rfl (rn_move (F23.get rfl)) fun _ F25 => ?_; clear F23
  have d26 := ((hc.ext hx5).ext hx13)
  refine wpl_op (i := 3) rfl (o_call F25 rfl rfl rfl rfl (rn_call (args3 (F25.get rfl) (F25.get rfl) (F25.get rfl)) rfl (by kernel_rfl)) (secret_at (v := (.slice A sd.length c)) (m := sd.length) sd i j b _ d26 (hG.ext (((Ext.refl w).trans hx5).trans hx13)) (by omega) (by omega) (by omega)) ?_)
  rintro _ w27 ⟨rfl, hx28⟩
  refine ⟨_, rfl, ?_⟩; intro a29 F30; clear F25; have z31 := hx28.size
  refine wpl_op (i := 4) rfl (o_call F30 rfl rfl rfl rfl (rn_call (args1 (F30.get rfl)) rfl (by kernel_rfl)) (open_any (secretD sd i j b) _ (secretD_len _ _ _ _) (hG.ext ((((Ext.refl w).trans hx5).trans hx13).trans hx28))) ?_)
  rintro _ w32 ⟨rfl, hx33⟩
  refine ⟨_, rfl, ?_⟩; intro a34 F35; clear F30; have z36 := hx33.size
  have b40 := ((b12.ext hx28).ext hx33)
  refine wpl_op (i := 5) rfl (o_store (cells := (byteVals (openD (secretD sd i j b)))) F35 rfl rfl rfl rfl (F35.get rfl) (F35.get rfl) b40 (inf37.trans (congrArg some (byteVals_len (openD_len _)).symm)) ((byteVals_len (show List.length (List.replicate 32 0) = _ from List.length_replicate)).trans (byteVals_len (openD_len _)).symm) (byteVals_one _) ?_)
  intro w37 b38 hg39; have z41 := hg39.size
  refine wpList_nil ?_
  refine hK18 _ _ ?_
  clear hK18
  have F42 := (((((F35.nil.c F35 6 rfl).c F35 3 rfl).c F35 2 rfl).c F35 1 rfl).c F35 0 rfl)
  clear F35
  refine wp_ret ?_
  refine retC F42 rfl rfl b38 Tryd.underlying37 rfl (inf37.trans (congrArg some (byteVals_len (openD_len _)).symm)) ?_
  exact ⟨rfl, ((((((Ext.refl w).trans hx5).trans hx13).trans hx28).trans hx33).grownN hg39 (by omega))⟩

theorem hash_at {v : Value} {m : Nat} (sd : List UInt8) (i j : Nat) (b : Bool) (w : World) (hf : Fl S w 1 v m (byteVals sd)) (hG : Glob w) (hsd : m ≤ 4194304) (hi : i < 65536) (hj : j < 256) :
    Calls Tryd.prog 36 #[.agg #[v, .int .i64 (i : Nat)], .int .i64 (j : Nat), .bool b] w (fun e w' => e = .returned (.agg (byteVals (hashD sd i j b)).toArray) ∧ Ext w w') := by
  have hm := hf.blen
  subst hm
  obtain ⟨A, c, rfl, _⟩ := hf.form
  exact hash_any A c sd i j b w hf hG hsd hi hj

end Go.Proofs.YtmjgjopbeokajaaDoor

namespace Go.Proofs.YtmjgjopbeokajaaDoor
open Go.RowKit

variable {S S' : Nat → Prop}
theorem eqnilBy (w : World) (A : Option Addr) (n c : Nat) : (binOp .eql 22 (.slice A n c) (.slice none 0 0)).run Tryd.prog w = .ok (.bool A.isNone) w := Lib.run_eql_slice_nil w _ _ A n c 0 0 Tryd.underlying22
attribute [local go_sem] eqnilBy
set_option maxRecDepth 100000 in
set_option maxHeartbeats 1000000 in
theorem cloneBy_any (A : Option Addr) (n cap : Nat) (xs : List Value) (w : World) (hc : Cel w 1 A n xs) (hn : n ≤ 140737488355328) :
    Calls Tryd.prog 48 #[.slice A n cap] w (fun en w' => ∃ v, en = .returned v ∧ w'.ownsRow w.heap.size 5 1 v n xs ∧ Ext w w') := by
  rcases A with _ | ad
  · have hn0 : n = 0 := by
      rcases Nat.eq_zero_or_pos n with h | h
      · exact h
      · obtain ⟨b, off, h, _⟩ := hc.2.2 h; cases h
    subst hn0
    have hx : xs = [] := List.eq_nil_of_length_eq_zero (by have := hc.1; omega)
    have HX := Lib.hid hx
    clear hx hc
    go_enter Tryd.func48, Tryd.ntmps48
    go_wp2
    go_ret
    exact ⟨_, rfl, by rw [HX.out]; exact World.ownsRow_nil _ _ _ _, Ext.refl _⟩
  · have HC := Lib.hid hc
    clear hc
    go_enter Tryd.func48, Tryd.ntmps48
    go_wp2_with (with_reducible refine stop_append ?_)
    refine Lib.hid (wpList_app El22 rfl rfl rfl rfl (World.ownsRow_lit w #[] 0 (Nat.le_refl _) (Nat.zero_le _) (by simp)) (HC.out.ext ((Ext.refl _).alloc _)) (by simp) (by omega) (by omega) ?_)
    intro v' w' hown hg hat
    have HO := Lib.hid hown
    have HE : Hid (Ext w w') := ((Ext.refl w).alloc _).grown hg (fun k hk => by have hk : some w.heap.size = some k := hk; injection hk; omega)
    clear hown hg hat
    go_wp2
    go_ret
    exact ⟨_, rfl, by simpa using HO.out, HE.out⟩
theorem clone_at {v : Value} {n : Nat} (l : List UInt8) (w : World) (hf : Fl S w 1 v n (byteVals l)) (hn : n ≤ 140737488355328) :
    Calls Tryd.prog 48 #[v] w (fun en w' => ∃ A c, en = .returned (.slice A n c) ∧ Fl (fun b => w.heap.size ≤ b) w' 1 (.slice A n c) n (byteVals l) ∧ Ext w w') := by
  obtain ⟨A, c, rfl, _⟩ := hf.form
  refine (cloneBy_any A n c _ w hf.cel.2.2 hn).mono fun e w' ⟨u, he, ho, hx⟩ => ?_
  have h := Fl.own (S := fun b => w.heap.size ≤ b) ho (fun b hb => hb) (byteVals_one l)
  obtain ⟨A', c', rfl, _⟩ := h.form
  exact ⟨A', c', he, h, hx⟩

end Go.Proofs.YtmjgjopbeokajaaDoor

namespace Go.Proofs.YtmjgjopbeokajaaDoor
open Go.RowKit

variable {S S' : Nat → Prop}

def newS (sd : List UInt8) (many : Int) : List UInt8 := if kOk sd many 0 = true then sd else []
def newM (sd : List UInt8) (many : Int) : Int := if kOk sd many 0 = true then many else 0
def newE (sd : List UInt8) (many : Int) : Int := if kOk sd many 0 = true then 0 else 40

set_option maxRecDepth 100000 in
set_option maxHeartbeats 1000000 in
theorem new_any (A : Option Addr) (c : Nat) (sd : List UInt8) (many : Int) (w : World) (hf : Fl S w 1 (.slice A sd.length c) sd.length (byteVals sd)) (hsd : sd.length ≤ 140737488355328) :
    Calls Tryd.prog 20 #[.slice A sd.length c, .int .i64 many] w (fun e w' => ∃ A m c, e = .returned (.tuple #[.agg #[.slice A m c, .int .i64 (newM sd many), .int .i64 0], .int .i64 (newE sd many)]) ∧ Fl (fun b => w.heap.size ≤ b) w' 1 (.slice A m c) m (byteVals (newS sd many)) ∧ Ext w w') := by
  have hc : Fl (Clip S w) w 1 (.slice A sd.length c) sd.length (byteVals sd) := hf.clip
  have hcc := (Fl.cel hc).2.1
  refine calls_enter (l := [(.slice A sd.length c), (.int .i64 many)]) Tryd.func20 rfl rfl rfl (fun aA hF => ?_)
  refine wp_seq_k (fun K1 hK1 => ?_)
  refine wp_region_lit ?_
  refine wpl_op (i := 0) rfl (o_new (fun g => (.pointer (some ⟨g, 0, none⟩))) [(.slice none 0 0), (.int .i64 0), (.int .i64 0)] 24 hF rfl rfl rfl rfl (by kernel_rfl) ?_)
  intro g2 w3 a8 F9 z6 z7 b4 hx5; clear hF
  refine qv 1 (.int .i64 0) F9 rfl (rn_assign rfl) fun _ F11 => ?_; clear F9
  refine wpList_nil ?_
  refine hK1 _ _ ?_
  clear hK1
  refine wp_seq_k (fun K12 hK12 => ?_)
  refine wp_region_lit ?_
  refine qv 0 (.slice A sd.length c) F11 rfl (rn_move (F11.get rfl)) fun _ F14 => ?_; clear F11
  have d15 := (hc.ext hx5)
  refine wpl_op (i := 1) rfl (o_call F14 rfl rfl rfl rfl (rn_call (args1 (F14.get rfl)) rfl (by kernel_rfl)) (clone_at (v := (.slice A sd.length c)) (n := sd.length) sd _ d15 (by omega)) ?_)
  rintro _ w20 ⟨A16, c17, rfl, hf18, hx21⟩
  have z19 := (Fl.cel hf18).2.1
  refine ⟨_, rfl, ?_⟩; intro a22 F23; clear F14; have z24 := hx21.size
  have hf25 : Fl (Clip (fun b => w3.heap.size ≤ b) w20) w20 1 (.slice A16 sd.length c17) sd.length (byteVals sd) := hf18.clip
  refine qv 2 (.int .i64 many) F23 rfl (rn_move (F23.get rfl)) fun _ F27 => ?_; clear F23
  refine qv 3 (.agg #[(.slice A16 sd.length c17), (.int .i64 many), (.int .i64 0)]) F27 rfl (rn_build (parts2 (F27.get rfl) (F27.get rfl)) (by kernel_rfl)) fun _ F29 => ?_; clear F27
  refine wpl_op (i := 4) rfl (o_new (fun g => (.pointer (some ⟨g, 0, none⟩))) [(.slice none 0 0), (.int .i64 0), (.int .i64 0)] 24 F29 rfl rfl rfl rfl (by kernel_rfl) ?_)
  intro g30 w31 a36 F37 z34 z35 b32 hx33; clear F29
  refine wpl_op (i := 5) rfl (o_store (cells := [(.slice A16 sd.length c17), (.int .i64 many), (.int .i64 0)]) F37 rfl rfl rfl rfl (F37.get rfl) (F37.get rfl) b32 inf24 rfl (by simp [Value.oneCell']) ?_)
  intro w38 b39 hg40; have z41 := hg40.size
  refine wpList_nil ?_
  refine hK12 _ _ ?_
  clear hK12
  have F42 := (((((F37.nil.c F37 6 rfl).c F37 5 rfl).c F37 4 rfl).c F37 1 rfl).c F37 0 rfl)
  clear F37
  refine wp_seq_k (fun K43 hK43 => ?_)
  refine wp_seq_k (fun K44 hK44 => ?_)
  refine wp_region_lit ?_
  refine qv 0 (.agg #[(.slice A16 sd.length c17), (.int .i64 many), (.int .i64 0)]) F42 rfl (rn_loadBlk (F42.get rfl) b39 Tryd.underlying24 rfl inf24) fun _ F46 => ?_; clear F42
  have d47 := (hf25.pres (((Pres.refl w20).ext hx33).grownN hg40 (fun h => by simp only [Clip] at h; omega)))
  refine wpl_op (i := 1) rfl (o_call F46 rfl rfl rfl rfl (rn_call (args1 (F46.get rfl)) rfl (by kernel_rfl)) (valid_at (v := (.slice A16 sd.length c17)) (m := sd.length) sd many 0 _ d47) ?_)
  rintro _ w48 ⟨rfl, hx49⟩
  refine ⟨_, rfl, ?_⟩; intro a50 F51; clear F46; have z52 := hx49.size
  refine qv 2 (.bool (!(kOk sd many 0))) F51 rfl (rn_not' (F51.get rfl) rfl) fun _ F54 => ?_; clear F51
  refine wpList_nil ?_
  refine hK44 _ _ ?_
  clear hK44
  rcases Bool.eq_false_or_eq_true (kOk sd many 0) with hc55 | hc55
  · skip
    refine wp_cond_false (c_false F54 rfl (not_t hc55)) ?_
    refine wp_skip ?_
    refine hK43 _ _ ?_
    clear hK43
    refine wp_seq_k (fun K56 hK56 => ?_)
    refine wp_region_lit ?_
    have b57 := (b39.ext hx49)
    refine qv 0 (.agg #[(.slice A16 sd.length c17), (.int .i64 many), (.int .i64 0)]) F54 rfl (rn_loadBlk (F54.get rfl) b57 Tryd.underlying24 rfl inf24) fun _ F59 => ?_; clear F54
    have b63 := ((((b4.ext hx21).ext hx33).grownN hg40 (by omega)).ext hx49)
    refine wpl_op (i := 1) rfl (o_store (cells := [(.slice A16 sd.length c17), (.int .i64 many), (.int .i64 0)]) F59 rfl rfl rfl rfl (F59.get rfl) (F59.get rfl) b63 inf24 rfl (by simp [Value.oneCell']) ?_)
    intro w60 b61 hg62; have z64 := hg62.size
    refine qv 2 (.int .i64 0) F59 rfl (rn_assign rfl) fun _ F66 => ?_; clear F59
    refine wpList_nil ?_
    refine hK56 _ _ ?_
    clear hK56
    refine wp_ret ?_
    refine retC1 F66 rfl rfl rfl b61 Tryd.underlying24 rfl inf24 ?_
    have d67 := (hf25.pres (((((Pres.refl w20).ext hx33).grownN hg40 (fun h => by simp only [Clip] at h; omega)).ext hx49).grownN hg62 (fun h => by simp only [Clip] at h; omega)))
    exact ⟨_, _, _, by rw [newM, newE, hc55]; rfl, by rw [newS, hc55]; exact Fl.sub d67 (fun b hb => by first | omega | (simp only [Clip] at hb; omega)), (((((((Ext.refl w).trans hx5).trans hx21).trans hx33).grownN hg40 (by omega)).trans hx49).grownN hg62 (by omega))⟩
  · skip
    refine wp_cond_true (c_true F54 rfl (not_f hc55)) ?_
    refine wp_seq_k (fun K68 hK68 => ?_)
    refine wp_region_lit ?_
    have b69 := ((((b4.ext hx21).ext hx33).grownN hg40 (by omega)).ext hx49)
    refine qv 0 (.agg #[(.slice none 0 0), (.int .i64 0), (.int .i64 0)]) F54 rfl (rn_loadBlk (F54.get rfl) b69 Tryd.underlying24 rfl inf24) fun _ F71 => ?_; clear F54
    refine wpl_op (i := 1) rfl (o_store (cells := [(.slice none 0 0), (.int .i64 0), (.int .i64 0)]) F71 rfl rfl rfl rfl (F71.get rfl) (F71.get rfl) b69 inf24 rfl (by simp [Value.oneCell']) ?_)
    intro w72 b73 hg74; have z75 := hg74.size
    refine qv 2 (.int .i64 40) F71 rfl (rn_assign rfl) fun _ F77 => ?_; clear F71
    refine wpList_nil ?_
    refine hK68 _ _ ?_
    clear hK68
    refine wp_ret ?_
    refine ret_then ?_
    refine retC1 F77 rfl rfl rfl b73 Tryd.underlying24 rfl inf24 ?_
    exact ⟨none, 0, 0, by rw [newM, newE, hc55]; rfl, by rw [newS, hc55]; exact Fl.nil _, (((((((Ext.refl w).trans hx5).trans hx21).trans hx33).grownN hg40 (by omega)).trans hx49).grownN hg74 (by omega))⟩

theorem new_at {v : Value} {m : Nat} (sd : List UInt8) (many : Int) (w : World) (hf : Fl S w 1 v m (byteVals sd)) (hsd : m ≤ 140737488355328) :
    Calls Tryd.prog 20 #[v, .int .i64 many] w (fun e w' => ∃ A m c, e = .returned (.tuple #[.agg #[.slice A m c, .int .i64 (newM sd many), .int .i64 0], .int .i64 (newE sd many)]) ∧ Fl (fun b => w.heap.size ≤ b) w' 1 (.slice A m c) m (byteVals (newS sd many)) ∧ Ext w w') := by
  have hm := hf.blen
  subst hm
  obtain ⟨A, c, rfl, _⟩ := hf.form
  exact new_any A c sd many w hf hsd

end Go.Proofs.YtmjgjopbeokajaaDoor

namespace Go.Proofs.YtmjgjopbeokajaaDoor
open Go.RowKit

variable {S S' : Nat → Prop}

set_option maxRecDepth 100000 in
set_option maxHeartbeats 1000000 in
theorem public_any (f : FuncId) (first cap : Array Value) (h : Nat → Bool → List UInt8) (w : World) (hen : ∀ (vs : Array Value) (W : World), (callFunc f vs).run Tryd.prog W = .ok (.enter f vs) W) (arg : Value → Value → Array Value) (harg : ∀ u v, (first ++ #[u, v]) ++ cap = arg u v)
    (hp : ∀ (j : Nat) (b : Bool) (W : World), j < 64 → Ext w W → Calls Tryd.prog f (arg (.int .i64 (j : Nat)) (.bool b)) W (fun e w' => e = .returned (.agg (byteVals (h j b)).toArray) ∧ Ext W w')) (hl : ∀ j b, j < 64 → (h j b).length = 32) (hG : Glob w) :
    Calls Tryd.prog 45 #[.func (.func f) first cap] w (fun e w' => e = .returned (.agg (byteVals (publicD h)).toArray) ∧ Ext w w') := by
  refine calls_enter (l := [(.func (.func f) first cap)]) Tryd.func45 rfl rfl rfl (fun aA hF => ?_)
  refine wp_seq_k (fun K1 hK1 => ?_)
  refine wp_region_lit ?_
  refine wpl_op (i := 0) rfl (o_new (fun g => (.pointer (some ⟨g, 0, none⟩))) (byteVals (List.replicate 32 0)) 37 hF rfl rfl rfl rfl (by kernel_rfl) ?_)
  intro g2 w3 a8 F9 z6 z7 b4 hx5; clear hF
  refine wpList_nil ?_
  refine hK1 _ _ ?_
  clear hK1
  refine wp_seq_k (fun K10 hK10 => ?_)
  refine wp_region_lit ?_
  refine wpl_op (i := 0) rfl (o_new (fun g => (.slice (some ⟨g, 0, none⟩) 0 4096)) (byteVals (List.replicate 4096 0)) 5 F9 rfl rfl rfl rfl (rn_makeC El22 rfl rfl rfl (by decide) (by decide) (by simp [byteVals])) ?_)
  intro g11 w12 a17 F18 z15 z16 b13 hx14; clear F9
  have hf19 := own_room (c := 4096) b13 (by rw [byteVals_len (show List.length (List.replicate 4096 (0 : UInt8)) = _ from List.length_replicate)]) (by decide)
  refine qv 1 (.slice (some ⟨g11, 0, none⟩) 0 4096) F18 rfl (rn_assign (F18.get rfl)) fun _ F21 => ?_; clear F18
  refine wpList_nil ?_
  refine hK10 _ _ ?_
  clear hK10
  refine wp_seq_k (fun K22 hK22 => ?_)
  refine wp_seq_k (fun K23 hK23 => ?_)
  refine wp_region_lit ?_
  refine qv 0 (.int .i64 0) F21 rfl (rn_move rfl) fun _ F25 => ?_; clear F21
  refine wpList_nil ?_
  refine hK23 _ _ ?_
  clear hK23
  refine wp_block ?_
  have b26 := (b4.ext hx14)
  refine wp_loop (fun a' W => ∃ (k : Nat) (Ap : Option Addr) (np : Nat) (cp : Nat) (l : List UInt8), Sl 25 [(0, (.func (.func f) first cap)), (2, (.pointer (some ⟨g2, 0, none⟩))), (3, (.slice Ap np cp)), (8, (.int .i64 (k : Nat)))] a' ∧ (k ≤ 64 ∧ np = 64 * k) ∧ l = manyD h k ∧ Ext w W ∧ Blk W g2 37 (byteVals (List.replicate 32 0)) ∧ W.ownsRow g11 5 1 (.slice Ap np cp) np (byteVals l) ∧ g11 ≤ W.heap.size ∧ w12.heap.size ≤ W.heap.size) (fun a' _ => 64 - (intOf (a'.eval (.tmp 8))).toNat) ⟨0, (some ⟨g11, 0, none⟩), 0, 4096, [], ((((F25.nil.cons (q_get F25 (t := 8) rfl (by first | rfl | (congr 1; omega) | (congr 1; done)))).cons (q_get F25 (t := 3) rfl (by first | rfl | (congr 1; omega) | (congr 1; done)))).cons (q_get F25 (t := 2) rfl rfl)).cons (q_get F25 (t := 0) rfl rfl)), ⟨by omega, by omega⟩, rfl, (((Ext.refl w).trans hx5).trans hx14), b26, hf19, (by omega), (Nat.le_refl _)⟩ ?_
  clear F25
  rintro a27 w28 ⟨k, Ap, np, cp, l, F29, hp31, hp32, hx30, b33, r34, hf35, hf36⟩
  have hL37 := F29
  have z38 := hx30.size
  have z39 := b33.lt
  have z40 := own_form0 r34
  refine wp_seq_k (fun K41 hK41 => ?_)
  refine wp_region_lit ?_
  refine qv 0 (.bool (decide (((k : Nat) : Int) < (64 : Int)))) F29 rfl (rn_lss (F29.get rfl) rfl) fun _ F43 => ?_; clear F29
  refine wpList_nil ?_
  refine hK41 _ _ ?_
  clear hK41
  refine wp_seq_k (fun K44 hK44 => ?_)
  by_cases hc45 : ((k : Nat) : Int) < (64 : Int)
  · skip
    refine wp_cond_true (c_true F43 rfl (decide_eq_true hc45)) ?_
    refine wp_skip ?_
    refine hK44 _ _ ?_
    clear hK44
    refine wp_seq_k (fun K46 hK46 => ?_)
    refine wp_block ?_
    refine wp_seq_k (fun K47 hK47 => ?_)
    refine wp_region_lit ?_
    refine qv 0 (.int .i64 (k : Nat)) F43 rfl (rn_move (F43.get rfl)) fun _ F49 => ?_; clear F43
    refine qv 1 (.int .i64 (k : Nat)) F49 rfl (rn_assign (F49.get rfl)) fun _ F51 => ?_; clear F49
    refine wpList_nil ?_
    refine hK47 _ _ ?_
    clear hK47
    refine wp_seq_k (fun K52 hK52 => ?_)
    refine wp_region_lit ?_
    refine qv 0 (.func (.func f) first cap) F51 rfl (rn_move (F51.get rfl)) fun _ F54 => ?_; clear F51
    refine qv 1 (.int .i64 (k : Nat)) F54 rfl (rn_move (F54.get rfl)) fun _ F56 => ?_; clear F54
    refine wpl_op (i := 2) rfl (o_call F56 rfl rfl rfl rfl (rn_callvc (F56.get rfl) (argsw_2 harg (F56.get rfl) rfl) (hen _ _)) (hp k false _ (by omega) ((Ext.refl w).trans hx30)) ?_)
    rintro _ w57 ⟨rfl, hx58⟩
    refine ⟨_, rfl, ?_⟩; intro a59 F60; clear F56; have z61 := hx58.size
    refine qv 3 (.func (.func f) first cap) F60 rfl (rn_move (F60.get rfl)) fun _ F63 => ?_; clear F60
    refine qv 4 (.int .i64 (k : Nat)) F63 rfl (rn_move (F63.get rfl)) fun _ F65 => ?_; clear F63
    refine wpl_op (i := 5) rfl (o_call F65 rfl rfl rfl rfl (rn_callvc (F65.get rfl) (argsw_2 harg (F65.get rfl) rfl) (hen _ _)) (hp k true _ (by omega) (((Ext.refl w).trans hx30).trans hx58)) ?_)
    rintro _ w66 ⟨rfl, hx67⟩
    refine ⟨_, rfl, ?_⟩; intro a68 F69; clear F65; have z70 := hx67.size
    refine wpl_op (i := 6) rfl (o_new (fun g => (.pointer (some ⟨g, 0, none⟩))) (byteVals (List.replicate 32 0)) 37 F69 rfl rfl rfl rfl (by kernel_rfl) ?_)
    intro g71 w72 a77 F78 z75 z76 b73 hx74; clear F69
    refine wpl_op (i := 7) rfl (o_new (fun g => (.pointer (some ⟨g, 0, none⟩))) (byteVals (List.replicate 32 0)) 37 F78 rfl rfl rfl rfl (by kernel_rfl) ?_)
    intro g79 w80 a85 F86 z83 z84 b81 hx82; clear F78
    have b90 := (b73.ext hx82)
    refine wpl_op (i := 8) rfl (o_store (cells := (byteVals (h k false))) F86 rfl rfl rfl rfl (F86.get rfl) (F86.get rfl) b90 (inf37.trans (congrArg some (byteVals_len (hl k false (by omega))).symm)) ((byteVals_len (show List.length (List.replicate 32 0) = _ from List.length_replicate)).trans (byteVals_len (hl k false (by omega))).symm) (byteVals_one _) ?_)
    intro w87 b88 hg89; have z91 := hg89.size
    have b95 := (b81.grownN hg89 (by omega))
    refine wpl_op (i := 9) rfl (o_store (cells := (byteVals (h k true))) F86 rfl rfl rfl rfl (F86.get rfl) (F86.get rfl) b95 (inf37.trans (congrArg some (byteVals_len (hl k true (by omega))).symm)) ((byteVals_len (show List.length (List.replicate 32 0) = _ from List.length_replicate)).trans (byteVals_len (hl k true (by omega))).symm) (byteVals_one _) ?_)
    intro w92 b93 hg94; have z96 := hg94.size
    refine wpList_nil ?_
    refine hK52 _ _ ?_
    clear hK52
    have F97 := ((((((((F86.nil.c F86 6 rfl).c F86 5 rfl).c F86 4 rfl).c F86 9 rfl).c F86 8 rfl).c F86 3 rfl).c F86 2 rfl).c F86 0 rfl)
    clear F86
    have hx99 : ∃ W, w92.drew = W ∧ Ext w92 W := ⟨_, rfl, (Ext.refl _).drew⟩
    obtain ⟨w98, e100, hx99⟩ := hx99
    have z101 := hx99.size
    refine any_start (fun W => True ∧ Blk W g71 37 (byteVals (h k false)) ∧ Blk W g79 37 (byteVals (h k true))) (fun i => false) 6 #[false, false, false, false, false, false] rfl rfl rfl ?_
    rw [e100]; clear e100
    refine qp 0 (.slice Ap np cp) F97 rfl rfl (fun W => (rn_move (F97.get rfl))) fun _ F103 => ?_; clear F97
    refine qp 1 (.slice (some ⟨g71, 0, none⟩) 32 32) F103 rfl rfl (fun W => (rn_arrAll Tryd.underlying37 inf5 (F103.get rfl))) fun _ F105 => ?_; clear F103
    refine qp 3 (.slice (some ⟨g79, 0, none⟩) 32 32) F105 rfl rfl (fun W => (rn_arrAll Tryd.underlying37 inf5 (F105.get rfl))) fun _ F107 => ?_; clear F105
    refine any_one (i := 2) (by decide +kernel) rfl ?_
    have r108 := (own_ext (own_grownT (own_grownT (own_ext (own_ext (own_ext (own_ext r34 hx58) hx67) hx74) hx82) b90 hg89 (by decide)) b95 hg94 (by decide)) hx99)
    have b109 := ((b88.grownN hg94 (by omega)).ext hx99)
    have hf118 := r108
    refine o_appB (zs := byteVals (l ++ (h k false))) El22 F107 rfl rfl rfl rfl rfl (F107.get rfl) (F107.get rfl) hf118 (Fl.cel (Fl.blk (S := fun b => b = g71) (k := 1) (n := 32) (c := 32) b109 (by rw [byteVals_len (hl k false (by omega)), Nat.mul_one]) (byteVals_one _) (by omega) rfl)).2.2 (by omega) (by omega) (by omega) (byteVals_app _ _) ?_
    intro A110 c111 w112 a119 F120 r113 hg114 z115 z116 hnb117; clear F107; have z121 := hg114.size
    have b122 := (grown_blk hf118 hg114 b109 (by decide))
    have b123 := (grown_blk hf118 hg114 (b93.ext hx99) (by decide))
    refine ⟨fun _ _ => ⟨trivial, b122, b123⟩, ?_⟩
    refine any_one (i := 4) (by decide +kernel) rfl ?_
    have hf132 := r113
    refine o_appB (zs := byteVals ((l ++ (h k false)) ++ (h k true))) El22 F120 rfl rfl rfl rfl rfl (F120.get rfl) (F120.get rfl) hf132 (Fl.cel (Fl.blk (S := fun b => b = g79) (k := 1) (n := 32) (c := 32) b123 (by rw [byteVals_len (hl k true (by omega)), Nat.mul_one]) (byteVals_one _) (by omega) rfl)).2.2 (by omega) (by omega) (by omega) (byteVals_app _ _) ?_
    intro A124 c125 w126 a133 F134 r127 hg128 z129 z130 hnb131; clear F120; have z135 := hg128.size
    have b136 := (grown_blk hf132 hg128 b122 (by decide))
    have b137 := (grown_blk hf132 hg128 b123 (by decide))
    refine ⟨fun _ _ => ⟨trivial, b136, b137⟩, ?_⟩
    refine qp 5 (.slice A124 ((np + 32) + 32) c125) F134 rfl rfl (fun W => (rn_assign (F134.get rfl))) fun _ F139 => ?_; clear F134
    refine any_nil (by decide +kernel) ?_
    refine hK46 _ _ ?_
    clear hK46
    have F140 := ((((((((F139.nil.c F139 6 rfl).c F139 5 rfl).c F139 4 rfl).c F139 9 rfl).c F139 8 rfl).c F139 3 rfl).c F139 2 rfl).c F139 0 rfl)
    clear F139
    refine wp_region_lit ?_
    refine qv 0 (.int .i64 (k + 1 : Nat)) F140 rfl (rn_addN (a := k) (b := 1) (F140.get rfl) rfl (by omega)) fun _ F142 => ?_; clear F140
    refine qv 1 (.int .i64 (k + 1 : Nat)) F142 rfl (rn_move (F142.get rfl)) fun _ F144 => ?_; clear F142
    refine wpList_nil ?_
    have b145 := (grown_blk hf132 hg128 (grown_blk hf118 hg114 (((((((b33.ext hx58).ext hx67).ext hx74).ext hx82).grownN hg89 (by omega)).grownN hg94 (by omega)).ext hx99) (by decide)) (by decide))
    refine ⟨⟨(k + 1), A124, (np + 32) + 32, c125, (l ++ (h k false)) ++ (h k true), ((((F144.nil.cons (q_get F144 (t := 8) rfl (by first | rfl | (congr 1; omega) | (congr 1; done)))).cons (q_get F144 (t := 3) rfl (by first | rfl | (congr 1; omega) | (congr 1; done)))).cons (q_get F144 (t := 2) rfl rfl)).cons (q_get F144 (t := 0) rfl rfl)), ⟨by omega, by omega⟩, (by rw [hp32]; exact manyD_step h k), (ext_row (ext_row (((((((((Ext.refl w).trans hx30).trans hx58).trans hx67).trans hx74).trans hx82).grownN hg89 (by omega)).grownN hg94 (by omega)).trans hx99) hg114 hf118 (by omega)) hg128 hf132 (by omega)), b145, r127, (by omega), (by omega)⟩, ?_⟩
    rw [F144.get (t := 8) rfl, hL37.get (t := 8) rfl]; simp [intOf] <;> omega
  · skip
    refine wp_cond_false (c_false F43 rfl (decide_eq_false hc45)) ?_
    refine wp_exit ?_
    refine exit_then ?_
    refine exit_then ?_
    refine exit_here ?_
    refine hK22 _ _ ?_
    clear hK22
    refine wp_seq_k (fun K146 hK146 => ?_)
    refine wp_region_lit ?_
    refine qv 0 (.slice Ap np cp) F43 rfl (rn_move (F43.get rfl)) fun _ F148 => ?_; clear F43
    refine wpl_op (i := 1) rfl (o_call F148 rfl rfl rfl rfl (rn_call (args2 rfl (F148.get rfl)) rfl (by kernel_rfl)) (tagged_at ([111, 110, 101]) (v := (.slice Ap np cp)) (n := np) l _ (Fl.own (S := fun b => g11 ≤ b) r34 (fun b hb => hb) (byteVals_one _)) (hG.ext ((Ext.refl w).trans hx30)) (by simp <;> omega) (by omega)) ?_)
    rintro _ w149 ⟨rfl, hx150⟩
    refine ⟨_, rfl, ?_⟩; intro a151 F152; clear F148; have z153 := hx150.size
    have b157 := (b33.ext hx150)
    refine wpl_op (i := 2) rfl (o_store (cells := (byteVals (tagged ([111, 110, 101]) l))) F152 rfl rfl rfl rfl (F152.get rfl) (F152.get rfl) b157 (inf37.trans (congrArg some (byteVals_len (tagged_len _ _)).symm)) ((byteVals_len (show List.length (List.replicate 32 0) = _ from List.length_replicate)).trans (byteVals_len (tagged_len _ _)).symm) (byteVals_one _) ?_)
    intro w154 b155 hg156; have z158 := hg156.size
    refine wpList_nil ?_
    refine hK146 _ _ ?_
    clear hK146
    refine wp_ret ?_
    refine retC F152 rfl rfl b155 Tryd.underlying37 rfl (inf37.trans (congrArg some (byteVals_len (tagged_len _ _)).symm)) ?_
    have hk : k = 64 := by omega
    subst hk
    exact ⟨by rw [publicD, ← hp32], ((((Ext.refl w).trans hx30).trans hx150).grownN hg156 (by omega))⟩

set_option maxRecDepth 100000 in
set_option maxHeartbeats 1000000 in
theorem publics_any (A : Option Addr) (c : Nat) (sd : List UInt8) (many : Nat) (used : Int) (w : World) (hf : Fl S w 1 (.slice A sd.length c) sd.length (byteVals sd)) (hG : Glob w) (hsd : sd.length ≤ 64) (hm : many ≤ 4096) :
    Calls Tryd.prog 31 #[.agg #[.slice A sd.length c, .int .i64 (many : Nat), .int .i64 used]] w (fun e w' => ∃ A c, e = .returned (.slice A many c) ∧ Fl (fun b => w.heap.size ≤ b) w' 32 (.slice A many c) many (digVals (pubsL sd many)) ∧ Ext w w') := by
  have hc : Fl (Clip S w) w 1 (.slice A sd.length c) sd.length (byteVals sd) := hf.clip
  have hcc := (Fl.cel hc).2.1
  refine calls_enter (l := [(.agg #[(.slice A sd.length c), (.int .i64 (many : Nat)), (.int .i64 used)])]) Tryd.func31 rfl rfl rfl (fun aA hF => ?_)
  refine wp_seq_k (fun K1 hK1 => ?_)
  refine wp_region_lit ?_
  refine wpl_op (i := 0) rfl (o_new (fun g => (.pointer (some ⟨g, 0, none⟩))) [(.slice A sd.length c), (.int .i64 (many : Nat)), (.int .i64 used)] 24 hF rfl rfl rfl rfl (rn_box (hF.get rfl) (by kernel_rfl)) ?_)
  intro g2 w3 a8 F9 z6 z7 b4 hx5; clear hF
  refine qv 1 (.slice none 0 0) F9 rfl (rn_assign rfl) fun _ F11 => ?_; clear F9
  refine wpList_nil ?_
  refine hK1 _ _ ?_
  clear hK1
  refine wp_seq_k (fun K12 hK12 => ?_)
  refine wp_seq_k (fun K13 hK13 => ?_)
  refine wp_region_lit ?_
  refine qv 0 (.pointer (some ⟨g2, 1, none⟩)) F11 rfl (rn_field Tryd.underlying24 rfl (by kernel_rfl) (F11.get rfl) rfl) fun _ F15 => ?_; clear F11
  refine qv 1 (.int .i64 (many : Nat)) F15 rfl (rn_load (isAgg_no Tryd.underlying3 rfl) (F15.get rfl) (b4.rule.1 1)) fun _ F17 => ?_; clear F15
  refine qv 2 (.int .i64 0) F17 rfl (rn_move rfl) fun _ F19 => ?_; clear F17
  refine wpList_nil ?_
  refine hK13 _ _ ?_
  clear hK13
  refine wp_block ?_
  refine wp_loop (fun a' W => ∃ (k : Nat) (Ap : Option Addr) (np : Nat) (cp : Nat) (l : List (List UInt8)), Sl 20 [(0, (.agg #[(.slice A sd.length c), (.int .i64 (many : Nat)), (.int .i64 used)])), (1, (.pointer (some ⟨g2, 0, none⟩))), (2, (.slice Ap np cp)), (5, (.int .i64 (many : Nat))), (6, (.int .i64 (k : Nat)))] a' ∧ (k ≤ many ∧ np = k) ∧ l = pubsL sd k ∧ Ext w W ∧ Blk W g2 24 [(.slice A sd.length c), (.int .i64 (many : Nat)), (.int .i64 used)] ∧ W.ownsRow w3.heap.size 37 32 (.slice Ap np cp) np (digVals l) ∧ w3.heap.size ≤ W.heap.size ∧ w3.heap.size ≤ W.heap.size) (fun a' _ => many - (intOf (a'.eval (.tmp 6))).toNat) ⟨0, none, 0, 0, [], (((((F19.nil.cons (q_get F19 (t := 6) rfl (by first | rfl | (congr 1; omega) | (congr 1; done)))).cons (q_get F19 (t := 5) rfl rfl)).cons (q_get F19 (t := 2) rfl (by first | rfl | (congr 1; omega) | (congr 1; done)))).cons (q_get F19 (t := 1) rfl rfl)).cons (q_get F19 (t := 0) rfl rfl)), ⟨by omega, by omega⟩, rfl, ((Ext.refl w).trans hx5), b4, (own_nil w3 w3.heap.size 37 32), (by omega), (Nat.le_refl _)⟩ ?_
  clear F19
  rintro a20 w21 ⟨k, Ap, np, cp, l, F22, hp24, hp25, hx23, b26, r27, hf28, hf29⟩
  have hL30 := F22
  have z31 := hx23.size
  have z32 := b26.lt
  have z33 := own_form0 r27
  have hl32 : All32 l := by rw [hp25]; exact pubsL_32 _ _
  refine wp_seq_k (fun K34 hK34 => ?_)
  refine wp_region_lit ?_
  refine qv 0 (.bool (decide (((k : Nat) : Int) < ((many : Nat) : Int)))) F22 rfl (rn_lss (F22.get rfl) (F22.get rfl)) fun _ F36 => ?_; clear F22
  refine wpList_nil ?_
  refine hK34 _ _ ?_
  clear hK34
  refine wp_seq_k (fun K37 hK37 => ?_)
  by_cases hc38 : ((k : Nat) : Int) < ((many : Nat) : Int)
  · skip
    refine wp_cond_true (c_true F36 rfl (decide_eq_true hc38)) ?_
    refine wp_skip ?_
    refine hK37 _ _ ?_
    clear hK37
    refine wp_seq_k (fun K39 hK39 => ?_)
    refine wp_block ?_
    refine wp_seq_k (fun K40 hK40 => ?_)
    refine wp_region_lit ?_
    refine qv 0 (.int .i64 (k : Nat)) F36 rfl (rn_move (F36.get rfl)) fun _ F42 => ?_; clear F36
    refine qv 1 (.int .i64 (k : Nat)) F42 rfl (rn_assign (F42.get rfl)) fun _ F44 => ?_; clear F42
    refine wpList_nil ?_
    refine hK40 _ _ ?_
    clear hK40
    refine wp_region_lit ?_
    refine qv 0 (.slice Ap np cp) F44 rfl (rn_move (F44.get rfl)) fun _ F46 => ?_; clear F44
    refine qv 1 (.pointer (some ⟨g2, 0, none⟩)) F46 rfl (rn_field Tryd.underlying24 rfl (by kernel_rfl) (F46.get rfl) rfl) fun _ F48 => ?_; clear F46
    refine qv 2 (.slice A sd.length c) F48 rfl (rn_load (isAgg_no Tryd.underlying22 rfl) (F48.get rfl) (b26.rule.1 0)) fun _ F50 => ?_; clear F48
    refine qv 3 (.int .i64 (k : Nat)) F50 rfl (rn_move (F50.get rfl)) fun _ F52 => ?_; clear F50
    refine qv 4 (.agg #[(.slice A sd.length c), (.int .i64 (k : Nat))]) F52 rfl (rn_build (parts2 (F52.get rfl) (F52.get rfl)) (by kernel_rfl)) fun _ F54 => ?_; clear F52
    refine qv 5 (.func (.func 36) #[(.agg #[(.slice A sd.length c), (.int .i64 (k : Nat))])] #[]) F54 rfl (rn_makeFunc (args1 (F54.get rfl)) (args0)) fun _ F56 => ?_; clear F54
    have d57 := (hc.ext hx23)
    have hf58 := d57
    have hf59 := (hG.ext ((Ext.refl w).trans hx23))
    refine wpl_op (i := 6) rfl (o_call F56 rfl rfl rfl rfl (rn_call (args1 (F56.get rfl)) rfl (by kernel_rfl)) (public_any 36 #[(.agg #[(.slice A sd.length c), (.int .i64 (k : Nat))])] #[] (hashD sd k) _ (fun _ _ => by kernel_rfl) (fun u v => #[(.agg #[(.slice A sd.length c), (.int .i64 (k : Nat))]), u, v]) (fun u v => by simp) (fun j b W hj hx => hash_at (v := (.slice A sd.length c)) (m := sd.length) sd k j b W (hf58.ext hx) (hf59.ext hx) (by omega) (by omega) (by omega)) (fun _ _ _ => hashD_len _ _ _ _) hf59) ?_)
    rintro _ w60 ⟨rfl, hx61⟩
    refine ⟨_, rfl, ?_⟩; intro a62 F63; clear F56; have z64 := hx61.size
    have r65 := (own_ext r27 hx61)
    have hf66 := r65
    refine wpl_op (i := 7) rfl (o_new (fun g => (.slice (some ⟨g, 0, none⟩) 1 1)) (byteVals ((publicD (hashD sd k)))) 37 F63 rfl rfl rfl rfl (rn_buildSlice (parts1 (F63.get rfl)) (build_wholeE (vs := [(.agg (byteVals (publicD (hashD sd k))).toArray)]) El28 rfl rfl (fun v hv => by rw [List.mem_singleton.1 hv]; exact (byteVals_len (publicD_len _))) (by decide) (by decide) (by simp [Value.cells, byteVals]))) ?_)
    intro g67 w68 a73 F74 z71 z72 b69 hx70; clear F63
    have nb75 := own_new (g := g67) hf66 (by omega)
    have r76 := (own_ext r65 hx70)
    have hf85 := r76
    have nb86 : some g67 ≠ (Value.slice Ap np cp).ownBlock := nb75
    have z87 := b69.lt
    refine wpl_op (i := 8) rfl (o_appB (zs := digVals (l ++ ([publicD (hashD sd k)]))) El28 F74 rfl rfl rfl rfl rfl (F74.get rfl) (F74.get rfl) hf85 (Fl.cel (Fl.digblk (S := fun b => b = g67) b69 (All32.sing (publicD_len _)) (by simp [digVals, byteVals]))).2.2 (by omega) (by omega) (by omega) (digVals_app _ _) ?_)
    intro A77 c78 w79 a88 F89 r80 hg81 z82 z83 hnb84; clear F74; have z90 := hg81.size
    have nb91 := hnb84 g67 (by omega) nb86
    refine qv 9 (.slice A77 (np + 1) c78) F89 rfl (rn_assign (F89.get rfl)) fun _ F93 => ?_; clear F89
    refine wpList_nil ?_
    refine hK39 _ _ ?_
    clear hK39
    have F94 := (((((((F93.nil.c F93 3 rfl).c F93 7 rfl).c F93 6 rfl).c F93 5 rfl).c F93 2 rfl).c F93 1 rfl).c F93 0 rfl)
    clear F93
    refine wp_region_lit ?_
    refine qv 0 (.int .i64 (k + 1 : Nat)) F94 rfl (rn_addN (a := k) (b := 1) (F94.get rfl) rfl (by omega)) fun _ F96 => ?_; clear F94
    refine qv 1 (.int .i64 (k + 1 : Nat)) F96 rfl (rn_move (F96.get rfl)) fun _ F98 => ?_; clear F96
    refine wpList_nil ?_
    have b99 := (grown_blk hf85 hg81 ((b26.ext hx61).ext hx70) (by decide))
    refine ⟨⟨(k + 1), A77, np + 1, c78, l ++ ([publicD (hashD sd k)]), (((((F98.nil.cons (q_get F98 (t := 6) rfl (by first | rfl | (congr 1; omega) | (congr 1; done)))).cons (q_get F98 (t := 5) rfl rfl)).cons (q_get F98 (t := 2) rfl (by first | rfl | (congr 1; omega) | (congr 1; done)))).cons (q_get F98 (t := 1) rfl rfl)).cons (q_get F98 (t := 0) rfl rfl)), ⟨by omega, by omega⟩, (by rw [hp25]; exact pubsL_step sd k), (ext_row ((((Ext.refl w).trans hx23).trans hx61).trans hx70) hg81 hf85 (by omega)), b99, r80, (by omega), (by omega)⟩, ?_⟩
    rw [F98.get (t := 6) rfl, hL30.get (t := 6) rfl]; simp [intOf] <;> omega
  · skip
    refine wp_cond_false (c_false F36 rfl (decide_eq_false hc38)) ?_
    refine wp_exit ?_
    refine exit_then ?_
    refine exit_then ?_
    refine exit_here ?_
    refine hK12 _ _ ?_
    clear hK12
    refine wp_seq_k (fun K100 hK100 => ?_)
    refine wp_region_lit ?_
    refine qv 0 (.slice Ap np cp) F36 rfl (rn_move (F36.get rfl)) fun _ F102 => ?_; clear F36
    refine qv 1 (.slice Ap np cp) F102 rfl (rn_assign (F102.get rfl)) fun _ F104 => ?_; clear F102
    refine wpList_nil ?_
    refine hK100 _ _ ?_
    clear hK100
    refine wp_ret ?_
    refine ret1 F104 rfl rfl ?_
    have hk : k = many := by omega
    have hrow := Fl.own (S := fun b => w.heap.size ≤ b) r27 (fun b hb => by omega) (digVals_one _)
    have hnp : np = many := by omega
    have hx := ((Ext.refl w).trans hx23)
    have hl := hp25
    subst hk
    subst hl
    subst hnp
    exact ⟨Ap, cp, rfl, hrow, hx⟩

theorem publics_at {v : Value} {m : Nat} (sd : List UInt8) (many : Nat) (used : Int) (w : World) (hf : Fl S w 1 v m (byteVals sd)) (hG : Glob w) (hsd : m ≤ 64) (hm : many ≤ 4096) :
    Calls Tryd.prog 31 #[.agg #[v, .int .i64 (many : Nat), .int .i64 used]] w (fun e w' => ∃ A c, e = .returned (.slice A many c) ∧ Fl (fun b => w.heap.size ≤ b) w' 32 (.slice A many c) many (digVals (pubsL sd many)) ∧ Ext w w') := by
  have hm := hf.blen
  subst hm
  obtain ⟨A, c, rfl, _⟩ := hf.form
  exact publics_any A c sd many used w hf hG hsd hm

end Go.Proofs.YtmjgjopbeokajaaDoor
