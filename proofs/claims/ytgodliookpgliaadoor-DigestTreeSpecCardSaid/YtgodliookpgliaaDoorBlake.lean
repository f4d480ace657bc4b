/- BLAKE2s, plain. -/
import Derived.Test.YtgodliookpgliaaDoorBase
namespace Go.Proofs.YtgodliookpgliaaDoor

/-! BLAKE2s, plain. -/
def iv : List UInt32 := [0x6a09e667, 0xbb67ae85, 0x3c6ef372, 0xa54ff53a, 0x510e527f, 0x9b05688c, 0x1f83d9ab, 0x5be0cd19]
def perms : List (List Nat) := [
  [0, 1, 2, 3, 4, 5, 6, 7, 8, 9, 10, 11, 12, 13, 14, 15],
  [14, 10, 4, 8, 9, 15, 13, 6, 1, 12, 0, 2, 11, 7, 5, 3],
  [11, 8, 12, 0, 5, 2, 15, 13, 10, 14, 3, 6, 7, 1, 9, 4],
  [7, 9, 3, 1, 13, 12, 11, 14, 2, 6, 5, 10, 4, 0, 15, 8],
  [9, 0, 5, 7, 2, 4, 10, 15, 14, 1, 11, 12, 6, 8, 3, 13],
  [2, 12, 6, 10, 0, 11, 8, 3, 4, 13, 7, 5, 15, 14, 1, 9],
  [12, 5, 1, 15, 14, 13, 4, 10, 0, 7, 6, 3, 9, 2, 8, 11],
  [13, 11, 7, 14, 12, 1, 3, 9, 5, 0, 15, 4, 8, 6, 2, 10],
  [6, 15, 14, 9, 11, 3, 0, 8, 12, 2, 13, 7, 1, 4, 10, 5],
  [10, 2, 8, 4, 7, 6, 1, 5, 15, 11, 9, 14, 3, 12, 13, 0]]
/-- rotation to the right -/
def ror (v : UInt32) (n : Nat) : UInt32 := v >>> UInt32.ofNat n ||| v <<< UInt32.ofNat (32 - n)
structure Four where (a b c d : UInt32)
def mix4 (a b c d x y : UInt32) : Four :=
  let a := a + b + x
  let d := ror (d ^^^ a) 16
  let c := c + d
  let b := ror (b ^^^ c) 12
  let a := a + b + y
  let d := ror (d ^^^ a) 8
  let c := c + d
  let b := ror (b ^^^ c) 7
  ⟨a, b, c, d⟩
def put4 (v : List UInt32) (i j k l : Nat) (r : Four) : List UInt32 := (((v.set i r.a).set j r.b).set k r.c).set l r.d
def at_ (v : List UInt32) (i : Nat) : UInt32 := v.getD i 0
def mixv (v : List UInt32) (i j k l : Nat) (x y : UInt32) : List UInt32 := put4 v i j k l (mix4 (at_ v i) (at_ v j) (at_ v k) (at_ v l) x y)
/-- the i-th of the eight mixings of a round -/
def mixAt (m : List UInt32) (s : List Nat) (v : List UInt32) (i : Nat) : List UInt32 :=
  let x := at_ m (s.getD (2 * i) 0)
  let y := at_ m (s.getD (2 * i + 1) 0)
  if i < 4 then mixv v i (4 + i) (8 + i) (12 + i) x y
  else let j := i % 4; mixv v j (4 + (j + 1) % 4) (8 + (j + 2) % 4) (12 + (j + 3) % 4) x y
def round (m : List UInt32) (v : List UInt32) (s : List Nat) : List UInt32 := (List.range 8).foldl (mixAt m s) v
def word (b : List UInt8) (m : List UInt32) (i : Nat) : List UInt32 := m.set (i / 4) (at_ m (i / 4) ||| (b.getD i 0).toUInt32 <<< UInt32.ofNat (8 * (i % 4)))
def words (b : List UInt8) : List UInt32 := (List.range b.length).foldl (word b) (List.replicate 16 0)
def begin_ (h : List UInt32) (n : UInt64) (last : Bool) : List UInt32 :=
  let v := h ++ iv
  let v := v.set 12 (at_ v 12 ^^^ n.toUInt32)
  let v := v.set 13 (at_ v 13 ^^^ (n >>> 32).toUInt32)
  if last then v.set 14 (~~~ (at_ v 14)) else v
def close_ (v : List UInt32) (h : List UInt32) (i : Nat) : List UInt32 := h.set i (at_ h i ^^^ at_ v i ^^^ at_ v (8 + i))
def absorb (h : List UInt32) (b : List UInt8) (n : UInt64) (last : Bool) : List UInt32 :=
  let v := perms.foldl (round (words b)) (begin_ h n last)
  (List.range 8).foldl (close_ v) h
def first : List UInt32 := iv.set 0 (0x6a09e667 ^^^ 0x01010020)
def outByte (h : List UInt32) (i : Nat) : UInt8 := (at_ h (i / 4) >>> UInt32.ofNat (8 * (i % 4))).toUInt8
def out (h : List UInt32) : List UInt8 := (List.range 32).map (outByte h)
def feed (h : List UInt32) (n : Nat) (b : List UInt8) : List UInt32 :=
  if b.length ≤ 64 then absorb h b (UInt64.ofNat (n + b.length)) true
  else feed (absorb h (b.take 64) (UInt64.ofNat (n + 64)) false) (n + 64) (b.drop 64)
termination_by b.length
decreasing_by simp; omega
def bsum (b : List UInt8) : List UInt8 := out (feed first 0 b)

end Go.Proofs.YtgodliookpgliaaDoor
