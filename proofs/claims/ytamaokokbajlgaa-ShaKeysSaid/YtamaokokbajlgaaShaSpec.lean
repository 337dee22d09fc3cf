/-
  SHA-256 in plain numbers: what both texts compute. No program in sight.
-/
import Derived.RowKit
import Derived.KernelRfl
import Derived.Laws.BitsAllLaws
namespace Go.Proofs.Ytamaokokbajlgaa.Sha
open Go Go.RowKit

def rotr (x n : Nat) : Nat := (x >>> n) ||| ((x <<< (32 - n)) % 4294967296)
def sig0 (w : Nat) : Nat := (rotr w 7 ^^^ rotr w 18) ^^^ (w >>> 3)
def sig1 (w : Nat) : Nat := (rotr w 17 ^^^ rotr w 19) ^^^ (w >>> 10)
def Sig1 (e : Nat) : Nat := (rotr e 6 ^^^ rotr e 11) ^^^ rotr e 25
def Sig0 (a : Nat) : Nat := (rotr a 2 ^^^ rotr a 13) ^^^ rotr a 22
def ch (e f g : Nat) : Nat := (e &&& f) ^^^ ((4294967295 - e) &&& g)
def maj (a b c : Nat) : Nat := ((a &&& b) ^^^ (a &&& c)) ^^^ (b &&& c)

def kTab : List Nat :=
  [0x428a2f98, 0x71374491, 0xb5c0fbcf, 0xe9b5dba5, 0x3956c25b, 0x59f111f1, 0x923f82a4, 0xab1c5ed5,
   0xd807aa98, 0x12835b01, 0x243185be, 0x550c7dc3, 0x72be5d74, 0x80deb1fe, 0x9bdc06a7, 0xc19bf174,
   0xe49b69c1, 0xefbe4786, 0x0fc19dc6, 0x240ca1cc, 0x2de92c6f, 0x4a7484aa, 0x5cb0a9dc, 0x76f988da,
   0x983e5152, 0xa831c66d, 0xb00327c8, 0xbf597fc7, 0xc6e00bf3, 0xd5a79147, 0x06ca6351, 0x14292967,
   0x27b70a85, 0x2e1b2138, 0x4d2c6dfc, 0x53380d13, 0x650a7354, 0x766a0abb, 0x81c2c92e, 0x92722c85,
   0xa2bfe8a1, 0xa81a664b, 0xc24b8b70, 0xc76c51a3, 0xd192e819, 0xd6990624, 0xf40e3585, 0x106aa070,
   0x19a4c116, 0x1e376c08, 0x2748774c, 0x34b0bcb5, 0x391c0cb3, 0x4ed8aa4a, 0x5b9cca4f, 0x682e6ff3,
   0x748f82ee, 0x78a5636f, 0x84c87814, 0x8cc70208, 0x90befffa, 0xa4506ceb, 0xbef9a3f7, 0xc67178f2]
def hTab : List Nat := [0x6a09e667, 0xbb67ae85, 0x3c6ef372, 0xa54ff53a, 0x510e527f, 0x9b05688c, 0x1f83d9ab, 0x5be0cd19]

/-! The primes, and their roots' bits. -/
def isP (n : Nat) : Bool := (List.range n).all fun e => decide (e < 2) || decide (n < e * e) || decide (0 < n % e)
def cntP (n : Nat) : Nat := ((List.range n).filter fun m => decide (2 ≤ m) && isP m).length
def pTab : List Nat := (List.range 314).filter fun m => decide (2 ≤ m) && isP m
theorem cntP_succ (n : Nat) (h : 2 ≤ n) : cntP (n + 1) = cntP n + if isP n = true then 1 else 0 := by
  unfold cntP
  rw [List.range_succ, List.filter_append, List.length_append]
  congr 1
  simp [List.filter_cons, h]
  split <;> simp_all
theorem cntP_two : cntP 2 = 0 := by decide +kernel
theorem pTab_at : ∀ n, n < 314 → 2 ≤ n → isP n = true → pTab.getD (cntP n) 0 = n ∧ cntP n < 65 := by decide +kernel
theorem pTab_len : pTab.length = 65 := by decide +kernel
theorem cntP_last : cntP 314 = 65 := by decide +kernel
theorem cntP_313 : cntP 313 = 64 ∧ isP 313 = true := by decide +kernel
theorem isP_yes (n d : Nat) (h : ∀ e, 2 ≤ e → e < d → 0 < n % e) (hd : n < d * d) : isP n = true := by
  unfold isP
  rw [List.all_eq_true]
  intro e he
  rw [List.mem_range] at he
  by_cases h2 : e < 2
  · simp [h2]
  · by_cases h3 : e < d
    · have := h e (by omega) h3
      simp [this]
    · have : d * d ≤ e * e := Nat.mul_le_mul (by omega) (by omega)
      have h4 : n < e * e := by omega
      simp [h4]
theorem isP_no (n e : Nat) (h2 : 2 ≤ e) (he : e * e ≤ n) (hm : n % e = 0) : isP n = false := by
  unfold isP
  rw [List.all_eq_false]
  have hlt : e < n := by
    have : 2 * e ≤ e * e := Nat.mul_le_mul_right e h2
    omega
  exact ⟨e, List.mem_range.2 hlt, by simp; omega⟩

def mulHi (x y : Nat) : Nat := x * y / 18446744073709551616
def mulLo (x y : Nat) : Nat := x * y % 18446744073709551616
def addLo (x y : Nat) : Nat := (x + y) % 18446744073709551616
def addHi (x y : Nat) : Nat := (x + y) / 18446744073709551616
def above2 (x p : Nat) : Bool := decide (p < mulHi x x) || (decide (mulHi x x = p) && decide (0 < mulLo x x))
def above3 (x p : Nat) : Bool :=
  decide (0 < mulHi (mulHi x x) x + addHi (mulLo (mulHi x x) x) (mulHi (mulLo x x) x)) ||
    (decide (p * 4294967296 < addLo (mulLo (mulHi x x) x) (mulHi (mulLo x x) x)) ||
      (decide (addLo (mulLo (mulHi x x) x) (mulHi (mulLo x x) x) = p * 4294967296) && decide (0 < mulLo (mulLo x x) x)))
def above (x p power : Nat) : Bool := if power = 2 then above2 x p else above3 x p
def rootGo (p power : Nat) : Nat → Nat → Nat
  | 0, x => x
  | n + 1, x => rootGo p power n (if above (x ||| (1 <<< n)) p power = true then x else x ||| (1 <<< n))
def root (p power : Nat) : Nat := rootGo p power 37 0 % 4294967296
theorem roots2 : (List.range 8).map (fun i => root (pTab.getD i 0) 2) = hTab := by decide +kernel
theorem roots3 : (List.range 64).map (fun i => root (pTab.getD i 0) 3) = kTab := by decide +kernel
theorem pTab_lt : ∀ i, i < 65 → pTab.getD i 0 < 314 := by decide +kernel

/-! The words of a block. -/
def acc (b : List Nat) (at_ : Nat) : Nat → Nat
  | 0 => 0
  | j + 1 => ((acc b at_ j <<< 8) % 4294967296) ||| b.getD (at_ + j) 0
def wNext (w : List Nat) (t : Nat) : Nat := (((sig1 (w.getD (t - 2) 0) + w.getD (t - 7) 0) % 4294967296 + sig0 (w.getD (t - 15) 0)) % 4294967296 + w.getD (t - 16) 0) % 4294967296
def wAt (b : List Nat) (w : List Nat) (t : Nat) : Nat := if t < 16 then acc b (4 * t) 4 else wNext w t
def wordsTo (b : List Nat) : Nat → List Nat
  | 0 => List.replicate 64 0
  | t + 1 => (wordsTo b t).set t (wAt b (wordsTo b t) t)
def words (b : List Nat) : List Nat := wordsTo b 64

/-! The rounds. -/
def t1Of (v : List Nat) (k w : Nat) : Nat := ((((v.getD 7 0 + Sig1 (v.getD 4 0)) % 4294967296 + ch (v.getD 4 0) (v.getD 5 0) (v.getD 6 0)) % 4294967296 + k) % 4294967296 + w) % 4294967296
def t2Of (v : List Nat) : Nat := (Sig0 (v.getD 0 0) + maj (v.getD 0 0) (v.getD 1 0) (v.getD 2 0)) % 4294967296
def mixStep (v : List Nat) (k w : Nat) : List Nat :=
  [(t1Of v k w + t2Of v) % 4294967296, v.getD 0 0, v.getD 1 0, v.getD 2 0, (v.getD 3 0 + t1Of v k w) % 4294967296, v.getD 4 0, v.getD 5 0, v.getD 6 0]
def mixTo (v : List Nat) (w : List Nat) : Nat → List Nat
  | 0 => v
  | t + 1 => mixStep (mixTo v w t) (kTab.getD t 0) (w.getD t 0)
def addTo (h v : List Nat) : Nat → List Nat
  | 0 => h
  | i + 1 => (addTo h v i).set i (((addTo h v i).getD i 0 + v.getD i 0) % 4294967296)
def mixed (h b : List Nat) : List Nat := addTo h (mixTo h (words b) 64) 8

def padLen (n : Nat) : Nat := 1 + (119 - n % 64) % 64
def be (m : Nat) : List Nat := [m / 72057594037927936 % 256, m / 281474976710656 % 256, m / 1099511627776 % 256, m / 4294967296 % 256, m / 16777216 % 256, m / 65536 % 256, m / 256 % 256, m % 256]
def pad (n : Nat) : List Nat := 128 :: (List.replicate (padLen n - 1) 0 ++ be (n * 8))
def blkTo (b h : List Nat) : Nat → List Nat
  | 0 => h
  | k + 1 => mixed (blkTo b h k) ((b.take (64 * k + 64)).drop (64 * k))
def out4 (x : Nat) : List Nat := [(x >>> 24) % 256, (x >>> 16) % 256, (x >>> 8) % 256, x % 256]
def sum (b : List Nat) : List Nat := (blkTo (b ++ pad b.length) hTab ((b ++ pad b.length).length / 64)).flatMap out4
theorem blkTo_append (x y h : List Nat) (m : Nat) (hx : x.length = 64 * m) : ∀ k, k ≤ m → blkTo (x ++ y) h k = blkTo x h k
  | 0, _ => rfl
  | k + 1, hk => by
    rw [blkTo, blkTo, blkTo_append x y h m hx k (by omega), List.take_append_of_le_length (by omega)]
theorem blkTo_more (x y h : List Nat) (m : Nat) (hx : x.length = 64 * m) : ∀ j, blkTo (x ++ y) h (m + j) = blkTo y (blkTo x h m) j
  | 0 => blkTo_append x y h m hx m (Nat.le_refl _)
  | j + 1 => by
    rw [← Nat.add_assoc, blkTo, blkTo, blkTo_more x y h m hx j]
    congr 1
    rw [List.take_append, List.drop_append, List.length_take, List.take_of_length_le (by omega), List.drop_eq_nil_of_le (by omega), List.nil_append]
    congr 1
    · omega
    · congr 1
      omega
theorem padLen_le (n : Nat) : 1 ≤ padLen n ∧ padLen n ≤ 64 ∧ (n + padLen n + 8) % 64 = 0 := by unfold padLen; omega
theorem pad_length (n : Nat) : (pad n).length = padLen n + 8 := by
  have := padLen_le n
  simp [pad, be]
  omega
/-- The digest by two loops: the whole blocks of the bytes, and the rest with its pad. -/
theorem sum_split (b : List Nat) : sum b = (blkTo (b.drop (64 * (b.length / 64)) ++ pad b.length) (blkTo b hTab (b.length / 64)) ((b.drop (64 * (b.length / 64)) ++ pad b.length).length / 64)).flatMap out4 := by
  have hp := pad_length b.length
  have hq := padLen_le b.length
  have hlen : (b.drop (64 * (b.length / 64)) ++ pad b.length).length = b.length - 64 * (b.length / 64) + (padLen b.length + 8) := by rw [List.length_append, List.length_drop, hp]
  have hx : (b.take (64 * (b.length / 64))).length = 64 * (b.length / 64) := by rw [List.length_take]; omega
  unfold sum
  congr 1
  have e1 : b ++ pad b.length = b.take (64 * (b.length / 64)) ++ (b.drop (64 * (b.length / 64)) ++ pad b.length) := by rw [← List.append_assoc, List.take_append_drop]
  have e2 : (b ++ pad b.length).length / 64 = b.length / 64 + (b.drop (64 * (b.length / 64)) ++ pad b.length).length / 64 := by rw [hlen, List.length_append, hp]; omega
  rw [e2, e1, blkTo_more _ _ _ _ hx]
  congr 1
  have e3 : blkTo b hTab (b.length / 64) = blkTo (b.take (64 * (b.length / 64)) ++ b.drop (64 * (b.length / 64))) hTab (b.length / 64) := by rw [List.take_append_drop]
  rw [e3, blkTo_append _ _ _ _ hx _ (Nat.le_refl _)]
theorem sum_abc : sum [97, 98, 99] = [0xba, 0x78, 0x16, 0xbf, 0x8f, 0x01, 0xcf, 0xea, 0x41, 0x41, 0x40, 0xde, 0x5d, 0xae, 0x22, 0x23, 0xb0, 0x03, 0x61, 0xa3, 0x96, 0x17, 0x7a, 0x9c, 0xb4, 0x10, 0xff, 0x61, 0xf2, 0x00, 0x15, 0xad] := by decide +kernel
theorem sum_nil : sum [] = [0xe3, 0xb0, 0xc4, 0x42, 0x98, 0xfc, 0x1c, 0x14, 0x9a, 0xfb, 0xf4, 0xc8, 0x99, 0x6f, 0xb9, 0x24, 0x27, 0xae, 0x41, 0xe4, 0x64, 0x9b, 0x93, 0x4c, 0xa4, 0x95, 0x99, 0x1b, 0x78, 0x52, 0xb8, 0x55] := by decide +kernel

end Go.Proofs.Ytamaokokbajlgaa.Sha
