/-
 The lower layers, walked and in closed forms, part 0: ShaSpec, Shelf, ShaLeaf, Iter, ShaIter, ShaArr, ShaTurn, ShaWords, ShaMixed, IterMark, IterMarkP, ArrIn.
-/
import Derived.Test.YtdklmafkcbjomaaDoorProg
import Derived.RowKit
import Derived.KernelRfl
import Derived.Laws.BitsAllLaws
import Derived.Shelf.Bits.Mul64
import Derived.Laws.Externs
import Derived.WalkKit
import Derived.WalkSpells
import Derived.WalkLawsBesides
import Derived.Lib.Hide
import Derived.RangeFuncNested
import Derived.RangeFuncLeaves
import Derived.Shelf.Abstract
import Derived.Laws.Rows
import Derived.Laws.Tables
import Derived.TacticsIn
import Derived.OwnWalkIn
import Derived.TacticsInMore
import Derived.LoopNIn
import Derived.LoopIn
import Derived.RangeFuncBox
import Derived.Deep.RegionHeld3
import Derived.Deep.DrawnRows
import Derived.Laws.CopyOwn
import Derived.Deep.RegionLaw
import Derived.WideShapes
import Derived.ChangeArms
import Derived.ChangeShapes
/-! ShaSpec -/
namespace Go.Proofs.YtdklmafkcbjomaaDoor.Sha
open Go Go.RowKit
def rotr (x n : Nat) : Nat := (x >>> n) ||| ((x <<< (32 - n)) % 4294967296)
def sig0 (w : Nat) : Nat := (rotr w 7 ^^^ rotr w 18) ^^^ (w >>> 3)
def sig1 (w : Nat) : Nat := (rotr w 17 ^^^ rotr w 19) ^^^ (w >>> 10)
def Sig1 (e : Nat) : Nat := (rotr e 6 ^^^ rotr e 11) ^^^ rotr e 25
def Sig0 (a : Nat) : Nat := (rotr a 2 ^^^ rotr a 13) ^^^ rotr a 22
def ch (e f g : Nat) : Nat := (e &&& f) ^^^ ((4294967295 - e) &&& g)
def maj (a b c : Nat) : Nat := ((a &&& b) ^^^ (a &&& c)) ^^^ (b &&& c)
def kTab : List Nat :=
 [0x428a2f98, 0x71374491, 0xb5c0fbcf, 0xe9b5dba5, 0x3956c25b, 0x59f111f1, 0x923f82a4, 0xab1c5ed5,
  0xd807aa98, 0x12835b01, 0x243185be, 0x550c7dc3, 0x72be5d74, 0x80deb1fe, 0x9bdc06a7, 0xc19bf174,
  0xe49b69c1, 0xefbe4786, 0x0fc19dc6, 0x240ca1cc, 0x2de92c6f, 0x4a7484aa, 0x5cb0a9dc, 0x76f988da,
  0x983e5152, 0xa831c66d, 0xb00327c8, 0xbf597fc7, 0xc6e00bf3, 0xd5a79147, 0x06ca6351, 0x14292967,
  0x27b70a85, 0x2e1b2138, 0x4d2c6dfc, 0x53380d13, 0x650a7354, 0x766a0abb, 0x81c2c92e, 0x92722c85,
  0xa2bfe8a1, 0xa81a664b, 0xc24b8b70, 0xc76c51a3, 0xd192e819, 0xd6990624, 0xf40e3585, 0x106aa070,
  0x19a4c116, 0x1e376c08, 0x2748774c, 0x34b0bcb5, 0x391c0cb3, 0x4ed8aa4a, 0x5b9cca4f, 0x682e6ff3,
  0x748f82ee, 0x78a5636f, 0x84c87814, 0x8cc70208, 0x90befffa, 0xa4506ceb, 0xbef9a3f7, 0xc67178f2]
def hTab : List Nat := [0x6a09e667, 0xbb67ae85, 0x3c6ef372, 0xa54ff53a, 0x510e527f, 0x9b05688c, 0x1f83d9ab, 0x5be0cd19]
/-! The primes, and their roots' bits. -/
def isP (n : Nat) : Bool := (List.range n).all fun e => decide (e < 2) || decide (n < e * e) || decide (0 < n % e)
def cntP (n : Nat) : Nat := ((List.range n).filter fun m => decide (2 ≤ m) && isP m).length
def pTab : List Nat := (List.range 314).filter fun m => decide (2 ≤ m) && isP m
theorem cntP_succ (n : Nat) (h : 2 ≤ n) : cntP (n + 1) = cntP n + if isP n = true then 1 else 0 := by
 unfold cntP
 rw [List.range_succ, List.filter_append, List.length_append]
 congr 1
 simp [List.filter_cons, h]
 split <;> simp_all
theorem cntP_two : cntP 2 = 0 := by decide +kernel
theorem pTab_at : ∀ n, n < 314 → 2 ≤ n → isP n = true → pTab.getD (cntP n) 0 = n ∧ cntP n < 65 := by decide +kernel
theorem cntP_313 : cntP 313 = 64 ∧ isP 313 = true := by decide +kernel
theorem isP_yes (n d : Nat) (h : ∀ e, 2 ≤ e → e < d → 0 < n % e) (hd : n < d * d) : isP n = true := by
 unfold isP
 rw [List.all_eq_true]
 intro e he
 rw [List.mem_range] at he
 by_cases h2 : e < 2
 ·simp [h2]
 ·by_cases h3 : e < d
  ·have := h e (by omega) h3
   simp [this]
  ·have : d * d ≤ e * e := Nat.mul_le_mul (by omega) (by omega)
   have h4 : n < e * e := by omega
   simp [h4]
theorem isP_no (n e : Nat) (h2 : 2 ≤ e) (he : e * e ≤ n) (hm : n % e = 0) : isP n = false := by
 unfold isP
 rw [List.all_eq_false]
 have hlt : e < n := by
  have : 2 * e ≤ e * e := Nat.mul_le_mul_right e h2
  omega
 exact ⟨e, List.mem_range.2 hlt, by simp; omega⟩
def mulHi (x y : Nat) : Nat := x * y / 18446744073709551616
def mulLo (x y : Nat) : Nat := x * y % 18446744073709551616
def addLo (x y : Nat) : Nat := (x + y) % 18446744073709551616
def addHi (x y : Nat) : Nat := (x + y) / 18446744073709551616
def above2 (x p : Nat) : Bool := decide (p < mulHi x x) || (decide (mulHi x x = p) && decide (0 < mulLo x x))
def above3 (x p : Nat) : Bool :=
 decide (0 < mulHi (mulHi x x) x + addHi (mulLo (mulHi x x) x) (mulHi (mulLo x x) x)) ||
  (decide (p * 4294967296 < addLo (mulLo (mulHi x x) x) (mulHi (mulLo x x) x)) ||
   (decide (addLo (mulLo (mulHi x x) x) (mulHi (mulLo x x) x) = p * 4294967296) && decide (0 < mulLo (mulLo x x) x)))
def above (x p power : Nat) : Bool := if power = 2 then above2 x p else above3 x p
def rootGo (p power : Nat) : Nat → Nat → Nat
 | 0, x => x
 | n + 1, x => rootGo p power n (if above (x ||| (1 <<< n)) p power = true then x else x ||| (1 <<< n))
def root (p power : Nat) : Nat := rootGo p power 37 0 % 4294967296
theorem roots2 : (List.range 8).map (fun i => root (pTab.getD i 0) 2) = hTab := by decide +kernel
theorem roots3 : (List.range 64).map (fun i => root (pTab.getD i 0) 3) = kTab := by decide +kernel
theorem pTab_lt : ∀ i, i < 65 → pTab.getD i 0 < 314 := by decide +kernel
/-! The words of a block. -/
def acc (b : List Nat) (at_ : Nat) : Nat → Nat
 | 0 => 0
 | j + 1 => ((acc b at_ j <<< 8) % 4294967296) ||| b.getD (at_ + j) 0
def wNext (w : List Nat) (t : Nat) : Nat := (((sig1 (w.getD (t - 2) 0) + w.getD (t - 7) 0) % 4294967296 + sig0 (w.getD (t - 15) 0)) % 4294967296 + w.getD (t - 16) 0) % 4294967296
def wAt (b : List Nat) (w : List Nat) (t : Nat) : Nat := if t < 16 then acc b (4 * t) 4 else wNext w t
def wordsTo (b : List Nat) : Nat → List Nat
 | 0 => List.replicate 64 0
 | t + 1 => (wordsTo b t).set t (wAt b (wordsTo b t) t)
def words (b : List Nat) : List Nat := wordsTo b 64
/-! The rounds. -/
def t1Of (v : List Nat) (k w : Nat) : Nat := ((((v.getD 7 0 + Sig1 (v.getD 4 0)) % 4294967296 + ch (v.getD 4 0) (v.getD 5 0) (v.getD 6 0)) % 4294967296 + k) % 4294967296 + w) % 4294967296
def t2Of (v : List Nat) : Nat := (Sig0 (v.getD 0 0) + maj (v.getD 0 0) (v.getD 1 0) (v.getD 2 0)) % 4294967296
def mixStep (v : List Nat) (k w : Nat) : List Nat :=
 [(t1Of v k w + t2Of v) % 4294967296, v.getD 0 0, v.getD 1 0, v.getD 2 0, (v.getD 3 0 + t1Of v k w) % 4294967296, v.getD 4 0, v.getD 5 0, v.getD 6 0]
def mixTo (v : List Nat) (w : List Nat) : Nat → List Nat
 | 0 => v
 | t + 1 => mixStep (mixTo v w t) (kTab.getD t 0) (w.getD t 0)
def addTo (h v : List Nat) : Nat → List Nat
 | 0 => h
 | i + 1 => (addTo h v i).set i (((addTo h v i).getD i 0 + v.getD i 0) % 4294967296)
def mixed (h b : List Nat) : List Nat := addTo h (mixTo h (words b) 64) 8
def padLen (n : Nat) : Nat := 1 + (119 - n % 64) % 64
def be (m : Nat) : List Nat := [m / 72057594037927936 % 256, m / 281474976710656 % 256, m / 1099511627776 % 256, m / 4294967296 % 256, m / 16777216 % 256, m / 65536 % 256, m / 256 % 256, m % 256]
def pad (n : Nat) : List Nat := 128 :: (List.replicate (padLen n - 1) 0 ++ be (n * 8))
def blkTo (b h : List Nat) : Nat → List Nat
 | 0 => h
 | k + 1 => mixed (blkTo b h k) ((b.take (64 * k + 64)).drop (64 * k))
def out4 (x : Nat) : List Nat := [(x >>> 24) % 256, (x >>> 16) % 256, (x >>> 8) % 256, x % 256]
def sum (b : List Nat) : List Nat := (blkTo (b ++ pad b.length) hTab ((b ++ pad b.length).length / 64)).flatMap out4
theorem blkTo_append (x y h : List Nat) (m : Nat) (hx : x.length = 64 * m) : ∀ k, k ≤ m → blkTo (x ++ y) h k = blkTo x h k
 | 0, _ => rfl
 | k + 1, hk => by
  rw [blkTo, blkTo, blkTo_append x y h m hx k (by omega), List.take_append_of_le_length (by omega)]
theorem blkTo_more (x y h : List Nat) (m : Nat) (hx : x.length = 64 * m) : ∀ j, blkTo (x ++ y) h (m + j) = blkTo y (blkTo x h m) j
 | 0 => blkTo_append x y h m hx m (Nat.le_refl _)
 | j + 1 => by
  rw [← Nat.add_assoc, blkTo, blkTo, blkTo_more x y h m hx j]
  congr 1
  rw [List.take_append, List.drop_append, List.length_take, List.take_of_length_le (by omega), List.drop_eq_nil_of_le (by omega), List.nil_append]
  congr 1
  ·omega
  ·congr 1
   omega
theorem padLen_le (n : Nat) : 1 ≤ padLen n ∧ padLen n ≤ 64 ∧ (n + padLen n + 8) % 64 = 0 := by unfold padLen; omega
theorem pad_length (n : Nat) : (pad n).length = padLen n + 8 := by
 have := padLen_le n
 simp [pad, be]
 omega
/-- The digest by two loops: the whole blocks of the bytes, and the rest with its pad. -/
theorem sum_split (b : List Nat) : sum b = (blkTo (b.drop (64 * (b.length / 64)) ++ pad b.length) (blkTo b hTab (b.length / 64)) ((b.drop (64 * (b.length / 64)) ++ pad b.length).length / 64)).flatMap out4 := by
 have hp := pad_length b.length
 have hq := padLen_le b.length
 have hlen : (b.drop (64 * (b.length / 64)) ++ pad b.length).length = b.length - 64 * (b.length / 64) + (padLen b.length + 8) := by rw [List.length_append, List.length_drop, hp]
 have hx : (b.take (64 * (b.length / 64))).length = 64 * (b.length / 64) := by rw [List.length_take]; omega
 unfold sum
 congr 1
 have e1 : b ++ pad b.length = b.take (64 * (b.length / 64)) ++ (b.drop (64 * (b.length / 64)) ++ pad b.length) := by rw [← List.append_assoc, List.take_append_drop]
 have e2 : (b ++ pad b.length).length / 64 = b.length / 64 + (b.drop (64 * (b.length / 64)) ++ pad b.length).length / 64 := by rw [hlen, List.length_append, hp]; omega
 rw [e2, e1, blkTo_more _ _ _ _ hx]
 congr 1
 have e3 : blkTo b hTab (b.length / 64) = blkTo (b.take (64 * (b.length / 64)) ++ b.drop (64 * (b.length / 64))) hTab (b.length / 64) := by rw [List.take_append_drop]
 rw [e3, blkTo_append _ _ _ _ hx _ (Nat.le_refl _)]
end Go.Proofs.YtdklmafkcbjomaaDoor.Sha

/-! Shelf -/
namespace Go.Proofs.YtdklmafkcbjomaaDoor
open Go.Shelf Go.RowKit Go.Lib
def lays264_ren : Go.Shelf.Ren := ⟨fun | 264 => 101 | n => n, fun | 53 => 112 | 46 => 101 | n => n, fun | n => n⟩
theorem lays264 : Go.Proofs.Lays.n264 Tryd.prog lays264_ren := {
 mixed := by kernel_rfl
 f264 := Tryd.func101.trans (congrArg some (by kernel_rfl))
 t46 := Tryd.underlying101
 a46 := Tryd.isAgg101
 z46 := Tryd.sizeOf101
 v46 := Tryd.zeroValue101
 t53 := Tryd.underlying112
 a53 := Tryd.isAgg112
 z53 := Tryd.sizeOf112
 v53 := Tryd.zeroValue112 }
theorem mul64_calls (x y : Nat) (hx : x < 18446744073709551616) (hy : y < 18446744073709551616) (w : World) :
  Calls Tryd.prog 101 #[.int .u64 x, .int .u64 y] w fun e w' => e = .returned (.tuple #[.int .u64 (Sha.mulHi x y), .int .u64 (Sha.mulLo x y)]) ∧ w = w' :=
 (Any.bits_Mul64 lays264 x y hx hy w).mono fun _ _ h => ⟨h.1, h.2.symm⟩
theorem add64_run (x y : Nat) (w : World) :
  (callFunc 102 #[.int .u64 x, .int .u64 y, .int .u64 0]).run Tryd.prog w =
   .ok (.value (.tuple #[.int .u64 (Sha.addLo x y), .int .u64 (Sha.addHi x y)])) w := by
 have h := run_add64 (P := Tryd.prog) (w := w) x y 0 (by omega) (by omega) (by omega) (by omega)
 rw [run_callFunc_extern Tryd.func102 (by kernel_rfl) (by kernel_rfl) (by kernel_rfl) (e := add64Entry) (by kernel_rfl)]
 rw [h]
 simp only [Result.andThen]
 unfold Sha.addLo Sha.addHi
 congr 5 <;> omega
end Go.Proofs.YtdklmafkcbjomaaDoor

/-! ShaLeaf -/
namespace Go.Proofs.YtdklmafkcbjomaaDoor
open Go.RowKit
theorem mulHi_lt (x y : Nat) (hx : x < 18446744073709551616) (hy : y < 18446744073709551616) : Sha.mulHi x y < 18446744073709551616 := by
 unfold Sha.mulHi
 have : x * y < 18446744073709551616 * 18446744073709551616 := by
  rcases Nat.eq_zero_or_pos y with h | h
  ·subst h; simp
  ·exact Nat.lt_of_lt_of_le (Nat.mul_lt_mul_of_pos_right hx h) (Nat.mul_le_mul_left _ (Nat.le_of_lt hy))
 exact Nat.div_lt_of_lt_mul this
theorem mulLo_lt (x y : Nat) : Sha.mulLo x y < 18446744073709551616 := Nat.mod_lt _ (by decide)
theorem addLo_lt (x y : Nat) : Sha.addLo x y < 18446744073709551616 := Nat.mod_lt _ (by decide)
theorem addHi_le (x y : Nat) (hx : x < 18446744073709551616) (hy : y < 18446744073709551616) : Sha.addHi x y ≤ 1 := by
 unfold Sha.addHi; omega
theorem mulHi_small (x : Nat) (hx : x < 137438953472) : Sha.mulHi x x < 1024 ∧ Sha.mulHi (Sha.mulHi x x) x = 0 := by
 have h1 : x * x < 137438953472 * 137438953472 := Nat.mul_lt_mul_of_lt_of_lt hx hx
 have h2 : Sha.mulHi x x < 1024 := by unfold Sha.mulHi; omega
 refine ⟨h2, ?_⟩
 have h3 : Sha.mulHi x x * x < 1024 * 137438953472 := Nat.mul_lt_mul_of_lt_of_lt h2 hx
 generalize Sha.mulHi x x = h at *
 unfold Sha.mulHi
 omega
theorem ret_bool {a b : Bool} (h : a = b) : Ending.returned (.bool a) = .returned (.bool b) := by rw [h]
set_option maxHeartbeats 400000 in
theorem above2_calls (x p : Nat) (hx : x < 137438953472) (w : World) :
  Calls Tryd.prog 99 #[.int .u64 x, .int .u64 p, .int .i64 2] w fun e w' => e = .returned (.bool (Sha.above2 x p)) ∧ w = w' := by
 go_enter Tryd.func99, Tryd.ntmps99
 go_wp2_with (go_at_call 101; refine (mul64_calls _ _ (by omega) (by omega) _).mono ?_; rintro e w' ⟨rfl, rfl⟩)
 all_goals
  go_ret
  refine ⟨ret_bool ?_, rfl⟩
  unfold Sha.above2
  rw [Bool.eq_iff_iff]
  simp only [Bool.or_eq_true, Bool.and_eq_true, decide_eq_true_eq, true_iff]
  omega
set_option maxHeartbeats 800000 in
theorem above3_calls (x p : Nat) (hx : x < 137438953472) (hp : p < 4294967296) (w : World) :
  Calls Tryd.prog 99 #[.int .u64 x, .int .u64 p, .int .i64 3] w fun e w' => e = .returned (.bool (Sha.above3 x p)) ∧ w = w' := by
 have b1 := (mulHi_small x hx).1
 have b0 := (mulHi_small x hx).2
 have b2 := mulLo_lt x x
 have b3 := mulLo_lt (Sha.mulHi x x) x
 have b4 := mulHi_lt (Sha.mulLo x x) x b2 (by omega)
 have b5 := mulLo_lt (Sha.mulLo x x) x
 have b6 := addLo_lt (Sha.mulLo (Sha.mulHi x x) x) (Sha.mulHi (Sha.mulLo x x) x)
 have b7 := addHi_le _ _ b3 b4
 unfold Sha.above3
 replace b0 : Sha.mulHi (Sha.mulHi x x) x ≤ 0 := by omega
 go_enter Tryd.func99, Tryd.ntmps99
 go_wp2_with fail
 refine (mul64_calls _ _ (by omega) (by omega) _).mono ?_; rintro e w' ⟨rfl, rfl⟩
 go_wp2_with fail
 refine (mul64_calls _ _ (by omega) (by omega) _).mono ?_; rintro e w' ⟨rfl, rfl⟩
 go_wp2_with fail
 refine (mul64_calls _ _ (by omega) (by omega) _).mono ?_; rintro e w' ⟨rfl, rfl⟩
 go_wp2_with (simp only [add64_run])
 all_goals
  go_ret
  refine ⟨ret_bool ?_, rfl⟩
  rw [Bool.eq_iff_iff]
  simp only [Bool.or_eq_true, Bool.and_eq_true, decide_eq_true_eq, true_iff]
  omega
theorem above_calls (x p power : Nat) (hx : x < 137438953472) (hp : p < 4294967296) (hpw : power = 2 ∨ power = 3) (w : World) :
  Calls Tryd.prog 99 #[.int .u64 x, .int .u64 p, .int .i64 power] w fun e w' => e = .returned (.bool (Sha.above x p power)) ∧ w = w' := by
 rcases hpw with rfl | rfl
 ·exact above2_calls x p hx w
 ·exact above3_calls x p hx hp w
theorem ret_int {k : IntKind} {a b : Int} (h : a = b) : Ending.returned (.int k a) = .returned (.int k b) := by rw [h]
theorem or_bit (y n : Nat) (hy : y < 137438953472) (hn : n ≤ 36) :
  bits .or .u64 (y : Int) (IntKind.u64.wrap (2 ^ n)) = ((y ||| (1 <<< n) : Nat) : Int) ∧ y ||| (1 <<< n) < 137438953472 := by
 rw [Nat.one_shiftLeft]
 have hp : 2 ^ n ≤ 2 ^ 36 := Nat.pow_le_pow_right (by omega) hn
 have he : (2 ^ n : Int) = ((2 ^ n : Nat) : Int) := by simp
 rw [he]
 clear he
 generalize 2 ^ n = q at *
 rw [IntKind.wrap_u64, Int.emod_eq_of_lt (by omega) (by omega)]
 exact ⟨u64_or_nat y q (by omega) (by omega), Nat.or_lt_two_pow (n := 37) hy (by omega)⟩
set_option maxHeartbeats 800000 in
theorem root_calls (p power : Nat) (hp : p < 4294967296) (hpw : power = 2 ∨ power = 3) (w : World) :
  Calls Tryd.prog 95 #[.int .u64 p, .int .i64 power] w fun e w' => e = .returned (.int .u32 (Sha.root p power)) ∧ w = w' := by
 go_enter Tryd.func95, Tryd.ntmps95
 go_wp2
 go_loop [5, 6] (fun x b => ∃ (n y : Nat), n ≤ 37 ∧ y < 137438953472 ∧ Sha.rootGo p power n y = Sha.rootGo p power 37 0 ∧ b = .int .i64 ((n : Int) - 1) ∧ x = .int .u64 y) (fun _ b => (intOf b + 1).toNat)
 case atStart => exact ⟨37, 0, by omega, by omega, rfl, rfl, rfl⟩
 obtain ⟨n, y, hn, hy, hg, rfl, rfl⟩ := hrel
 have Hg := Lib.hid hg
 clear hg
 cases n with
 | zero =>
  go_wp2
  go_ret
  refine ⟨ret_int ?_, rfl⟩
  have hg := Hg.out
  unfold Sha.root
  rw [← hg]
  unfold Sha.rootGo
  omega
 | succ n =>
  go_wp2_with fail
  have hz := or_bit y n hy (by omega)
  rw [hz.1]
  have hz2 := hz.2
  clear hz
  obtain ⟨z, Hz⟩ : ∃ z, Hid (y ||| (1 <<< n) = z) := ⟨_, Lib.hid rfl⟩
  rw [Hz.out] at hz2 ⊢
  have hg := Hg.out
  clear Hg
  rw [Sha.rootGo, Hz.out] at hg
  refine (above_calls z p power hz2 hp hpw _).mono ?_
  rintro e w' ⟨rfl, rfl⟩
  cases ha : Sha.above z p power
  ·rw [ha] at hg
   replace hg : Sha.rootGo p power n z = Sha.rootGo p power 37 0 := hg
   have Hg := Lib.hid hg
   clear hg ha Hz
   go_wp2
   go_round
   case rel => exact ⟨n, z, by omega, hz2, Hg.out, by go_num, rfl⟩
   case measure => simp [intOf]
  ·rw [ha] at hg
   replace hg : Sha.rootGo p power n y = Sha.rootGo p power 37 0 := hg
   have Hg := Lib.hid hg
   clear hg ha Hz
   go_wp2
   go_round
   case rel => exact ⟨n, y, by omega, hy, Hg.out, by go_num, rfl⟩
   case measure => simp [intOf]
end Go.Proofs.YtdklmafkcbjomaaDoor

/-! Iter -/
namespace Go.Proofs.YtdklmafkcbjomaaDoor.Iter
open Go Go.RowKit
/-- What is cells lies as it lay. -/
structure KeepsCells (W W' : World) : Prop where
 os : W'.os = W.os
 tape : W'.tape = W.tape
 output : W'.output = W.output
 size : W.heap.size ≤ W'.heap.size
 same : ∀ (k : Nat) (o : Obj), W.heap[k]? = some o → o.isCells = true → W'.heap[k]? = some o
theorem KeepsCells.refl (W : World) : KeepsCells W W := ⟨rfl, rfl, rfl, Nat.le_refl _, fun _ _ h _ => h⟩
theorem KeepsCells.trans {A B C : World} (h : KeepsCells A B) (k : KeepsCells B C) : KeepsCells A C :=
 ⟨k.os.trans h.os, k.tape.trans h.tape, k.output.trans h.output, Nat.le_trans h.size k.size, fun i o hi ho => k.same i o (h.same i o hi ho) ho⟩
theorem KeepsCells.of_below {W W' : World} (h : Below W.heap.size W W') : KeepsCells W W' :=
 ⟨h.os, h.tape, h.output, h.size, fun k _ hk _ => (h.block k (Array.getElem?_eq_some_iff.1 hk).1).trans hk⟩
theorem KeepsCells.putObj {W : World} {r : Nat} {o : Obj} (o' : Obj) (h : W.heap[r]? = some o) (hw : o.isCells = false) : KeepsCells W (W.putObj r o') :=
 ⟨rfl, rfl, rfl, by simp, fun k x hk hx => by
  by_cases e : k = r
  ·subst e
   rw [h] at hk
   cases hk
   rw [hw] at hx
   cases hx
  ·exact (World.putObj_heap_other e).trans hk⟩
theorem KeepsCells.cell {W W' : World} (h : KeepsCells W W') {a : Addr} {v : Value} (hc : W.cell? a = some v) : W'.cell? a = some v := by
 obtain ⟨o, ho, hcells⟩ := cells_of_cell hc
 exact (World.cell?_of_block ((h.same _ _ ho hcells).trans ho.symm)).trans hc
theorem below_putObj {B : Nat} {W : World} {r : Nat} (o : Obj) (h : B ≤ r) : Below B W (W.putObj r o) :=
 ⟨rfl, rfl, rfl, by simp, fun k hk => World.putObj_heap_other (by omega)⟩
def CellOwn {β : Type} (I : β → World → Prop) : Prop := ∀ s W W', I s W → KeepsCells W W' → I s W'
/-- A function value to range over that gives its elements one by one, without an end: the loop's body must leave before the N-th. El k: what is handed over in round k. Kp: what the body keeps of an element. -/
def SeqInf (P : Program) (g : Nat) (lb : Array Value) (El : Nat → Array Value → World → Prop) (N B : Nat) (Kp : Array Value → World → World → Prop) (w0 : World) : Prop :=
 ∀ (n l : Nat) (J Jx : Nat → World → Prop) (W : World), Below B w0 W →
  (∀ k W W', J k W → Below W.heap.size W W' → J k W') → (∀ k W W', Jx k W → Below W.heap.size W W' → Jx k W') →
  (∀ k args W1, k < N → J k W1 → El k args W1 → Below B w0 W1 → YieldAt Fence.wide n P l args W1 fun e W' =>
   (e = .returned (.bool true) ∧ k + 1 < N ∧ J (k + 1) W' ∧ Below B W1 W' ∧ Kp args W1 W') ∨ (e = .returned (.bool false) ∧ Jx k W')) →
  J 0 W →
  CallsIn Fence.wide (n + 1) P g (#[.func (.yield l) #[] #[]] ++ lb) W fun e W' => (∃ v, e = .returned v) ∧ ∃ k, Jx k W'
/-- How a round's body may be left. -/
def infPost (N B : Nat) (Kp : Array Value → World → World → Prop) (I : Nat → World → Prop) (Ix : Code → Nat → World → Prop) (k : Nat) (args : Array Value) (W : World) : Exit → Act → World → Prop
 | .normal, _, W' => KeepsOthers W W' ∧ k + 1 < N ∧ I (k + 1) W' ∧ Below B W W' ∧ Kp args W W'
 | .ret, _, W' => KeepsOthers W W' ∧ Ix .ret k W' ∧ Below B W W'
 | .exit id, _, W' => KeepsOthers W W' ∧ Ix (.exit id) k W' ∧ Below B W W'
 | .goto t, _, W' => KeepsOthers W W' ∧ Ix (.goto t) k W' ∧ Below B W W'
 | .panic _, _, _ => False
 | .outgrown, _, _ => False
variable {P : Program} {n : Nat}
theorem wpIn_range_inf {g : Operand} {ps : Array Tmp} {assign body : Code} {Q : Exit → Act → World → Prop} {a : Act} {w : World}
  {gf : Nat} {lb : Array Value} (hg : a.eval g = .func (.func gf) #[] lb) (eg : ∀ args w, (callFunc gf args).run P w = .ok (.enter gf args) w)
  {El : Nat → Array Value → World → Prop} {N B : Nat} {Kp : Array Value → World → World → Prop} {w0 : World}
  (hseq : SeqInf P gf lb El N B Kp w0) (hb0 : Below B w0 w) (hB : B ≤ w.heap.size)
  (hps : ∀ k args W, El k args W → args.size = ps.size)
  (hEl : ∀ k args W W', El k args W → KeepsCells W W' → El k args W')
  (hKp : ∀ args A A' C C', KeepsCells A A' → KeepsCells C C' → Kp args A' C → Kp args A C')
  (I : Nat → World → Prop) (Ix : Code → Nat → World → Prop) (hI : CellOwn I) (hIx : ∀ c, CellOwn (Ix c)) (h0 : I 0 w)
  (a₁ : Array Value → Act)
  (hassign : ∀ (l k : Nat) (args : Array Value) (W : World) (K : Act → World → Prop), El k args W → K (a₁ args) W →
   assign.wpIn (Fence.wide.inRound l) n P (Exit.then K (fun _ _ _ => False)) { tmps := (ps.zip args).foldl (fun t (p, v) => t.setIfInBounds p v) a.tmps, defers := [] } W)
  (hbody : ∀ (l k : Nat) (args : Array Value) (W : World), k < N → I k W → El k args W → Below B w0 W → body.wpIn (Fence.wide.inRound l) n P (infPost N B Kp I Ix k args W) (a₁ args) W)
  (hstop : ∀ (D : Nat) (c : Code) (k : Nat) (W : World), Ix c k W → Below B w0 W → W.heap[D]? = some (.deferred (some [])) → w.heap.size ≤ D →
   c.wpIn Fence.wide (n + 2) P Q { a with defers := { target := .collected D, args := #[] } :: a.defers } W) :
  (Code.rangeFunc g ps assign body).wpIn Fence.wide (n + 2) P Q a w := by
 refine wpIn_rangeFunc ?_
 intro fn hfn
 show ∃ (l : Nat) (mark : List Deferred) (w₁ : World) (d : Deferred) (w₁' : World) (f : FuncId) (args : Array Value) (w₂ : World),
   (Instr.enterLoop fn a.tmps ps assign body none).run P w = .ok (l, mark) w₁ ∧ _
 obtain ⟨rec, hrec⟩ : ∃ rec : LoopState → Option Code → Loop, rec = fun st pe => { state := st, pending := pe, fn, tmps := a.tmps, params := ps, assign, body, defers := w.heap.size } := ⟨_, rfl⟩
 obtain ⟨W1, hW1⟩ : ∃ W1, (w.alloc (.deferred (some []))).alloc (.loop (rec .ready none)) = W1 := ⟨_, rfl⟩
 have hL1 : W1.heap[w.heap.size + 1]? = some (.loop (rec .ready none)) := by
  rw [← hW1]
  have := World.alloc_heap_new (w.alloc (.deferred (some []))) (.loop (rec .ready none))
  rwa [World.size_alloc] at this
 have hD1 : W1.heap[w.heap.size]? = some (.deferred (some [])) := by
  rw [← hW1]
  exact (Below.heap_alloc _ _ _ (by simp)).trans (World.alloc_heap_new w _)
 have hg1 : Below w.heap.size w W1 := by
  rw [← hW1]
  exact ((Below.refl _ w).alloc (Nat.le_refl _) _).alloc (by simp) _
 have hI1 : I 0 W1 := hI _ _ _ h0 (KeepsCells.of_below hg1)
 have hb1 : Below B w0 W1 := hb0.trans (hg1.mono hB)
 refine ⟨w.heap.size + 1, [{ target := .collected w.heap.size, args := #[] }], W1, { target := .fn (.func gf) lb, args := #[.func (.yield (w.heap.size + 1)) #[] #[]] }, W1, gf,
  #[.func (.yield (w.heap.size + 1)) #[] #[]] ++ lb, W1, ?_, ?_, fun _ _ => trivial, ?_, fun h => by simp [Fence.wide] at h, ?_⟩
 ·rw [← hW1, hrec]
  exact run_enterLoop_outer _ _ _ _ _
 ·simp only [resolve, hg]
  simp [go_sem]
 ·simp [invoke, go_sem, eg]
 have hlt1 : w.heap.size + 1 < W1.heap.size := (Array.getElem?_eq_some_iff.1 hL1).1
 refine (hseq n (w.heap.size + 1)
  (fun k W => I k W ∧ W.heap[w.heap.size + 1]? = some (.loop (rec .ready none)) ∧ W.heap[w.heap.size]? = some (.deferred (some [])) ∧ Below B w0 W)
  (fun k W => ∃ c, Ix c k W ∧ W.heap[w.heap.size + 1]? = some (.loop (rec .done (some c))) ∧ W.heap[w.heap.size]? = some (.deferred (some [])) ∧ Below B w0 W)
  W1 hb1
  (fun k A C hs hAC => ⟨hI _ _ _ hs.1 (KeepsCells.of_below hAC), (hAC.block _ (Array.getElem?_eq_some_iff.1 hs.2.1).1).trans hs.2.1, (hAC.block _ (Array.getElem?_eq_some_iff.1 hs.2.2.1).1).trans hs.2.2.1, hs.2.2.2.trans (hAC.mono (by have h1 := (Array.getElem?_eq_some_iff.1 hs.2.1).1; omega))⟩)
  (fun k A C hs hAC => by
   obtain ⟨c, hc, hl, hk, hw⟩ := hs
   exact ⟨c, hIx c _ _ _ hc (KeepsCells.of_below hAC), (hAC.block _ (Array.getElem?_eq_some_iff.1 hl).1).trans hl, (hAC.block _ (Array.getElem?_eq_some_iff.1 hk).1).trans hk, hw.trans (hAC.mono (by have h1 := (Array.getElem?_eq_some_iff.1 hl).1; omega))⟩)
  ?_ ⟨hI1, hL1, hD1, hb1⟩).mono ?_
 rotate_left
 ·rintro e W2 ⟨⟨v, rfl⟩, k, c, hi, hl, hd, hbe⟩
  have hrun := run_endLoop (P := P) hl (by rw [hrec]; simp)
  rw [hrec] at hrun
  refine ⟨some c, _, hrun, ?_⟩
  exact hstop _ c k _ (hIx c _ _ _ hi (KeepsCells.putObj _ hl rfl)) (hbe.trans (below_putObj _ (by omega))) ((World.putObj_heap_other (by omega)).trans hd) (Nat.le_refl _)
 rintro k args W hkN ⟨hi, hl, hd, _⟩ hel hbW
 have hlt : w.heap.size + 1 < W.heap.size := (Array.getElem?_eq_some_iff.1 hl).1
 have hy := run_yield (P := P) (args := args) hl (by rw [hrec]; exact hps _ _ _ hel)
 rw [hrec] at hy
 refine ⟨fn, _, assign, body, hy, roundIn_of_wpIn hfn (hassign _ k args W _ hel ⟨_, run_beginRound hl (by rw [hrec]), ?_⟩)⟩
 obtain ⟨W2, hW2⟩ : ∃ W2, W.putObj (w.heap.size + 1) (.loop { rec .ready none with state := .busy }) = W2 := ⟨_, rfl⟩
 rw [hW2]
 have hl2 : W2.heap[w.heap.size + 1]? = some (.loop { rec .ready none with state := .busy }) := by
  rw [← hW2]
  exact World.putObj_heap_same hlt
 have hd2 : W2.heap[w.heap.size]? = some (.deferred (some [])) := by
  rw [← hW2]
  exact (World.putObj_heap_other (by omega)).trans hd
 have kc2 : KeepsCells W W2 := by
  rw [← hW2]
  exact KeepsCells.putObj _ hl rfl
 have hb2 : Below B W W2 := by
  rw [← hW2]
  exact below_putObj _ (by omega)
 refine wpIn_mono (hbody _ k args W2 hkN (hI _ _ _ hi kc2) (hEl _ _ _ _ hel kc2) (hbW.trans hb2)) ?_
 have fin : ∀ (jump : Option Code) (W3 : World), KeepsOthers W2 W3 → ∃ W4, (Instr.endRound (w.heap.size + 1) jump).run P W3 = .ok (.bool jump.isNone) W4 ∧
   KeepsCells W3 W4 ∧ Below B W3 W4 ∧ W4.heap[w.heap.size + 1]? = some (.loop (rec (if jump.isNone then .ready else .done) jump)) ∧ W4.heap[w.heap.size]? = some (.deferred (some [])) := fun jump W3 hk3 => by
  have hl3 := hk3.same _ _ hl2 rfl
  have hrun := run_endRound (P := P) jump hl3
  refine ⟨W3.putObj (w.heap.size + 1) (.loop (rec (if jump.isNone then .ready else .done) jump)), ?_, KeepsCells.putObj _ hl3 rfl, below_putObj _ (by omega), World.putObj_heap_same (Array.getElem?_eq_some_iff.1 hl3).1, (World.putObj_heap_other (by omega)).trans (hk3.same _ _ hd2 rfl)⟩
  rw [hrec] at hrun ⊢
  exact hrun
 rintro e a3 W3 hp
 cases e with
 | normal =>
  obtain ⟨hk3, hkn, hi3, hb3, hkp3⟩ := hp
  obtain ⟨W4, hr, kc4, hb4, hl4, hd4⟩ := fin none W3 hk3
  exact ⟨_, _, hr, .inl ⟨rfl, hkn, ⟨hI _ _ _ hi3 kc4, hl4, hd4, ((hbW.trans hb2).trans hb3).trans hb4⟩, (hb2.trans hb3).trans hb4, hKp _ _ _ _ _ kc2 kc4 hkp3⟩⟩
 | ret =>
  obtain ⟨hk3, hi3, hb3⟩ := hp
  obtain ⟨W4, hr, kc4, hb4, hl4, hd4⟩ := fin (some .ret) W3 hk3
  exact ⟨_, _, hr, .inr ⟨rfl, .ret, hIx _ _ _ _ hi3 kc4, hl4, hd4, ((hbW.trans hb2).trans hb3).trans hb4⟩⟩
 | exit id =>
  obtain ⟨hk3, hi3, hb3⟩ := hp
  obtain ⟨W4, hr, kc4, hb4, hl4, hd4⟩ := fin (some (.exit id)) W3 hk3
  exact ⟨_, _, hr, .inr ⟨rfl, .exit id, hIx _ _ _ _ hi3 kc4, hl4, hd4, ((hbW.trans hb2).trans hb3).trans hb4⟩⟩
 | goto t =>
  obtain ⟨hk3, hi3, hb3⟩ := hp
  obtain ⟨W4, hr, kc4, hb4, hl4, hd4⟩ := fin (some (.goto t)) W3 hk3
  exact ⟨_, _, hr, .inr ⟨rfl, .goto t, hIx _ _ _ _ hi3 kc4, hl4, hd4, ((hbW.trans hb2).trans hb3).trans hb4⟩⟩
 | panic ch => exact hp.elim
 | outgrown => exact hp.elim
/-! A whole array, loaded and stored, in a fence. -/
theorem wpListIn_load_row {F : Fence} {ops : Array Oper} {rest : List Oper} {o : Oper} {a : Act} {w : World} {Q : Exit → Act → World → Prop} (hgd : o.guard = none) (ty : TypeId) (x : Operand) (ho : o.op = .load ty x)
  (g : Nat) (hx : a.eval x = .pointer (some ⟨g, 0, none⟩)) (t : TypeId) (cs : Array Value) (fr : Nat × Nat) (d : TypeDesc) (hg : w.heap[g]? = some (.cells cs t fr))
  (hu : P.underlying ty = some d) (hd : (match d with | .struct _ | .array _ _ => true | _ => false) = true) (hi : (P.info? ty).map (·.size) = some cs.size)
  (h : wpListIn F n P ops Q rest (a.put o.dst (.agg cs)) w) : wpListIn F n P ops Q (o :: rest) a w := by
 refine wpListIn_plain hgd fun K hK => ?_
 refine ⟨fun f hf => by simp [Oper.about, ho] at hf, ?_⟩
 rw [Oper.semAt_eq _ _ _ (by rw [ho]; intro c hc; cases hc)]
 unfold execOp
 simp only [ho, hx, Instr.loadAt, Instr.sureAddr, Sem.run_bind, Sem.run_pure, Result.andThen_ok, run_loadVar_row w g t ty cs fr d hg hu hd hi]
 exact hK _ _ h
theorem wpListIn_store_row {F : Fence} {ops : Array Oper} {rest : List Oper} {o : Oper} {a : Act} {w : World} {Q : Exit → Act → World → Prop} (hgd : o.guard = none) (ty : TypeId) (x y : Operand) (ho : o.op = .store ty x y)
  (g : Nat) (cells : Array Value) (hx : a.eval x = .pointer (some ⟨g, 0, none⟩)) (hy : a.eval y = .agg cells)
  (t : TypeId) (old : Array Value) (hg : w.heap[g]? = some (.cells old t (0, 0))) (hi : (P.info? ty).map (·.size) = some cells.size)
  (hold : old.size = cells.size) (h1 : cells.all (·.oneCell') = true)
  (h : wpListIn F n P ops Q rest (a.put o.dst undef) (w.setRow g cells)) : wpListIn F n P ops Q (o :: rest) a w := by
 refine wpListIn_plain hgd fun K hK => ?_
 refine ⟨fun f hf => by simp [Oper.about, ho] at hf, ?_⟩
 rw [Oper.semAt_eq _ _ _ (by rw [ho]; intro c hc; cases hc)]
 unfold execOp
 simp only [ho, hx, hy, Instr.storeAt, Instr.sureAddr, Sem.run_bind, Sem.run_pure, Result.andThen_ok, run_storeVar_row w g t ty old cells hg hi hold h1]
 exact hK _ _ h
theorem below_setRow {B : Nat} {W : World} {g : Nat} (cs : Array Value) (h : B ≤ g) : Below B W (W.setRow g cs) :=
 ⟨rfl, rfl, rfl, by simp, fun k hk => by
  show (W.heap.modify g _)[k]? = W.heap[k]?
  rw [Array.getElem?_modify, if_neg (by omega)]⟩
end Go.Proofs.YtdklmafkcbjomaaDoor.Iter

/-! ShaIter -/
namespace Go.Proofs.YtdklmafkcbjomaaDoor
open Go.RowKit Go.Shelf Iter
attribute [local go_sem] Oper.semAt_some
/-- What primes hands over in round k. -/
def PEl (k : Nat) (args : Array Value) (_ : World) : Prop := args = #[.int .i64 k, .int .u64 (Sha.pTab.getD k 0)]
theorem sq_le (d n : Nat) (hd : d ≤ 18) (hn : n ≤ 313) (h : d * d ≤ n) : d ≤ 17 := by
 rcases Nat.lt_or_ge d 18 with h1 | h1
 ·omega
 ·obtain rfl : d = 18 := by omega
  omega
theorem sq_bd (d : Nat) (hd : d ≤ 18) : d * d ≤ 324 := Nat.mul_le_mul hd hd
/-- What the inner loop knows of the number at hand. -/
def Tried (n d : Nat) (is : Bool) : Prop := if is = true then ∀ e, 2 ≤ e → e < d → 0 < n % e else ∃ e, 2 ≤ e ∧ e * e ≤ n ∧ n % e = 0
theorem Tried.next {n d : Nat} (h : Tried n d true) (h2 : 2 ≤ d) (hd : d * d ≤ n) : Tried n (d + 1) (decide (0 < n % d)) := by
 unfold Tried at h ⊢
 rw [if_pos rfl] at h
 by_cases h0 : 0 < n % d
 ·rw [if_pos (by simp [h0])]
  intro e he hlt
  by_cases hed : e = d
  ·rw [hed]; exact h0
  ·exact h e he (by omega)
 ·rw [if_neg (by simp [h0])]
  exact ⟨d, h2, hd, by omega⟩
theorem Tried.yes {n d : Nat} (h : Tried n d true) (hd : n < d * d) : Sha.isP n = true := Sha.isP_yes n d (by unfold Tried at h; rw [if_pos rfl] at h; exact h) hd
theorem Tried.no {n d : Nat} (h : Tried n d false) : Sha.isP n = false := by
 unfold Tried at h
 rw [if_neg (by simp)] at h
 obtain ⟨e, h2, he, hm⟩ := h
 exact Sha.isP_no n e h2 he hm
set_option maxRecDepth 100000 in
set_option maxHeartbeats 1000000 in
theorem primes_seq (B : Nat) (w0 : World) : SeqInf Tryd.prog 98 #[] PEl 65 B (fun _ _ _ => True) w0 := by
 intro n l J Jx W hW hJ hJx hY h0
 refine callsIn_of_wp Tryd.func98 rfl trivial ?_ rfl
 simp only [Tryd.ntmps98, List.size_toArray, List.length_cons, List.length_nil, Nat.reduceAdd, Nat.reduceSub, Array.replicate_succ, Array.replicate_zero, List.push_toArray, List.append_toArray, List.nil_append, List.cons_append]
 gi_wp2
 gi_loopw [2, 3] (fun i m wr => ∃ k c : Nat, i = .int .i64 k ∧ m = .int .u64 c ∧ 2 ≤ c ∧ c ≤ 313 ∧ k = Sha.cntP c ∧ J k wr ∧ Below B w0 wr) (fun _ m _ => 400 - (intOf m).toNat)
 case atStart => exact ⟨0, 2, rfl, rfl, by omega, by omega, Sha.cntP_two.symm, h0, hW⟩
 obtain ⟨k, c, rfl, rfl, h2, h3, hk, hj, hb⟩ := hrel
 have Hk := Lib.hid hk
 clear hk
 gi_wp2
 gi_loop [4, 5] (fun b d => ∃ (is : Bool) (e : Nat), b = .bool is ∧ d = .int .u64 e ∧ 2 ≤ e ∧ e ≤ 18 ∧ Hid (Tried c e is)) (fun _ d => 400 - (intOf d).toNat)
 case atStart => exact ⟨true, 2, rfl, rfl, by omega, by omega, Lib.hid (by unfold Tried; rw [if_pos rfl]; intro e _ _; omega)⟩
 obtain ⟨is, e, rfl, rfl, he2, he18, ht⟩ := hrel
 have hsq := sq_bd e he18
 have hs17 := sq_le e c he18 h3
 obtain ⟨q, hq⟩ : ∃ q, Hid (e * e = q) := ⟨_, Lib.hid rfl⟩
 have hmul : (e : Int) * (e : Int) = (q : Int) := by rw [← hq.out]; simp
 rw [hq.out] at hsq hs17
 cases is with
 | true =>
  by_cases hle : q ≤ c
  ·have hle' : decide ((q : Int) ≤ (c : Int)) = true := by simp; omega
   have hnext := Lib.hid (ht.out.next he2 (by rw [hq.out]; exact hle))
   gi_wp2
   exact ⟨⟨_, e + 1, rfl, by go_num, by omega, by omega, by rw [show decide (0 < (c : Int) % (e : Int)) = decide (0 < c % e) from by rw [Bool.eq_iff_iff]; simp; omega]; exact hnext⟩, by simp [intOf]; omega⟩
  have hle' : decide ((q : Int) ≤ (c : Int)) = false := by simp; omega
  have hp : Sha.isP c = true := ht.out.yes (by rw [hq.out]; omega)
  obtain ⟨hat, hlt⟩ := Sha.pTab_at c (by omega) h2 hp
  rw [← Hk.out] at hat hlt
  have hsucc := Sha.cntP_succ c h2
  rw [if_pos hp, ← Hk.out] at hsucc
  have hel : PEl k #[.int .i64 k, .int .u64 c] wr := by
   unfold PEl
   rw [hat]
  obtain ⟨fn, tmps, assign, body, hy, hR⟩ := hY k _ wr hlt hj hel hb
  have Hs := Lib.hid hsucc
  clear hat hsucc hp hel
  gi_wp2
  refine hR.mono ?_
  rintro e W' (⟨rfl, hk1, hj', hb', -⟩ | ⟨rfl, hx⟩)
  ·have hc : c ≤ 312 := by
    rcases Nat.lt_or_ge c 313 with h | h
    ·omega
    ·obtain rfl : c = 313 := by omega
     have := Sha.cntP_313.1
     have := Hk.out
     omega
   gi_wp2
   go_roundw
   case rel => exact ⟨k + 1, c + 1, by go_num, by go_num, by omega, by omega, Hs.out.symm, hj', hb.trans hb'⟩
   case measure => simp [intOf]; omega
  ·gi_wp2
   refine bodyPost_ret (results_none rfl _ _ _) rfl ?_
   exact ⟨⟨_, rfl⟩, k, hx⟩
 | false =>
  have hp : Sha.isP c = false := ht.out.no
  have hc : c ≤ 312 := by
   rcases Nat.lt_or_ge c 313 with h | h
   ·omega
   ·obtain rfl : c = 313 := by omega
    rw [Sha.cntP_313.2] at hp
    cases hp
  have hsucc := Sha.cntP_succ c h2
  rw [hp, if_neg (by simp), ← Hk.out] at hsucc
  have Hs := Lib.hid hsucc
  clear hsucc hp
  by_cases hle : q ≤ c
  ·have hle' : decide ((q : Int) ≤ (c : Int)) = true := by simp; omega
   gi_wp2
   go_roundw
   case rel => exact ⟨k, c + 1, rfl, by go_num, by omega, by omega, Hs.out.symm, hj, hb⟩
   case measure => simp [intOf]; omega
  ·have hle' : decide ((q : Int) ≤ (c : Int)) = false := by simp; omega
   gi_wp2
   go_roundw
   case rel => exact ⟨k, c + 1, rfl, by go_num, by omega, by omega, Hs.out.symm, hj, hb⟩
   case measure => simp [intOf]; omega
end Go.Proofs.YtdklmafkcbjomaaDoor

/-! ShaArr -/
namespace Go.Proofs.YtdklmafkcbjomaaDoor
open Go.RowKit Go.Shelf Iter
set_option linter.unusedSimpArgs false
attribute [local go_sem] Oper.semAt_some
/-- Array of n words, the first k of them known. -/
def arrTo (f : Nat → Nat) (n k : Nat) : Array Value := ((List.range n).map fun i => Value.int .u32 (if i < k then (f i : Int) else 0)).toArray
theorem arrTo_size (f : Nat → Nat) (n k : Nat) : (arrTo f n k).size = n := by simp [arrTo]
theorem arrTo_set (f : Nat → Nat) (n k : Nat) : (arrTo f n k).setIfInBounds k (.int .u32 (f k)) = arrTo f n (k + 1) := by
 apply Array.ext
 ·simp [arrTo]
 ·intro i h1 h2
  simp [arrTo] at h1
  rw [Array.getElem_setIfInBounds (by simp [arrTo]; omega)]
  simp only [arrTo, List.getElem_toArray, List.getElem_map, List.getElem_range]
  by_cases h : k = i
  ·subst h
   rw [if_pos rfl, if_pos (by omega)]
  ·rw [if_neg h]
   by_cases h' : i < k
   ·rw [if_pos h', if_pos (by omega)]
   ·rw [if_neg h', if_neg (by omega)]
/-- Block g is just these cells. -/
def Blk (w : World) (g : Nat) (t : TypeId) (cs : Array Value) : Prop := w.heap[g]? = some (.cells cs t (0, 0))
theorem Blk.kept {w w' : World} {g : Nat} {t : TypeId} {cs : Array Value} (h : Blk w g t cs) (hk : KeepsCells w w') : Blk w' g t cs := hk.same _ _ h rfl
theorem Blk.lt {w : World} {g : Nat} {t : TypeId} {cs : Array Value} (h : Blk w g t cs) : g < w.heap.size := (Array.getElem?_eq_some_iff.1 h).1
theorem Blk.cell {w : World} {g : Nat} {t : TypeId} {cs : Array Value} (h : Blk w g t cs) (i : Nat) : w.cell? ⟨g, i, none⟩ = cs[i]? := cell_of_row w g i cs t (0, 0) h
theorem Blk.frozen {w : World} {g : Nat} {t : TypeId} {cs : Array Value} (h : Blk w g t cs) (i : Nat) : w.frozen? ⟨g, i, none⟩ = false := by
 unfold Blk at h
 simp [World.frozen?, h]
theorem Blk.new (w : World) (t : TypeId) (cs : Array Value) : Blk (w.alloc (.cells cs t)) w.heap.size t cs := heap_alloc_new w _
theorem Blk.alloc {w : World} {g : Nat} {t : TypeId} {cs : Array Value} (h : Blk w g t cs) (o : Obj) : Blk (w.alloc o) g t cs := (Below.heap_alloc w o g h.lt).trans h
theorem Blk.set_ {w : World} {g : Nat} {t : TypeId} {cs : Array Value} (h : Blk w g t cs) (i : Nat) (u : Value) : Blk (w.setCell ⟨g, i, none⟩ u) g t (cs.setIfInBounds i u) := by
 unfold Blk at h ⊢
 simp [World.setCell, Array.getElem?_modify, h]
theorem Blk.far {w : World} {g : Nat} {t : TypeId} {cs : Array Value} (h : Blk w g t cs) {p : Addr} (hp : g ≠ p.block) (u : Value) : Blk (w.setCell p u) g t cs := (Below.heap_setCell w p u g hp).trans h
theorem Blk.below {w w' : World} {g : Nat} {t : TypeId} {cs : Array Value} {B : Nat} (h : Blk w g t cs) (hb : Below B w w') (hg : g < B) : Blk w' g t cs := (hb.block g hg).trans h
set_option maxHeartbeats 1000000 in
theorem primes_calls (n : Nat) (w : World) : CallsIn Fence.wide n Tryd.prog 94 #[] w fun e w' => e = .returned (.func (.func 98) #[] #[]) ∧ w = w' := by
 refine callsIn_of_wp Tryd.func94 rfl trivial ?_ rfl
 simp only [Tryd.ntmps94, List.size_toArray, List.length_cons, List.length_nil, Nat.reduceAdd, Nat.reduceSub, Array.replicate_succ, Array.replicate_zero, List.push_toArray, List.append_toArray, List.nil_append, List.cons_append]
 gi_wp2
 go_ret
 exact ⟨rfl, rfl⟩
theorem iter_enters (args : Array Value) (w : World) : (callFunc 98 args).run Tryd.prog w = .ok (.enter 98 args) w := enters_of Tryd.func98 (by kernel_rfl) rfl args w
def fStart (i : Nat) : Nat := Sha.root (Sha.pTab.getD i 0) 2
set_option maxRecDepth 100000 in
theorem zeroStart : #[Value.int IntKind.u32 0, Value.int IntKind.u32 0, Value.int IntKind.u32 0, Value.int IntKind.u32 0, Value.int IntKind.u32 0, Value.int IntKind.u32 0, Value.int IntKind.u32 0, Value.int IntKind.u32 0] = arrTo fStart 8 0 := rfl
def IStart (w : World) (k : Nat) (W : World) : Prop := k ≤ 8 ∧ Blk W (w.heap.size + 1) 105 (arrTo fStart 8 k) ∧ Blk W w.heap.size 105 (arrTo fStart 8 0)
theorem IStart_own (w : World) : CellOwn (IStart w) := fun _ _ _ h hk => ⟨h.1, h.2.1.kept hk, h.2.2.kept hk⟩
def XStart (w : World) (c : Code) (_ : Nat) (W : World) : Prop := c = .exit 0 ∧ Blk W (w.heap.size + 1) 105 (arrTo fStart 8 8) ∧ Blk W w.heap.size 105 (arrTo fStart 8 0)
theorem XStart_own (w : World) (c : Code) : CellOwn (XStart w c) := fun _ _ _ h hk => ⟨h.1, h.2.1.kept hk, h.2.2.kept hk⟩
theorem infoStart : (Tryd.prog.info? 105).map (·.size) = some 8 := by kernel_rfl
set_option maxRecDepth 100000 in
set_option maxHeartbeats 2000000 in
theorem Start_in (w : World) : CallsIn Fence.wide 5 Tryd.prog 90 #[] w fun e w' => e = .returned (.agg (arrTo fStart 8 8)) ∧ Below w.heap.size w w' := by
 refine callsIn_of_wp_marks Tryd.func90 rfl trivial ?_ rfl
 simp only [Tryd.ntmps90, List.size_toArray, List.length_cons, List.length_nil, Nat.reduceAdd, Nat.reduceSub, Array.replicate_succ, Array.replicate_zero, List.push_toArray, List.append_toArray, List.nil_append, List.cons_append]
 gi_wp2_with fail
 refine ⟨trivial, (primes_calls _ _).mono ?_⟩
 rintro e w' ⟨rfl, rfl⟩
 rw [zeroStart]
 have b1 := Blk.new (w.alloc (.cells (arrTo fStart 8 0) 105)) 105 (arrTo fStart 8 0)
 have b0 := (Blk.new w 105 (arrTo fStart 8 0)).alloc (.cells (arrTo fStart 8 0) 105)
 have hb : Below w.heap.size w ((w.alloc (.cells (arrTo fStart 8 0) 105)).alloc (.cells (arrTo fStart 8 0) 105)) := ((Below.refl _ w).alloc (Nat.le_refl _) _).alloc (by simp) _
 have hsz : ((w.alloc (.cells (arrTo fStart 8 0) 105)).alloc (.cells (arrTo fStart 8 0) 105)).heap.size = w.heap.size + 2 := by simp
 rw [World.size_alloc] at b1
 generalize (w.alloc (.cells (arrTo fStart 8 0) 105)).alloc (.cells (arrTo fStart 8 0) 105) = W0 at b1 b0 hb hsz ⊢
 gi_wp2
 refine wpIn_range_inf (n := 3) (gf := 98) (lb := #[]) rfl iter_enters (primes_seq w.heap.size w) hb (by omega) (fun k args W h => by unfold PEl at h; rw [h]; rfl) (fun k args W W' h _ => h) (fun _ _ _ _ _ _ _ _ => trivial)
  (IStart w) (XStart w) (IStart_own w) (XStart_own w) ⟨by omega, b1, b0⟩
  (fun args => { tmps := #[.pointer (some ⟨w.heap.size, 0, none⟩), .pointer (some ⟨w.heap.size + 1, 0, none⟩), args.getD 0 undef, args.getD 1 undef, .func (.func 98) #[] #[], args.getD 0 undef, args.getD 1 undef, undef, undef, undef, undef, undef, undef, undef], defers := [] })
  ?assign ?body ?stop
 case assign =>
  rintro l k args W K rfl hK
  gi_wp2
  exact hK
 case body =>
  rintro l k args W hk ⟨hkn, c1, c0⟩ rfl hbW
  have hp := Sha.pTab_lt k hk
  have hfr := c1.frozen k
  have hsz1 := c1.lt
  show Code.wpIn _ _ _ _ _ { tmps := #[.pointer (some ⟨w.heap.size, 0, none⟩), .pointer (some ⟨w.heap.size + 1, 0, none⟩), .int .i64 k, .int .u64 (Sha.pTab.getD k 0), .func (.func 98) #[] #[], .int .i64 k, .int .u64 (Sha.pTab.getD k 0), undef, undef, undef, undef, undef, undef, undef], defers := [] } W
  by_cases hk8 : k = 8
  ·subst hk8
   gi_wp2
   exact ⟨KeepsOthers.refl _, ⟨rfl, c1, c0⟩, Below.refl _ _⟩
  have hk8' : ((k : Int) == 8) = false := by simp; omega
  have hcell : W.cell? ⟨w.heap.size + 1, k, none⟩ = some (.int .u32 0) := by
   rw [c1.cell k]
   simp [arrTo, show k < 8 by omega]
  have hset := c1.set_ k (.int .u32 (fStart k))
  rw [arrTo_set] at hset
  have h0k : (0 : Int) ≤ (k : Int) := by omega
  have hkn' : (k : Int) < 8 := by omega
  unfold fStart at hset
  generalize Sha.pTab.getD k 0 = p at *
  gi_wp2_with fail
  refine ⟨trivial, (CallsIn.inRound l (callsIn_wide.2 (root_calls p 2 (by omega) (by omega) _))).mono ?_⟩
  rintro e w' ⟨rfl, rfl⟩
  gi_wp2
  exact ⟨(KeepsOthers.setCell _ _ _), by omega, ⟨by omega, hset, c0.far (by simp) _⟩, (Below.refl _ _).setCell (by simp) _, trivial⟩
 rintro D c k W ⟨rfl, c1, c0⟩ hbW hD hDB
 gi_wp2_with (first
  | (refine wpListIn_load_row rfl 105 (.tmp 1) rfl (w.heap.size + 1) rfl 105 _ (0, 0) _ c1 Tryd.underlying105 rfl (by rw [arrTo_size]; exact infoStart) ?_)
  | (refine wpListIn_store_row rfl 105 (.tmp 0) (.tmp 13) rfl w.heap.size _ rfl rfl 105 _ c0 (by rw [arrTo_size]; exact infoStart) (by rw [arrTo_size, arrTo_size]) (by simp [arrTo, Value.oneCell']) ?_))
 have hne : D ≠ w.heap.size := by omega
 have hD' : (W.setRow w.heap.size (arrTo fStart 8 8)).heap[D]? = some (.deferred (some [])) := by
  show (W.heap.modify _ _)[D]? = _
  rw [Array.getElem?_modify, if_neg (by omega)]
  exact hD
 have hrow : (W.setRow w.heap.size (arrTo fStart 8 8)).heap[w.heap.size]? = some (.cells (arrTo fStart 8 8) 105 (0, 0)) := setRow_heap W w.heap.size _ _ _ _ c0
 refine ⟨by simp, .inl ⟨_, _, rfl, run_takeDeferred hD', ?_⟩⟩
 exact ⟨_, results_cell_row rfl _ _ w.heap.size 105 _ (0, 0) _ rfl ((World.putObj_heap_other (Ne.symm hne)).trans hrow) Tryd.underlying105 rfl (by rw [arrTo_size]; exact infoStart), rfl, (hbW.trans (Iter.below_setRow _ (Nat.le_refl _))).trans (below_putObj _ (by omega))⟩
def fkeys (i : Nat) : Nat := Sha.root (Sha.pTab.getD i 0) 3
set_option maxRecDepth 100000 in
theorem zerokeys : #[Value.int IntKind.u32 0, Value.int IntKind.u32 0, Value.int IntKind.u32 0, Value.int IntKind.u32 0, Value.int IntKind.u32 0, Value.int IntKind.u32 0, Value.int IntKind.u32 0, Value.int IntKind.u32 0, Value.int IntKind.u32 0, Value.int IntKind.u32 0, Value.int IntKind.u32 0, Value.int IntKind.u32 0, Value.int IntKind.u32 0, Value.int IntKind.u32 0, Value.int IntKind.u32 0, Value.int IntKind.u32 0, Value.int IntKind.u32 0, Value.int IntKind.u32 0, Value.int IntKind.u32 0, Value.int IntKind.u32 0, Value.int IntKind.u32 0, Value.int IntKind.u32 0, Value.int IntKind.u32 0, Value.int IntKind.u32 0, Value.int IntKind.u32 0, Value.int IntKind.u32 0, Value.int IntKind.u32 0, Value.int IntKind.u32 0, Value.int IntKind.u32 0, Value.int IntKind.u32 0, Value.int IntKind.u32 0, Value.int IntKind.u32 0, Value.int IntKind.u32 0, Value.int IntKind.u32 0, Value.int IntKind.u32 0, Value.int IntKind.u32 0, Value.int IntKind.u32 0, Value.int IntKind.u32 0, Value.int IntKind.u32 0, Value.int IntKind.u32 0, Value.int IntKind.u32 0, Value.int IntKind.u32 0, Value.int IntKind.u32 0, Value.int IntKind.u32 0, Value.int IntKind.u32 0, Value.int IntKind.u32 0, Value.int IntKind.u32 0, Value.int IntKind.u32 0, Value.int IntKind.u32 0, Value.int IntKind.u32 0, Value.int IntKind.u32 0, Value.int IntKind.u32 0, Value.int IntKind.u32 0, Value.int IntKind.u32 0, Value.int IntKind.u32 0, Value.int IntKind.u32 0, Value.int IntKind.u32 0, Value.int IntKind.u32 0, Value.int IntKind.u32 0, Value.int IntKind.u32 0, Value.int IntKind.u32 0, Value.int IntKind.u32 0, Value.int IntKind.u32 0, Value.int IntKind.u32 0] = arrTo fkeys 64 0 := rfl
def Ikeys (w : World) (k : Nat) (W : World) : Prop := k ≤ 64 ∧ Blk W (w.heap.size + 1) 118 (arrTo fkeys 64 k) ∧ Blk W w.heap.size 118 (arrTo fkeys 64 0)
theorem Ikeys_own (w : World) : CellOwn (Ikeys w) := fun _ _ _ h hk => ⟨h.1, h.2.1.kept hk, h.2.2.kept hk⟩
def Xkeys (w : World) (c : Code) (_ : Nat) (W : World) : Prop := c = .exit 0 ∧ Blk W (w.heap.size + 1) 118 (arrTo fkeys 64 64) ∧ Blk W w.heap.size 118 (arrTo fkeys 64 0)
theorem Xkeys_own (w : World) (c : Code) : CellOwn (Xkeys w c) := fun _ _ _ h hk => ⟨h.1, h.2.1.kept hk, h.2.2.kept hk⟩
theorem infokeys : (Tryd.prog.info? 118).map (·.size) = some 64 := by kernel_rfl
set_option maxRecDepth 100000 in
set_option maxHeartbeats 2000000 in
theorem keys_in (w : World) : CallsIn Fence.wide 5 Tryd.prog 89 #[] w fun e w' => e = .returned (.agg (arrTo fkeys 64 64)) ∧ Below w.heap.size w w' := by
 refine callsIn_of_wp_marks Tryd.func89 rfl trivial ?_ rfl
 simp only [Tryd.ntmps89, List.size_toArray, List.length_cons, List.length_nil, Nat.reduceAdd, Nat.reduceSub, Array.replicate_succ, Array.replicate_zero, List.push_toArray, List.append_toArray, List.nil_append, List.cons_append]
 gi_wp2_with fail
 refine ⟨trivial, (primes_calls _ _).mono ?_⟩
 rintro e w' ⟨rfl, rfl⟩
 rw [zerokeys]
 have b1 := Blk.new (w.alloc (.cells (arrTo fkeys 64 0) 118)) 118 (arrTo fkeys 64 0)
 have b0 := (Blk.new w 118 (arrTo fkeys 64 0)).alloc (.cells (arrTo fkeys 64 0) 118)
 have hb : Below w.heap.size w ((w.alloc (.cells (arrTo fkeys 64 0) 118)).alloc (.cells (arrTo fkeys 64 0) 118)) := ((Below.refl _ w).alloc (Nat.le_refl _) _).alloc (by simp) _
 have hsz : ((w.alloc (.cells (arrTo fkeys 64 0) 118)).alloc (.cells (arrTo fkeys 64 0) 118)).heap.size = w.heap.size + 2 := by simp
 rw [World.size_alloc] at b1
 generalize (w.alloc (.cells (arrTo fkeys 64 0) 118)).alloc (.cells (arrTo fkeys 64 0) 118) = W0 at b1 b0 hb hsz ⊢
 gi_wp2
 refine wpIn_range_inf (n := 3) (gf := 98) (lb := #[]) rfl iter_enters (primes_seq w.heap.size w) hb (by omega) (fun k args W h => by unfold PEl at h; rw [h]; rfl) (fun k args W W' h _ => h) (fun _ _ _ _ _ _ _ _ => trivial)
  (Ikeys w) (Xkeys w) (Ikeys_own w) (Xkeys_own w) ⟨by omega, b1, b0⟩
  (fun args => { tmps := #[.pointer (some ⟨w.heap.size, 0, none⟩), .pointer (some ⟨w.heap.size + 1, 0, none⟩), args.getD 0 undef, args.getD 1 undef, .func (.func 98) #[] #[], args.getD 0 undef, args.getD 1 undef, undef, undef, undef, undef, undef, undef, undef], defers := [] })
  ?assign ?body ?stop
 case assign =>
  rintro l k args W K rfl hK
  gi_wp2
  exact hK
 case body =>
  rintro l k args W hk ⟨hkn, c1, c0⟩ rfl hbW
  have hp := Sha.pTab_lt k hk
  have hfr := c1.frozen k
  have hsz1 := c1.lt
  show Code.wpIn _ _ _ _ _ { tmps := #[.pointer (some ⟨w.heap.size, 0, none⟩), .pointer (some ⟨w.heap.size + 1, 0, none⟩), .int .i64 k, .int .u64 (Sha.pTab.getD k 0), .func (.func 98) #[] #[], .int .i64 k, .int .u64 (Sha.pTab.getD k 0), undef, undef, undef, undef, undef, undef, undef], defers := [] } W
  by_cases hk8 : k = 64
  ·subst hk8
   gi_wp2
   exact ⟨KeepsOthers.refl _, ⟨rfl, c1, c0⟩, Below.refl _ _⟩
  have hk8' : ((k : Int) == 64) = false := by simp; omega
  have hcell : W.cell? ⟨w.heap.size + 1, k, none⟩ = some (.int .u32 0) := by
   rw [c1.cell k]
   simp [arrTo, show k < 64 by omega]
  have hset := c1.set_ k (.int .u32 (fkeys k))
  rw [arrTo_set] at hset
  have h0k : (0 : Int) ≤ (k : Int) := by omega
  have hkn' : (k : Int) < 64 := by omega
  unfold fkeys at hset
  generalize Sha.pTab.getD k 0 = p at *
  gi_wp2_with fail
  refine ⟨trivial, (CallsIn.inRound l (callsIn_wide.2 (root_calls p 3 (by omega) (by omega) _))).mono ?_⟩
  rintro e w' ⟨rfl, rfl⟩
  gi_wp2
  exact ⟨(KeepsOthers.setCell _ _ _), by omega, ⟨by omega, hset, c0.far (by simp) _⟩, (Below.refl _ _).setCell (by simp) _, trivial⟩
 rintro D c k W ⟨rfl, c1, c0⟩ hbW hD hDB
 gi_wp2_with (first
  | (refine wpListIn_load_row rfl 118 (.tmp 1) rfl (w.heap.size + 1) rfl 118 _ (0, 0) _ c1 Tryd.underlying118 rfl (by rw [arrTo_size]; exact infokeys) ?_)
  | (refine wpListIn_store_row rfl 118 (.tmp 0) (.tmp 13) rfl w.heap.size _ rfl rfl 118 _ c0 (by rw [arrTo_size]; exact infokeys) (by rw [arrTo_size, arrTo_size]) (by simp [arrTo, Value.oneCell']) ?_))
 have hne : D ≠ w.heap.size := by omega
 have hD' : (W.setRow w.heap.size (arrTo fkeys 64 64)).heap[D]? = some (.deferred (some [])) := by
  show (W.heap.modify _ _)[D]? = _
  rw [Array.getElem?_modify, if_neg (by omega)]
  exact hD
 have hrow : (W.setRow w.heap.size (arrTo fkeys 64 64)).heap[w.heap.size]? = some (.cells (arrTo fkeys 64 64) 118 (0, 0)) := setRow_heap W w.heap.size _ _ _ _ c0
 refine ⟨by simp, .inl ⟨_, _, rfl, run_takeDeferred hD', ?_⟩⟩
 exact ⟨_, results_cell_row rfl _ _ w.heap.size 118 _ (0, 0) _ rfl ((World.putObj_heap_other (Ne.symm hne)).trans hrow) Tryd.underlying118 rfl (by rw [arrTo_size]; exact infokeys), rfl, (hbW.trans (Iter.below_setRow _ (Nat.le_refl _))).trans (below_putObj _ (by omega))⟩
theorem tab_of_map (f : Nat → Nat) (l : List Nat) (n : Nat) (h : (List.range n).map f = l) : ∀ i, i < n → f i = l.getD i 0 := by
 intro i hi
 rw [← h]
 simp [hi]
theorem fStart_tab : ∀ i, i < 8 → fStart i = Sha.hTab.getD i 0 := tab_of_map fStart _ 8 Sha.roots2
theorem fkeys_tab : ∀ i, i < 64 → fkeys i = Sha.kTab.getD i 0 := tab_of_map fkeys _ 64 Sha.roots3
/-- An array of words. -/
def wordsV (l : List Nat) : Array Value := (l.map fun (x : Nat) => Value.int .u32 (x : Int)).toArray
theorem arrTo_full (f : Nat → Nat) (l : List Nat) (h : ∀ i, i < l.length → f i = l.getD i 0) : arrTo f l.length l.length = wordsV l := by
 unfold arrTo wordsV
 congr 1
 apply List.ext_getElem
 ·simp
 ·intro i h1 h2
  simp at h1
  simp [h1, h i h1]
set_option maxRecDepth 100000 in
theorem Start_calls (w : World) : Calls Tryd.prog 90 #[] w fun e w' => e = .returned (.agg (wordsV Sha.hTab)) ∧ Below w.heap.size w w' := by
 have h := callsIn_wide.1 (Start_in w)
 rwa [show arrTo fStart 8 8 = wordsV Sha.hTab from arrTo_full fStart Sha.hTab fStart_tab] at h
set_option maxRecDepth 100000 in
theorem keys_calls (w : World) : Calls Tryd.prog 89 #[] w fun e w' => e = .returned (.agg (wordsV Sha.kTab)) ∧ Below w.heap.size w w' := by
 have h := callsIn_wide.1 (keys_in w)
 rwa [show arrTo fkeys 64 64 = wordsV Sha.kTab from arrTo_full fkeys Sha.kTab fkeys_tab] at h
end Go.Proofs.YtdklmafkcbjomaaDoor

/-! ShaTurn -/
namespace Go.Proofs.YtdklmafkcbjomaaDoor
open Go.RowKit
theorem and31 (n : Nat) (h1 : 1 ≤ n) (h2 : n ≤ 31) : bits .and .u64 (IntKind.u64.wrap (-(n : Int))) 31 = ((32 - n : Nat) : Int) := by
 have e : IntKind.u64.wrap (-(n : Int)) = ((18446744073709551616 - n : Nat) : Int) := by rw [IntKind.wrap_u64]; omega
 rw [e, show (31 : Int) = ((31 : Nat) : Int) from rfl, u64_and_nat _ _ (by omega) (by omega)]
 congr 1
 have := Nat.and_two_pow_sub_one_eq_mod (18446744073709551616 - n) 5
 rw [show (2 ^ 5 - 1 : Nat) = 31 from rfl] at this
 rw [this]
 omega
theorem rotr_lt (x n : Nat) (hx : x < 4294967296) : Sha.rotr x n < 4294967296 := by
 unfold Sha.rotr
 refine Nat.or_lt_two_pow (n := 32) ?_ (Nat.mod_lt _ (by decide))
 rw [Nat.shiftRight_eq_div_pow]
 exact Nat.lt_of_le_of_lt (Nat.div_le_self _ _) hx
set_option maxHeartbeats 400000 in
theorem rot_calls (x n : Nat) (hx : x < 4294967296) (h1 : 1 ≤ n) (h2 : n ≤ 31) (w : World) :
  Calls Tryd.prog 100 #[.int .u32 x, .int .i64 (-(n : Int))] w fun e w' => e = .returned (.int .u32 (Sha.rotr x n)) ∧ w = w' := by
 have hn := and31 n h1 h2
 obtain ⟨m, hm⟩ : ∃ m : Nat, 32 - n = m := ⟨_, rfl⟩
 rw [hm] at hn
 have hm1 : 1 ≤ m := by omega
 have hm2 : m ≤ 31 := by omega
 go_enter Tryd.func100, Tryd.ntmps100
 go_wp2
 go_ret
 refine ⟨ret_int ?_, rfl⟩
 have e1 : ((x : Int) * 2 ^ m % 4294967296) = (((x <<< m) % 4294967296 : Nat) : Int) := by rw [Nat.shiftLeft_eq]; simp
 have e2 : ((x : Int) / 2 ^ (32 - m)) = ((x >>> n : Nat) : Int) := by rw [Nat.shiftRight_eq_div_pow, show 32 - m = n by omega]; simp
 rw [e1, e2, u32_or_nat _ _ (Nat.mod_lt _ (by decide)) (by rw [Nat.shiftRight_eq_div_pow]; exact Nat.lt_of_le_of_lt (Nat.div_le_self _ _) hx), Nat.or_comm]
 unfold Sha.rotr
 rw [hm]
def rotX (x : Nat) (l : List Nat) : Nat := l.foldl (fun a n => a ^^^ Sha.rotr x n) 0
theorem rotX_snoc (x : Nat) (l : List Nat) (k : Nat) (h : k < l.length) : rotX x (l.take (k + 1)) = rotX x (l.take k) ^^^ Sha.rotr x (l.getD k 0) := by
 unfold rotX
 rw [List.take_succ_eq_append_getElem h, List.foldl_append]
 simp [h]
theorem rotX_lt (x : Nat) (hx : x < 4294967296) (l : List Nat) : rotX x l < 4294967296 := by
 unfold rotX
 suffices h : ∀ (l : List Nat) (a : Nat), a < 4294967296 → l.foldl (fun a n => a ^^^ Sha.rotr x n) a < 4294967296 from h l 0 (by decide)
 intro l
 induction l with
 | nil => exact fun a h => h
 | cons n l ih => exact fun a h => ih _ (Nat.xor_lt_two_pow (n := 32) h (rotr_lt x n hx))
/-- Small numbers in a row. -/
def intsV (l : List Nat) : Array Value := (l.map fun (x : Nat) => Value.int .i64 (x : Int)).toArray
set_option maxHeartbeats 800000 in
theorem turned_calls (x : Nat) (l : List Nat) (g cap : Nat) (w : World) (hx : x < 4294967296) (hl : ∀ k, k < l.length → 1 ≤ l.getD k 0 ∧ l.getD k 0 ≤ 31) (hlen : l.length ≤ 100) (hb : Blk w g 3 (intsV l)) :
  Calls Tryd.prog 97 #[.int .u32 x, .slice (some ⟨g, 0, none⟩) l.length cap] w fun e w' => e = .returned (.int .u32 (rotX x l)) ∧ w = w' := by
 go_enter Tryd.func97, Tryd.ntmps97
 go_wp2
 go_loop [5, 10] (fun o i => ∃ k : Nat, k ≤ l.length ∧ i = .int .i64 k ∧ o = .int .u32 (rotX x (l.take k))) (fun _ i => l.length - (intOf i).toNat)
 case atStart => exact ⟨0, Nat.zero_le _, rfl, rfl⟩
 obtain ⟨k, hk, rfl, rfl⟩ := hrel
 have hacc := rotX_lt x hx (l.take k)
 by_cases hlt : k < l.length
 rotate_left
 ·go_wp2
  go_ret
  exact ⟨ret_int (by rw [List.take_of_length_le (by omega)]), rfl⟩
 have hsn := Lib.hid (rotX_snoc x l k hlt)
 obtain ⟨h1, h2⟩ := hl k hlt
 have hcell : w.cell? ⟨g, k, none⟩ = some (.int .i64 (l.getD k 0)) := by
  rw [hb.cell k]
  simp [intsV, hlt]
 generalize l.getD k 0 = n at *
 have hr := rotr_lt x n hx
 generalize rotX x (l.take k) = acc at *
 have hk0 : (0 : Int) ≤ (k : Int) := by omega
 have hk1 : (k : Int) < (l.length : Int) := by omega
 go_wp2_with fail
 refine (rot_calls x n hx h1 h2 _).mono ?_
 rintro e w' ⟨rfl, rfl⟩
 go_wp2
 go_round
 case rel => exact ⟨k + 1, by omega, by go_num, by rw [hsn.out, u32_xor_nat _ _ hacc hr]⟩
 case measure => simp [intOf]; omega
theorem rotX_two (x a b : Nat) : rotX x [a, b] = Sha.rotr x a ^^^ Sha.rotr x b := by simp [rotX]
theorem rotX_three (x a b c : Nat) : rotX x [a, b, c] = (Sha.rotr x a ^^^ Sha.rotr x b) ^^^ Sha.rotr x c := by simp [rotX]
theorem turned2 (x a b : Nat) (g cap : Nat) (w : World) (hx : x < 4294967296) (ha : 1 ≤ a ∧ a ≤ 31) (hb : 1 ≤ b ∧ b ≤ 31) (hB : Blk w g 3 #[.int .i64 a, .int .i64 b]) :
  Calls Tryd.prog 97 #[.int .u32 x, .slice (some ⟨g, 0, none⟩) 2 cap] w fun e w' => e = .returned (.int .u32 ((Sha.rotr x a ^^^ Sha.rotr x b : Nat) : Int)) ∧ w = w' := by
 rw [← rotX_two]
 refine turned_calls x [a, b] g cap w hx ?_ (by simp) hB
 intro k hk
 simp at hk
 rcases (by omega : k = 0 ∨ k = 1) with rfl | rfl
 ·exact ha
 ·exact hb
theorem turned3 (x a b c : Nat) (g cap : Nat) (w : World) (hx : x < 4294967296) (ha : 1 ≤ a ∧ a ≤ 31) (hb : 1 ≤ b ∧ b ≤ 31) (hc : 1 ≤ c ∧ c ≤ 31) (hB : Blk w g 3 #[.int .i64 a, .int .i64 b, .int .i64 c]) :
  Calls Tryd.prog 97 #[.int .u32 x, .slice (some ⟨g, 0, none⟩) 3 cap] w fun e w' => e = .returned (.int .u32 (((Sha.rotr x a ^^^ Sha.rotr x b) ^^^ Sha.rotr x c : Nat) : Int)) ∧ w = w' := by
 rw [← rotX_three]
 refine turned_calls x [a, b, c] g cap w hx ?_ (by simp) hB
 intro k hk
 simp at hk
 rcases (by omega : k = 0 ∨ k = 1 ∨ k = 2) with rfl | rfl | rfl
 ·exact ha
 ·exact hb
 ·exact hc
end Go.Proofs.YtdklmafkcbjomaaDoor

/-! ShaWords -/
namespace Go.Proofs.YtdklmafkcbjomaaDoor
open Go.RowKit
theorem sig0_lt (w : Nat) (h : w < 4294967296) : Sha.sig0 w < 4294967296 := by
 unfold Sha.sig0
 refine Nat.xor_lt_two_pow (n := 32) (Nat.xor_lt_two_pow (n := 32) (rotr_lt w 7 h) (rotr_lt w 18 h)) ?_
 rw [Nat.shiftRight_eq_div_pow]; exact Nat.lt_of_le_of_lt (Nat.div_le_self _ _) h
theorem sig1_lt (w : Nat) (h : w < 4294967296) : Sha.sig1 w < 4294967296 := by
 unfold Sha.sig1
 refine Nat.xor_lt_two_pow (n := 32) (Nat.xor_lt_two_pow (n := 32) (rotr_lt w 17 h) (rotr_lt w 19 h)) ?_
 rw [Nat.shiftRight_eq_div_pow]; exact Nat.lt_of_le_of_lt (Nat.div_le_self _ _) h
/-- All are words. -/
def Ws (l : List Nat) : Prop := ∀ i, l.getD i 0 < 4294967296
def Bs (l : List Nat) : Prop := ∀ i, l.getD i 0 < 256
theorem getD_set (l : List Nat) (i j v : Nat) : (l.set i v).getD j 0 = if i = j ∧ i < l.length then v else l.getD j 0 := by
 rw [List.getD_eq_getElem?_getD, List.getElem?_set]
 by_cases h : i = j
 ·subst h
  by_cases h2 : i < l.length
  ·simp [h2]
  ·simp [h2]
 ·simp [h, List.getD_eq_getElem?_getD]
theorem Ws.set_ {l : List Nat} (h : Ws l) (i v : Nat) (hv : v < 4294967296) : Ws (l.set i v) := by
 intro j
 rw [getD_set]
 split
 ·exact hv
 ·exact h j
theorem acc_lt (b : List Nat) (hb : Bs b) (t : Nat) : ∀ j, Sha.acc b t j < 4294967296
 | 0 => by unfold Sha.acc; omega
 | j + 1 => by
  unfold Sha.acc
  exact Nat.or_lt_two_pow (n := 32) (Nat.mod_lt _ (by decide)) (Nat.lt_of_lt_of_le (hb _) (by decide))
theorem wordsTo_ws (b : List Nat) (hb : Bs b) : ∀ t, Ws (Sha.wordsTo b t)
 | 0 => by
  intro i
  simp only [Sha.wordsTo, List.getD_eq_getElem?_getD, List.getElem?_replicate]
  split <;> decide
 | t + 1 => by
  unfold Sha.wordsTo
  refine (wordsTo_ws b hb t).set_ _ _ ?_
  unfold Sha.wAt
  split
  ·exact acc_lt b hb _ _
  ·exact Nat.mod_lt _ (by decide)
theorem wordsTo_len (b : List Nat) : ∀ t, (Sha.wordsTo b t).length = 64
 | 0 => by simp [Sha.wordsTo]
 | t + 1 => by unfold Sha.wordsTo; rw [List.length_set]; exact wordsTo_len b t
theorem wordsV_size (l : List Nat) : (wordsV l).size = l.length := by simp [wordsV]
theorem wordsV_at (l : List Nat) (i : Nat) (h : i < l.length) : (wordsV l)[i]? = some (.int .u32 (l.getD i 0)) := by simp [wordsV, h]
theorem wordsV_set (l : List Nat) (i v : Nat) : (wordsV l).setIfInBounds i (.int .u32 v) = wordsV (l.set i v) := by
 simp [wordsV, List.map_set]
theorem xor_shr (x y k p : Nat) (hx : x < 4294967296) (hy : y < 4294967296) (hp : 2 ^ k = p) : bits .xor .u32 (y : Int) ((x : Int) / (p : Int)) = ((y ^^^ (x >>> k) : Nat) : Int) := by
 rw [Nat.shiftRight_eq_div_pow, hp]
 rw [show ((x : Int) / (p : Int)) = ((x / p : Nat) : Int) from by simp]
 exact u32_xor_nat _ _ hy (Nat.lt_of_le_of_lt (Nat.div_le_self _ _) hx)
theorem far_cell {w : World} {g i j : Nat} {u v : Value} (h : w.cell? ⟨g, j, none⟩ = some v) (hne : ¬ i = j) : (w.setCell ⟨g, i, none⟩ u).drew.cell? ⟨g, j, none⟩ = some v :=
 (World.cell?_setCell_other w ⟨g, i, none⟩ ⟨g, j, none⟩ u (fun e => hne (by cases e; rfl))).trans h
/-- What is not yet reached holds noughts. -/
theorem wordsTo_zero (b : List Nat) : ∀ t i, t ≤ i → (Sha.wordsTo b t).getD i 0 = 0
 | 0, i, _ => by
  simp only [Sha.wordsTo, List.getD_eq_getElem?_getD, List.getElem?_replicate]
  split <;> rfl
 | t + 1, i, h => by
  rw [Sha.wordsTo, getD_set, if_neg (by omega)]
  exact wordsTo_zero b t i (by omega)
theorem set_same (b : List Nat) (t : Nat) : (Sha.wordsTo b t).set t 0 = Sha.wordsTo b t := by
 have hl := wordsTo_len b t
 have hz := wordsTo_zero b t t (Nat.le_refl _)
 apply List.ext_getElem
 ·simp
 ·intro i h1 h2
  rw [List.getElem_set]
  split
  ·rename_i he
   subst he
   rw [List.getD_eq_getElem?_getD, List.getElem?_eq_getElem h2] at hz
   simpa using hz.symm
  ·rfl
/-- The bytes b lie in memory from this address on. -/
def BytesAt (w : World) (B : Nat) (A : Option Addr) (b : List Nat) : Prop := ∀ i, i < b.length → ∃ ad, A = some ad ∧ ad.block < B ∧ w.cell? (ad.add i) = some (.int .u8 (b.getD i 0))
theorem block_of_add (a : Addr) (n : Nat) : (a.add n).block = a.block := by unfold Addr.add; split <;> rfl
theorem add_of_add (a : Addr) (i j : Nat) : (a.add i).add j = a.add (i + j) := by
 unfold Addr.add
 by_cases hi : i = 0 <;> by_cases hj : j = 0 <;> simp [hi, hj, Nat.add_assoc]
theorem or_byte (a x : Nat) (hx : x < 256) : bits .or .u32 ((a : Int) * 256 % 4294967296) (x : Int) = ((((a <<< 8) % 4294967296) ||| x : Nat) : Int) := by
 rw [show ((a : Int) * (256 : Int) % (4294967296 : Int)) = (((a <<< 8) % 4294967296 : Nat) : Int) from by rw [Nat.shiftLeft_eq]; simp]
 exact u32_or_nat _ _ (Nat.mod_lt _ (by decide)) (by omega)
set_option maxRecDepth 100000 in
theorem zero64 (b : List Nat) : #[Value.int IntKind.u32 0, Value.int IntKind.u32 0, Value.int IntKind.u32 0, Value.int IntKind.u32 0, Value.int IntKind.u32 0, Value.int IntKind.u32 0, Value.int IntKind.u32 0, Value.int IntKind.u32 0, Value.int IntKind.u32 0, Value.int IntKind.u32 0, Value.int IntKind.u32 0, Value.int IntKind.u32 0, Value.int IntKind.u32 0, Value.int IntKind.u32 0, Value.int IntKind.u32 0, Value.int IntKind.u32 0, Value.int IntKind.u32 0, Value.int IntKind.u32 0, Value.int IntKind.u32 0, Value.int IntKind.u32 0, Value.int IntKind.u32 0, Value.int IntKind.u32 0, Value.int IntKind.u32 0, Value.int IntKind.u32 0, Value.int IntKind.u32 0, Value.int IntKind.u32 0, Value.int IntKind.u32 0, Value.int IntKind.u32 0, Value.int IntKind.u32 0, Value.int IntKind.u32 0, Value.int IntKind.u32 0, Value.int IntKind.u32 0, Value.int IntKind.u32 0, Value.int IntKind.u32 0, Value.int IntKind.u32 0, Value.int IntKind.u32 0, Value.int IntKind.u32 0, Value.int IntKind.u32 0, Value.int IntKind.u32 0, Value.int IntKind.u32 0, Value.int IntKind.u32 0, Value.int IntKind.u32 0, Value.int IntKind.u32 0, Value.int IntKind.u32 0, Value.int IntKind.u32 0, Value.int IntKind.u32 0, Value.int IntKind.u32 0, Value.int IntKind.u32 0, Value.int IntKind.u32 0, Value.int IntKind.u32 0, Value.int IntKind.u32 0, Value.int IntKind.u32 0, Value.int IntKind.u32 0, Value.int IntKind.u32 0, Value.int IntKind.u32 0, Value.int IntKind.u32 0, Value.int IntKind.u32 0, Value.int IntKind.u32 0, Value.int IntKind.u32 0, Value.int IntKind.u32 0, Value.int IntKind.u32 0, Value.int IntKind.u32 0, Value.int IntKind.u32 0, Value.int IntKind.u32 0] = wordsV (Sha.wordsTo b 0) := rfl
set_option maxRecDepth 100000 in
set_option maxHeartbeats 2000000 in
theorem words_calls (b : List Nat) (A : Option Addr) (cap : Nat) (w : World) (hb : Bs b) (hlen : b.length = 64) (hcap : 64 ≤ cap) (hA : BytesAt w w.heap.size A b) :
  Calls Tryd.prog 96 #[.slice A 64 cap] w fun e w' => e = .returned (.agg (wordsV (Sha.words b))) ∧ Below w.heap.size w w' := by
 go_enter Tryd.func96, Tryd.ntmps96
 go_wp2_with fail
 rw [zero64 b]
 have b1 := Blk.new (w.alloc (.cells (wordsV (Sha.wordsTo b 0)) 118)) 118 (wordsV (Sha.wordsTo b 0))
 have b0 := (Blk.new w 118 (wordsV (Sha.wordsTo b 0))).alloc (.cells (wordsV (Sha.wordsTo b 0)) 118)
 have hbl : Below w.heap.size w ((w.alloc (.cells (wordsV (Sha.wordsTo b 0)) 118)).alloc (.cells (wordsV (Sha.wordsTo b 0)) 118)) := ((Below.refl _ w).alloc (Nat.le_refl _) _).alloc (by simp) _
 rw [World.size_alloc] at b1
 generalize (w.alloc (.cells (wordsV (Sha.wordsTo b 0)) 118)).alloc (.cells (wordsV (Sha.wordsTo b 0)) 118) = W0 at b1 b0 hbl ⊢
 go_loopw [9] (fun i wr => ∃ t : Nat, t ≤ 64 ∧ i = .int .i64 t ∧ Blk wr (w.heap.size + 1) 118 (wordsV (Sha.wordsTo b t)) ∧ Blk wr w.heap.size 118 (wordsV (Sha.wordsTo b 0)) ∧ Below w.heap.size w wr) (fun i _ => 64 - (intOf i).toNat)
 case atStart => exact ⟨0, by omega, rfl, b1, b0, hbl⟩
 obtain ⟨t, ht, rfl, c1, c0, hbw⟩ := hrel
 have hws := wordsTo_ws b hb t
 have hwl := wordsTo_len b t
 by_cases h64 : t < 64
 rotate_left
 ·obtain rfl : t = 64 := by omega
  go_wp2_with (first
   | (refine wpList_load_row rfl 118 (.tmp 3) rfl (w.heap.size + 1) rfl 118 _ (0, 0) _ c1 Tryd.underlying118 rfl (by rw [wordsV_size, wordsTo_len]; exact infokeys) ?_)
   | (refine wpList_store_row rfl 118 (.tmp 2) (.tmp 76) rfl w.heap.size _ rfl rfl 118 _ c0 (by rw [wordsV_size, wordsTo_len]; exact infokeys) (by rw [wordsV_size, wordsV_size, wordsTo_len, wordsTo_len]) (by simp [wordsV, Value.oneCell']) ?_))
  exact bodyPost_ret (results_cell_row rfl _ _ w.heap.size 118 (wordsV (Sha.wordsTo b 64)) (0, 0) _ rfl (setRow_heap wr w.heap.size _ _ _ _ c0) Tryd.underlying118 rfl (by rw [wordsV_size, wordsTo_len]; exact infokeys)) rfl ⟨rfl, hbw.trans (Iter.below_setRow _ (Nat.le_refl _))⟩
 by_cases h16 : t < 16
 ·have h4 : ¬ cap = 4 * t := by omega
  have e4 : 4 * t + 4 - 4 * t = 4 := by omega
  have hd64 : decide ((t : Int) < 64) = true := by simp; omega
  have hd16 : decide ((t : Int) < 16) = true := by simp; omega
  go_wp2_with fail
  clear e4 hd64 hd16
  obtain ⟨wo, rfl⟩ : ∃ wo : World, wo = wr := ⟨_, rfl⟩
  go_loopw [22] (fun i wi => ∃ j : Nat, j ≤ 4 ∧ i = .int .i64 j ∧ Blk wi (w.heap.size + 1) 118 (wordsV ((Sha.wordsTo b t).set t (Sha.acc b (4 * t) j))) ∧ Blk wi w.heap.size 118 (wordsV (Sha.wordsTo b 0)) ∧ Below w.heap.size w wi) (fun i _ => 4 - (intOf i).toNat)
  case atStart => exact ⟨0, by omega, rfl, by
   have e : (Sha.wordsTo b t).set t (Sha.acc b (4 * t) 0) = Sha.wordsTo b t := by
    rw [Sha.acc]
    exact set_same b t
   rw [e]; exact c1, c0, hbw⟩
  obtain ⟨j, hj, rfl, d1, d0, hbi⟩ := hrel
  by_cases hj4 : j < 4
  rotate_left
  ·obtain rfl : j = 4 := by omega
   have hnx : Sha.wordsTo b (t + 1) = (Sha.wordsTo b t).set t (Sha.acc b (4 * t) 4) := by
    rw [Sha.wordsTo, Sha.wAt, if_pos h16]
   rw [← hnx] at d1
   clear hnx
   go_wp2_with fail
   exact ⟨⟨t + 1, by omega, by go_num, d1, d0, hbi⟩, by simp [intOf]; omega⟩
  obtain ⟨ad, rfl, hadB, hadc⟩ := hA (4 * t + j) (by omega)
  have hcb : wr.cell? ((ad.add (4 * t)).add j) = some (.int .u8 (b.getD (4 * t + j) 0)) := by
   rw [add_of_add]
   exact (hbi.cell (by rw [block_of_add]; exact hadB)).trans hadc
  have hcw := d1.cell t
  rw [wordsV_at _ _ (by rw [List.length_set]; omega), getD_set, if_pos ⟨rfl, by omega⟩] at hcw
  have hfw := d1.frozen t
  have hset := d1.set_ t (.int .u32 (Sha.acc b (4 * t) (j + 1)))
  rw [wordsV_set, List.set_set] at hset
  have hval := Lib.hid (or_byte (Sha.acc b (4 * t) j) (b.getD (4 * t + j) 0) (hb _))
  have hac : Sha.acc b (4 * t) (j + 1) = ((Sha.acc b (4 * t) j <<< 8) % 4294967296) ||| b.getD (4 * t + j) 0 := rfl
  have hl := acc_lt b hb (4 * t) j
  have hbb := hb (4 * t + j)
  rw [hac] at hset
  have Hac := Lib.hid hac
  clear hac
  generalize Sha.acc b (4 * t) j = a at *
  generalize b.getD (4 * t + j) 0 = x at *
  have ht0 : (0 : Int) ≤ (t : Int) := by omega
  have ht1 : (t : Int) < 64 := by omega
  have hj0 : (0 : Int) ≤ (j : Int) := by omega
  have hj1 : (j : Int) < 4 := by omega
  have Hset := Lib.hid hset
  clear hset
  go_wp2_with fail
  exact ⟨⟨j + 1, by omega, by go_num, by rw [hval.out, Hac.out]; exact Hset.out, d0.far (by simp) _, hbi.setCell (by simp) _⟩, by simp [intOf]; omega⟩
 have h4 : ¬ t < 16 := h16
 have hd64 : decide ((t : Int) < 64) = true := by simp; omega
 have hd16 : decide ((t : Int) < 16) = false := by simp; omega
 have hget : ∀ k, k < 64 → (wordsV (Sha.wordsTo b t))[k]? = some (.int .u32 ((Sha.wordsTo b t).getD k 0)) := fun k hk => wordsV_at _ _ (by omega)
 have v15 := hget (t - 15) (by omega)
 have v2 := hget (t - 2) (by omega)
 have v7 := hget (t - 7) (by omega)
 have v16 := hget (t - 16) (by omega)
 have vt := hget t (by omega)
 have hnx : Sha.wordsTo b (t + 1) = (Sha.wordsTo b t).set t (Sha.wNext (Sha.wordsTo b t) t) := by
  rw [Sha.wordsTo, Sha.wAt, if_neg h16]
 unfold Sha.wNext at hnx
 have l15 := hws (t - 15)
 have l2 := hws (t - 2)
 have l7 := hws (t - 7)
 have l16 := hws (t - 16)
 have Hnx := Lib.hid hnx
 clear hnx hget hws
 generalize (Sha.wordsTo b t).getD (t - 15) 0 = x15 at *
 generalize (Sha.wordsTo b t).getD (t - 2) 0 = x2 at *
 generalize (Sha.wordsTo b t).getD (t - 7) 0 = x7 at *
 generalize (Sha.wordsTo b t).getD (t - 16) 0 = x16 at *
 generalize (Sha.wordsTo b t).getD t 0 = xt at *
 obtain ⟨k15, hk15⟩ : ∃ k, t - 15 = k := ⟨_, rfl⟩
 obtain ⟨k2, hk2⟩ : ∃ k, t - 2 = k := ⟨_, rfl⟩
 obtain ⟨k7, hk7⟩ : ∃ k, t - 7 = k := ⟨_, rfl⟩
 obtain ⟨k16, hk16⟩ : ∃ k, t - 16 = k := ⟨_, rfl⟩
 rw [hk15] at v15
 rw [hk2] at v2
 rw [hk7] at v7
 rw [hk16] at v16
 have e15 : IntKind.i64.wrap ((t : Int) - 15) = (k15 : Int) := by rw [IntKind.wrap_i64]; omega
 have e2 : IntKind.i64.wrap ((t : Int) - 2) = (k2 : Int) := by rw [IntKind.wrap_i64]; omega
 have e7 : IntKind.i64.wrap ((t : Int) - 7) = (k7 : Int) := by rw [IntKind.wrap_i64]; omega
 have e16 : IntKind.i64.wrap ((t : Int) - 16) = (k16 : Int) := by rw [IntKind.wrap_i64]; omega
 have a15 : (0 : Int) ≤ (k15 : Int) ∧ (k15 : Int) < 64 := by omega
 have a2 : (0 : Int) ≤ (k2 : Int) ∧ (k2 : Int) < 64 := by omega
 have a7 : (0 : Int) ≤ (k7 : Int) ∧ (k7 : Int) < 64 := by omega
 have a16 : (0 : Int) ≤ (k16 : Int) ∧ (k16 : Int) < 64 := by omega
 obtain ⟨a15, b15⟩ := a15
 obtain ⟨a2, b2⟩ := a2
 obtain ⟨a7, b7⟩ := a7
 obtain ⟨a16, b16⟩ := a16
 have n7 : ¬ t = k7 := by omega
 have n16 : ¬ t = k16 := by omega
 have t0 : (0 : Int) ≤ (t : Int) := by omega
 have t1 : (t : Int) < 64 := by omega
 clear hk15 hk2 hk7 hk16
 have E0 : bits .xor .u32 ((Sha.rotr x15 7 ^^^ Sha.rotr x15 18 : Nat) : Int) ((x15 : Int) / 8) = ((Sha.sig0 x15 : Nat) : Int) := xor_shr x15 (Sha.rotr x15 7 ^^^ Sha.rotr x15 18) 3 8 l15 (Nat.xor_lt_two_pow (n := 32) (rotr_lt x15 7 l15) (rotr_lt x15 18 l15)) rfl
 have E1 : bits .xor .u32 ((Sha.rotr x2 17 ^^^ Sha.rotr x2 19 : Nat) : Int) ((x2 : Int) / 1024) = ((Sha.sig1 x2 : Nat) : Int) := xor_shr x2 (Sha.rotr x2 17 ^^^ Sha.rotr x2 19) 10 1024 l2 (Nat.xor_lt_two_pow (n := 32) (rotr_lt x2 17 l2) (rotr_lt x2 19 l2)) rfl
 have m0 := sig0_lt x15 l15
 have m1 := sig1_lt x2 l2
 generalize Sha.sig0 x15 = s0 at *
 generalize Sha.sig1 x2 = s1 at *
 have hsz1 := c1.lt
 have g15 : wr.cell? ⟨w.heap.size + 1, k15, none⟩ = some (.int .u32 x15) := by rw [c1.cell k15]; exact v15
 go_wp2_with fail
 go_region_held3 (fun w' => w'.cell? ⟨w.heap.size + 1, k15, none⟩ = some (.int .u32 x15)) (go_keep)
  (first | (go_at_call 97; refine (turned2 x15 7 18 _ _ _ l15 (by omega) (by omega) ?_).mono ?_; exact heap_alloc_new _ _; rintro e w' ⟨rfl, rfl⟩))
 have c1a : Blk (wr.alloc (Obj.cells #[Value.int IntKind.i64 7, Value.int IntKind.i64 18] 3)).drew _ _ _ := c1.alloc _
 have c0a : Blk (wr.alloc (Obj.cells #[Value.int IntKind.i64 7, Value.int IntKind.i64 18] 3)).drew _ _ _ := c0.alloc _
 have hba := (hbw.alloc hbw.size (Obj.cells #[Value.int IntKind.i64 7, Value.int IntKind.i64 18] 3)).drew
 generalize (wr.alloc (Obj.cells #[Value.int IntKind.i64 7, Value.int IntKind.i64 18] 3)).drew = W1 at c1a c0a hba ⊢
 clear g15 c1 c0 hbw hsz1
 have hsz1 := c1a.lt
 have g2 : W1.cell? ⟨w.heap.size + 1, k2, none⟩ = some (.int .u32 x2) := by rw [c1a.cell k2]; exact v2
 go_wp2_with fail
 go_region_held3 (fun w' => w'.cell? ⟨w.heap.size + 1, k2, none⟩ = some (.int .u32 x2)) (go_keep)
  (first | (go_at_call 97; refine (turned2 x2 17 19 _ _ _ l2 (by omega) (by omega) ?_).mono ?_; exact heap_alloc_new _ _; rintro e w' ⟨rfl, rfl⟩))
 have c1b : Blk (W1.alloc (Obj.cells #[Value.int IntKind.i64 17, Value.int IntKind.i64 19] 3)).drew _ _ _ := c1a.alloc _
 have c0b : Blk (W1.alloc (Obj.cells #[Value.int IntKind.i64 17, Value.int IntKind.i64 19] 3)).drew _ _ _ := c0a.alloc _
 have hbb := (hba.alloc hba.size (Obj.cells #[Value.int IntKind.i64 17, Value.int IntKind.i64 19] 3)).drew
 generalize (W1.alloc (Obj.cells #[Value.int IntKind.i64 17, Value.int IntKind.i64 19] 3)).drew = W2 at c1b c0b hbb ⊢
 clear g2 c1a c0a hba hsz1
 have g7 : W2.cell? ⟨w.heap.size + 1, k7, none⟩ = some (.int .u32 x7) := by rw [c1b.cell k7]; exact v7
 have g16 : W2.cell? ⟨w.heap.size + 1, k16, none⟩ = some (.int .u32 x16) := by rw [c1b.cell k16]; exact v16
 have gt : W2.cell? ⟨w.heap.size + 1, t, none⟩ = some (.int .u32 xt) := by rw [c1b.cell t]; exact vt
 have ft := c1b.frozen t
 go_wp2_with fail
 go_region_held3 (fun w' => w'.cell? ⟨w.heap.size + 1, k7, none⟩ = some (.int .u32 x7) ∧ w'.cell? ⟨w.heap.size + 1, k16, none⟩ = some (.int .u32 x16)) (first | exact ⟨far_cell g7 n7, far_cell g16 n16⟩ | go_keep)
  (fail)
 go_wp2_with fail
 have hset : Blk (W2.setCell ⟨w.heap.size + 1, t, none⟩ (Value.int IntKind.u32 (((((s1 : Int) + x7) % 4294967296 + s0) % 4294967296 + x16) % 4294967296))).drew _ _ _ := c1b.set_ t _
 rw [show (((((s1 : Int) + x7) % 4294967296 + s0) % 4294967296 + x16) % 4294967296) = ((((((s1 + x7) % 4294967296 + s0) % 4294967296 + x16) % 4294967296 : Nat)) : Int) from by omega] at hset ⊢
 rw [wordsV_set, ← Hnx.out] at hset
 have hfar := c0b.far (p := ⟨w.heap.size + 1, t, none⟩) (by simp) (Value.int IntKind.u32 ((((((s1 + x7) % 4294967296 + s0) % 4294967296 + x16) % 4294967296 : Nat)) : Int))
 exact ⟨⟨t + 1, by omega, by go_num, hset, hfar, (hbb.setCell (p := ⟨w.heap.size + 1, t, none⟩) (by simp) _).drew⟩, by simp [intOf]; omega⟩
end Go.Proofs.YtdklmafkcbjomaaDoor

/-! ShaMixed -/
namespace Go.Proofs.YtdklmafkcbjomaaDoor
open Go.RowKit
attribute [local go_sem ↓] Go.wp_at_zero Go.wp_at_succ
theorem mixStep_len (v : List Nat) (k w : Nat) : (Sha.mixStep v k w).length = 8 := by simp [Sha.mixStep]
theorem mixTo_len (v w : List Nat) (hv : v.length = 8) : ∀ t, (Sha.mixTo v w t).length = 8
 | 0 => hv
 | _ + 1 => mixStep_len _ _ _
theorem mod32 (n : Nat) : n % 4294967296 < 4294967296 := Nat.mod_lt _ (by decide)
theorem mixTo_ws (v w : List Nat) (hv : Ws v) : ∀ t, Ws (Sha.mixTo v w t)
 | 0 => hv
 | t + 1 => by
  have ih := mixTo_ws v w hv t
  intro i
  unfold Sha.mixTo Sha.mixStep
  rcases i with _ | _ | _ | _ | _ | _ | _ | _ | i
  ·exact mod32 _
  ·exact ih 0
  ·exact ih 1
  ·exact ih 2
  ·exact mod32 _
  ·exact ih 4
  ·exact ih 5
  ·exact ih 6
  ·simp
theorem kTab_ws : Ws Sha.kTab := by
 intro i
 rcases Nat.lt_or_ge i 64 with h | h
 ·exact (by decide +kernel : ∀ i, i < 64 → Sha.kTab.getD i 0 < 4294967296) i h
 ·have hl : Sha.kTab.length = 64 := by decide
  rw [List.getD_eq_getElem?_getD, List.getElem?_eq_none (by omega)]
  decide
theorem addTo_len (h v : List Nat) (hh : h.length = 8) : ∀ i, (Sha.addTo h v i).length = 8
 | 0 => hh
 | i + 1 => by rw [Sha.addTo, List.length_set]; exact addTo_len h v hh i
theorem addTo_ws (h v : List Nat) (hh : Ws h) : ∀ i, Ws (Sha.addTo h v i)
 | 0 => hh
 | i + 1 => by rw [Sha.addTo]; exact (addTo_ws h v hh i).set_ _ _ (mod32 _)
theorem mixed_len (h b : List Nat) (hh : h.length = 8) : (Sha.mixed h b).length = 8 := addTo_len _ _ hh 8
theorem mixed_ws (h b : List Nat) (hh : Ws h) : Ws (Sha.mixed h b) := addTo_ws _ _ hh 8
theorem BytesAt.below {w w' : World} {B : Nat} {A : Option Addr} {b : List Nat} (h : BytesAt w B A b) (hb : Below B w w') : BytesAt w' B A b := fun i hi => by
 obtain ⟨ad, e, h1, h2⟩ := h i hi
 exact ⟨ad, e, h1, (hb.cell (by rw [block_of_add]; exact h1)).trans h2⟩
theorem BytesAt.more {w : World} {B B' : Nat} {A : Option Addr} {b : List Nat} (h : BytesAt w B A b) (hb : B ≤ B') : BytesAt w B' A b := fun i hi => by
 obtain ⟨ad, e, h1, h2⟩ := h i hi
 exact ⟨ad, e, by omega, h2⟩
theorem kTab_len : Sha.kTab.length = 64 := by decide
theorem not32 (x : Nat) (h : x < 4294967296) : bits .xor .u32 (if IntKind.u32.signed = true then -1 else IntKind.u32.max) (x : Int) = ((4294967295 - x : Nat) : Int) := by
 rw [if_neg (by decide), show IntKind.u32.max = ((4294967295 : Nat) : Int) from rfl, u32_xor_nat _ _ (by omega) h]
 congr 1
 rw [show 4294967295 - x = 2 ^ 32 - (x + 1) by omega]
 apply Nat.eq_of_testBit_eq
 intro i
 rw [Nat.testBit_xor, Nat.testBit_two_pow_sub_succ h, show 4294967295 = 2 ^ 32 - 1 by decide, Nat.testBit_two_pow_sub_one]
 by_cases hi : i < 32
 ·simp [hi]
 ·have h3 : x.testBit i = false := Nat.testBit_lt_two_pow (Nat.lt_of_lt_of_le h (Nat.pow_le_pow_right (n := 2) (by omega) (show 32 ≤ i by omega)))
  simp [hi, h3]
theorem info_u32 : (Tryd.prog.info? 104).map (·.size) = some 1 := by kernel_rfl
def z8 : List Nat := List.replicate 8 0
theorem zero8 : #[Value.int IntKind.u32 0, Value.int IntKind.u32 0, Value.int IntKind.u32 0, Value.int IntKind.u32 0, Value.int IntKind.u32 0, Value.int IntKind.u32 0, Value.int IntKind.u32 0, Value.int IntKind.u32 0] = wordsV z8 := rfl
theorem Blk.farRow {w : World} {g g' : Nat} {t : TypeId} {cs : Array Value} (h : Blk w g t cs) (hp : g ≠ g') (cs' : Array Value) : Blk (w.setRow g' cs') g t cs := by
 unfold Blk at h ⊢
 show (w.heap.modify g' _)[g]? = _
 rw [Array.getElem?_modify, if_neg (by omega)]
 exact h
theorem Blk.setRow_ {w : World} {g : Nat} {t : TypeId} {cs : Array Value} (h : Blk w g t cs) (cs' : Array Value) : Blk (w.setRow g cs') g t cs' := setRow_heap w g _ _ _ _ h
theorem heap_new1 (w : World) (o : Obj) (g : Nat) (h : w.heap.size = g) : (w.alloc o).heap[g]? = some o := by rw [← h]; exact heap_alloc_new w o
theorem src7 {w : World} {g : Nat} {t : TypeId} {v0 v1 v2 v3 v4 v5 v6 v7 : Nat} (h : Blk w g t (wordsV [v0, v1, v2, v3, v4, v5, v6, v7])) (j : Nat) (v : Value) (hj : ([Value.int .u32 (v0 : Int), Value.int .u32 (v1 : Int), Value.int .u32 (v2 : Int), Value.int .u32 (v3 : Int), Value.int .u32 (v4 : Int), Value.int .u32 (v5 : Int), Value.int .u32 (v6 : Int)] : List Value)[j]? = some v) :
  w.cell? ((⟨g, 0, none⟩ : Addr).add j) = some v := by
 have e : (⟨g, 0, none⟩ : Addr).add j = ⟨g, j, none⟩ := by unfold Addr.add; split <;> simp_all
 rw [e, h.cell j]
 rcases j with _ | _ | _ | _ | _ | _ | _ | j
 all_goals first | exact hj | (simp at hj)
set_option maxRecDepth 100000 in
set_option maxHeartbeats 4000000 in
theorem mixed_calls (h b : List Nat) (A : Option Addr) (cap gk : Nat) (w : World) (hh : Ws h) (hhl : h.length = 8) (hb : Bs b) (hlen : b.length = 64) (hcap : 64 ≤ cap) (hA : BytesAt w w.heap.size A b)
  (hk : Blk w gk 118 (wordsV Sha.kTab)) :
  Calls Tryd.prog 91 #[.agg (wordsV h), .slice A 64 cap, .pointer (some ⟨gk, 0, none⟩)] w fun e w' => e = .returned (.agg (wordsV (Sha.mixed h b))) ∧ Below w.heap.size w w' := by
 go_enter Tryd.func91, Tryd.ntmps91
 go_wp2_with fail
 rw [zero8]
 have bh := (Blk.new w 105 (wordsV h)).alloc (.cells (wordsV z8) 105)
 have br := Blk.new (w.alloc (.cells (wordsV h) 105)) 105 (wordsV z8)
 have hbl : Below w.heap.size w ((w.alloc (.cells (wordsV h) 105)).alloc (.cells (wordsV z8) 105)) := ((Below.refl _ w).alloc (Nat.le_refl _) _).alloc (by simp) _
 have hsz : ((w.alloc (.cells (wordsV h) 105)).alloc (.cells (wordsV z8) 105)).heap.size = w.heap.size + 2 := by simp
 rw [World.size_alloc] at br
 generalize (w.alloc (.cells (wordsV h) 105)).alloc (.cells (wordsV z8) 105) = W0 at bh br hbl hsz ⊢
 refine (words_calls b A cap _ hb hlen hcap ((hA.below hbl).more (by omega))).mono ?_
 rintro e W1 ⟨rfl, hb1⟩
 have hgk := hk.lt
 have bk1 : Blk W1 gk _ _ := (hk.below hbl hgk).below hb1 (by omega)
 have bh1 : Blk W1 w.heap.size _ _ := bh.below hb1 (by omega)
 have br1 : Blk W1 (w.heap.size + 1) _ _ := br.below hb1 (by omega)
 have hbl1 : Below w.heap.size w W1 := hbl.trans (hb1.mono (by omega))
 have hsz1 : w.heap.size + 2 ≤ W1.heap.size := by have := hb1.size; omega
 clear hb1 hbl bh br hsz
 have hwl : (Sha.words b).length = 64 := wordsTo_len b 64
 have hws : Ws (Sha.words b) := wordsTo_ws b hb 64
 have bh2 := bh1.alloc (Obj.cells #[Value.int IntKind.u32 0, Value.int IntKind.u32 0, Value.int IntKind.u32 0, Value.int IntKind.u32 0, Value.int IntKind.u32 0, Value.int IntKind.u32 0, Value.int IntKind.u32 0, Value.int IntKind.u32 0, Value.int IntKind.u32 0, Value.int IntKind.u32 0, Value.int IntKind.u32 0, Value.int IntKind.u32 0, Value.int IntKind.u32 0, Value.int IntKind.u32 0, Value.int IntKind.u32 0, Value.int IntKind.u32 0, Value.int IntKind.u32 0, Value.int IntKind.u32 0, Value.int IntKind.u32 0, Value.int IntKind.u32 0, Value.int IntKind.u32 0, Value.int IntKind.u32 0, Value.int IntKind.u32 0, Value.int IntKind.u32 0, Value.int IntKind.u32 0, Value.int IntKind.u32 0, Value.int IntKind.u32 0, Value.int IntKind.u32 0, Value.int IntKind.u32 0, Value.int IntKind.u32 0, Value.int IntKind.u32 0, Value.int IntKind.u32 0, Value.int IntKind.u32 0, Value.int IntKind.u32 0, Value.int IntKind.u32 0, Value.int IntKind.u32 0, Value.int IntKind.u32 0, Value.int IntKind.u32 0, Value.int IntKind.u32 0, Value.int IntKind.u32 0, Value.int IntKind.u32 0, Value.int IntKind.u32 0, Value.int IntKind.u32 0, Value.int IntKind.u32 0, Value.int IntKind.u32 0, Value.int IntKind.u32 0, Value.int IntKind.u32 0, Value.int IntKind.u32 0, Value.int IntKind.u32 0, Value.int IntKind.u32 0, Value.int IntKind.u32 0, Value.int IntKind.u32 0, Value.int IntKind.u32 0, Value.int IntKind.u32 0, Value.int IntKind.u32 0, Value.int IntKind.u32 0, Value.int IntKind.u32 0, Value.int IntKind.u32 0, Value.int IntKind.u32 0, Value.int IntKind.u32 0, Value.int IntKind.u32 0, Value.int IntKind.u32 0, Value.int IntKind.u32 0, Value.int IntKind.u32 0] 118)
 have bh3 := bh2.farRow (g' := W1.heap.size) (by omega) (wordsV (Sha.words b))
 go_wp2_with (first
  | (refine wpList_store_row rfl 118 (.tmp 7) (.tmp 16) rfl W1.heap.size _ rfl rfl 118 _ (heap_alloc_new _ _) (by rw [wordsV_size, hwl]; exact infokeys) (by rw [wordsV_size, hwl]; rfl) (by simp [wordsV, Value.oneCell']) ?_)
  | (refine wpList_load_row rfl 105 (.tmp 3) rfl w.heap.size rfl 105 _ (0, 0) _ bh3 Tryd.underlying105 rfl (by rw [wordsV_size, hhl]; exact infoStart) ?_)
  | (refine wpList_store_row rfl 105 (.tmp 8) (.tmp 17) rfl (W1.heap.size + 1) _ rfl rfl 105 _ (heap_new1 _ _ _ (by simp)) (by rw [wordsV_size, hhl]; exact infoStart) (by rw [wordsV_size, hhl]; rfl) (by simp [wordsV, Value.oneCell']) ?_))
 rw [zero64 b, zero8]
 rw [zero64 b] at bh2 bh3
 have bk2 := ((bk1.alloc (Obj.cells (wordsV (Sha.wordsTo b 0)) 118)).farRow (g' := W1.heap.size) (by omega) (wordsV (Sha.words b))).alloc (Obj.cells (wordsV z8) 105)
 have bk3 := bk2.farRow (g' := W1.heap.size + 1) (by omega) (wordsV h)
 have br2 := ((br1.alloc (Obj.cells (wordsV (Sha.wordsTo b 0)) 118)).farRow (g' := W1.heap.size) (by omega) (wordsV (Sha.words b))).alloc (Obj.cells (wordsV z8) 105)
 have br3 := br2.farRow (g' := W1.heap.size + 1) (by omega) (wordsV h)
 have bh5 := (bh3.alloc (Obj.cells (wordsV z8) 105)).farRow (g' := W1.heap.size + 1) (by omega) (wordsV h)
 have bw3 := (((Blk.new W1 118 (wordsV (Sha.wordsTo b 0))).setRow_ (wordsV (Sha.words b))).alloc (Obj.cells (wordsV z8) 105)).farRow (g' := W1.heap.size + 1) (by omega) (wordsV h)
 have bv3 := (Blk.new ((W1.alloc (.cells (wordsV (Sha.wordsTo b 0)) 118)).setRow W1.heap.size (wordsV (Sha.words b))) 105 (wordsV z8)).setRow_ (wordsV h)
 rw [size_setRow, World.size_alloc] at bv3
 have q1 := hbl1.alloc (by omega) (.cells (wordsV (Sha.wordsTo b 0)) 118)
 have q2 := q1.trans (Iter.below_setRow (g := W1.heap.size) (wordsV (Sha.words b)) (by omega))
 have q3 := q2.alloc (by simp; omega) (.cells (wordsV z8) 105)
 have hbl3 := q3.trans (Iter.below_setRow (g := W1.heap.size + 1) (wordsV h) (by omega))
 generalize (((W1.alloc (.cells (wordsV (Sha.wordsTo b 0)) 118)).setRow W1.heap.size (wordsV (Sha.words b))).alloc (.cells (wordsV z8) 105)).setRow (W1.heap.size + 1) (wordsV h) = W2 at bk3 br3 bh5 bw3 bv3 hbl3 ⊢
 clear bk2 br2 bh3 bh2 bk1 bh1 br1 hbl1 q1 q2 q3
 generalize W1.heap.size = gw at *
 go_loopw [18] (fun i wr => ∃ t : Nat, t ≤ 64 ∧ i = .int .i64 t ∧ Blk wr (gw + 1) 105 (wordsV (Sha.mixTo h (Sha.words b) t)) ∧ Blk wr gw 118 (wordsV (Sha.words b)) ∧ Blk wr w.heap.size 105 (wordsV h) ∧ Blk wr (w.heap.size + 1) 105 (wordsV z8) ∧ Blk wr gk 118 (wordsV Sha.kTab) ∧ Below w.heap.size w wr) (fun i _ => 64 - (intOf i).toNat)
 case atStart => exact ⟨0, by omega, rfl, bv3, bw3, bh5, br3, bk3, hbl3⟩
 clear bk3 br3 bh5 bw3 bv3 hbl3
 obtain ⟨t, ht, rfl, bv, bw, bh, br, bk, hbl⟩ := hrel
 by_cases h64 : t < 64
 rotate_left
 ·obtain rfl : t = 64 := by omega
  have hvl := mixTo_len h (Sha.words b) hhl 64
  have hvw := mixTo_ws h (Sha.words b) hh 64
  obtain ⟨V, hV⟩ : ∃ V, Sha.mixTo h (Sha.words b) 64 = V := ⟨_, rfl⟩
  have hres : Hid (Sha.mixed h b = Sha.addTo h V 8) := by rw [← hV]; exact Lib.hid rfl
  rw [hV] at bv hvl hvw
  clear hV
  have hd64 : decide (((64 : Nat) : Int) < 64) = false := by decide
  clear hk hA hcap hlen hwl hws
  go_wp2_with fail
  obtain ⟨wo, rfl⟩ : ∃ wo : World, wo = wr := ⟨_, rfl⟩
  go_loopw [84] (fun i wi => ∃ j : Nat, j ≤ 8 ∧ i = .int .i64 j ∧ Blk wi w.heap.size 105 (wordsV (Sha.addTo h V j)) ∧ Blk wi (gw + 1) 105 (wordsV V) ∧ Blk wi (w.heap.size + 1) 105 (wordsV z8) ∧ Below w.heap.size w wi) (fun i _ => 8 - (intOf i).toNat)
  case atStart => exact ⟨0, by omega, rfl, bh, bv, br, hbl⟩
  clear bh bv br bw bk hbl
  obtain ⟨j, hj, rfl, bh, bv, br, hbl⟩ := hrel
  have hal := addTo_len h V hhl j
  have haw := addTo_ws h V hh j
  by_cases hj8 : j < 8
  rotate_left
  ·obtain rfl : j = 8 := by omega
   have hdj : decide (((8 : Nat) : Int) < 8) = false := by decide
   go_wp2_with (first
    | (refine wpList_load_row rfl 105 (.tmp 3) rfl w.heap.size rfl 105 _ (0, 0) _ bh Tryd.underlying105 rfl (by rw [wordsV_size, hal]; exact infoStart) ?_)
    | (refine wpList_store_row rfl 105 (.tmp 6) (.tmp 96) rfl (w.heap.size + 1) _ rfl rfl 105 _ br (by rw [wordsV_size, hal]; exact infoStart) (by rw [wordsV_size, wordsV_size, hal]; rfl) (by simp [wordsV, Value.oneCell']) ?_))
   exact bodyPost_ret (results_cell_row rfl _ _ (w.heap.size + 1) 105 (wordsV (Sha.addTo h V 8)) (0, 0) _ rfl (setRow_heap wr (w.heap.size + 1) _ _ _ _ br) Tryd.underlying105 rfl (by rw [wordsV_size, hal]; exact infoStart)) rfl ⟨by rw [hres.out], hbl.trans (Iter.below_setRow _ (by omega))⟩
  have vx : (wordsV (Sha.addTo h V j))[j]? = some (.int .u32 ((Sha.addTo h V j).getD j 0)) := wordsV_at _ _ (by omega)
  have vy : (wordsV V)[j]? = some (.int .u32 (V.getD j 0)) := wordsV_at _ _ (by omega)
  have hnx : Hid (Sha.addTo h V (j + 1) = (Sha.addTo h V j).set j (((Sha.addTo h V j).getD j 0 + V.getD j 0) % 4294967296)) := Lib.hid rfl
  have lx := haw j
  have ly := hvw j
  generalize (Sha.addTo h V j).getD j 0 = x at *
  generalize V.getD j 0 = y at *
  have gx : wr.cell? ⟨w.heap.size, j, none⟩ = some (.int .u32 x) := (bh.cell j).trans vx
  have gy : wr.cell? ⟨gw + 1, j, none⟩ = some (.int .u32 y) := (bv.cell j).trans vy
  have fx := bh.frozen j
  have j0 : (0 : Int) ≤ (j : Int) := by omega
  have j1 : (j : Int) < 8 := by omega
  have exy : IntKind.u32.wrap ((x : Int) + (y : Int)) = (((x + y) % 4294967296 : Nat) : Int) := by simp only [IntKind.wrap_u32']; omega
  have hset := bh.set_ j (.int .u32 (((x + y) % 4294967296 : Nat) : Int))
  rw [wordsV_set, ← hnx.out] at hset
  have hv2 := bv.far (p := ⟨w.heap.size, j, none⟩) (by simp; omega) (.int .u32 (((x + y) % 4294967296 : Nat) : Int))
  have hr2 := br.far (p := ⟨w.heap.size, j, none⟩) (by simp) (.int .u32 (((x + y) % 4294967296 : Nat) : Int))
  have hb2 := hbl.setCell (p := ⟨w.heap.size, j, none⟩) (by simp) (.int .u32 (((x + y) % 4294967296 : Nat) : Int))
  generalize (x + y) % 4294967296 = z at *
  have HF := Lib.hid (And.intro hset (And.intro hv2 (And.intro hr2 hb2)))
  clear hset hv2 hr2 hb2 bh bv br hbl vx vy hnx haw hal lx ly hres
  have hnn : ¬ w.heap.size = gw + 1 := by omega
  go_wp2_with fail
  go_region
  go_wp2
  exact ⟨⟨j + 1, by omega, by go_num, HF.out.1, HF.out.2.1, HF.out.2.2.1, HF.out.2.2.2.drew⟩, by simp [intOf]; omega⟩
 have hml := mixTo_len h (Sha.words b) hhl t
 have hmw := mixTo_ws h (Sha.words b) hh t
 have hstep : Hid (Sha.mixTo h (Sha.words b) (t + 1) = Sha.mixStep (Sha.mixTo h (Sha.words b) t) (Sha.kTab.getD t 0) ((Sha.words b).getD t 0)) := Lib.hid rfl
 have vk : (wordsV Sha.kTab)[t]? = some (.int .u32 (Sha.kTab.getD t 0)) := wordsV_at _ _ (by rw [kTab_len]; exact h64)
 have vw : (wordsV (Sha.words b))[t]? = some (.int .u32 ((Sha.words b).getD t 0)) := wordsV_at _ _ (by omega)
 have lk := kTab_ws t
 have lw := hws t
 obtain ⟨v0, v1, v2, v3, v4, v5, v6, v7, hv⟩ : ∃ v0 v1 v2 v3 v4 v5 v6 v7, Sha.mixTo h (Sha.words b) t = [v0, v1, v2, v3, v4, v5, v6, v7] := by
  match Sha.mixTo h (Sha.words b) t, hml with
  | [v0, v1, v2, v3, v4, v5, v6, v7], _ => exact ⟨v0, v1, v2, v3, v4, v5, v6, v7, rfl⟩
 rw [hv] at hmw bv hstep
 clear hml hv
 generalize Sha.kTab.getD t 0 = k at *
 generalize (Sha.words b).getD t 0 = x at *
 have g0 : wr.cell? ⟨gw + 1, 0, none⟩ = some (.int .u32 v0) := bv.cell 0
 have g4 : wr.cell? ⟨gw + 1, 4, none⟩ = some (.int .u32 v4) := bv.cell 4
 have t0 : (0 : Int) ≤ (t : Int) := by omega
 have t1 : (t : Int) < 64 := by omega
 have hd64 : decide ((t : Int) < 64) = true := by simp; omega
 clear hk hA hcap hlen hwl hws
 have vk := Lib.hid vk
 have vw := Lib.hid vw
 go_wp2_with fail
 go_region_held3 (fun w' => w'.cell? ⟨gw + 1, 0, none⟩ = some (.int .u32 v0) ∧ w'.cell? ⟨gw + 1, 4, none⟩ = some (.int .u32 v4)) (go_keep) (fail)
 clear g0 g4
 have bv' : Blk wr.drew _ _ _ := bv
 have bw' : Blk wr.drew _ _ _ := bw
 have bh' : Blk wr.drew _ _ _ := bh
 have br' : Blk wr.drew _ _ _ := br
 have bk' : Blk wr.drew _ _ _ := bk
 have hbl' := hbl.drew
 generalize wr.drew = Wa at bv' bw' bh' br' bk' hbl' ⊢
 clear bv bw bh br bk hbl
 have g7 : Wa.cell? ⟨gw + 1, 7, none⟩ = some (.int .u32 v7) := bv'.cell 7
 have g5 : Wa.cell? ⟨gw + 1, 5, none⟩ = some (.int .u32 v5) := bv'.cell 5
 have g6 : Wa.cell? ⟨gw + 1, 6, none⟩ = some (.int .u32 v6) := bv'.cell 6
 have ck : Wa.cell? ⟨gk, t, none⟩ = some (.int .u32 k) := (bk'.cell t).trans vk.out
 have cw : Wa.cell? ⟨gw, t, none⟩ = some (.int .u32 x) := (bw'.cell t).trans vw.out
 have zl := bv'.lt
 have zk := bk'.lt
 have l4 : v4 < 4294967296 := hmw 4
 have HB := Lib.hid (And.intro bv' (And.intro bw' (And.intro bh' (And.intro br' (And.intro bk' hbl')))))
 clear bv' bw' bh' br' bk' hbl'
 have HL := Lib.hid (And.intro hmw (And.intro lk lw))
 have l5 := hmw 5
 have l6 := hmw 6
 change v5 < 4294967296 at l5
 change v6 < 4294967296 at l6
 have hnot : bits .xor .u32 (if IntKind.u32.signed = true then -1 else IntKind.u32.max) (v4 : Int) = ((4294967295 - v4 : Nat) : Int) := not32 v4 l4
 have hand1 := u32_and_nat v4 v5 l4 l5
 have hand2 := u32_and_nat (4294967295 - v4) v6 (by omega) l6
 have hxor := u32_xor_nat (v4 &&& v5) ((4294967295 - v4) &&& v6) (Nat.and_lt_two_pow (n := 32) _ l5) (Nat.and_lt_two_pow (n := 32) _ l6)
 have Hch : Hid (Sha.ch v4 v5 v6 = (v4 &&& v5) ^^^ ((4294967295 - v4) &&& v6)) := Lib.hid rfl
 generalize (v4 &&& v5) ^^^ ((4294967295 - v4) &&& v6) = c at *
 generalize (4294967295 - v4) &&& v6 = c2 at *
 generalize 4294967295 - v4 = nv at *
 generalize v4 &&& v5 = c1 at *
 clear l5 l6
 clear hmw lk lw hd64 hh hb
 go_wp2_with fail
 go_region_held3 (fun w' => w'.cell? ⟨gw + 1, 7, none⟩ = some (.int .u32 v7) ∧ w'.cell? ⟨gw + 1, 5, none⟩ = some (.int .u32 v5) ∧ w'.cell? ⟨gw + 1, 6, none⟩ = some (.int .u32 v6) ∧ w'.cell? ⟨gk, t, none⟩ = some (.int .u32 k) ∧ w'.cell? ⟨gw, t, none⟩ = some (.int .u32 x)) (go_keep)
  (first | (go_at_call 97; refine (turned3 v4 6 11 25 _ _ _ l4 (by omega) (by omega) (by omega) ?_).mono ?_; exact heap_alloc_new _ _; rintro e w' ⟨rfl, rfl⟩))
 obtain ⟨S1, hS1⟩ : ∃ S, (Sha.rotr v4 6 ^^^ Sha.rotr v4 11) ^^^ Sha.rotr v4 25 = S := ⟨_, rfl⟩
 obtain ⟨T1, hT1⟩ : ∃ T, (((((v7 + S1) % 4294967296 + c) % 4294967296 + k) % 4294967296) + x) % 4294967296 = T := ⟨_, rfl⟩
 have eT1 : IntKind.u32.wrap (IntKind.u32.wrap (IntKind.u32.wrap (IntKind.u32.wrap ((v7 : Int) + (S1 : Int)) + (c : Int)) + (k : Int)) + (x : Int)) = (T1 : Int) := by
  simp only [IntKind.wrap_u32']
  omega
 rw [hS1, eT1]
 obtain ⟨bv1, bw1, bh1, br1, bk1, hbl1⟩ := HB.out
 have bv2 : Blk (Wa.alloc (Obj.cells #[Value.int IntKind.i64 6, Value.int IntKind.i64 11, Value.int IntKind.i64 25] 3)).drew _ _ _ := bv1.alloc _
 have bw2 : Blk (Wa.alloc (Obj.cells #[Value.int IntKind.i64 6, Value.int IntKind.i64 11, Value.int IntKind.i64 25] 3)).drew _ _ _ := bw1.alloc _
 have bh2 : Blk (Wa.alloc (Obj.cells #[Value.int IntKind.i64 6, Value.int IntKind.i64 11, Value.int IntKind.i64 25] 3)).drew _ _ _ := bh1.alloc _
 have br2 : Blk (Wa.alloc (Obj.cells #[Value.int IntKind.i64 6, Value.int IntKind.i64 11, Value.int IntKind.i64 25] 3)).drew _ _ _ := br1.alloc _
 have bk2 : Blk (Wa.alloc (Obj.cells #[Value.int IntKind.i64 6, Value.int IntKind.i64 11, Value.int IntKind.i64 25] 3)).drew _ _ _ := bk1.alloc _
 have hbl2 := (hbl1.alloc hbl1.size (Obj.cells #[Value.int IntKind.i64 6, Value.int IntKind.i64 11, Value.int IntKind.i64 25] 3)).drew
 have HT1 := Lib.hid (And.intro hS1 hT1)
 clear HB g7 g5 g6 ck cw zl zk hS1 hT1 eT1 bv1 bw1 bh1 br1 bk1 hbl1 hnot hand1 hand2 hxor
 generalize (Wa.alloc (Obj.cells #[Value.int IntKind.i64 6, Value.int IntKind.i64 11, Value.int IntKind.i64 25] 3)).drew = Wb at bv2 bw2 bh2 br2 bk2 hbl2 ⊢
 have g1 : Wb.cell? ⟨gw + 1, 1, none⟩ = some (.int .u32 v1) := bv2.cell 1
 have g2 : Wb.cell? ⟨gw + 1, 2, none⟩ = some (.int .u32 v2) := bv2.cell 2
 have zl := bv2.lt
 have HB := Lib.hid (And.intro bv2 (And.intro bw2 (And.intro bh2 (And.intro br2 (And.intro bk2 hbl2)))))
 clear bv2 bw2 bh2 br2 bk2 hbl2
 have l0 : v0 < 4294967296 := HL.out.1 0
 have l1 : v1 < 4294967296 := HL.out.1 1
 have l2 : v2 < 4294967296 := HL.out.1 2
 have ha1 := u32_and_nat v0 v1 l0 l1
 have ha2 := u32_and_nat v0 v2 l0 l2
 have ha3 := u32_and_nat v1 v2 l1 l2
 have hx1 := u32_xor_nat (v0 &&& v1) (v0 &&& v2) (Nat.and_lt_two_pow (n := 32) _ l1) (Nat.and_lt_two_pow (n := 32) _ l2)
 have hx2 := u32_xor_nat ((v0 &&& v1) ^^^ (v0 &&& v2)) (v1 &&& v2) (Nat.xor_lt_two_pow (n := 32) (Nat.and_lt_two_pow (n := 32) _ l1) (Nat.and_lt_two_pow (n := 32) _ l2)) (Nat.and_lt_two_pow (n := 32) _ l2)
 have Hmaj : Hid (Sha.maj v0 v1 v2 = ((v0 &&& v1) ^^^ (v0 &&& v2)) ^^^ (v1 &&& v2)) := Lib.hid rfl
 generalize ((v0 &&& v1) ^^^ (v0 &&& v2)) ^^^ (v1 &&& v2) = m at *
 generalize (v0 &&& v1) ^^^ (v0 &&& v2) = m1 at *
 generalize v0 &&& v1 = m2 at *
 generalize v0 &&& v2 = m3 at *
 generalize v1 &&& v2 = m4 at *
 clear l1 l2
 go_wp2_with fail
 go_region_held3 (fun w' => w'.cell? ⟨gw + 1, 1, none⟩ = some (.int .u32 v1) ∧ w'.cell? ⟨gw + 1, 2, none⟩ = some (.int .u32 v2)) (go_keep)
  (first | (go_at_call 97; refine (turned3 v0 2 13 22 _ _ _ l0 (by omega) (by omega) (by omega) ?_).mono ?_; exact heap_alloc_new _ _; rintro e w' ⟨rfl, rfl⟩))
 obtain ⟨S0, hS0⟩ : ∃ S, (Sha.rotr v0 2 ^^^ Sha.rotr v0 13) ^^^ Sha.rotr v0 22 = S := ⟨_, rfl⟩
 obtain ⟨T2, hT2⟩ : ∃ T, (S0 + m) % 4294967296 = T := ⟨_, rfl⟩
 have eT2 : IntKind.u32.wrap ((S0 : Int) + (m : Int)) = (T2 : Int) := by
  simp only [IntKind.wrap_u32']
  omega
 rw [hS0, eT2]
 obtain ⟨bv1, bw1, bh1, br1, bk1, hbl1⟩ := HB.out
 have bv2 : Blk (Wb.alloc (Obj.cells #[Value.int IntKind.i64 2, Value.int IntKind.i64 13, Value.int IntKind.i64 22] 3)).drew _ _ _ := bv1.alloc _
 have bw2 : Blk (Wb.alloc (Obj.cells #[Value.int IntKind.i64 2, Value.int IntKind.i64 13, Value.int IntKind.i64 22] 3)).drew _ _ _ := bw1.alloc _
 have bh2 : Blk (Wb.alloc (Obj.cells #[Value.int IntKind.i64 2, Value.int IntKind.i64 13, Value.int IntKind.i64 22] 3)).drew _ _ _ := bh1.alloc _
 have br2 : Blk (Wb.alloc (Obj.cells #[Value.int IntKind.i64 2, Value.int IntKind.i64 13, Value.int IntKind.i64 22] 3)).drew _ _ _ := br1.alloc _
 have bk2 : Blk (Wb.alloc (Obj.cells #[Value.int IntKind.i64 2, Value.int IntKind.i64 13, Value.int IntKind.i64 22] 3)).drew _ _ _ := bk1.alloc _
 have hbl2 := (hbl1.alloc hbl1.size (Obj.cells #[Value.int IntKind.i64 2, Value.int IntKind.i64 13, Value.int IntKind.i64 22] 3)).drew
 have HT2 := Lib.hid (And.intro hS0 hT2)
 clear HB g1 g2 zl hS0 hT2 eT2 bv1 bw1 bh1 br1 bk1 hbl1 ha1 ha2 ha3 hx1 hx2 l0
 generalize (Wb.alloc (Obj.cells #[Value.int IntKind.i64 2, Value.int IntKind.i64 13, Value.int IntKind.i64 22] 3)).drew = Wc at bv2 bw2 bh2 br2 bk2 hbl2 ⊢
 have HB := Lib.hid (And.intro bv2 (And.intro bw2 (And.intro bh2 (And.intro br2 (And.intro bk2 hbl2)))))
 have zl := bv2.lt
 clear bw2 bh2 br2 bk2 hbl2
 go_wp2_with fail
 go_region_law ((refine step_copy_splice (by rfl) _ _ 102 102 (by rfl) 104 Tryd.underlying102 info_u32 _ _ _ _ _ _ (by rfl) (by rfl) (gw + 1) 1 [Value.int .u32 (v0 : Int), Value.int .u32 (v1 : Int), Value.int .u32 (v2 : Int), Value.int .u32 (v3 : Int), Value.int .u32 (v4 : Int), Value.int .u32 (v5 : Int), Value.int .u32 (v6 : Int), Value.int .u32 (v7 : Int)] 105 (by exact bv2) [Value.int .u32 (v0 : Int), Value.int .u32 (v1 : Int), Value.int .u32 (v2 : Int), Value.int .u32 (v3 : Int), Value.int .u32 (v4 : Int), Value.int .u32 (v5 : Int), Value.int .u32 (v6 : Int)] (by rfl) (fun _ => ⟨rfl, _, rfl, fun j v hj => src7 bv2 j v hj⟩) (by simp) (by simp [Value.oneCell']) (gw + 1) Wc (by first | exact Below.refl _ _ | exact (Below.refl _ _).drew) (Nat.le_refl _) ?_; intro Wd hd hbd))
 obtain ⟨_, bw1, bh1, br1, bk1, hbl1⟩ := HB.out
 have hgw := bw1.lt
 have bvd : Blk Wd (gw + 1) 105 (wordsV [v0, v0, v1, v2, v3, v4, v5, v6]) := hd.out
 have bwd := bw1.below hbd (by omega)
 have bhd := bh1.below hbd (by omega)
 have brd := br1.below hbd (by omega)
 have bkd := bk1.below hbd (by omega)
 have hbld := hbl1.trans (hbd.mono (by omega))
 have e4 : IntKind.u32.wrap ((v3 : Int) + (T1 : Int)) = (((v3 + T1) % 4294967296 : Nat) : Int) := by simp only [IntKind.wrap_u32']; omega
 have e0 : IntKind.u32.wrap ((T1 : Int) + (T2 : Int)) = (((T1 + T2) % 4294967296 : Nat) : Int) := by simp only [IntKind.wrap_u32']; omega
 have hnew : Sha.mixStep [v0, v1, v2, v3, v4, v5, v6, v7] k x = [(T1 + T2) % 4294967296, v0, v1, v2, (v3 + T1) % 4294967296, v4, v5, v6] := by
  have h1 : Sha.t1Of [v0, v1, v2, v3, v4, v5, v6, v7] k x = T1 := by
   obtain ⟨hs, ht⟩ := HT1.out
   rw [← ht, ← hs, ← Hch.out]
   rfl
  have h2 : Sha.t2Of [v0, v1, v2, v3, v4, v5, v6, v7] = T2 := by
   obtain ⟨hs, ht⟩ := HT2.out
   rw [← ht, ← hs, ← Hmaj.out]
   rfl
  rw [Sha.mixStep, h1, h2]
  rfl
 generalize (v3 + T1) % 4294967296 = n4 at *
 generalize (T1 + T2) % 4294967296 = n0 at *
 have bv4 := bvd.set_ 4 (.int .u32 (n4 : Int))
 have bv5 : Blk ((Wd.setCell ⟨gw + 1, 4, none⟩ (.int .u32 (n4 : Int))).setCell ⟨gw + 1, 0, none⟩ (.int .u32 (n0 : Int))) (gw + 1) 105 (wordsV [n0, v0, v1, v2, n4, v4, v5, v6]) := bv4.set_ 0 (.int .u32 (n0 : Int))
 rw [← hnew, ← hstep.out] at bv5
 have hne : ∀ (g : Nat), g < gw + 1 → g ≠ (gw + 1) := fun g hg => by omega
 have bw5 := (bwd.far (p := ⟨gw + 1, 4, none⟩) (by simp) (.int .u32 (n4 : Int))).far (p := ⟨gw + 1, 0, none⟩) (by simp) (.int .u32 (n0 : Int))
 have bh5 := (bhd.far (p := ⟨gw + 1, 4, none⟩) (by simp; omega) (.int .u32 (n4 : Int))).far (p := ⟨gw + 1, 0, none⟩) (by simp; omega) (.int .u32 (n0 : Int))
 have br5 := (brd.far (p := ⟨gw + 1, 4, none⟩) (by simp; omega) (.int .u32 (n4 : Int))).far (p := ⟨gw + 1, 0, none⟩) (by simp; omega) (.int .u32 (n0 : Int))
 have bk5 := (bkd.far (p := ⟨gw + 1, 4, none⟩) (by simp; omega) (.int .u32 (n4 : Int))).far (p := ⟨gw + 1, 0, none⟩) (by simp; omega) (.int .u32 (n0 : Int))
 have hbl5 := (hbld.setCell (p := ⟨gw + 1, 4, none⟩) (by simp; omega) (.int .u32 (n4 : Int))).setCell (p := ⟨gw + 1, 0, none⟩) (by simp; omega) (.int .u32 (n0 : Int))
 have HF := Lib.hid (And.intro bv5 (And.intro bw5 (And.intro bh5 (And.intro br5 (And.intro bk5 hbl5)))))
 have g4 : Wd.cell? ⟨gw + 1, 4, none⟩ = some (.int .u32 v3) := bvd.cell 4
 have f4 := bvd.frozen 4
 have g0 : Wd.cell? ⟨gw + 1, 0, none⟩ = some (.int .u32 v0) := bvd.cell 0
 have f0 := bvd.frozen 0
 clear bv4 bv5 bw5 bh5 br5 bk5 hbl5 hbld bkd brd bhd bwd bvd hnew hne hstep HB hbl1 bk1 br1 bh1 bw1 hd hbd HT1 HT2 Hch Hmaj HL bv2 zl hgw
 go_wp2
 exact ⟨⟨t + 1, by omega, by go_num, HF.out⟩, by simp [intOf]; omega⟩
end Go.Proofs.YtdklmafkcbjomaaDoor

/-! IterMark -/
namespace Go.Proofs.YtdklmafkcbjomaaDoor.Iter
open Go Go.RowKit
/-- Like SeqInf; J has a mark: what lies behind it may be changed, and an element is told the mark of its round. -/
def SeqMark (P : Program) (g : Nat) (lb : Array Value) (El : Nat → Nat → Array Value → World → Prop) (N B : Nat) (Kp : Array Value → World → World → Prop) (w0 : World) : Prop :=
 ∀ (n l : Nat) (J : Nat → Nat → World → Prop) (Jx : Nat → World → Prop) (W : World), Below B w0 W →
  (∀ k m W W', J k m W → Below m W W' → J k m W') → (∀ k W W', Jx k W → Below W.heap.size W W' → Jx k W') →
  (∀ k m args W1, k < N → J k m W1 → m ≤ W1.heap.size → El k m args W1 → Below B w0 W1 → YieldAt Fence.wide n P l args W1 fun e W' =>
   (e = .returned (.bool true) ∧ k + 1 < N ∧ J (k + 1) W'.heap.size W' ∧ Below B W1 W' ∧ Kp args W1 W') ∨ (e = .returned (.bool false) ∧ Jx k W')) →
  J 0 W.heap.size W →
  CallsIn Fence.wide (n + 1) P g (#[.func (.yield l) #[] #[]] ++ lb) W fun e W' => (∃ v, e = .returned v) ∧ ∃ k, Jx k W'
def markPost (N B : Nat) (Kp : Array Value → World → World → Prop) (I : Nat → Nat → World → Prop) (Ix : Code → Nat → World → Prop) (k : Nat) (args : Array Value) (W : World) : Exit → Act → World → Prop
 | .normal, _, W' => KeepsOthers W W' ∧ k + 1 < N ∧ I (k + 1) W'.heap.size W' ∧ Below B W W' ∧ Kp args W W'
 | .ret, _, W' => KeepsOthers W W' ∧ Ix .ret k W' ∧ Below B W W'
 | .exit id, _, W' => KeepsOthers W W' ∧ Ix (.exit id) k W' ∧ Below B W W'
 | .goto t, _, W' => KeepsOthers W W' ∧ Ix (.goto t) k W' ∧ Below B W W'
 | .panic _, _, _ => False
 | .outgrown, _, _ => False
variable {P : Program} {n : Nat}
theorem wpIn_range_mark {g : Operand} {ps : Array Tmp} {assign body : Code} {Q : Exit → Act → World → Prop} {a : Act} {w : World}
  {gf : Nat} {lb : Array Value} (hg : a.eval g = .func (.func gf) #[] lb) (eg : ∀ args w, (callFunc gf args).run P w = .ok (.enter gf args) w)
  {El : Nat → Nat → Array Value → World → Prop} {N B : Nat} {Kp : Array Value → World → World → Prop} {w0 : World}
  (hseq : SeqMark P gf lb El N B Kp w0) (hb0 : Below B w0 w) (hB : B ≤ w.heap.size)
  (hps : ∀ k m args W, El k m args W → args.size = ps.size)
  (hEl : ∀ k m args W W', El k m args W → KeepsCells W W' → El k m args W')
  (hKp : ∀ args A A' C C', KeepsCells A A' → KeepsCells C C' → Kp args A' C → Kp args A C')
  (I : Nat → Nat → World → Prop) (Ix : Code → Nat → World → Prop) (hI : ∀ k m W W', I k m W → KeepsCells W W' → I k m W') (hIb : ∀ k m W W', I k m W → Below m W W' → I k m W') (hIm : ∀ k m m' W, I k m W → m ≤ m' → I k m' W) (hIx : ∀ c, CellOwn (Ix c)) (h0 : I 0 w.heap.size w)
  (a₁ : Array Value → Act)
  (hassign : ∀ (l k m : Nat) (args : Array Value) (W : World) (K : Act → World → Prop), El k m args W → K (a₁ args) W →
   assign.wpIn (Fence.wide.inRound l) n P (Exit.then K (fun _ _ _ => False)) { tmps := (ps.zip args).foldl (fun t (p, v) => t.setIfInBounds p v) a.tmps, defers := [] } W)
  (hbody : ∀ (l k m : Nat) (args : Array Value) (W : World), k < N → I k m W → m ≤ W.heap.size → El k m args W → Below B w0 W → body.wpIn (Fence.wide.inRound l) n P (markPost N B Kp I Ix k args W) (a₁ args) W)
  (hstop : ∀ (D : Nat) (c : Code) (k : Nat) (W : World), Ix c k W → Below B w0 W → W.heap[D]? = some (.deferred (some [])) → w.heap.size ≤ D →
   c.wpIn Fence.wide (n + 2) P Q { a with defers := { target := .collected D, args := #[] } :: a.defers } W) :
  (Code.rangeFunc g ps assign body).wpIn Fence.wide (n + 2) P Q a w := by
 refine wpIn_rangeFunc ?_
 intro fn hfn
 show ∃ (l : Nat) (mark : List Deferred) (w₁ : World) (d : Deferred) (w₁' : World) (f : FuncId) (args : Array Value) (w₂ : World),
   (Instr.enterLoop fn a.tmps ps assign body none).run P w = .ok (l, mark) w₁ ∧ _
 obtain ⟨rec, hrec⟩ : ∃ rec : LoopState → Option Code → Loop, rec = fun st pe => { state := st, pending := pe, fn, tmps := a.tmps, params := ps, assign, body, defers := w.heap.size } := ⟨_, rfl⟩
 obtain ⟨W1, hW1⟩ : ∃ W1, (w.alloc (.deferred (some []))).alloc (.loop (rec .ready none)) = W1 := ⟨_, rfl⟩
 have hL1 : W1.heap[w.heap.size + 1]? = some (.loop (rec .ready none)) := by
  rw [← hW1]
  have := World.alloc_heap_new (w.alloc (.deferred (some []))) (.loop (rec .ready none))
  rwa [World.size_alloc] at this
 have hD1 : W1.heap[w.heap.size]? = some (.deferred (some [])) := by
  rw [← hW1]
  exact (Below.heap_alloc _ _ _ (by simp)).trans (World.alloc_heap_new w _)
 have hg1 : Below w.heap.size w W1 := by
  rw [← hW1]
  exact ((Below.refl _ w).alloc (Nat.le_refl _) _).alloc (by simp) _
 have hsz1 : w.heap.size + 2 = W1.heap.size := by rw [← hW1]; simp
 have hI1 : I 0 W1.heap.size W1 := hIm _ _ _ _ (hI _ _ _ _ h0 (KeepsCells.of_below hg1)) (by omega)
 have hb1 : Below B w0 W1 := hb0.trans (hg1.mono hB)
 refine ⟨w.heap.size + 1, [{ target := .collected w.heap.size, args := #[] }], W1, { target := .fn (.func gf) lb, args := #[.func (.yield (w.heap.size + 1)) #[] #[]] }, W1, gf,
  #[.func (.yield (w.heap.size + 1)) #[] #[]] ++ lb, W1, ?_, ?_, fun _ _ => trivial, ?_, fun h => by simp [Fence.wide] at h, ?_⟩
 ·rw [← hW1, hrec]
  exact run_enterLoop_outer _ _ _ _ _
 ·simp only [resolve, hg]
  simp [go_sem]
 ·simp [invoke, go_sem, eg]
 have hlt1 : w.heap.size + 1 < W1.heap.size := (Array.getElem?_eq_some_iff.1 hL1).1
 refine (hseq n (w.heap.size + 1)
  (fun k m W => I k m W ∧ W.heap[w.heap.size + 1]? = some (.loop (rec .ready none)) ∧ W.heap[w.heap.size]? = some (.deferred (some [])) ∧ Below B w0 W ∧ w.heap.size + 1 < m)
  (fun k W => ∃ c, Ix c k W ∧ W.heap[w.heap.size + 1]? = some (.loop (rec .done (some c))) ∧ W.heap[w.heap.size]? = some (.deferred (some [])) ∧ Below B w0 W)
  W1 hb1
  (fun k m A C hs hAC => ⟨hIb _ _ _ _ hs.1 hAC, (hAC.block _ hs.2.2.2.2).trans hs.2.1, (hAC.block _ (by have := hs.2.2.2.2; omega)).trans hs.2.2.1, hs.2.2.2.1.trans (hAC.mono (by have := hs.2.2.2.2; omega)), hs.2.2.2.2⟩)
  (fun k A C hs hAC => by
   obtain ⟨c, hc, hl, hk, hw⟩ := hs
   exact ⟨c, hIx c _ _ _ hc (KeepsCells.of_below hAC), (hAC.block _ (Array.getElem?_eq_some_iff.1 hl).1).trans hl, (hAC.block _ (Array.getElem?_eq_some_iff.1 hk).1).trans hk, hw.trans (hAC.mono (by have h1 := (Array.getElem?_eq_some_iff.1 hl).1; omega))⟩)
  ?_ ⟨hI1, hL1, hD1, hb1, by omega⟩).mono ?_
 rotate_left
 ·rintro e W2 ⟨⟨v, rfl⟩, k, c, hi, hl, hd, hbe⟩
  have hrun := run_endLoop (P := P) hl (by rw [hrec]; simp)
  rw [hrec] at hrun
  refine ⟨some c, _, hrun, ?_⟩
  exact hstop _ c k _ (hIx c _ _ _ hi (KeepsCells.putObj _ hl rfl)) (hbe.trans (below_putObj _ (by omega))) ((World.putObj_heap_other (by omega)).trans hd) (Nat.le_refl _)
 rintro k m args W hkN ⟨hi, hl, hd, _, hm⟩ hmW hel hbW
 have hlt : w.heap.size + 1 < W.heap.size := (Array.getElem?_eq_some_iff.1 hl).1
 have hy := run_yield (P := P) (args := args) hl (by rw [hrec]; exact hps _ _ _ _ hel)
 rw [hrec] at hy
 refine ⟨fn, _, assign, body, hy, roundIn_of_wpIn hfn (hassign _ k m args W _ hel ⟨_, run_beginRound hl (by rw [hrec]), ?_⟩)⟩
 obtain ⟨W2, hW2⟩ : ∃ W2, W.putObj (w.heap.size + 1) (.loop { rec .ready none with state := .busy }) = W2 := ⟨_, rfl⟩
 rw [hW2]
 have hl2 : W2.heap[w.heap.size + 1]? = some (.loop { rec .ready none with state := .busy }) := by
  rw [← hW2]
  exact World.putObj_heap_same hlt
 have hd2 : W2.heap[w.heap.size]? = some (.deferred (some [])) := by
  rw [← hW2]
  exact (World.putObj_heap_other (by omega)).trans hd
 have kc2 : KeepsCells W W2 := by
  rw [← hW2]
  exact KeepsCells.putObj _ hl rfl
 have hb2 : Below B W W2 := by
  rw [← hW2]
  exact below_putObj _ (by omega)
 refine wpIn_mono (hbody _ k m args W2 hkN (hI _ _ _ _ hi kc2) (by rw [← hW2]; simpa using hmW) (hEl _ _ _ _ _ hel kc2) (hbW.trans hb2)) ?_
 have fin : ∀ (jump : Option Code) (W3 : World), KeepsOthers W2 W3 → ∃ W4, (Instr.endRound (w.heap.size + 1) jump).run P W3 = .ok (.bool jump.isNone) W4 ∧
   KeepsCells W3 W4 ∧ W4.heap.size = W3.heap.size ∧ w.heap.size + 1 < W3.heap.size ∧ Below B W3 W4 ∧ W4.heap[w.heap.size + 1]? = some (.loop (rec (if jump.isNone then .ready else .done) jump)) ∧ W4.heap[w.heap.size]? = some (.deferred (some [])) := fun jump W3 hk3 => by
  have hl3 := hk3.same _ _ hl2 rfl
  have hrun := run_endRound (P := P) jump hl3
  refine ⟨W3.putObj (w.heap.size + 1) (.loop (rec (if jump.isNone then .ready else .done) jump)), ?_, KeepsCells.putObj _ hl3 rfl, by simp, (Array.getElem?_eq_some_iff.1 hl3).1, below_putObj _ (by omega), World.putObj_heap_same (Array.getElem?_eq_some_iff.1 hl3).1, (World.putObj_heap_other (by omega)).trans (hk3.same _ _ hd2 rfl)⟩
  rw [hrec] at hrun ⊢
  exact hrun
 rintro e a3 W3 hp
 cases e with
 | normal =>
  obtain ⟨hk3, hkn, hi3, hb3, hkp3⟩ := hp
  obtain ⟨W4, hr, kc4, hs4, ho4, hb4, hl4, hd4⟩ := fin none W3 hk3
  exact ⟨_, _, hr, .inl ⟨rfl, hkn, ⟨by rw [hs4]; exact hI _ _ _ _ hi3 kc4, hl4, hd4, ((hbW.trans hb2).trans hb3).trans hb4, by omega⟩, (hb2.trans hb3).trans hb4, hKp _ _ _ _ _ kc2 kc4 hkp3⟩⟩
 | ret =>
  obtain ⟨hk3, hi3, hb3⟩ := hp
  obtain ⟨W4, hr, kc4, hs4, ho4, hb4, hl4, hd4⟩ := fin (some .ret) W3 hk3
  exact ⟨_, _, hr, .inr ⟨rfl, .ret, hIx _ _ _ _ hi3 kc4, hl4, hd4, ((hbW.trans hb2).trans hb3).trans hb4⟩⟩
 | exit id =>
  obtain ⟨hk3, hi3, hb3⟩ := hp
  obtain ⟨W4, hr, kc4, hs4, ho4, hb4, hl4, hd4⟩ := fin (some (.exit id)) W3 hk3
  exact ⟨_, _, hr, .inr ⟨rfl, .exit id, hIx _ _ _ _ hi3 kc4, hl4, hd4, ((hbW.trans hb2).trans hb3).trans hb4⟩⟩
 | goto t =>
  obtain ⟨hk3, hi3, hb3⟩ := hp
  obtain ⟨W4, hr, kc4, hs4, ho4, hb4, hl4, hd4⟩ := fin (some (.goto t)) W3 hk3
  exact ⟨_, _, hr, .inr ⟨rfl, .goto t, hIx _ _ _ _ hi3 kc4, hl4, hd4, ((hbW.trans hb2).trans hb3).trans hb4⟩⟩
 | panic ch => exact hp.elim
 | outgrown => exact hp.elim
/-! A whole array, loaded and stored, in a fence. -/
end Go.Proofs.YtdklmafkcbjomaaDoor.Iter

/-! IterMarkP -/
namespace Go.Proofs.YtdklmafkcbjomaaDoor.Iter
open Go Go.RowKit
/-- Like SeqInf; J has a mark: what lies behind it may be changed, and an element is told the mark of its round. -/
def SeqMarkP (Pre : World → Prop) (P : Program) (g : Nat) (lb : Array Value) (El : Nat → Nat → Array Value → World → Prop) (N B : Nat) (Kp : Array Value → World → World → Prop) (w0 : World) : Prop :=
 ∀ (n l : Nat) (J : Nat → Nat → World → Prop) (Jx : Nat → World → Prop) (W : World), Below B w0 W → Pre W →
  (∀ k m W W', J k m W → Below m W W' → J k m W') → (∀ k W W', Jx k W → Below W.heap.size W W' → Jx k W') →
  (∀ k m args W1, k < N → J k m W1 → m ≤ W1.heap.size → El k m args W1 → Below B w0 W1 → YieldAt Fence.wide n P l args W1 fun e W' =>
   (e = .returned (.bool true) ∧ k + 1 < N ∧ J (k + 1) W'.heap.size W' ∧ Below B W1 W' ∧ Kp args W1 W') ∨ (e = .returned (.bool false) ∧ Jx k W')) →
  J 0 W.heap.size W →
  CallsIn Fence.wide (n + 1) P g (#[.func (.yield l) #[] #[]] ++ lb) W fun e W' => (∃ v, e = .returned v) ∧ ∃ k, Jx k W'
variable {P : Program} {n : Nat}
theorem wpIn_range_markP {g : Operand} {ps : Array Tmp} {assign body : Code} {Q : Exit → Act → World → Prop} {a : Act} {w : World}
  {gf : Nat} {lb : Array Value} (hg : a.eval g = .func (.func gf) #[] lb) (eg : ∀ args w, (callFunc gf args).run P w = .ok (.enter gf args) w)
  {El : Nat → Nat → Array Value → World → Prop} {N B : Nat} {Kp : Array Value → World → World → Prop} {w0 : World}
  {Pre : World → Prop} (hseq : SeqMarkP Pre P gf lb El N B Kp w0) (hPre : ∀ W', Below w.heap.size w W' → Pre W') (hb0 : Below B w0 w) (hB : B ≤ w.heap.size)
  (hps : ∀ k m args W, El k m args W → args.size = ps.size)
  (hEl : ∀ k m args W W', El k m args W → KeepsCells W W' → El k m args W')
  (hKp : ∀ args A A' C C', KeepsCells A A' → KeepsCells C C' → Kp args A' C → Kp args A C')
  (I : Nat → Nat → World → Prop) (Ix : Code → Nat → World → Prop) (hI : ∀ k m W W', I k m W → KeepsCells W W' → I k m W') (hIb : ∀ k m W W', I k m W → Below m W W' → I k m W') (hIm : ∀ k m m' W, I k m W → m ≤ m' → I k m' W) (hIx : ∀ c, CellOwn (Ix c)) (h0 : I 0 w.heap.size w)
  (a₁ : Array Value → Act)
  (hassign : ∀ (l k m : Nat) (args : Array Value) (W : World) (K : Act → World → Prop), El k m args W → K (a₁ args) W →
   assign.wpIn (Fence.wide.inRound l) n P (Exit.then K (fun _ _ _ => False)) { tmps := (ps.zip args).foldl (fun t (p, v) => t.setIfInBounds p v) a.tmps, defers := [] } W)
  (hbody : ∀ (l k m : Nat) (args : Array Value) (W : World), k < N → I k m W → m ≤ W.heap.size → El k m args W → Below B w0 W → body.wpIn (Fence.wide.inRound l) n P (markPost N B Kp I Ix k args W) (a₁ args) W)
  (hstop : ∀ (D : Nat) (c : Code) (k : Nat) (W : World), Ix c k W → Below B w0 W → W.heap[D]? = some (.deferred (some [])) → w.heap.size ≤ D →
   c.wpIn Fence.wide (n + 2) P Q { a with defers := { target := .collected D, args := #[] } :: a.defers } W) :
  (Code.rangeFunc g ps assign body).wpIn Fence.wide (n + 2) P Q a w := by
 refine wpIn_rangeFunc ?_
 intro fn hfn
 show ∃ (l : Nat) (mark : List Deferred) (w₁ : World) (d : Deferred) (w₁' : World) (f : FuncId) (args : Array Value) (w₂ : World),
   (Instr.enterLoop fn a.tmps ps assign body none).run P w = .ok (l, mark) w₁ ∧ _
 obtain ⟨rec, hrec⟩ : ∃ rec : LoopState → Option Code → Loop, rec = fun st pe => { state := st, pending := pe, fn, tmps := a.tmps, params := ps, assign, body, defers := w.heap.size } := ⟨_, rfl⟩
 obtain ⟨W1, hW1⟩ : ∃ W1, (w.alloc (.deferred (some []))).alloc (.loop (rec .ready none)) = W1 := ⟨_, rfl⟩
 have hL1 : W1.heap[w.heap.size + 1]? = some (.loop (rec .ready none)) := by
  rw [← hW1]
  have := World.alloc_heap_new (w.alloc (.deferred (some []))) (.loop (rec .ready none))
  rwa [World.size_alloc] at this
 have hD1 : W1.heap[w.heap.size]? = some (.deferred (some [])) := by
  rw [← hW1]
  exact (Below.heap_alloc _ _ _ (by simp)).trans (World.alloc_heap_new w _)
 have hg1 : Below w.heap.size w W1 := by
  rw [← hW1]
  exact ((Below.refl _ w).alloc (Nat.le_refl _) _).alloc (by simp) _
 have hsz1 : w.heap.size + 2 = W1.heap.size := by rw [← hW1]; simp
 have hI1 : I 0 W1.heap.size W1 := hIm _ _ _ _ (hI _ _ _ _ h0 (KeepsCells.of_below hg1)) (by omega)
 have hb1 : Below B w0 W1 := hb0.trans (hg1.mono hB)
 refine ⟨w.heap.size + 1, [{ target := .collected w.heap.size, args := #[] }], W1, { target := .fn (.func gf) lb, args := #[.func (.yield (w.heap.size + 1)) #[] #[]] }, W1, gf,
  #[.func (.yield (w.heap.size + 1)) #[] #[]] ++ lb, W1, ?_, ?_, fun _ _ => trivial, ?_, fun h => by simp [Fence.wide] at h, ?_⟩
 ·rw [← hW1, hrec]
  exact run_enterLoop_outer _ _ _ _ _
 ·simp only [resolve, hg]
  simp [go_sem]
 ·simp [invoke, go_sem, eg]
 have hlt1 : w.heap.size + 1 < W1.heap.size := (Array.getElem?_eq_some_iff.1 hL1).1
 refine (hseq n (w.heap.size + 1)
  (fun k m W => I k m W ∧ W.heap[w.heap.size + 1]? = some (.loop (rec .ready none)) ∧ W.heap[w.heap.size]? = some (.deferred (some [])) ∧ Below B w0 W ∧ w.heap.size + 1 < m)
  (fun k W => ∃ c, Ix c k W ∧ W.heap[w.heap.size + 1]? = some (.loop (rec .done (some c))) ∧ W.heap[w.heap.size]? = some (.deferred (some [])) ∧ Below B w0 W)
  W1 hb1 (hPre W1 hg1)
  (fun k m A C hs hAC => ⟨hIb _ _ _ _ hs.1 hAC, (hAC.block _ hs.2.2.2.2).trans hs.2.1, (hAC.block _ (by have := hs.2.2.2.2; omega)).trans hs.2.2.1, hs.2.2.2.1.trans (hAC.mono (by have := hs.2.2.2.2; omega)), hs.2.2.2.2⟩)
  (fun k A C hs hAC => by
   obtain ⟨c, hc, hl, hk, hw⟩ := hs
   exact ⟨c, hIx c _ _ _ hc (KeepsCells.of_below hAC), (hAC.block _ (Array.getElem?_eq_some_iff.1 hl).1).trans hl, (hAC.block _ (Array.getElem?_eq_some_iff.1 hk).1).trans hk, hw.trans (hAC.mono (by have h1 := (Array.getElem?_eq_some_iff.1 hl).1; omega))⟩)
  ?_ ⟨hI1, hL1, hD1, hb1, by omega⟩).mono ?_
 rotate_left
 ·rintro e W2 ⟨⟨v, rfl⟩, k, c, hi, hl, hd, hbe⟩
  have hrun := run_endLoop (P := P) hl (by rw [hrec]; simp)
  rw [hrec] at hrun
  refine ⟨some c, _, hrun, ?_⟩
  exact hstop _ c k _ (hIx c _ _ _ hi (KeepsCells.putObj _ hl rfl)) (hbe.trans (below_putObj _ (by omega))) ((World.putObj_heap_other (by omega)).trans hd) (Nat.le_refl _)
 rintro k m args W hkN ⟨hi, hl, hd, _, hm⟩ hmW hel hbW
 have hlt : w.heap.size + 1 < W.heap.size := (Array.getElem?_eq_some_iff.1 hl).1
 have hy := run_yield (P := P) (args := args) hl (by rw [hrec]; exact hps _ _ _ _ hel)
 rw [hrec] at hy
 refine ⟨fn, _, assign, body, hy, roundIn_of_wpIn hfn (hassign _ k m args W _ hel ⟨_, run_beginRound hl (by rw [hrec]), ?_⟩)⟩
 obtain ⟨W2, hW2⟩ : ∃ W2, W.putObj (w.heap.size + 1) (.loop { rec .ready none with state := .busy }) = W2 := ⟨_, rfl⟩
 rw [hW2]
 have hl2 : W2.heap[w.heap.size + 1]? = some (.loop { rec .ready none with state := .busy }) := by
  rw [← hW2]
  exact World.putObj_heap_same hlt
 have hd2 : W2.heap[w.heap.size]? = some (.deferred (some [])) := by
  rw [← hW2]
  exact (World.putObj_heap_other (by omega)).trans hd
 have kc2 : KeepsCells W W2 := by
  rw [← hW2]
  exact KeepsCells.putObj _ hl rfl
 have hb2 : Below B W W2 := by
  rw [← hW2]
  exact below_putObj _ (by omega)
 refine wpIn_mono (hbody _ k m args W2 hkN (hI _ _ _ _ hi kc2) (by rw [← hW2]; simpa using hmW) (hEl _ _ _ _ _ hel kc2) (hbW.trans hb2)) ?_
 have fin : ∀ (jump : Option Code) (W3 : World), KeepsOthers W2 W3 → ∃ W4, (Instr.endRound (w.heap.size + 1) jump).run P W3 = .ok (.bool jump.isNone) W4 ∧
   KeepsCells W3 W4 ∧ W4.heap.size = W3.heap.size ∧ w.heap.size + 1 < W3.heap.size ∧ Below B W3 W4 ∧ W4.heap[w.heap.size + 1]? = some (.loop (rec (if jump.isNone then .ready else .done) jump)) ∧ W4.heap[w.heap.size]? = some (.deferred (some [])) := fun jump W3 hk3 => by
  have hl3 := hk3.same _ _ hl2 rfl
  have hrun := run_endRound (P := P) jump hl3
  refine ⟨W3.putObj (w.heap.size + 1) (.loop (rec (if jump.isNone then .ready else .done) jump)), ?_, KeepsCells.putObj _ hl3 rfl, by simp, (Array.getElem?_eq_some_iff.1 hl3).1, below_putObj _ (by omega), World.putObj_heap_same (Array.getElem?_eq_some_iff.1 hl3).1, (World.putObj_heap_other (by omega)).trans (hk3.same _ _ hd2 rfl)⟩
  rw [hrec] at hrun ⊢
  exact hrun
 rintro e a3 W3 hp
 cases e with
 | normal =>
  obtain ⟨hk3, hkn, hi3, hb3, hkp3⟩ := hp
  obtain ⟨W4, hr, kc4, hs4, ho4, hb4, hl4, hd4⟩ := fin none W3 hk3
  exact ⟨_, _, hr, .inl ⟨rfl, hkn, ⟨by rw [hs4]; exact hI _ _ _ _ hi3 kc4, hl4, hd4, ((hbW.trans hb2).trans hb3).trans hb4, by omega⟩, (hb2.trans hb3).trans hb4, hKp _ _ _ _ _ kc2 kc4 hkp3⟩⟩
 | ret =>
  obtain ⟨hk3, hi3, hb3⟩ := hp
  obtain ⟨W4, hr, kc4, hs4, ho4, hb4, hl4, hd4⟩ := fin (some .ret) W3 hk3
  exact ⟨_, _, hr, .inr ⟨rfl, .ret, hIx _ _ _ _ hi3 kc4, hl4, hd4, ((hbW.trans hb2).trans hb3).trans hb4⟩⟩
 | exit id =>
  obtain ⟨hk3, hi3, hb3⟩ := hp
  obtain ⟨W4, hr, kc4, hs4, ho4, hb4, hl4, hd4⟩ := fin (some (.exit id)) W3 hk3
  exact ⟨_, _, hr, .inr ⟨rfl, .exit id, hIx _ _ _ _ hi3 kc4, hl4, hd4, ((hbW.trans hb2).trans hb3).trans hb4⟩⟩
 | goto t =>
  obtain ⟨hk3, hi3, hb3⟩ := hp
  obtain ⟨W4, hr, kc4, hs4, ho4, hb4, hl4, hd4⟩ := fin (some (.goto t)) W3 hk3
  exact ⟨_, _, hr, .inr ⟨rfl, .goto t, hIx _ _ _ _ hi3 kc4, hl4, hd4, ((hbW.trans hb2).trans hb3).trans hb4⟩⟩
 | panic ch => exact hp.elim
 | outgrown => exact hp.elim
/-! A whole array, loaded and stored, in a fence. -/
end Go.Proofs.YtdklmafkcbjomaaDoor.Iter
