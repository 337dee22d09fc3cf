/-
  Walks: math/bits.RotateLeft32, sha.above, sha.root.
-/
import Derived.Test.YtamaokokbajlgaaShelf
import Derived.WalkKit
import Derived.WalkSpells
import Derived.WalkLawsBesides
import Derived.Lib.Hide
namespace Go.Proofs.Ytamaokokbajlgaa
open Go.RowKit

theorem mulHi_lt (x y : Nat) (hx : x < 18446744073709551616) (hy : y < 18446744073709551616) : Sha.mulHi x y < 18446744073709551616 := by
  unfold Sha.mulHi
  have : x * y < 18446744073709551616 * 18446744073709551616 := by
    rcases Nat.eq_zero_or_pos y with h | h
    · subst h; simp
    · exact Nat.lt_of_lt_of_le (Nat.mul_lt_mul_of_pos_right hx h) (Nat.mul_le_mul_left _ (Nat.le_of_lt hy))
  exact Nat.div_lt_of_lt_mul this
theorem mulLo_lt (x y : Nat) : Sha.mulLo x y < 18446744073709551616 := Nat.mod_lt _ (by decide)
theorem addLo_lt (x y : Nat) : Sha.addLo x y < 18446744073709551616 := Nat.mod_lt _ (by decide)
theorem addHi_le (x y : Nat) (hx : x < 18446744073709551616) (hy : y < 18446744073709551616) : Sha.addHi x y ≤ 1 := by
  unfold Sha.addHi; omega
theorem mulHi_small (x : Nat) (hx : x < 137438953472) : Sha.mulHi x x < 1024 ∧ Sha.mulHi (Sha.mulHi x x) x = 0 := by
  have h1 : x * x < 137438953472 * 137438953472 := Nat.mul_lt_mul_of_lt_of_lt hx hx
  have h2 : Sha.mulHi x x < 1024 := by unfold Sha.mulHi; omega
  refine ⟨h2, ?_⟩
  have h3 : Sha.mulHi x x * x < 1024 * 137438953472 := Nat.mul_lt_mul_of_lt_of_lt h2 hx
  generalize Sha.mulHi x x = h at *
  unfold Sha.mulHi
  omega

theorem bool_or_true (a b : Bool) (h : a = true) : (a || b) = true := by simp [h]

theorem ret_bool {a b : Bool} (h : a = b) : Ending.returned (.bool a) = .returned (.bool b) := by rw [h]

set_option maxHeartbeats 400000 in
theorem above2_calls (x p : Nat) (hx : x < 137438953472) (w : World) :
    Calls Try.prog 57 #[.int .u64 x, .int .u64 p, .int .i64 2] w fun e w' => e = .returned (.bool (Sha.above2 x p)) ∧ w = w' := by
  go_enter Try.func57, Try.ntmps57
  go_wp2_with (go_at_call 60; refine (mul64_calls _ _ (by omega) (by omega) _).mono ?_; rintro e w' ⟨rfl, rfl⟩)
  all_goals
    go_ret
    refine ⟨ret_bool ?_, rfl⟩
    unfold Sha.above2
    rw [Bool.eq_iff_iff]
    simp only [Bool.or_eq_true, Bool.and_eq_true, decide_eq_true_eq, true_iff]
    omega

set_option maxHeartbeats 800000 in
theorem above3_calls (x p : Nat) (hx : x < 137438953472) (hp : p < 4294967296) (w : World) :
    Calls Try.prog 57 #[.int .u64 x, .int .u64 p, .int .i64 3] w fun e w' => e = .returned (.bool (Sha.above3 x p)) ∧ w = w' := by
  have b1 := (mulHi_small x hx).1
  have b0 := (mulHi_small x hx).2
  have b2 := mulLo_lt x x
  have b3 := mulLo_lt (Sha.mulHi x x) x
  have b4 := mulHi_lt (Sha.mulLo x x) x b2 (by omega)
  have b5 := mulLo_lt (Sha.mulLo x x) x
  have b6 := addLo_lt (Sha.mulLo (Sha.mulHi x x) x) (Sha.mulHi (Sha.mulLo x x) x)
  have b7 := addHi_le _ _ b3 b4
  unfold Sha.above3
  replace b0 : Sha.mulHi (Sha.mulHi x x) x ≤ 0 := by omega
  go_enter Try.func57, Try.ntmps57
  go_wp2_with fail
  refine (mul64_calls _ _ (by omega) (by omega) _).mono ?_; rintro e w' ⟨rfl, rfl⟩
  go_wp2_with fail
  refine (mul64_calls _ _ (by omega) (by omega) _).mono ?_; rintro e w' ⟨rfl, rfl⟩
  go_wp2_with fail
  refine (mul64_calls _ _ (by omega) (by omega) _).mono ?_; rintro e w' ⟨rfl, rfl⟩
  go_wp2_with (simp only [add64_run])
  all_goals
    go_ret
    refine ⟨ret_bool ?_, rfl⟩
    rw [Bool.eq_iff_iff]
    simp only [Bool.or_eq_true, Bool.and_eq_true, decide_eq_true_eq, true_iff]
    omega

theorem above_calls (x p power : Nat) (hx : x < 137438953472) (hp : p < 4294967296) (hpw : power = 2 ∨ power = 3) (w : World) :
    Calls Try.prog 57 #[.int .u64 x, .int .u64 p, .int .i64 power] w fun e w' => e = .returned (.bool (Sha.above x p power)) ∧ w = w' := by
  rcases hpw with rfl | rfl
  · exact above2_calls x p hx w
  · exact above3_calls x p hx hp w

theorem ret_int {k : IntKind} {a b : Int} (h : a = b) : Ending.returned (.int k a) = .returned (.int k b) := by rw [h]

theorem rootGo_lt (p power : Nat) : ∀ (n x : Nat), x < 137438953472 → n ≤ 37 → Sha.rootGo p power n x < 137438953472
  | 0, x, h, _ => h
  | n + 1, x, h, hn => by
    unfold Sha.rootGo
    refine rootGo_lt p power n _ ?_ (by omega)
    split
    · exact h
    · refine Nat.or_lt_two_pow (n := 37) h ?_
      rw [Nat.one_shiftLeft]
      exact Nat.pow_lt_pow_right (by omega) (by omega)

theorem or_bit (y n : Nat) (hy : y < 137438953472) (hn : n ≤ 36) :
    bits .or .u64 (y : Int) (IntKind.u64.wrap (2 ^ n)) = ((y ||| (1 <<< n) : Nat) : Int) ∧ y ||| (1 <<< n) < 137438953472 := by
  rw [Nat.one_shiftLeft]
  have hp : 2 ^ n ≤ 2 ^ 36 := Nat.pow_le_pow_right (by omega) hn
  have he : (2 ^ n : Int) = ((2 ^ n : Nat) : Int) := by simp
  rw [he]
  clear he
  generalize 2 ^ n = q at *
  rw [IntKind.wrap_u64, Int.emod_eq_of_lt (by omega) (by omega)]
  exact ⟨u64_or_nat y q (by omega) (by omega), Nat.or_lt_two_pow (n := 37) hy (by omega)⟩

set_option maxHeartbeats 800000 in
theorem root_calls (p power : Nat) (hp : p < 4294967296) (hpw : power = 2 ∨ power = 3) (w : World) :
    Calls Try.prog 46 #[.int .u64 p, .int .i64 power] w fun e w' => e = .returned (.int .u32 (Sha.root p power)) ∧ w = w' := by
  go_enter Try.func46, Try.ntmps46
  go_wp2
  go_loop [5, 6] (fun x b => ∃ (n y : Nat), n ≤ 37 ∧ y < 137438953472 ∧ Sha.rootGo p power n y = Sha.rootGo p power 37 0 ∧ b = .int .i64 ((n : Int) - 1) ∧ x = .int .u64 y) (fun _ b => (intOf b + 1).toNat)
  case atStart => exact ⟨37, 0, by omega, by omega, rfl, rfl, rfl⟩
  case round =>
    obtain ⟨n, y, hn, hy, hg, rfl, rfl⟩ := hrel
    have Hg := Lib.hid hg
    clear hg
    cases n with
    | zero =>
      go_wp2
      go_ret
      refine ⟨ret_int ?_, rfl⟩
      have hg := Hg.out
      unfold Sha.root
      rw [← hg]
      unfold Sha.rootGo
      omega
    | succ n =>
      go_wp2_with fail
      have hz := or_bit y n hy (by omega)
      rw [hz.1]
      have hz2 := hz.2
      clear hz
      obtain ⟨z, Hz⟩ : ∃ z, Hid (y ||| (1 <<< n) = z) := ⟨_, Lib.hid rfl⟩
      rw [Hz.out] at hz2 ⊢
      have hg := Hg.out
      clear Hg
      rw [Sha.rootGo, Hz.out] at hg
      refine (above_calls z p power hz2 hp hpw _).mono ?_
      rintro e w' ⟨rfl, rfl⟩
      cases ha : Sha.above z p power
      · rw [ha] at hg
        replace hg : Sha.rootGo p power n z = Sha.rootGo p power 37 0 := hg
        have Hg := Lib.hid hg
        clear hg ha Hz
        go_wp2
        go_round
        case rel => exact ⟨n, z, by omega, hz2, Hg.out, by go_num, rfl⟩
        case measure => simp [intOf]
      · rw [ha] at hg
        replace hg : Sha.rootGo p power n y = Sha.rootGo p power 37 0 := hg
        have Hg := Lib.hid hg
        clear hg ha Hz
        go_wp2
        go_round
        case rel => exact ⟨n, y, by omega, hy, Hg.out, by go_num, rfl⟩
        case measure => simp [intOf]
end Go.Proofs.Ytamaokokbajlgaa
