/-
  Walks: math/bits.RotateLeft32, sha.turned.
-/
import Derived.Test.YtamaokokbajlgaaShaArr
namespace Go.Proofs.Ytamaokokbajlgaa
open Go.RowKit

theorem and31 (n : Nat) (h1 : 1 ≤ n) (h2 : n ≤ 31) : bits .and .u64 (IntKind.u64.wrap (-(n : Int))) 31 = ((32 - n : Nat) : Int) := by
  have e : IntKind.u64.wrap (-(n : Int)) = ((18446744073709551616 - n : Nat) : Int) := by rw [IntKind.wrap_u64]; omega
  rw [e, show (31 : Int) = ((31 : Nat) : Int) from rfl, u64_and_nat _ _ (by omega) (by omega)]
  congr 1
  have := Nat.and_two_pow_sub_one_eq_mod (18446744073709551616 - n) 5
  rw [show (2 ^ 5 - 1 : Nat) = 31 from rfl] at this
  rw [this]
  omega
theorem rotr_lt (x n : Nat) (hx : x < 4294967296) : Sha.rotr x n < 4294967296 := by
  unfold Sha.rotr
  refine Nat.or_lt_two_pow (n := 32) ?_ (Nat.mod_lt _ (by decide))
  rw [Nat.shiftRight_eq_div_pow]
  exact Nat.lt_of_le_of_lt (Nat.div_le_self _ _) hx

set_option maxHeartbeats 400000 in
theorem rot_calls (x n : Nat) (hx : x < 4294967296) (h1 : 1 ≤ n) (h2 : n ≤ 31) (w : World) :
    Calls Try.prog 59 #[.int .u32 x, .int .i64 (-(n : Int))] w fun e w' => e = .returned (.int .u32 (Sha.rotr x n)) ∧ w = w' := by
  have hn := and31 n h1 h2
  obtain ⟨m, hm⟩ : ∃ m : Nat, 32 - n = m := ⟨_, rfl⟩
  rw [hm] at hn
  have hm1 : 1 ≤ m := by omega
  have hm2 : m ≤ 31 := by omega
  go_enter Try.func59, Try.ntmps59
  go_wp2
  go_ret
  refine ⟨ret_int ?_, rfl⟩
  have e1 : ((x : Int) * 2 ^ m % 4294967296) = (((x <<< m) % 4294967296 : Nat) : Int) := by rw [Nat.shiftLeft_eq]; simp
  have e2 : ((x : Int) / 2 ^ (32 - m)) = ((x >>> n : Nat) : Int) := by rw [Nat.shiftRight_eq_div_pow, show 32 - m = n by omega]; simp
  rw [e1, e2, u32_or_nat _ _ (Nat.mod_lt _ (by decide)) (by rw [Nat.shiftRight_eq_div_pow]; exact Nat.lt_of_le_of_lt (Nat.div_le_self _ _) hx), Nat.or_comm]
  unfold Sha.rotr
  rw [hm]

def rotX (x : Nat) (l : List Nat) : Nat := l.foldl (fun a n => a ^^^ Sha.rotr x n) 0
theorem rotX_snoc (x : Nat) (l : List Nat) (k : Nat) (h : k < l.length) : rotX x (l.take (k + 1)) = rotX x (l.take k) ^^^ Sha.rotr x (l.getD k 0) := by
  unfold rotX
  rw [List.take_succ_eq_append_getElem h, List.foldl_append]
  simp [h]
theorem rotX_lt (x : Nat) (hx : x < 4294967296) (l : List Nat) : rotX x l < 4294967296 := by
  unfold rotX
  suffices h : ∀ (l : List Nat) (a : Nat), a < 4294967296 → l.foldl (fun a n => a ^^^ Sha.rotr x n) a < 4294967296 from h l 0 (by decide)
  intro l
  induction l with
  | nil => exact fun a h => h
  | cons n l ih => exact fun a h => ih _ (Nat.xor_lt_two_pow (n := 32) h (rotr_lt x n hx))

/-- Small numbers in a row. -/
def intsV (l : List Nat) : Array Value := (l.map fun (x : Nat) => Value.int .i64 (x : Int)).toArray

set_option maxHeartbeats 800000 in
theorem turned_calls (x : Nat) (l : List Nat) (g cap : Nat) (w : World) (hx : x < 4294967296) (hl : ∀ k, k < l.length → 1 ≤ l.getD k 0 ∧ l.getD k 0 ≤ 31) (hlen : l.length ≤ 100) (hb : Blk w g 3 (intsV l)) :
    Calls Try.prog 53 #[.int .u32 x, .slice (some ⟨g, 0, none⟩) l.length cap] w fun e w' => e = .returned (.int .u32 (rotX x l)) ∧ w = w' := by
  go_enter Try.func53, Try.ntmps53
  go_wp2
  go_loop [5, 10] (fun o i => ∃ k : Nat, k ≤ l.length ∧ i = .int .i64 k ∧ o = .int .u32 (rotX x (l.take k))) (fun _ i => l.length - (intOf i).toNat)
  case atStart => exact ⟨0, Nat.zero_le _, rfl, rfl⟩
  case round =>
    obtain ⟨k, hk, rfl, rfl⟩ := hrel
    have hacc := rotX_lt x hx (l.take k)
    by_cases hlt : k < l.length
    · have hsn := Lib.hid (rotX_snoc x l k hlt)
      obtain ⟨h1, h2⟩ := hl k hlt
      have hcell : w.cell? ⟨g, k, none⟩ = some (.int .i64 (l.getD k 0)) := by
        rw [hb.cell k]
        simp [intsV, hlt]
      generalize l.getD k 0 = n at *
      have hr := rotr_lt x n hx
      generalize rotX x (l.take k) = acc at *
      have hk0 : (0 : Int) ≤ (k : Int) := by omega
      have hk1 : (k : Int) < (l.length : Int) := by omega
      go_wp2_with fail
      refine (rot_calls x n hx h1 h2 _).mono ?_
      rintro e w' ⟨rfl, rfl⟩
      go_wp2
      go_round
      case rel => exact ⟨k + 1, by omega, by go_num, by rw [hsn.out, u32_xor_nat _ _ hacc hr]⟩
      case measure => simp [intOf]; omega
    · go_wp2
      go_ret
      exact ⟨ret_int (by rw [List.take_of_length_le (by omega)]), rfl⟩

theorem rotX_two (x a b : Nat) : rotX x [a, b] = Sha.rotr x a ^^^ Sha.rotr x b := by simp [rotX]
theorem rotX_three (x a b c : Nat) : rotX x [a, b, c] = (Sha.rotr x a ^^^ Sha.rotr x b) ^^^ Sha.rotr x c := by simp [rotX]
theorem turned2 (x a b : Nat) (g cap : Nat) (w : World) (hx : x < 4294967296) (ha : 1 ≤ a ∧ a ≤ 31) (hb : 1 ≤ b ∧ b ≤ 31) (hB : Blk w g 3 #[.int .i64 a, .int .i64 b]) :
    Calls Try.prog 53 #[.int .u32 x, .slice (some ⟨g, 0, none⟩) 2 cap] w fun e w' => e = .returned (.int .u32 ((Sha.rotr x a ^^^ Sha.rotr x b : Nat) : Int)) ∧ w = w' := by
  rw [← rotX_two]
  refine turned_calls x [a, b] g cap w hx ?_ (by simp) hB
  intro k hk
  simp at hk
  rcases (by omega : k = 0 ∨ k = 1) with rfl | rfl
  · exact ha
  · exact hb
theorem turned3 (x a b c : Nat) (g cap : Nat) (w : World) (hx : x < 4294967296) (ha : 1 ≤ a ∧ a ≤ 31) (hb : 1 ≤ b ∧ b ≤ 31) (hc : 1 ≤ c ∧ c ≤ 31) (hB : Blk w g 3 #[.int .i64 a, .int .i64 b, .int .i64 c]) :
    Calls Try.prog 53 #[.int .u32 x, .slice (some ⟨g, 0, none⟩) 3 cap] w fun e w' => e = .returned (.int .u32 (((Sha.rotr x a ^^^ Sha.rotr x b) ^^^ Sha.rotr x c : Nat) : Int)) ∧ w = w' := by
  rw [← rotX_three]
  refine turned_calls x [a, b, c] g cap w hx ?_ (by simp) hB
  intro k hk
  simp at hk
  rcases (by omega : k = 0 ∨ k = 1 ∨ k = 2) with rfl | rfl | rfl
  · exact ha
  · exact hb
  · exact hc
end Go.Proofs.Ytamaokokbajlgaa
