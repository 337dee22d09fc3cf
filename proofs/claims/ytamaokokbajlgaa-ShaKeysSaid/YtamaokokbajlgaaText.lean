/-
  Walks: pyxref01.figure, pyxref01.Text, pyxref02.turn.
-/
import Derived.Test.YtamaokokbajlgaaShaTurn
import Derived.Test.YtamaokokbajlgaaWMore
import Derived.Deep.QuietTactic
import Derived.BigQuiet
namespace Go.Proofs.Ytamaokokbajlgaa
set_option linter.unusedVariables false
set_option linter.unusedSimpArgs false
open Go.RowKit

def Drawn (w w' : World) : Prop := ∃ n, w' = w.drewN n
def figs : List UInt8 := [48, 49, 50, 51, 52, 53, 54, 55, 56, 57, 97, 98, 99, 100, 101, 102]
set_option maxHeartbeats 400000 in
theorem figure_calls (n : Nat) (hn : n < 16) (w : World) :
    Calls Try.prog 51 #[.int .i64 n] w fun e w' => e = .returned (.string ⟨#[figs.getD n 0]⟩) ∧ w = w' := by
  have h0 : (0 : Int) ≤ (n : Int) := by omega
  have h1 : (n : Int) + 1 ≤ 16 := by omega
  go_enter Try.func51, Try.ntmps51
  go_wp2
  go_ret
  have e : (⟨#[48, 49, 50, 51, 52, 53, 54, 55, 56, 57, 97, 98, 99, 100, 101, 102]⟩ : ByteArray).extract n (n + 1) = ⟨#[figs.getD n 0]⟩ := (by decide +kernel : ∀ n, n < 16 → (⟨#[48, 49, 50, 51, 52, 53, 54, 55, 56, 57, 97, 98, 99, 100, 101, 102]⟩ : ByteArray).extract n (n + 1) = ⟨#[figs.getD n 0]⟩) n hn
  exact ⟨by rw [e]; rfl, rfl⟩

theorem figure_same (n : Nat) (hn : n < 16) (w : World) :
    Calls Try.prog 51 #[.int .i64 n] w fun e w' => e = .returned (.string ⟨#[figs.getD n 0]⟩) ∧ w' = w := (figure_calls n hn w).mono fun _ _ h => ⟨h.1, h.2.symm⟩

set_option maxHeartbeats 400000 in
theorem turn_calls (x n : Nat) (hx : x < 4294967296) (h1 : 1 ≤ n) (h2 : n ≤ 31) (w : World) :
    Calls Try.prog 55 #[.int .u32 x, .int .u32 n] w fun e w' => e = .returned (.int .u32 (Sha.rotr x n)) ∧ w = w' := by
  obtain ⟨m, hm⟩ : ∃ m : Nat, 32 - n = m := ⟨_, rfl⟩
  have hw : IntKind.u32.wrap (32 - (n : Int)) = (m : Int) := by rw [IntKind.wrap_u32']; omega
  have hm1 : 1 ≤ m := by omega
  have hm2 : m ≤ 31 := by omega
  go_enter Try.func55, Try.ntmps55
  go_wp2
  go_ret
  refine ⟨ret_int ?_, rfl⟩
  have e1 : ((x : Int) * 2 ^ m % 4294967296) = (((x <<< m) % 4294967296 : Nat) : Int) := by rw [Nat.shiftLeft_eq]; simp
  have e2 : ((x : Int) / 2 ^ n) = ((x >>> n : Nat) : Int) := by rw [Nat.shiftRight_eq_div_pow]; simp
  rw [e1, e2, u32_or_nat _ _ (by rw [Nat.shiftRight_eq_div_pow]; exact Nat.lt_of_le_of_lt (Nat.div_le_self _ _) hx) (Nat.mod_lt _ (by decide))]
  unfold Sha.rotr
  rw [hm]

def hexB (b : List Nat) : List UInt8 := b.flatMap fun x => [figs.getD (x / 16) 0, figs.getD (x % 16) 0]
theorem hexB_len (b : List Nat) : (hexB b).length = 2 * b.length := by
  unfold hexB
  induction b with
  | nil => rfl
  | cons x b ih => rw [List.flatMap_cons, List.length_append, ih]; simp; omega
def strB (l : List UInt8) : ByteArray := ⟨l.toArray⟩
theorem strB_snoc (b : List Nat) (k : Nat) (h : k < b.length) : strB (hexB (b.take k)) ++ ⟨#[figs.getD (b.getD k 0 / 16) 0]⟩ ++ ⟨#[figs.getD (b.getD k 0 % 16) 0]⟩ = strB (hexB (b.take (k + 1))) := by
  have e : hexB (b.take (k + 1)) = hexB (b.take k) ++ [figs.getD (b.getD k 0 / 16) 0] ++ [figs.getD (b.getD k 0 % 16) 0] := by
    unfold hexB
    rw [List.take_succ_eq_append_getElem h, List.flatMap_append, List.append_assoc]
    congr 1
    simp [h]
  rw [e]
  unfold strB
  apply ByteArray.ext
  simp

set_option maxRecDepth 100000 in
set_option maxHeartbeats 2000000 in
theorem text_calls (A : Option Addr) (cap : Nat) (b : List Nat) (w : World) (hA : ∀ i, i < b.length → ∃ ad, A = some ad ∧ w.cell? (ad.add i) = some (.int .u8 (b.getD i 0))) (hB : ∀ i, b.getD i 0 < 256) (hlen : b.length ≤ 1000000) :
    Calls Try.prog 39 #[.slice A b.length cap] w fun e w' => e = .returned (.string (strB (hexB b))) ∧ Drawn w w' := by
  go_enter Try.func39, Try.ntmps39
  go_wp2_with fail
  go_loopw [3, 4] (fun s i wr => ∃ k : Nat, k ≤ b.length ∧ i = .int .i64 k ∧ s = .string (strB (hexB (b.take k))) ∧ Drawn w wr) (fun _ i _ => b.length - (intOf i).toNat)
  case atStart => exact ⟨0, by omega, rfl, rfl, ⟨0, rfl⟩⟩
  case round =>
    obtain ⟨k, hk, rfl, rfl, hD⟩ := hrel
    have hD := Lib.hid hD
    by_cases hlt : k < b.length
    · obtain ⟨ad, rfl, hcell0⟩ := hA k hlt
      have hcell : wr.cell? (ad.add k) = some (.int .u8 (b.getD k 0)) := by
        obtain ⟨m, rfl⟩ := hD.out
        exact hcell0
      clear hcell0
      have hx := hB k
      have hsn := Lib.hid (strB_snoc b k hlt)
      have hsz : (strB (hexB (b.take k))).size ≤ 2000000 := by
        have h1 := hexB_len (b.take k)
        rw [List.length_take] at h1
        unfold strB
        show (hexB (b.take k)).toArray.size ≤ _
        simp
        omega
      generalize strB (hexB (b.take k)) = acc at *
      generalize b.getD k 0 = x at *
      have k0 : (0 : Int) ≤ (k : Int) := by omega
      have k1 : (k : Int) < (b.length : Int) := by omega
      have hd : decide ((k : Int) < (b.length : Int)) = true := by simp; omega
      have hd2 : decide (k < b.length) = true := by simp; omega
      clear hA hB
      have q1 : IntKind.i64.wrap ((x : Int) / 16) = ((x / 16 : Nat) : Int) := by rw [IntKind.wrap_i64]; omega
      have q2 : IntKind.i64.wrap ((x : Int) % 16) = ((x % 16 : Nat) : Int) := by rw [IntKind.wrap_i64]; omega
      have q4 : ((x : Int) % 16) = ((x % 16 : Nat) : Int) := by omega
      have q5 : ((x : Int) / 16) = ((x / 16 : Nat) : Int) := by omega
      have q3 : IntKind.i64.wrap (x : Int) = (x : Int) := by rw [IntKind.wrap_i64]; omega
      have q6 : IntKind.i64.wrap ((x / 16 : Nat) : Int) = ((x / 16 : Nat) : Int) := by rw [IntKind.wrap_i64]; omega
      have q7 : IntKind.i64.wrap ((x % 16 : Nat) : Int) = ((x % 16 : Nat) : Int) := by rw [IntKind.wrap_i64]; omega
      have CF := Lib.hid figure_same
      have hx1 : x / 16 < 16 := by omega
      have hx2 : x % 16 < 16 := by omega
      generalize x / 16 = x1 at *
      generalize x % 16 = x2 at *
      go_wp2_with fail
      go_quiet ((go_at_call 51; exact Calls.quiet_of_same (CF.out _ (by assumption) _)))
      go_wp2
      have hs := hsn.out
      rw [List.getD_eq_getElem?_getD, List.getD_eq_getElem?_getD] at hs
      refine ⟨⟨k + 1, by omega, by go_num, by rw [← hs], ?_⟩, by simp [intOf]; omega⟩
      obtain ⟨m, e⟩ := hD.out
      exact ⟨m + nq, by rw [e, World.drewN_drewN]⟩
    · obtain rfl : k = b.length := by omega
      rw [List.take_of_length_le (Nat.le_refl _)]
      have hd : decide (b.length < b.length) = false := by simp
      go_wp2
      go_ret
      exact ⟨rfl, hD.out⟩
end Go.Proofs.Ytamaokokbajlgaa
