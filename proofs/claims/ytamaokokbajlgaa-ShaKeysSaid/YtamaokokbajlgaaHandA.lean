/-
  The hand's contracts under the names that the printed texts call: sha.Pad, pyxref01.Same.
-/
import Derived.Test.YtamaokokbajlgaaSha2
namespace Go.Proofs.Ytamaokokbajlgaa
set_option linter.unusedVariables false
set_option linter.unusedSimpArgs false
open Go.RowKit Go.Proofs.YtamaokokbajlgaaW.PrintWords Go.Proofs.YtamaokokbajlgaaW.PrintLast Go.Proofs.YtamaokokbajlgaaW.PrintMore

theorem map_u8_inj (a b : List Int) (ha : byteOk a = true) (hb : byteOk b = true) (h : (a.map fun n => UInt8.ofNat n.toNat) = b.map fun n => UInt8.ofNat n.toNat) : a = b := by
  rw [← ofB_toB a ha, ← ofB_toB b hb]
  refine congrArg ofB ?_
  have h2 := congrArg (List.map UInt8.toNat) h
  rw [List.map_map, List.map_map] at h2
  have key : ∀ l : List Int, byteOk l = true → l.map (UInt8.toNat ∘ fun n => UInt8.ofNat n.toNat) = toB l := by
    intro l hl
    refine List.map_congr_left fun x hx => ?_
    have := List.all_eq_true.1 hl x hx
    simp only [Bool.and_eq_true, decide_eq_true_eq] at this
    simp only [Function.comp]
    rw [UInt8.toNat_ofNat']
    omega
  rw [key a ha, key b hb] at h2
  exact h2
theorem strOfNums_inj (a b : List Int) (ha : byteOk a = true) (hb : byteOk b = true) : ((strOfNums a).toList == (strOfNums b).toList) = (a == b) := by
  rw [strOfNums, strOfNums, ByteArray.toList_mk, ByteArray.toList_mk, Bool.eq_iff_iff, beq_iff_eq, beq_iff_eq]
  exact ⟨map_u8_inj a b ha hb, fun h => by rw [h]⟩

namespace P
def sha_Pad.f (n : Int) : Option (List Int) := some (if n < 0 then [] else if 1125899906842624 < n then [] else ofB (Sha.pad n.toNat))
theorem sha_Pad.calls (a0 : Int) (r : List Int) (w : World) (h : sha_Pad.f a0 = some r) :
    Calls Try.prog 24 #[.int .i64 a0] w fun e w' => ∃ v0_ : Value, e = .returned (v0_) ∧ Kd.R (Kd.int .u8) 5 w' w.heap.size (fun _ => True) v0_ r ∧ Below w.heap.size w w' := by
  unfold sha_Pad.f at h
  injection h with h
  by_cases h0 : a0 < 0
  · rw [if_pos h0] at h
    subst h
    exact L.sha_Pad.calls 10 a0 [] w (pad_none 9 a0 (.inl h0))
  · rw [if_neg h0] at h
    by_cases h1 : 1125899906842624 < a0
    · rw [if_pos h1] at h
      subst h
      exact L.sha_Pad.calls 10 a0 [] w (pad_none 9 a0 (.inr h1))
    · rw [if_neg h1] at h
      subst h
      obtain ⟨n, rfl⟩ := Int.eq_ofNat_of_zero_le (show 0 ≤ a0 by omega)
      exact L.sha_Pad.calls 10 (n : Int) _ w (pad_eq n (by omega))
def pyxref01_Same.f (l0 : List Int) (l1 : List Int) : Option (Bool) := if byteOk l0 = true ∧ byteOk l1 = true then some (l0 == l1) else none
theorem pyxref01_Same.calls (A0 : Option Addr) (c0 : Nat) (l0 : List Int) (A1 : Option Addr) (c1 : Nat) (l1 : List Int) (r : Bool) (w : World) (hr0 : Kd.C (Kd.int .u8) w A0 l0.length l0) (hc0 : l0.length ≤ c0) (hr1 : Kd.C (Kd.int .u8) w A1 l1.length l1) (hc1 : l1.length ≤ c1) (h : pyxref01_Same.f l0 l1 = some r) :
    Calls Try.prog 16 #[.slice A0 l0.length c0, .slice A1 l1.length c1] w fun e w' => e = .returned (.bool r) ∧ Drawn0 w w' := by
  unfold pyxref01_Same.f at h
  split at h
  case isFalse => cases h
  case isTrue hok =>
  exact L.pyxref01_Same.calls A0 c0 l0 A1 c1 l1 r w hr0 hc0 hr1 hc1 (by rw [← h]; exact congrArg some (strOfNums_inj l0 l1 hok.1 hok.2))
end P
end Go.Proofs.Ytamaokokbajlgaa
