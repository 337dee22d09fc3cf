/-
  The plain law of SealNonces: the nonces of two numbers are the same just if these are; the number is told by what a nonce and its base have not alike.
-/
import Derived.Test.YtifpdpfjhjoieaaPSealNoncesy1
import Derived.Test.YtifpdpfjhjoieaaY4
namespace Go.Proofs.Ytifpdpfjhjoieaa.Pure
set_option linter.unusedSimpArgs false
set_option linter.unusedVariables false
open Go.RowKit Go.Proofs.Ytifpdpfjhjoieaa Go.Proofs.Ytifpdpfjhjoieaa.P Go.Proofs.YtifpdpfjhjoieaaW.PrintWords Go.Proofs.YtifpdpfjhjoieaaW.PrintLast

theorem u32_wf (x : Int) (h : (Lit.int .u32 x).wf = true) : 0 ≤ x ∧ x < 4294967296 := by
  have h := Go.bounds_u32 h
  omega
theorem xr_0 (a b : Int) (ha : 0 ≤ a ∧ a < 256) (hb : 0 ≤ b ∧ b < 256) : xr (xr a b) a = b := by rw [xr_comm (xr a b), xr_self _ _ hb.1 hb.2]
theorem num_wf (m i : Nat) : 0 ≤ (numB m 4).getD i 0 ∧ (numB m 4).getD i 0 < 256 := byte_getD _ (byteOk_numB m 4) i
theorem atOf_lo (base : List Int) (n i : Nat) (h : i < 8) : (atOf base n).getD i 0 = base.getD i 0 := by
  unfold atOf
  rw [List.getD_eq_getElem?_getD, List.getElem?_map, List.getElem?_range (by omega)]
  simp [atF, h]
theorem atOf_hi (base : List Int) (n i : Nat) (h : i < 4) : (atOf base n).getD (8 + i) 0 = xr (base.getD (8 + i) 0) ((numB n 4).getD i 0) := by
  unfold atOf
  rw [List.getD_eq_getElem?_getD, List.getElem?_map, List.getElem?_range (by omega)]
  show atF base n (8 + i) = _
  unfold atF
  rw [if_neg (by omega), Nat.add_sub_cancel_left]
theorem atOf_take (base : List Int) (n : Nat) (h : base.length = 12) : (atOf base n).take 8 = base.take 8 := by
  apply List.ext_getElem?
  intro i
  rw [List.getElem?_take, List.getElem?_take]
  by_cases hi : i < 8
  · rw [if_pos hi, if_pos hi]
    have h1 := atOf_lo base n i hi
    rw [List.getD_eq_getElem?_getD, List.getD_eq_getElem?_getD, List.getElem?_eq_getElem (by rw [atOf_length]; omega), List.getElem?_eq_getElem (by omega)] at h1
    rw [List.getElem?_eq_getElem (by rw [atOf_length]; omega), List.getElem?_eq_getElem (by omega)]
    exact congrArg some h1
  · rw [if_neg hi, if_neg hi]
theorem atOf_diff (base : List Int) (n i : Nat) (h : i < 4) (o : byteOk base = true) : xr ((atOf base n).getD (8 + i) 0) (base.getD (8 + i) 0) = (numB n 4).getD i 0 := by
  rw [atOf_hi _ _ _ h, xr_0 _ _ (byte_getD base o _) (num_wf n i)]
theorem atOf_back (base : List Int) (n : Nat) (h : base.length = 12) (o : byteOk base = true) : atOf (atOf base n) n = base := by
  apply List.ext_getElem?
  intro i
  unfold atOf
  rw [List.getElem?_map]
  by_cases hi : i < 12
  · rw [List.getElem?_range hi, List.getElem?_eq_getElem (by omega)]
    simp only [Option.map_some]
    refine congrArg some ?_
    have eb : base.getD i 0 = base[i] := by rw [List.getD_eq_getElem?_getD, List.getElem?_eq_getElem (by omega)]; rfl
    rw [← eb]
    show atF (atOf base n) n i = _
    unfold atF
    by_cases h8 : i < 8
    · rw [if_pos h8, atOf_lo _ _ _ h8]
    · rw [if_neg h8]
      obtain ⟨j, rfl⟩ : ∃ j, i = 8 + j := ⟨i - 8, by omega⟩
      rw [Nat.add_sub_cancel_left, atOf_hi _ _ _ (by omega), xr_assoc, xr_comm ((numB n 4).getD j 0), xr_comm (base.getD (8 + j) 0)]
      have hw := num_wf n j
      have hb := byte_getD base o (8 + j)
      rw [show xr (xr ((numB n 4).getD j 0) ((numB n 4).getD j 0)) (base.getD (8 + j) 0) = xr ((numB n 4).getD j 0) (xr ((numB n 4).getD j 0) (base.getD (8 + j) 0)) from xr_assoc _ _ _, xr_self _ _ hb.1 hb.2]
  · rw [List.getElem?_eq_none (by simp; omega), List.getElem?_eq_none (by omega)]
    rfl
/-- The number that four bytes tell. -/
theorem num_four (a : Nat) (h : a < 4294967296) : 256 * (256 * (256 * ((numB a 4).getD 0 0) + (numB a 4).getD 1 0) + (numB a 4).getD 2 0) + (numB a 4).getD 3 0 = (a : Int) := by
  rw [rat_num a 0 (by omega), rat_num a 1 (by omega), rat_num a 2 (by omega), rat_num a 3 (by omega), show (256 : Nat) ^ (3 - 0) = 16777216 from rfl, show (256 : Nat) ^ (3 - 1) = 65536 from rfl, show (256 : Nat) ^ (3 - 2) = 256 from rfl, show (256 : Nat) ^ (3 - 3) = 1 from rfl]
  omega
/-- What is told behind so many bytes. -/
def toldN (a : Nat) : Nat → Int
  | 0 => 0
  | i + 1 => 256 * toldN a i + (numB a 4).getD i 0
theorem toldN_wf (a i : Nat) (h : i ≤ 4) : 0 ≤ toldN a i ∧ toldN a i < 4294967296 := by
  have w0 := num_wf a 0
  have w1 := num_wf a 1
  have w2 := num_wf a 2
  have w3 := num_wf a 3
  match i, h with
  | 0, _ => simp only [toldN]; omega
  | 1, _ => simp only [toldN]; omega
  | 2, _ => simp only [toldN]; omega
  | 3, _ => simp only [toldN]; omega
  | 4, _ => simp only [toldN]; omega
theorem toldN_four (a : Nat) (h : a < 4294967296) : toldN a 4 = (a : Int) := by
  have := num_four a h
  simp only [toldN]
  omega
theorem nonces_l0 (base : List Int) (a b : Nat) (ha : a < 4294967296) (hb : b < 4294967296) (h : base.length = 12) (o : byteOk base = true) : ∀ (d i : Nat), i + d = 4 → EvS (fun k => pyxlaw06_SealNonces.l0 k base (a : Int) (b : Int) true (atOf base a) (atOf base b) (toldN a i) ((8 + i : Nat) : Int)) true
  | 0, i, hi => EvS.now fun k => by
    obtain rfl : i = 4 := by omega
    have w : wrap64 (a : Int) = (a : Int) := by unfold wrap64; omega
    have ea : seal_At.f (atOf base a) (a : Int) = some (base, 0) := by
      unfold seal_At.f atR
      rw [if_pos ⟨atOf_length _ _, by omega, by omega⟩, Int.toNat_natCast, atOf_back base a h o]
    rw [pyxlaw06_SealNonces.l0, if_neg (by omega), w, ea, Option.bind_some, if_pos rfl, if_pos (toldN_four a ha), same_some _ _ (byteOk_atOf _ _ o) (byteOk_atOf _ _ o), Option.bind_some]
    have e : ((atOf base a == atOf base b) == ((a : Int) == (b : Int))) = true := by
      by_cases hab : a = b
      · subst hab
        simp
      · have h1 : ¬ atOf base a = atOf base b := by
          intro e
          apply hab
          have := toldN_four a ha
          have h2 := toldN_four b hb
          have h3 : ∀ i, i < 4 → (numB a 4).getD i 0 = (numB b 4).getD i 0 := fun i hi => by rw [← atOf_diff base a i hi o, ← atOf_diff base b i hi o, e]
          have e0 := h3 0 (by omega)
          have e1 := h3 1 (by omega)
          have e2 := h3 2 (by omega)
          have e3 := h3 3 (by omega)
          simp only [toldN] at this h2
          omega
        have h2 : ¬ (a : Int) = (b : Int) := by omega
        rw [beq_eq_false_iff_ne.2 h1, beq_eq_false_iff_ne.2 h2]
        rfl
    rw [if_pos e, if_pos rfl, same_self _ o, Option.bind_some]
  | d + 1, i, hi => by
    have g1 : ((8 + i : Nat) : Int) < ((12 : Nat) : Int) := by omega
    have g0 : (0 : Int) ≤ ((8 + i : Nat) : Int) := by omega
    have g2 : ((8 + i : Nat) : Int) < 12 := by omega
    have w1 := toldN_wf a i (by omega)
    have w2 := num_wf a i
    have w3 := toldN_wf a (i + 1) (by omega)
    have e1 : wrap64 ((8 + i : Nat) + 1 : Int) = ((8 + (i + 1) : Nat) : Int) := by unfold wrap64; omega
    have e2 : wrap64 ((wrap64 (256 * toldN a i)) + (wrap64 ((numB a 4).getD i 0))) = toldN a (i + 1) := by
      have : toldN a (i + 1) = 256 * toldN a i + (numB a 4).getD i 0 := rfl
      unfold wrap64
      omega
    refine EvS.step (h := fun k => pyxlaw06_SealNonces.l0 k base (a : Int) (b : Int) true (atOf base a) (atOf base b) (toldN a (i + 1)) ((8 + (i + 1) : Nat) : Int)) (fun k => ?_) (nonces_l0 base a b ha hb h o d (i + 1) (by omega))
    rw [pyxlaw06_SealNonces.l0, if_pos g2, if_pos g0, atOf_length, if_pos g1, h, if_pos g1, rd_nat, rd_nat, xr_bits, atOf_diff base a i (by omega) o, e2, e1]
theorem SealNonces (l0 : List Int) (a b : Int) (o0 : byteOk l0 = true) (ha0 : 0 ≤ a) (ha : a < 4294967296) (hb0 : 0 ≤ b) (hb : b < 4294967296) : ∃ k, pyxlaw06_SealNonces.f k l0 a b = some true := by
  obtain ⟨m, rfl⟩ := Int.eq_ofNat_of_zero_le ha0
  obtain ⟨n, rfl⟩ := Int.eq_ofNat_of_zero_le hb0
  by_cases h12 : l0.length = 12
  case neg =>
    refine ⟨0, ?_⟩
    unfold pyxlaw06_SealNonces.f pyxlaw06_shown.f
    rw [Option.bind_some, if_neg (by omega)]
  obtain ⟨k, hk⟩ := nonces_l0 l0 m n (by omega) (by omega) h12 o0 4 0 (by omega)
  have hk := hk k (Nat.le_refl _)
  refine ⟨k + 1, ?_⟩
  have w1 : wrap64 (m : Int) = (m : Int) := by unfold wrap64; omega
  have w2 : wrap64 (n : Int) = (n : Int) := by unfold wrap64; omega
  have e1 : seal_At.f l0 (m : Int) = some (atOf l0 m, 0) := by
    unfold seal_At.f atR
    rw [if_pos ⟨h12, by omega, by omega⟩, Int.toNat_natCast]
  have e2 : seal_At.f l0 (n : Int) = some (atOf l0 n, 0) := by
    unfold seal_At.f atR
    rw [if_pos ⟨h12, by omega, by omega⟩, Int.toNat_natCast]
  unfold pyxlaw06_SealNonces.f pyxlaw06_shown.f
  rw [Option.bind_some, if_pos (by omega), w1, w2, e1, Option.bind_some, e2, Option.bind_some, if_pos rfl, if_pos rfl]
  dsimp only
  rw [atOf_length, if_pos (show ((12 : Nat) : Int) = 12 from rfl), if_pos (by decide), if_pos (by omega), atOf_take _ _ h12, same_self _ (byteOk_take _ _ o0), Option.bind_some, pyxlaw06_SealNonces.j0, if_neg (by decide)]
  exact hk
end Go.Proofs.Ytifpdpfjhjoieaa.Pure
