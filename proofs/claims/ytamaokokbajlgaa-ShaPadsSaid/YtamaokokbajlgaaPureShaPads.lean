/-
  The plain law of ShaPads: what stands behind so many bytes, read back.
-/
import Derived.Test.YtamaokokbajlgaaPShaPadsy1
namespace Go.Proofs.Ytamaokokbajlgaa.Pure
open Go.RowKit Go.Proofs.Ytamaokokbajlgaa Go.Proofs.Ytamaokokbajlgaa.P Go.Proofs.YtamaokokbajlgaaW.PrintWords Go.Proofs.YtamaokokbajlgaaW.PrintLast

theorem rd_pad (n : Nat) (i : Nat) : rd (ofB (Sha.pad n)) (i : Int) = (((Sha.pad n).getD i 0 : Nat) : Int) := by
  unfold rd ofB
  rw [Int.toNat_natCast, List.getD_eq_getElem?_getD, List.getD_eq_getElem?_getD, List.getElem?_map]
  cases (Sha.pad n)[i]? <;> rfl
theorem pad_zero (n i : Nat) (h0 : 1 ≤ i) (h1 : i < Sha.padLen n) : (Sha.pad n).getD i 0 = 0 := by
  obtain ⟨j, rfl⟩ : ∃ j, i = j + 1 := ⟨i - 1, by omega⟩
  unfold Sha.pad
  rw [List.getD_cons_succ, List.getD_eq_getElem?_getD, List.getElem?_append_left (by rw [List.length_replicate]; omega), List.getElem?_replicate]
  split <;> rfl
theorem pad_tail (n s : Nat) (h1 : s < 8) : (Sha.pad n).getD (Sha.padLen n + 7 - s) 0 = n * 8 / 2 ^ (8 * s) % 256 := by
  have hp := (Sha.padLen_le n).1
  obtain ⟨j, hj⟩ : ∃ j, Sha.padLen n + 7 - s = j + 1 := ⟨Sha.padLen n + 7 - s - 1, by omega⟩
  rw [hj]
  unfold Sha.pad
  rw [List.getD_cons_succ, List.getD_eq_getElem?_getD, List.getElem?_append_right (by rw [List.length_replicate]; omega), List.length_replicate]
  rw [show j - (Sha.padLen n - 1) = 7 - s by omega]
  rcases s with _ | _ | _ | _ | _ | _ | _ | _ | s
  all_goals first | (exfalso; omega) | simp [Sha.be]

theorem noughts (n : Nat) (hn : n ≤ 1125899906842624) : ∀ d x : Nat, x + d = Sha.padLen n → 1 ≤ x → pyxlaw02_ShaPads.l1 (d + 1) n true (ofB (Sha.pad n)) ((n * 8 : Nat) : Int) (x : Int) = some true
  | 0, x, hx, _ => by
    have hp := Sha.pad_length n
    have hq := Sha.padLen_le n
    rw [pyxlaw02_ShaPads.l1, ofB_length, hp, show wrap64 (((Sha.padLen n + 8 : Nat) : Int) - 8) = ((Sha.padLen n : Nat) : Int) by unfold wrap64; omega, if_neg (by omega), if_pos rfl]
    rw [show wrap64 (8 * (n : Int)) = ((n * 8 : Nat) : Int) by unfold wrap64; omega]
    simp
  | d + 1, x, hx, h1 => by
    have hp := Sha.pad_length n
    have hq := Sha.padLen_le n
    rw [pyxlaw02_ShaPads.l1, ofB_length, hp, show wrap64 (((Sha.padLen n + 8 : Nat) : Int) - 8) = ((Sha.padLen n : Nat) : Int) by unfold wrap64; omega, if_pos (by omega), if_pos (by omega), if_pos (by omega), rd_pad, pad_zero n x h1 (by omega), if_pos (show ((0 : Nat) : Int) = 0 from rfl),
      show wrap64 ((x : Int) + 1) = ((x + 1 : Nat) : Int) by unfold wrap64; omega]
    exact noughts n hn d (x + 1) (by omega) (by omega)

theorem half_pow (m s : Nat) : m / 2 ^ (8 * (s + 1)) = m / 2 ^ (8 * s) / 256 := by
  rw [Nat.div_div_eq_div_mul, show 8 * (s + 1) = 8 * s + 8 by omega, Nat.pow_add]
theorem back_step (q : Nat) (h : q ≤ 9007199254740992) : wrap64 (wrap64 (256 * ((q / 256 : Nat) : Int)) + wrap64 ((q % 256 : Nat) : Int)) = (q : Int) := by unfold wrap64; omega
theorem bit_step (n s k : Nat) (hn : n ≤ 1125899906842624) (hs : s < 8) (ih : pyxlaw02_ShaPads.l0 k n true (ofB (Sha.pad n)) ((n * 8 / 2 ^ (8 * s) : Nat) : Int) ((Sha.padLen n + 8 - s : Nat) : Int) = some true) :
    pyxlaw02_ShaPads.l0 (k + 1) n true (ofB (Sha.pad n)) ((n * 8 / 2 ^ (8 * (s + 1)) : Nat) : Int) ((Sha.padLen n + 7 - s : Nat) : Int) = some true := by
  have hp := Sha.pad_length n
  have hq := Sha.padLen_le n
  rw [pyxlaw02_ShaPads.l0, ofB_length, hp, if_pos (by clear ih; omega), if_pos (by clear ih; omega), rd_pad, pad_tail n s hs, half_pow,
    back_step _ (Nat.le_trans (Nat.div_le_self _ _) (by clear ih; omega)),
    show wrap64 (((Sha.padLen n + 7 - s : Nat) : Int) + 1) = ((Sha.padLen n + 8 - s : Nat) : Int) by clear ih; unfold wrap64; omega]
  exact ih
theorem readBits (n : Nat) (hn : n ≤ 1125899906842624) (s : Nat) (hs : s ≤ 8) : pyxlaw02_ShaPads.l0 (Sha.padLen n + 1 + s) n true (ofB (Sha.pad n)) ((n * 8 / 2 ^ (8 * s) : Nat) : Int) ((Sha.padLen n + 8 - s : Nat) : Int) = some true := by
  induction s with
  | zero =>
    have hp := Sha.pad_length n
    have hq := Sha.padLen_le n
    rw [Nat.mul_zero, Nat.pow_zero, Nat.div_one, Nat.add_zero, Nat.sub_zero, pyxlaw02_ShaPads.l0, ofB_length, hp, if_neg (by omega)]
    have := noughts n hn (Sha.padLen n - 1) 1 (by omega) (by omega)
    rw [show Sha.padLen n - 1 + 1 = Sha.padLen n by omega] at this
    exact this
  | succ s ih =>
    have h := bit_step n s _ hn (by omega) (ih (by omega))
    rw [show Sha.padLen n + 8 - (s + 1) = Sha.padLen n + 7 - s by omega]
    exact h

theorem ShaPads : pyxlaw02_ShaPads.Pure := by
  intro a0 hwf
  unfold pyxlaw02_ShaPads.f pyxlaw02_shown.f sha_Pad.f
  simp only [Option.bind_some]
  by_cases h0 : a0 < 0
  · refine ⟨1, ?_⟩
    rw [if_pos h0, if_pos h0, pyxlaw02_ShaPads.j0]
    simp
  · by_cases h1 : 1125899906842624 < a0
    · refine ⟨1, ?_⟩
      rw [if_neg h0, if_neg h0, if_pos h1, pyxlaw02_ShaPads.j0, if_pos (by simpa using h1)]
      simp
    · obtain ⟨n, rfl⟩ := Int.eq_ofNat_of_zero_le (show 0 ≤ a0 by omega)
      have hn : n ≤ 1125899906842624 := by omega
      have hp := Sha.pad_length n
      have hq := Sha.padLen_le n
      refine ⟨Sha.padLen n + 1 + 8 + 1 + 1, ?_⟩
      rw [if_neg h0, if_neg h0, if_neg h1, Int.toNat_natCast, pyxlaw02_ShaPads.j0, if_neg (by simpa using h1), ofB_length, hp, if_neg (by omega), if_neg (by omega),
        show wrap64 ((n : Int) + ((Sha.padLen n + 8 : Nat) : Int)) = ((n + Sha.padLen n + 8 : Nat) : Int) by unfold wrap64; omega, Int.tmod_eq_emod_of_nonneg (by omega), if_pos (by omega), if_pos (by omega)]
      have r0 : rd (ofB (Sha.pad n)) 0 = 128 := rfl
      rw [r0, pyxlaw02_ShaPads.j1, if_neg (by simp), ofB_length, hp, show wrap64 (((Sha.padLen n + 8 : Nat) : Int) - 8) = ((Sha.padLen n : Nat) : Int) by unfold wrap64; omega]
      have hb := readBits n hn 8 (Nat.le_refl _)
      rw [show n * 8 / 2 ^ (8 * 8) = 0 from Nat.div_eq_of_lt (by omega)] at hb
      exact hb
end Go.Proofs.Ytamaokokbajlgaa.Pure
