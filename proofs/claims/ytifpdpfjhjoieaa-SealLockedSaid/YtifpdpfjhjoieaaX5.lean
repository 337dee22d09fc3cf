/-
 The lower layers, walked and in closed forms, part 5: AesR.
-/
import Derived.Test.YtifpdpfjhjoieaaX0
import Derived.Test.YtifpdpfjhjoieaaX1
import Derived.Test.YtifpdpfjhjoieaaX4
/-! AesR -/
namespace Go.Proofs.Ytifpdpfjhjoieaa
set_option linter.unusedVariables false
set_option linter.unusedSimpArgs false
open Go.RowKit Go.Proofs.YtifpdpfjhjoieaaW.PrintWords Go.Proofs.YtifpdpfjhjoieaaW.PrintLast
/-- The first so many of a row's values. -/
def upTo (f : Nat → Int) (n : Nat) : List Int := (List.range n).map f
theorem upTo_length (f : Nat → Int) (n : Nat) : (upTo f n).length = n := by simp [upTo]
theorem upTo_succ (f : Nat → Int) (n : Nat) : upTo f n ++ [f n] = upTo f (n + 1) := by simp [upTo, List.range_succ]
theorem rd_upTo (f : Nat → Int) (n i : Nat) (h : i < n) : rd (upTo f n) (i : Int) = f i := by
 unfold rd upTo
 rw [Int.toNat_natCast, List.getD_eq_getElem?_getD, List.getElem?_map, List.getElem?_range h]
 rfl
theorem rd_box (x : Int) (h0 : 0 ≤ x) (h1 : x < 256) : rd boxT x = bx x := rfl
theorem keyF_wf (key : List Int) (h : byteOk key = true) (m : Nat) : 0 ≤ keyF key m ∧ keyF key m < 256 := byte_getD _ (byteOk_keyT key h _) _
theorem keyF_box (key : List Int) (i k : Nat) (h0 : i % 4 = 0) (h4 : 4 ≤ i) (hk : k < 4) : keyF key (4 * i + k) = xr (keyF key (4 * i - 16 + k)) (if k = 0 then xr (bx (keyF key (4 * i - 4 + (k + 1) % 4))) (rconT (i / 4 - 1)) else bx (keyF key (4 * i - 4 + (k + 1) % 4))) := by
 obtain ⟨n, rfl⟩ : ∃ n, i = 4 * (n + 1) := ⟨i / 4 - 1, by omega⟩
 rw [show 4 * (4 * (n + 1)) + k = 16 * (n + 1) + k from by omega, keyF_next _ _ _ (by omega), show 4 * (4 * (n + 1)) - 16 + k = 16 * n + k from by omega, show 4 * (4 * (n + 1)) - 4 + (k + 1) % 4 = 16 * n + (12 + (k + 1) % 4) from by omega,
  keyF_at _ _ _ (by omega), keyF_at _ _ _ (by omega), show 4 * (n + 1) / 4 - 1 = n from by omega]
 match k, hk with
 | 0, _ => rw [xr_comm]; rfl
 | 1, _ => rw [xr_comm]; rfl
 | 2, _ => rw [xr_comm]; rfl
 | 3, _ => rw [xr_comm]; rfl
theorem keyF_plain (key : List Int) (i k : Nat) (h0 : i % 4 ≠ 0) (h4 : 4 ≤ i) (hk : k < 4) : keyF key (4 * i + k) = xr (keyF key (4 * i - 16 + k)) (keyF key (4 * i - 4 + k)) := by
 obtain ⟨n, j, rfl, hj⟩ : ∃ n j, i = 4 * (n + 1) + (j + 1) ∧ j < 3 := ⟨i / 4 - 1, i % 4 - 1, by omega, by omega⟩
 rw [show 4 * (4 * (n + 1) + (j + 1)) + k = 16 * (n + 1) + ((4 * j + k) + 4) from by omega, keyF_next _ _ _ (by omega), show 4 * (4 * (n + 1) + (j + 1)) - 16 + k = 16 * n + ((4 * j + k) + 4) from by omega,
  show 4 * (4 * (n + 1) + (j + 1)) - 4 + k = 16 * (n + 1) + (4 * j + k) from by omega, keyF_at _ _ _ (by omega), keyF_next _ _ _ (by omega), xr_comm]
 rfl
theorem wd1 (i k : Nat) (hi : 4 ≤ i) (h : i < 44) (hk : k < 4) : wrap64 ((wrap64 ((wrap64 (4 * (i : Int))) - 4)) + (k : Int)) = ((4 * i - 4 + k : Nat) : Int) := by unfold wrap64; omega
theorem wd2 (i k : Nat) (hi : 4 ≤ i) (h : i < 44) (hk : k < 4) : wrap64 ((wrap64 ((wrap64 (4 * (i : Int))) - 16)) + (k : Int)) = ((4 * i - 16 + k : Nat) : Int) := by unfold wrap64; omega
theorem wd4 (k : Nat) (hk : k < 1000000) : wrap64 ((k : Int) + 1) = ((k + 1 : Nat) : Int) := by unfold wrap64; omega
theorem tmod4 (i : Nat) : Int.tmod (i : Int) 4 = ((i % 4 : Nat) : Int) := rfl
theorem wrap_byte (x : Int) (h0 : 0 ≤ x) (h1 : x < 256) : wrap64 x = x := by unfold wrap64; omega
theorem xr_bits (a b : Int) : Go.bits .xor .u8 a b = xr a b := rfl
theorem rcon_zero : rconT ((4 - 1) / 4) = 1 := rfl
theorem rconT_succ (n : Nat) : rconT (n + 1) = m2 (rconT n) := rfl
theorem rcon_next (i : Nat) (h0 : i % 4 = 0) (hi : 4 ≤ i) : m2 (rconT ((i - 1) / 4)) = rconT ((i + 1 - 1) / 4) := by rw [show (i + 1 - 1) / 4 = (i - 1) / 4 + 1 from by omega, rconT_succ]
theorem rcon_same (i : Nat) (h0 : i % 4 ≠ 0) : rconT ((i - 1) / 4) = rconT ((i + 1 - 1) / 4) := by rw [show (i + 1 - 1) / 4 = (i - 1) / 4 from by omega]
section
attribute [local irreducible] rconT m2 xr bx keyF
variable (key : List Int) (hkey : byteOk key = true)
include hkey
theorem rkeys_l1 (i : Nat) (hi : 4 ≤ i) (h : i < 44) (r : List Int) (H : EvS (fun k => C.pyxref05_keys.l0 k boxT (upTo (keyF key) (4 * (i + 1))) (rconT ((i + 1 - 1) / 4)) ((i + 1 : Nat) : Int)) r) :
  ∀ (d j : Nat), j + d = 4 → EvS (fun k => C.pyxref05_keys.l1 k boxT (upTo (keyF key) (4 * i + j)) (rconT ((i - 1) / 4)) (i : Int) (j : Int)) r
 | 0, j, hj => by
  obtain rfl : j = 4 := by omega
  by_cases h0 : i % 4 = 0
  ·refine EvS.step (h := fun k => (C.pyxref05_Mul.f k (rconT ((i - 1) / 4)) 2).bind fun t128 => (C.pyxref05_keys.l0 k boxT (upTo (keyF key) (4 * i + 4)) t128 (wrap64 ((i : Int) + 1)))) (fun k => ?_) ?_
   ·rw [C.pyxref05_keys.l1, if_neg (by omega), tmod4, if_pos (by omega)]
   ·obtain ⟨r0, r1⟩ := rconT_wf ((i - 1) / 4)
    refine EvS.bind_ (rmul2 _ r0 r1) ?_
    rw [wd4 i (by omega), show 4 * i + 4 = 4 * (i + 1) from by omega, rcon_next i h0 hi]
    exact H
  ·refine EvS.step (h := fun k => C.pyxref05_keys.l0 k boxT (upTo (keyF key) (4 * i + 4)) (rconT ((i - 1) / 4)) (wrap64 ((i : Int) + 1))) (fun k => ?_) ?_
   ·rw [C.pyxref05_keys.l1, if_neg (by omega), tmod4, if_neg (by omega)]
   ·rw [wd4 i (by omega), show 4 * i + 4 = 4 * (i + 1) from by omega, rcon_same i h0]
    exact H
 | d + 1, j, hj => by
  refine EvS.step (h := fun k => C.pyxref05_keys.l1 k boxT (upTo (keyF key) (4 * i + (j + 1))) (rconT ((i - 1) / 4)) (i : Int) ((j + 1 : Nat) : Int)) (fun k => ?_) (rkeys_l1 i hi h r H d (j + 1) (by omega))
  rw [C.pyxref05_keys.l1, if_pos (by omega), wd1 i j hi h (by omega), wd2 i j hi h (by omega), wd4 j (by omega), upTo_length, if_pos (by omega), if_pos (by omega), tmod4]
  by_cases h0 : i % 4 = 0
  ·have g1 : (0 : Int) ≤ ((4 * i - 4 + (j + 1) % 4 : Nat) : Int) := by omega
   have g2 : ((4 * i - 4 + (j + 1) % 4 : Nat) : Int) < ((4 * i + j : Nat) : Int) := by omega
   have g3 : (0 : Int) ≤ ((4 * i - 16 + j : Nat) : Int) := by omega
   have g4 : ((4 * i - 16 + j : Nat) : Int) < ((4 * i + j : Nat) : Int) := by omega
   have g5 : 4 * i + j < 140737488355328 := by omega
   have g6 : ((i % 4 : Nat) : Int) = 0 := by omega
   have hrc : i / 4 - 1 = (i - 1) / 4 := by omega
   have g7 : 4 * i - 4 + (j + 1) % 4 < 4 * i + j := by omega
   have g8 : 4 * i - 16 + j < 4 * i + j := by omega
   have g9 : j < 4 := by omega
   have g10 : (j + 1) % 4 < 4 := by omega
   obtain ⟨b0, b1⟩ := keyF_wf key hkey (4 * i - 4 + (j + 1) % 4)
   have hb := keyF_box key i j h0 hi g9
   rw [hrc] at hb
   have hw : wrap64 ((wrap64 ((wrap64 (4 * (i : Int))) - 4)) + Int.tmod (((j + 1 : Nat) : Int)) 4) = ((4 * i - 4 + (j + 1) % 4 : Nat) : Int) := wd1 i ((j + 1) % 4) hi h g10
   rw [if_pos g6, hw, if_pos g1, if_pos g2, rd_upTo _ _ _ g7, wrap_byte _ b0 b1, boxT_length, if_pos b0, if_pos (show keyF key (4 * i - 4 + (j + 1) % 4) < ((256 : Nat) : Int) from b1)]
   by_cases j0 : j = 0
   ·subst j0
    rw [if_pos rfl] at hb
    rw [if_pos (show ((0 : Nat) : Int) = 0 from rfl), if_pos g3, if_pos g4, if_pos g5, rd_upTo _ _ _ g8, rd_box _ b0 b1, xr_bits, xr_bits, ← hb, upTo_succ]
   ·rw [if_neg j0] at hb
    have j1 : ¬ ((j : Int) = 0) := fun e => j0 (Int.ofNat.inj e)
    rw [if_neg j1, if_pos g3, if_pos g4, if_pos g5, rd_upTo _ _ _ g8, rd_box _ b0 b1, xr_bits, ← hb, upTo_succ]
    rfl
  ·have hb := keyF_plain key i j h0 hi (by omega)
   rw [if_neg (by omega), if_pos (by omega), if_pos (by omega), if_pos (by omega), rd_upTo _ _ _ (by omega), rd_upTo _ _ _ (by omega), xr_bits, ← hb, upTo_succ]
   rfl
theorem rkeys_l0 : ∀ (d i : Nat), 4 ≤ i → i + d = 44 → EvS (fun k => C.pyxref05_keys.l0 k boxT (upTo (keyF key) (4 * i)) (rconT ((i - 1) / 4)) (i : Int)) (keysV key)
 | 0, i, _, h => EvS.now fun k => by
  obtain rfl : i = 44 := by omega
  rw [C.pyxref05_keys.l0, if_neg (by omega)]
  rfl
 | d + 1, i, hi, h => by
  refine EvS.step (h := fun k => C.pyxref05_keys.l1 k boxT (upTo (keyF key) (4 * i + 0)) (rconT ((i - 1) / 4)) (i : Int) ((0 : Nat) : Int)) (fun k => ?_) (rkeys_l1 key hkey i hi (by omega) _ (rkeys_l0 d (i + 1) (by omega) (by omega)) 4 0 (by omega))
  rw [C.pyxref05_keys.l0, if_pos (by omega)]
  rfl
theorem rkeys (h16 : key.length = 16) : EvS (fun k => C.pyxref05_keys.f k key boxT) (keysV key) := by
 have h0 : upTo (keyF key) (4 * 4) = key := by
  apply List.ext_getElem?
  intro i
  unfold upTo
  rw [List.getElem?_map]
  by_cases hi : i < 16
  ·rw [List.getElem?_range hi, List.getElem?_eq_getElem (by omega)]
   simp only [Option.map_some]
   have := keyF_at key 0 i hi
   rw [Nat.mul_zero, Nat.zero_add] at this
   rw [this]
   simp [keyT, h16, hi]
  ·rw [List.getElem?_eq_none (by simp; omega), List.getElem?_eq_none (by omega)]
   rfl
 have h1 := rkeys_l0 key hkey 40 4 (by omega) (by omega)
 rw [h0] at h1
 refine EvS.congr (fun k => ?_) h1
 unfold C.pyxref05_keys.f
 rw [Option.bind_some, List.nil_append, if_pos (by simp; omega), show rconT ((4 - 1) / 4) = 1 from rcon_zero]
 rfl
end
end Go.Proofs.Ytifpdpfjhjoieaa
