/-
  The plain law of KdfRounds: the bytes of one round are a tag's; with each round more another tag, of the one ahead, is laid over them.
-/
import Derived.Test.YtpdgeanicciaiaaPKdfRoundsy1
namespace Go.Proofs.Ytpdgeanicciaiaa.Pure
set_option linter.unusedSimpArgs false
open Go.RowKit Go.Proofs.Ytpdgeanicciaiaa Go.Proofs.Ytpdgeanicciaiaa.P Go.Proofs.YtpdgeanicciaiaaW.PrintWords Go.Proofs.YtpdgeanicciaiaaW.PrintLast

theorem passOf_one (word salt : List Int) (i : Nat) : passOf word salt (i + 1) 32 = passS word (macSum word (salt ++ num4 1)) i := by
  have h := passB_length word salt (i + 1) 0
  unfold passOf firstOf
  rw [show (32 + 31) / 32 = 1 from rfl, outTo, outTo, List.nil_append, List.take_of_length_le (by omega)]
  rfl
section
variable (word salt : List Int) (t : Nat) (hw : byteOk word = true) (hsa : byteOk salt = true) (lw : word.length ≤ 100) (ls : salt.length ≤ 100) (ht : t ≤ 5)
theorem rounds_l1 (s u : List Int) (hs : s.length = 32) (hu : u.length = 32) (x11 : Int) (r : Bool)
    (H : EvS (fun k => pyxlaw04_KdfRounds.l0 k word salt true (t : Int) u (xorRow s u) (wrap64 (x11 + 1))) r) :
    ∀ (d q : Nat), q + d = 32 → EvS (fun k => pyxlaw04_KdfRounds.l1 k word salt true (t : Int) u (xorUpto s u q) x11 (q : Int)) r
  | 0, q, hq => EvS.step (fun k => by
    rw [pyxlaw04_KdfRounds.l1, if_neg (by omega), show q = s.length by omega]
    rfl) H
  | d + 1, q, hq => EvS.step (fun k => by
    have e2 : wrap64 ((q : Int) + 1) = ((q + 1 : Nat) : Int) := by unfold wrap64; omega
    rw [pyxlaw04_KdfRounds.l1, if_pos (by omega), if_pos (by omega), if_pos (by rw [xorUpto_length]; omega), if_pos (by omega), Int.toNat_natCast, e2]
    have h1 : rd (xorUpto s u q) (q : Int) = s.getD q 0 := by unfold rd; rw [Int.toNat_natCast]; exact xorUpto_at s u q (by omega)
    have h2 : rd u (q : Int) = u.getD q 0 := by unfold rd; rw [Int.toNat_natCast]
    rw [h1, h2, xorUpto_succ s u q (by omega)]) (rounds_l1 s u hs hu x11 r H d (q + 1) (by omega))
include hw hsa lw ls ht
theorem rounds_l0 : ∀ (d i : Nat), i + d = t → EvS (fun k => pyxlaw04_KdfRounds.l0 k word salt true (t : Int) (passU word (macSum word (salt ++ num4 1)) i) (passS word (macSum word (salt ++ num4 1)) i) ((i + 1 : Nat) : Int)) true
  | 0, i, h => EvS.now fun k => by rw [pyxlaw04_KdfRounds.l0, if_neg (by omega)]
  | d + 1, i, h => by
    have hu := macSum_length word (salt ++ num4 1)
    have hou := byteOk_macSum word (salt ++ num4 1)
    have hp : kdf_Pass.f word salt ((i + 1 : Nat) : Int) 32 = some (passS word (macSum word (salt ++ num4 1)) i, 0) := by
      unfold kdf_Pass.f
      rw [if_neg (by omega), if_neg (by omega), if_neg (by omega), if_neg (by omega), if_pos ⟨hw, hsa, by omega, by omega⟩, Int.toNat_natCast, show (32 : Int).toNat = 32 from rfl, passOf_one]
    have hsl := passS_length word (macSum word (salt ++ num4 1)) hu i
    have hso := byteOk_passS word (macSum word (salt ++ num4 1)) hou i
    have hul := passU_length word (macSum word (salt ++ num4 1)) hu (i + 1)
    have hup := passU_length word (macSum word (salt ++ num4 1)) hu i
    have hs := refSum_some word _ hw (byteOk_passU word (macSum word (salt ++ num4 1)) hou i) (by omega) (by omega)
    have hsu : macSum word (passU word (macSum word (salt ++ num4 1)) i) = passU word (macSum word (salt ++ num4 1)) (i + 1) := by rw [passU]
    have hss : passS word (macSum word (salt ++ num4 1)) (i + 1) = xorRow (passS word (macSum word (salt ++ num4 1)) i) (passU word (macSum word (salt ++ num4 1)) (i + 1)) := by rw [passS]
    have ih := rounds_l0 d (i + 1) (by omega)
    rw [hsu] at hs
    rw [hss] at ih
    generalize macSum word (salt ++ num4 1) = u0 at *
    have e : wrap64 (((i + 1 : Nat) : Int) + 1) = ((i + 1 + 1 : Nat) : Int) := by unfold wrap64; omega
    have hsame : pyxref01_Same.f (passS word u0 i) (passS word u0 i) = some true := by unfold pyxref01_Same.f; rw [if_pos ⟨hso, hso⟩, beq_self_eq_true]
    refine EvS.step (h := fun k => pyxlaw04_KdfRounds.j2 k word salt true (t : Int) (passU word u0 i) (passS word u0 i) ((i + 1 : Nat) : Int) false) (fun k => ?_) ?_
    · rw [pyxlaw04_KdfRounds.l0, if_pos (by omega), hp, Option.bind_some, if_pos rfl, hsame, Option.bind_some]
      rfl
    refine EvS.step (h := fun k => pyxlaw04_KdfRounds.l1 k word salt true (t : Int) (passU word u0 (i + 1)) (xorUpto (passS word u0 i) (passU word u0 (i + 1)) 0) ((i + 1 : Nat) : Int) ((0 : Nat) : Int)) (fun k => ?_) ?_
    · rw [pyxlaw04_KdfRounds.j2, if_neg (by simp), hs, Option.bind_some, xorUpto_zero]
      rfl
    · exact rounds_l1 word salt t _ _ hsl hul _ true (by rw [e]; exact ih) 32 0 (by omega)
end
theorem tmod_small5 (x : Nat) (hx : x < 256) : wrap64 (1 + Int.tmod (wrap64 (x : Int)) 5) = ((1 + x % 5 : Nat) : Int) := by
  have h1 : wrap64 (x : Int) = (x : Int) := by unfold wrap64; omega
  have h2 : Int.tmod (x : Int) 5 = ((x % 5 : Nat) : Int) := (Int.ofNat_tmod x 5).symm
  rw [h1, h2]
  clear h1 h2
  unfold wrap64
  omega
theorem KdfRounds : pyxlaw04_KdfRounds.Pure := by
  intro l0 l1 a2 h1 h2 hw0 h3 h4 hw1 hw2
  have o0 := byteOk_of_wf l0 hw0
  have o1 := byteOk_of_wf l1 hw1
  have b2 := Go.bounds_u8 hw2
  obtain ⟨x, rfl⟩ := Int.eq_ofNat_of_zero_le b2.1
  have hx : x < 256 := by omega
  have up' : pyxlaw04_KdfRounds.j0 1 l0 l1 (x : Int) true true = some true := by rw [pyxlaw04_KdfRounds.j0, if_pos rfl]
  by_cases c0 : 100 < l0.length
  · refine ⟨1, ?_⟩
    unfold pyxlaw04_KdfRounds.f pyxlaw04_shown.f
    rw [Option.bind_some, if_pos (by omega), up']
  by_cases c1 : 100 < l1.length
  · refine ⟨1, ?_⟩
    unfold pyxlaw04_KdfRounds.f pyxlaw04_shown.f
    rw [Option.bind_some, if_neg (by omega), decide_eq_true (show (l1.length : Int) > 100 by omega), up']
  have hb : 1 + x % 5 ≤ 5 := by omega
  obtain ⟨k0, hk⟩ := rounds_l0 l0 l1 (1 + x % 5) o0 o1 (by omega) (by omega) hb (1 + x % 5) 0 (by omega)
  refine ⟨k0 + 1, ?_⟩
  have hl : (l1 ++ num4 1).length = l1.length + 4 := by rw [List.length_append]; rfl
  have hs := refSum_some l0 (l1 ++ num4 1) o0 ((byteOk_append _ _).2 ⟨o1, byteOk_num4 1⟩) (by omega) (by omega)
  have hml := macSum_length l0 (l1 ++ num4 1)
  have n0 : ([] : List Int).length = 0 := rfl
  have n1 : ([0, 0, 0, 1] : List Int).length = 4 := rfl
  unfold pyxlaw04_KdfRounds.f pyxlaw04_shown.f
  rw [Option.bind_some, if_neg (by omega), decide_eq_false (show ¬ (l1.length : Int) > 100 by omega), pyxlaw04_KdfRounds.j0, if_neg (by simp), Option.bind_some, if_pos (by omega), Option.bind_some, Option.bind_some, List.nil_append, if_pos (by omega),
    show ([0, 0, 0, 1] : List Int) = num4 1 from rfl, hs, Option.bind_some, Option.bind_some, if_pos (by omega), List.nil_append, tmod_small5 x hx]
  have := hk k0 (Nat.le_refl _)
  rw [passU, passS] at this
  exact this
end Go.Proofs.Ytpdgeanicciaiaa.Pure
