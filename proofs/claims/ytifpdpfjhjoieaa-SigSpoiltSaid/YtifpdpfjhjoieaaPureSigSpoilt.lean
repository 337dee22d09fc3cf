/-
  The plain law of SigSpoilt: a signature is right for one row of bytes and one label alone, or two rows have the same tag; one byte of it changed makes it wrong.
-/
import Derived.Test.YtifpdpfjhjoieaaPSigSpoilty1
import Derived.Test.YtifpdpfjhjoieaaK6
import Derived.Test.YtifpdpfjhjoieaaK3
import Derived.Lib.Strings
namespace Go.Proofs.Ytifpdpfjhjoieaa.Pure
set_option linter.unusedSimpArgs false
open Go.RowKit Go.Proofs.Ytifpdpfjhjoieaa Go.Proofs.Ytifpdpfjhjoieaa.P Go.Proofs.YtifpdpfjhjoieaaW.PrintWords Go.Proofs.YtifpdpfjhjoieaaW.PrintLast Go.Proofs.YtifpdpfjhjoieaaW.PrintMore

theorem xor_eq_self (a b : Nat) : a ^^^ b = a ↔ b = 0 := by
  constructor
  · intro h
    have h2 := congrArg (a ^^^ ·) h
    simp only [Nat.xor_self, ← Nat.xor_assoc, Nat.zero_xor] at h2
    exact h2
  · intro h
    rw [h, Nat.xor_zero]
theorem set_same (l : List Int) (i : Nat) (y : Int) (hi : i < l.length) (hl : byteOk l = true) (h0 : 0 ≤ y) (h1 : y < 256) : (l == l.set i (Go.bits .xor .u8 (rd l (i : Int)) y)) = (y == 0) := by
  obtain ⟨a, ha, ha2⟩ := rd_byte l hl i hi
  obtain ⟨b, rfl⟩ := Int.eq_ofNat_of_zero_le h0
  have hx := rd_at l i hi
  rw [ha, u8_xor_nat a b ha2 (by omega), Bool.eq_iff_iff, beq_iff_eq, beq_iff_eq]
  constructor
  · intro h
    have h3 := congrArg (fun m => m[i]?) h
    simp only [List.getElem?_set, if_pos hi, List.getElem?_eq_getElem hi, if_true] at h3
    injection h3 with h3
    have h4 : a ^^^ b = a := by omega
    rw [xor_eq_self] at h4
    omega
  · intro h
    have h4 : b = 0 := by omega
    rw [h4, Nat.xor_zero, ← ha, hx, List.set_getElem_self]
theorem byteOk_set (l : List Int) (i : Nat) (y : Int) (hl : byteOk l = true) (h0 : 0 ≤ y) (h1 : y < 256) : byteOk (l.set i y) = true := by
  rw [byteOk_iff] at hl ⊢
  intro x hx
  rcases List.mem_or_eq_of_mem_set hx with h | h
  · exact hl x h
  · omega
theorem toList_inj' (s t : ByteArray) (h : s.toList = t.toList) : bytesOf s = bytesOf t := by
  have e : ∀ u : ByteArray, u.toList = u.data.toList := fun u => Lib.toList_data u
  rw [e, e] at h
  unfold bytesOf
  rw [h]
theorem told_some (a : ByteArray) (b : List Int) (o : byteOk b = true) (h1 : a.size ≤ 50) (h2 : b.length ≤ 100) : pyxlaw07_told.f a b = some (sigTold a b) := by
  unfold pyxlaw07_told.f
  rw [if_pos ⟨o, by omega, by omega⟩]
theorem SigSpoilt (l0 : List Int) (a1 a2 : ByteArray) (l3 l4 : List Int) (n : Nat) (hn : n < 256) (y : Int) (y0 : 0 ≤ y) (y1 : y < 256) (o0 : byteOk l0 = true) (o3 : byteOk l3 = true) (o4 : byteOk l4 = true) : ∃ k, pyxlaw07_SigSpoilt.f k l0 a1 a2 l3 l4 (n : Int) y = some true := by
  refine ⟨4, ?_⟩
  have up : pyxlaw07_SigSpoilt.j0 4 l0 a1 a2 l3 l4 (n : Int) y true true = some true := by rw [pyxlaw07_SigSpoilt.j0, if_pos rfl]
  unfold pyxlaw07_SigSpoilt.f pyxlaw07_shown.f
  rw [Option.bind_some]
  by_cases h0 : l0.length = 32
  case neg => rw [if_neg (by omega), up]
  rw [if_pos (by omega)]
  by_cases c1 : 50 < a1.size
  · rw [if_pos (by omega), up]
  rw [if_neg (by omega)]
  by_cases c2 : 50 < a2.size
  · rw [if_pos (by omega), up]
  rw [if_neg (by omega)]
  by_cases c3 : 100 < l3.length
  · rw [if_pos (by omega), up]
  rw [if_neg (by omega)]
  by_cases c4 : 100 < l4.length
  · rw [decide_eq_true (by omega), up]
  rw [decide_eq_false (by omega)]
  clear up
  have sm1 : smallT l0 a1 l3 := ⟨o0, o3, by omega, by omega, by omega⟩
  have sm2 : smallT l0 a2 l4 := ⟨o0, o4, by omega, by omega, by omega⟩
  have t1 := smallT_pub _ _ _ sm1
  have t2 := smallT_pub _ _ _ sm2
  have hp := pubOf_length l0
  have op := byteOk_pubOf l0
  have e1 := public_32 l0 h0 o0
  have e2 := sign_32 l0 a1 l3 h0 sm1
  have os := byteOk_sigTag (pubOf l0) a1 l3
  have ls := sigTag_length (pubOf l0) a1 l3
  generalize pubOf l0 = p at *
  have e3 := verify_32 p a2 l4 _ hp t2 os
  have d : (((sigTag p a1 l3).length : Int) != 32) = false := by rw [ls]; rfl
  have key : pyxlaw07_SigSpoilt.j3 1 a1 l3 (n : Int) y true p (sigTag p a1 l3) false = some true := by
    have ei : Int.tmod (wrap64 (n : Int)) 32 = ((n % 32 : Nat) : Int) := by
      have e : wrap64 (n : Int) = (n : Int) := by unfold wrap64; omega
      rw [e]
      rfl
    have hset := set_same (sigTag p a1 l3) (n % 32) y (by omega) os y0 y1
    have ob : byteOk ((sigTag p a1 l3).set (n % 32) (Go.bits .xor .u8 (rd (sigTag p a1 l3) ((n % 32 : Nat) : Int)) y)) = true := by
      have hb := Go.bounds_u8 (wf_bits .xor .u8 (rd (sigTag p a1 l3) ((n % 32 : Nat) : Int)) y)
      exact byteOk_set _ _ _ os hb.1 (by omega)
    have e5 := verify_32 p a1 l3 _ hp t1 ob
    have e6 := verify_32 p a1 l3 _ hp t1 (byteOk_take _ 31 os)
    have ne : (sigTag p a1 l3 == (sigTag p a1 l3).take 31) = false := by
      rw [beq_eq_false_iff_ne]
      intro h
      have := congrArg List.length h
      rw [List.length_take, ls] at this
      omega
    rw [hset] at e5
    rw [ne] at e6
    rw [pyxlaw07_SigSpoilt.j3, if_neg (by decide), Option.bind_some, List.nil_append, if_pos (by rw [ls]; decide), Option.bind_some, ei, Int.toNat_natCast, if_pos (by omega), if_pos (by omega), if_pos rfl, e5, Option.bind_some]
    have e7 : ((if (y == 0) = true then (0 : Int) else 5) == 0) = (y == 0) := by
      cases y == 0 <;> rfl
    rw [e7, beq_self_eq_true, if_pos rfl, if_pos (by omega), e6, Option.bind_some]
    rfl
  rw [pyxlaw07_SigSpoilt.j0, if_neg (by decide), e1, Option.bind_some, e2, Option.bind_some, if_pos rfl, if_pos rfl]
  dsimp only
  rw [d, pyxlaw07_SigSpoilt.j1, if_neg (by decide), e3, Option.bind_some]
  have ev : ((if (sigTag p a2 l4 == sigTag p a1 l3) = true then (0 : Int) else 5) == 0) = (sigTag p a2 l4 == sigTag p a1 l3) := by
    cases sigTag p a2 l4 == sigTag p a1 l3 <;> rfl
  rw [ev]
  have last : ∀ x : Bool, (x = true → bytesOf a1 = bytesOf a2 ∧ l3 = l4) → pyxlaw07_SigSpoilt.j2 2 a1 a2 l3 l4 (n : Int) y true p (sigTag p a1 l3) (sigTag p a2 l4 == sigTag p a1 l3) x = some true := by
    intro x hx
    cases x with
    | true =>
      obtain ⟨hx1, rfl⟩ := hx rfl
      have he : sigTag p a2 l3 = sigTag p a1 l3 := by unfold sigTag sigTold; rw [hx1]
      rw [pyxlaw07_SigSpoilt.j2, he, beq_self_eq_true, if_neg (by decide), key]
    | false =>
      by_cases hb : (sigTag p a2 l4 == sigTag p a1 l3) = true
      · have he : sigTag p a2 l4 = sigTag p a1 l3 := eq_of_beq hb
        have s1 : pyxref03_Sum.f p (sigTold a1 l3) = some (sigTag p a1 l3) := by
          have hl := sigTold_length a1 l3
          unfold pyxref03_Sum.f
          rw [if_pos ⟨op, byteOk_sigTold _ _ o3, by omega, by omega⟩]
          rfl
        have s2 : pyxref03_Sum.f p (sigTold a2 l4) = some (sigTag p a1 l3) := by
          have hl := sigTold_length a2 l4
          unfold pyxref03_Sum.f
          rw [if_pos ⟨op, byteOk_sigTold _ _ o4, by omega, by omega⟩, ← he]
          rfl
        rw [pyxlaw07_SigSpoilt.j2, hb, if_pos (by decide), if_neg (by decide), told_some a1 l3 o3 (by omega) (by omega), Option.bind_some, s1, Option.bind_some, told_some a2 l4 o4 (by omega) (by omega), Option.bind_some, s2, Option.bind_some, sameB _ os, Option.bind_some]
        exact key
      · rw [pyxlaw07_SigSpoilt.j2, Bool.eq_false_iff.mpr hb, if_neg (by decide), key]
  by_cases ha : a1.toList = a2.toList
  · rw [if_pos ha, pyxref01_Same.f, if_pos ⟨o3, o4⟩, Option.bind_some]
    exact last _ (fun h => ⟨toList_inj' _ _ ha, eq_of_beq h⟩)
  · rw [if_neg ha]
    exact last false (fun h => absurd h (by decide))
end Go.Proofs.Ytifpdpfjhjoieaa.Pure
