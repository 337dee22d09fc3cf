/-
  The plain law of SealLocked: sealed bytes begin with the stream of them under the key's first half, whatever they belong to; what they belong to changes the tag's row alone.
-/
import Derived.Test.YtifpdpfjhjoieaaPSealLockedy1
import Derived.Test.YtifpdpfjhjoieaaX8
namespace Go.Proofs.Ytifpdpfjhjoieaa.Pure
set_option linter.unusedSimpArgs false
open Go.RowKit Go.Proofs.Ytifpdpfjhjoieaa Go.Proofs.Ytifpdpfjhjoieaa.P Go.Proofs.YtifpdpfjhjoieaaW.PrintWords Go.Proofs.YtifpdpfjhjoieaaW.PrintLast

theorem SealLocked (l0 l1 l2 l3 l4 : List Int) (o0 : byteOk l0 = true) (o1 : byteOk l1 = true) (o2 : byteOk l2 = true) (o3 : byteOk l3 = true) (o4 : byteOk l4 = true) : ∃ k, pyxlaw06_SealLocked.f k l0 l1 l2 l3 l4 = some true := by
  refine ⟨2, ?_⟩
  have up : pyxlaw06_SealLocked.j0 2 l0 l1 l2 l3 l4 true true = some true := by rw [pyxlaw06_SealLocked.j0, if_pos rfl]
  unfold pyxlaw06_SealLocked.f pyxlaw06_shown.f
  rw [Option.bind_some]
  by_cases h32 : l0.length = 32
  case neg => rw [if_neg (by omega), up]
  by_cases h12 : l1.length = 12
  case neg => rw [if_pos (by omega), if_neg (by omega), up]
  rw [if_pos (by omega), if_pos (by omega)]
  by_cases c2 : 100 < l2.length
  · rw [if_pos (by omega), up]
  by_cases c3 : 100 < l3.length
  · rw [if_neg (by omega), if_pos (by omega), up]
  rw [if_neg (by omega), if_neg (by omega)]
  by_cases c4 : 200 < l4.length
  · rw [decide_eq_true (by omega), up]
  rw [decide_eq_false (by omega)]
  have s1 := seal_32 l0 l1 l2 l4 ⟨o0, o1, o2, o4, by omega, by omega⟩ h32 h12
  have s2 := seal_32 l0 l1 l3 l4 ⟨o0, o1, o3, o4, by omega, by omega⟩ h32 h12
  have eh := halves_32 l0 o0 h32
  have eh' : pyxref06_Halves.f l0 = some (lockOf l0, tagOf l0, 0) := by unfold pyxref06_Halves.f; rw [if_pos o0, eh]
  have est : pyxref05_Stream.f (lockOf l0) l1 l4 = some (streamOf (lockOf l0) l1 l4, 0) := stream_some l0 l1 l4 h12 o1 o4 (by omega)
  have e1 : ((sealOf l0 l1 l2 l4).length : Int) = wrap64 ((l4.length : Int) + 32) := by rw [sealOf_length]; unfold wrap64; omega
  have e2 : ((sealOf l0 l1 l3 l4).length : Int) = ((sealOf l0 l1 l2 l4).length : Int) := by rw [sealOf_length, sealOf_length]
  have e3 : ((lockOf l0).length : Int) = 16 := by rw [lockOf_length]; rfl
  have e4 : ((tagOf l0).length : Int) != 32 ↔ False := by rw [tagOf_length]; decide
  have e4' : (((tagOf l0).length : Int) != 32) = false := by rw [tagOf_length]; decide
  have t1 : (l4.length : Int) ≤ ((sealOf l0 l1 l2 l4).length : Int) := by rw [sealOf_length]; omega
  have t2 : (l4.length : Int) ≤ ((sealOf l0 l1 l3 l4).length : Int) := by rw [sealOf_length]; omega
  rw [pyxlaw06_SealLocked.j0, if_neg (by decide), s1, Option.bind_some, s2, Option.bind_some, eh, Option.bind_some, eh', Option.bind_some, est, Option.bind_some, if_pos rfl, if_pos rfl, if_pos rfl, if_pos e1, if_pos e2, if_pos e3, e4', pyxlaw06_SealLocked.j1, if_neg (by decide), if_pos rfl,
    same_self (lockOf l0) (byteOk_labelOf _ _ _ _), Option.bind_some, if_pos rfl, if_pos (by omega), if_pos t1, Int.toNat_natCast, sealOf_take, same_self _ (byteOk_streamOf _ _ _), Option.bind_some, if_pos rfl, if_pos t2, sealOf_take, same_self _ (byteOk_streamOf _ _ _), Option.bind_some, if_pos rfl, same_some _ _ o2 o3, Option.bind_some]
  by_cases h : l2 = l3
  · subst h
    rw [if_pos (by simp), same_self _ (byteOk_sealOf _ _ _ _), Option.bind_some]
  · rw [if_neg (by simpa using h)]
end Go.Proofs.Ytifpdpfjhjoieaa.Pure
