/-
  The plain law of SealBack: what is sealed is opened; what is opened is sealed so again; sealed bytes have 32 more.
-/
import Derived.Test.YtifpdpfjhjoieaaPSealBacky1
import Derived.Test.YtifpdpfjhjoieaaZ4
namespace Go.Proofs.Ytifpdpfjhjoieaa.Pure
set_option linter.unusedSimpArgs false
open Go.RowKit Go.Proofs.Ytifpdpfjhjoieaa Go.Proofs.Ytifpdpfjhjoieaa.P Go.Proofs.YtifpdpfjhjoieaaW.PrintWords Go.Proofs.YtifpdpfjhjoieaaW.PrintLast

theorem SealBack (l0 l1 l2 l3 : List Int) (o0 : byteOk l0 = true) (o1 : byteOk l1 = true) (o2 : byteOk l2 = true) (o3 : byteOk l3 = true) : ∃ k, pyxlaw06_SealBack.f k l0 l1 l2 l3 = some true := by
  refine ⟨2, ?_⟩
  have up : pyxlaw06_SealBack.j0 2 l0 l1 l2 l3 true true = some true := by rw [pyxlaw06_SealBack.j0, if_pos rfl]
  unfold pyxlaw06_SealBack.f pyxlaw06_shown.f
  rw [Option.bind_some]
  by_cases h32 : l0.length = 32
  case neg => rw [if_neg (by omega), up]
  by_cases h12 : l1.length = 12
  case neg => rw [if_pos (by omega), if_neg (by omega), up]
  rw [if_pos (by omega), if_pos (by omega)]
  by_cases c2 : 200 < l2.length
  · rw [if_pos (by omega), up]
  rw [if_neg (by omega)]
  by_cases c3 : 300 < l3.length
  · rw [decide_eq_true (by omega), up]
  rw [decide_eq_false (by omega)]
  have sm : smallB l0 l1 l2 l3 := ⟨o0, o1, o2, o3, by omega, by omega⟩
  have es := seal_32 l0 l1 l2 l3 sm h32 h12
  have eo : seal_Open.f l0 l1 l2 (sealOf l0 l1 l2 l3) = some (l3, 0) := by
    rw [open_some _ _ _ _ (small_seal l0 l1 l2 l3 l2 o0 o1 o2 (by omega) (by omega)), open_seal _ _ _ _ h32 h12 o3]
  have el : ((sealOf l0 l1 l2 l3).length : Int) = wrap64 ((l3.length : Int) + 32) := by rw [sealOf_length]; unfold wrap64; omega
  rw [pyxlaw06_SealBack.j0, if_neg (by decide), es, Option.bind_some, eo, Option.bind_some, if_pos rfl, if_pos rfl, if_pos el, same_self _ o3, Option.bind_some, pyxlaw06_SealBack.j1, if_neg (by decide), open_some _ _ _ _ sm, Option.bind_some]
  by_cases c4 : l3.length < 32
  · have e : openR l0 l1 l2 l3 = ([], 3) := by
      unfold openR
      rw [if_pos ⟨h32, h12⟩, if_pos c4]
    rw [e, if_neg (by decide), if_pos rfl, decide_eq_true (show (l3.length : Int) < 32 by omega)]
    rfl
  by_cases ht : sealTag l0 l1 l2 (l3.take (l3.length - 32)) = l3.drop (l3.length - 32)
  · have e : openR l0 l1 l2 l3 = (streamOf (lockOf l0) l1 (l3.take (l3.length - 32)), 0) := by
      unfold openR
      rw [if_pos ⟨h32, h12⟩, if_neg c4, if_pos ht]
    have sm2 : smallB l0 l1 l2 (streamOf (lockOf l0) l1 (l3.take (l3.length - 32))) := ⟨o0, o1, o2, byteOk_streamOf _ _ _, by omega, by rw [streamOf_length, List.length_take]; omega⟩
    have e2 : sealOf l0 l1 l2 (streamOf (lockOf l0) l1 (l3.take (l3.length - 32))) = l3 := by
      unfold sealOf
      rw [streamOf_back _ _ _ (bytes_wf _ (byteOk_take _ _ o3)), ht, List.take_append_drop]
    rw [e, if_pos rfl, seal_32 _ _ _ _ sm2 h32 h12, Option.bind_some, if_pos rfl, if_pos rfl, e2, same_self _ o3, Option.bind_some]
  · have e : openR l0 l1 l2 l3 = ([], 5) := by
      unfold openR
      rw [if_pos ⟨h32, h12⟩, if_neg c4, if_neg ht]
    rw [e, if_neg (by decide), if_pos rfl, decide_eq_false (show ¬ (l3.length : Int) < 32 by omega)]
    rfl
end Go.Proofs.Ytifpdpfjhjoieaa.Pure
