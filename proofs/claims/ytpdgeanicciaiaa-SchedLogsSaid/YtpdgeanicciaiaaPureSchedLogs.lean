/-
  The plain law of SchedLogs: a log goes on from what it was: the digest of three rows, which part, if one of the three does; of Log's errors nothing comes.
-/
import Derived.Test.YtpdgeanicciaiaaPSchedLogsy1
namespace Go.Proofs.Ytpdgeanicciaiaa.Pure
set_option linter.unusedSimpArgs false
open Go.RowKit Go.Proofs.Ytpdgeanicciaiaa Go.Proofs.Ytpdgeanicciaiaa.P Go.Proofs.YtpdgeanicciaiaaW.PrintWords Go.Proofs.YtpdgeanicciaiaaW.PrintLast

theorem SchedLogs : pyxlaw12_SchedLogs.Pure := by
  intro l0 l1 l2 _ _ hw0 _ _ hw1 _ _ hw2
  refine ⟨1, ?_⟩
  have o0 := byteOk_of_wf l0 hw0
  have o1 := byteOk_of_wf l1 hw1
  have o2 := byteOk_of_wf l2 hw2
  have up' : pyxlaw12_SchedLogs.j0 1 l0 l1 l2 true true = some true := by rw [pyxlaw12_SchedLogs.j0, if_pos rfl]
  unfold pyxlaw12_SchedLogs.f pyxlaw12_shown.f
  rw [Option.bind_some]
  by_cases c0 : 60 < l0.length
  · rw [if_pos (by omega), up']
  by_cases c1 : 100 < l1.length
  · rw [if_neg (by omega), if_pos (by omega), up']
  rw [if_neg (by omega), if_neg (by omega)]
  by_cases c2 : 200 < l2.length
  · rw [decide_eq_true (show (l2.length : Int) > 200 by omega), up']
  rw [decide_eq_false (show ¬ (l2.length : Int) > 200 by omega), pyxlaw12_SchedLogs.j0, if_neg (by simp)]
  by_cases h32 : l0.length = 32
  · have k1 : sched_Log.f l0 l1 l2 = some (logOf l0 l1 l2, 0) := by
      unfold sched_Log.f
      rw [if_pos ⟨o0, o1, o2, by omega, by omega, by omega⟩, if_pos h32]
    have kl := logOf_length l0 l1 l2
    have ko := byteOk_logOf l0 l1 l2
    have k2 : sched_Log.f (logOf l0 l1 l2) [] l2 = some (logOf (logOf l0 l1 l2) [] l2, 0) := by
      unfold sched_Log.f
      rw [if_pos ⟨ko, rfl, o2, by omega, by simp, by omega⟩, if_pos kl]
    have ml := logOf_length (logOf l0 l1 l2) [] l2
    have r0 : pyxref01_Row.f l0 = some (rowB l0, 0) := congrArg some (rowOf_small l0 (by omega))
    have r1 : pyxref01_Row.f l1 = some (rowB l1, 0) := congrArg some (rowOf_small l1 (by omega))
    have r2 : pyxref01_Row.f l2 = some (rowB l2, 0) := congrArg some (rowOf_small l2 (by omega))
    obtain ⟨t1, t2⟩ := three_ok l0 l1 l2 o0 o1 o2 (by omega) (by omega) (by omega)
    have hs : pyxref02_Sum.f (rowB l0 ++ rowB l1 ++ rowB l2) = some (logOf l0 l1 l2) := refsha_some _ t1 (by omega)
    have m1 := rowB_length l0
    have m2 := rowB_length l1
    have m3 := rowB_length l2
    have m0 : ([] : List Int).length = 0 := rfl
    have m4 : (rowB l0 ++ rowB l1).length = (rowB l0).length + (rowB l1).length := List.length_append
    rw [k1, Option.bind_some, if_pos (by omega), r0, Option.bind_some, r1, Option.bind_some, r2, Option.bind_some]
    dsimp only
    rw [k2, Option.bind_some, if_pos rfl, if_pos rfl, if_pos rfl]
    dsimp only
    rw [if_pos (by omega), Option.bind_some, if_pos (by omega), Option.bind_some, List.nil_append, if_pos (by omega), Option.bind_some, if_pos (by omega), hs, Option.bind_some, same_some _ _ ko ko, Option.bind_some, beq_self_eq_true]
  · have k1 : sched_Log.f l0 l1 l2 = some ([], 1) := by
      unfold sched_Log.f
      rw [if_pos ⟨o0, o1, o2, by omega, by omega, by omega⟩, if_neg h32]
    rw [k1, Option.bind_some, if_neg (by omega), if_pos rfl, if_pos rfl]
    rfl
end Go.Proofs.Ytpdgeanicciaiaa.Pure
