/-
  The plain law of SchedMore: logs, what proves an epoch, secrets for others, and which epochs are the same, are as the document says.
-/
import Derived.Test.YtpdgeanicciaiaaPSchedMorey2
namespace Go.Proofs.Ytpdgeanicciaiaa.Pure
set_option linter.unusedSimpArgs false
open Go.RowKit Go.Proofs.Ytpdgeanicciaiaa Go.Proofs.Ytpdgeanicciaiaa.P Go.Proofs.YtpdgeanicciaiaaW.PrintWords Go.Proofs.YtpdgeanicciaiaaW.PrintLast

theorem few_len {x : List Int} (h : few x = true) : x.length ≤ 40 := by unfold few at h; simpa using h
theorem byteOk_exportRes (r : Bool) (s : List Int) (a : ByteArray) (c : List Int) (n : Int) : byteOk (exportRes r s a c n).1 = true := by
  unfold exportRes
  split
  · exact byteOk_labelOf _ _ _ _
  · rfl
theorem byteOk_proofRes (r : Bool) (s c : List Int) : byteOk (proofRes r s c).1 = true := by
  unfold proofRes
  split
  · exact byteOk_macSum _ _
  · rfl
theorem byteOk_logRes (s c b : List Int) : byteOk (if s.length = 32 then (logOf s c b, (0 : Int)) else ([], 1)).1 = true := by
  split
  · exact byteOk_logOf _ _ _
  · rfl
theorem SchedMore (e0 e1 e2 e3 e4 u0 u1 u2 u3 u4 log b : List Int) (w : ByteArray) (n : Int)
    (a0 : byteOk e0 = true) (a1 : byteOk e1 = true) (a2 : byteOk e2 = true) (a3 : byteOk e3 = true) (a4 : byteOk e4 = true)
    (b0 : byteOk u0 = true) (b1 : byteOk u1 = true) (b2 : byteOk u2 = true) (b3 : byteOk u3 = true) (b4 : byteOk u4 = true)
    (ol : byteOk log = true) (ob : byteOk b = true) : ∃ k, pyxlaw12_SchedMore.f k e0 e1 e2 e3 e4 u0 u1 u2 u3 u4 log b w n = some true := by
  refine ⟨1, ?_⟩
  have up' : pyxlaw12_SchedMore.j0 1 log b w n true true e0 e1 e2 e3 e4 u0 u1 u2 u3 u4 = some true := by rw [pyxlaw12_SchedMore.j0, if_pos rfl]
  unfold pyxlaw12_SchedMore.f pyxlaw12_shown.f pyxref12_Few.f
  rw [Option.bind_some, Option.bind_some]
  by_cases c0 : [e0, e1, e2, e3, e4].all few = true
  case neg => rw [if_neg c0, up']
  rw [if_pos c0, Option.bind_some]
  by_cases c1 : [u0, u1, u2, u3, u4].all few = true
  case neg => rw [if_neg c1, up']
  rw [if_pos c1]
  by_cases c2 : 40 < log.length
  · rw [if_pos (by omega), up']
  rw [if_neg (by omega)]
  by_cases c3 : 100 < b.length
  · rw [if_pos (by omega), up']
  rw [if_neg (by omega)]
  by_cases c4 : 50 < w.size
  · rw [if_pos (by omega), up']
  rw [if_neg (by omega)]
  have go : pyxlaw12_SchedMore.j0 1 log b w n true false e0 e1 e2 e3 e4 u0 u1 u2 u3 u4 = some true := by
    have f0 := few_len (List.all_eq_true.1 c0 e0 (by simp))
    have f2 := few_len (List.all_eq_true.1 c0 e2 (by simp))
    have f3 := few_len (List.all_eq_true.1 c0 e3 (by simp))
    have x1 : sched_Log.f log e0 b = some (if log.length = 32 then (logOf log e0 b, 0) else ([], 1)) := by
      unfold sched_Log.f
      rw [if_pos ⟨ol, a0, ob, by omega, by omega, by omega⟩]
    have x2 : pyxref12_Log.f log e0 b = some (if log.length = 32 then (logOf log e0 b, 0) else ([], 1)) := x1
    have x3 : sched_Proof.f e0 e1 e2 e3 e4 log = some (proofRes ([e0, e1, e2, e3, e4].all row32) e3 log) := by
      unfold sched_Proof.f
      rw [if_pos ⟨a3, ol, by omega, by omega⟩]
    have x4 : pyxref12_Proof.f e0 e1 e2 e3 e4 log = some (proofRes ([e0, e1, e2, e3, e4].all row32) e3 log) := x3
    have x5 : sched_Export.f e0 e1 e2 e3 e4 w b n = some (exportRes ([e0, e1, e2, e3, e4].all row32) e2 w b n) := by
      unfold sched_Export.f
      rw [if_pos ⟨a2, ob, by omega, by omega, by omega⟩]
    have x6 : pyxref12_Export.f e0 e1 e2 e3 e4 w b n = some (exportRes ([e0, e1, e2, e3, e4].all row32) e2 w b n) := x5
    have x7 : sched_Same.f e0 e1 e2 e3 e4 u0 u1 u2 u3 u4 = some ([e0, e1, e2, e3, e4] == [u0, u1, u2, u3, u4]) := by
      unfold sched_Same.f
      rw [if_pos ⟨by simp [a0, a1, a2, a3, a4], by simp [b0, b1, b2, b3, b4]⟩]
    have x8 : pyxref12_Same.f e0 e1 e2 e3 e4 u0 u1 u2 u3 u4 = some ([e0, e1, e2, e3, e4] == [u0, u1, u2, u3, u4]) := x7
    have y1 := byteOk_logRes log e0 b
    have y2 := byteOk_proofRes ([e0, e1, e2, e3, e4].all row32) e3 log
    have y3 := byteOk_exportRes ([e0, e1, e2, e3, e4].all row32) e2 w b n
    generalize (if log.length = 32 then (logOf log e0 b, (0 : Int)) else ([], 1)) = p at *
    generalize proofRes ([e0, e1, e2, e3, e4].all row32) e3 log = q at *
    generalize exportRes ([e0, e1, e2, e3, e4].all row32) e2 w b n = r at *
    generalize ([e0, e1, e2, e3, e4] == [u0, u1, u2, u3, u4]) = s at *
    rw [pyxlaw12_SchedMore.j0, if_neg (by simp), x1, Option.bind_some, x2, Option.bind_some, x3, Option.bind_some, x4, Option.bind_some, x5, Option.bind_some, x6, Option.bind_some, if_pos rfl]
    rw [same_some _ _ y1 y1, Option.bind_some, if_pos (beq_iff_eq.2 rfl), if_pos rfl]
    rw [same_some _ _ y2 y2, Option.bind_some, if_pos (beq_iff_eq.2 rfl), if_pos rfl]
    rw [same_some _ _ y3 y3, Option.bind_some, if_pos (beq_iff_eq.2 rfl), if_pos rfl]
    rw [x7, Option.bind_some, x8, Option.bind_some]
    exact congrArg some (beq_iff_eq.2 rfl)
  by_cases c5 : 400 < n
  · rw [if_pos (by omega)]
    by_cases c6 : n ≤ 8160
    · rw [decide_eq_true c6, up']
    · rw [decide_eq_false c6, go]
  · rw [if_neg (by omega), go]
end Go.Proofs.Ytpdgeanicciaiaa.Pure
