/-
  The plain law of SchedJoins: who joins has the epoch's secrets from the joiner's secret alone.
-/
import Derived.Test.YtpdgeanicciaiaaPSchedJoinsy1
namespace Go.Proofs.Ytpdgeanicciaiaa.Pure
set_option linter.unusedSimpArgs false
open Go.RowKit Go.Proofs.Ytpdgeanicciaiaa Go.Proofs.Ytpdgeanicciaiaa.P Go.Proofs.YtpdgeanicciaiaaW.PrintWords Go.Proofs.YtpdgeanicciaiaaW.PrintLast

theorem SchedJoins (a b c d e : List Int) (oa : byteOk a = true) (ob : byteOk b = true) (oc : byteOk c = true) (od : byteOk d = true) (oe : byteOk e = true) : ∃ k, pyxlaw12_SchedJoins.f k a b c d e = some true := by
  refine ⟨1, ?_⟩
  have up' : pyxlaw12_SchedJoins.j0 1 a b c d e true true = some true := by rw [pyxlaw12_SchedJoins.j0, if_pos rfl]
  unfold pyxlaw12_SchedJoins.f pyxlaw12_shown.f
  rw [Option.bind_some]
  by_cases c0 : a.length = 32
  case neg => rw [if_neg (by omega), up']
  rw [if_pos (by omega)]
  by_cases c1 : b.length = 32
  case neg => rw [if_neg (by omega), up']
  rw [if_pos (by omega)]
  by_cases c2 : d.length = 32
  case neg => rw [if_neg (by omega), up']
  rw [if_pos (by omega)]
  by_cases c3 : e.length = 32
  case neg => rw [if_neg (by omega), up']
  rw [if_pos (by omega)]
  by_cases c4 : 200 < c.length
  · rw [decide_eq_true (show (c.length : Int) > 200 by omega), up']
  rw [decide_eq_false (show ¬ (c.length : Int) > 200 by omega)]
  have om : byteOk (macSum a b) = true := byteOk_macSum _ _
  have nm : (macSum a b).length = 32 := macSum_length _ _
  have e1 : sched_Joiner.f a b c = some (joinerOf a b c, 0) := by
    unfold sched_Joiner.f joinerRes
    rw [if_pos ⟨oa, ob, oc, by omega, by omega, by omega⟩, if_pos ⟨c0, c1⟩]
  have e2 : pyxref04_Extract.f a b = some (macSum a b) := by
    unfold pyxref04_Extract.f
    exact mac_some a b oa ob (by omega) (by omega)
  have e3 : pyxref04_Label.f (macSum a b) (⟨#[106, 111, 105, 110, 101, 114]⟩ : ByteArray) c 32 = some (joinerOf a b c, 0) := label_get (macSum a b) labJoiner c 32 (by omega) om oc (by omega) (by decide) (by omega)
  have oj : byteOk (joinerOf a b c) = true := byteOk_labelOf _ _ _ _
  have nj : (joinerOf a b c).length = 32 := labelOf_length _ _ _ _
  rw [pyxlaw12_SchedJoins.j0, if_neg (by simp), e1, Option.bind_some, e2, Option.bind_some, e3, Option.bind_some]
  dsimp only
  generalize joinerOf a b c = j at *
  have e4 : sched_Epoch.f j d c = some (epochRows j d c) := by
    unfold sched_Epoch.f
    rw [if_pos ⟨oj, od, oc, by omega, by omega, by omega⟩]
  have e5 : epochRows j d c = (epRow (ownOf j d c) 0, epRow (ownOf j d c) 1, epRow (ownOf j d c) 2, epRow (ownOf j d c) 3, epRow (ownOf j d c) 4, 0) := if_pos ⟨nj, c2⟩
  rw [e4, Option.bind_some, Option.bind_some, e5]
  generalize ownOf j d c = s
  dsimp only
  have e6 : sched_Proof.f (epRow s 0) (epRow s 1) (epRow s 2) (epRow s 3) (epRow s 4) e = some (macSum (epRow s 3) e, 0) := by
    unfold sched_Proof.f proofRes
    rw [if_pos ⟨byteOk_epRow _ _, oe, by rw [epRow_length]; omega, by omega⟩, if_pos ⟨ep_right s, c3⟩]
  have e7 : sched_Same.f (epRow s 0) (epRow s 1) (epRow s 2) (epRow s 3) (epRow s 4) (epRow s 0) (epRow s 1) (epRow s 2) (epRow s 3) (epRow s 4) = some true := by
    unfold sched_Same.f
    rw [if_pos ⟨ep_ok s, ep_ok s⟩]
    exact congrArg some (beq_iff_eq.2 rfl)
  have e8 : pyxref12_Same.f (epRow s 0) (epRow s 1) (epRow s 2) (epRow s 3) (epRow s 4) (epRow s 0) (epRow s 1) (epRow s 2) (epRow s 3) (epRow s 4) = some true := e7
  rw [e6, Option.bind_some, if_pos rfl]
  dsimp only
  rw [if_pos rfl, if_pos rfl, if_pos rfl, same_some j j oj oj, Option.bind_some, if_pos (beq_iff_eq.2 rfl), e7, Option.bind_some, if_pos rfl, e8, Option.bind_some, if_pos rfl, macSum_length]
  rfl
end Go.Proofs.Ytpdgeanicciaiaa.Pure
