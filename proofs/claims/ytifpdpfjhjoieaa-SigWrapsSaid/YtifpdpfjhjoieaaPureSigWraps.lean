/-
  The plain law of SigWraps: what is wrapped, and unwrapped, is as the document says.
-/
import Derived.Test.YtifpdpfjhjoieaaPSigWrapsy1
import Derived.Test.YtifpdpfjhjoieaaX8
namespace Go.Proofs.Ytifpdpfjhjoieaa.Pure
set_option linter.unusedSimpArgs false
open Go.RowKit Go.Proofs.Ytifpdpfjhjoieaa Go.Proofs.Ytifpdpfjhjoieaa.P Go.Proofs.YtifpdpfjhjoieaaW.PrintWords Go.Proofs.YtifpdpfjhjoieaaW.PrintLast Go.Proofs.YtifpdpfjhjoieaaW.PrintMore

theorem SigWraps (l0 l1 l2 l3 : List Int) (o0 : byteOk l0 = true) (o1 : byteOk l1 = true) (o2 : byteOk l2 = true) (o3 : byteOk l3 = true) : ∃ k, pyxlaw07_SigWraps.f k l0 l1 l2 l3 = some true := by
  refine ⟨1, ?_⟩
  have up : pyxlaw07_SigWraps.j0 1 l0 l1 l2 l3 true true = some true := by rw [pyxlaw07_SigWraps.j0, if_pos rfl]
  unfold pyxlaw07_SigWraps.f pyxlaw07_shown.f
  rw [Option.bind_some]
  by_cases c0 : 40 < l0.length
  · rw [if_pos (by omega), up]
  rw [if_neg (by omega)]
  by_cases c1 : 40 < l1.length
  · rw [if_pos (by omega), up]
  rw [if_neg (by omega)]
  by_cases c2 : 100 < l2.length
  · rw [if_pos (by omega), up]
  rw [if_neg (by omega)]
  by_cases c3 : 200 < l3.length
  · rw [decide_eq_true (by omega), up]
  rw [decide_eq_false (by omega)]
  have sm : smallW l2 l3 := ⟨o2, o3, by omega, by omega⟩
  obtain ⟨p, hp, op, op2⟩ := wrap_some l0 l1 l2 l3 o0 o1 sm
  obtain ⟨s, hs, os⟩ := unwrap_some l0 l1 l2 l3 o0 o1 sm
  have hp' : pyxref07_Wrap.f l0 l1 l2 l3 = some p := hp
  have hs' : pyxref07_Unwrap.f l0 l1 l2 l3 = some s := hs
  rw [pyxlaw07_SigWraps.j0, if_neg (by decide), hp, Option.bind_some, hp', Option.bind_some, hs, Option.bind_some, hs', Option.bind_some, if_pos rfl, sameB _ op, Option.bind_some, if_pos rfl, sameB _ op2, Option.bind_some, if_pos rfl, if_pos rfl, sameB _ os, Option.bind_some, if_pos rfl, beq_self_eq_true]
end Go.Proofs.Ytifpdpfjhjoieaa.Pure
