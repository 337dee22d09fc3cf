/-
  The plain law of SigTells: public halves, signatures, and whether they are right, are as the document says.
-/
import Derived.Test.YtifpdpfjhjoieaaPSigTellsy1
import Derived.Test.YtifpdpfjhjoieaaK6
namespace Go.Proofs.Ytifpdpfjhjoieaa.Pure
set_option linter.unusedSimpArgs false
open Go.RowKit Go.Proofs.Ytifpdpfjhjoieaa Go.Proofs.Ytifpdpfjhjoieaa.P Go.Proofs.YtifpdpfjhjoieaaW.PrintWords Go.Proofs.YtifpdpfjhjoieaaW.PrintLast Go.Proofs.YtifpdpfjhjoieaaW.PrintMore

theorem SigTells (l0 : List Int) (a1 : ByteArray) (l2 l3 : List Int) (o0 : byteOk l0 = true) (o2 : byteOk l2 = true) (o3 : byteOk l3 = true) : ∃ k, pyxlaw07_SigTells.f k l0 a1 l2 l3 = some true := by
  refine ⟨1, ?_⟩
  have up : pyxlaw07_SigTells.j0 1 l0 a1 l2 l3 true true = some true := by rw [pyxlaw07_SigTells.j0, if_pos rfl]
  unfold pyxlaw07_SigTells.f pyxlaw07_shown.f
  rw [Option.bind_some]
  by_cases c0 : 40 < l0.length
  · rw [if_pos (by omega), up]
  rw [if_neg (by omega)]
  by_cases c1 : 100 < a1.size
  · rw [if_pos (by omega), up]
  rw [if_neg (by omega)]
  by_cases c2 : 200 < l2.length
  · rw [if_pos (by omega), up]
  rw [if_neg (by omega)]
  by_cases c3 : 50 < l3.length
  · rw [decide_eq_true (by omega), up]
  rw [decide_eq_false (by omega)]
  have sm : smallT l0 a1 l2 := ⟨o0, o2, by omega, by omega, by omega⟩
  obtain ⟨p, hp, op⟩ := public_some l0 o0
  obtain ⟨s, hs, os⟩ := sign_some l0 a1 l2 sm
  obtain ⟨v, hv⟩ := verify_some l0 a1 l2 l3 sm o3
  have hp' : pyxref07_Public.f l0 = some p := hp
  have hs' : pyxref07_Sign.f l0 a1 l2 = some s := hs
  have hv' : pyxref07_Verify.f l0 a1 l2 l3 = some v := hv
  rw [pyxlaw07_SigTells.j0, if_neg (by decide), hp, Option.bind_some, hp', Option.bind_some, hs, Option.bind_some, hs', Option.bind_some, if_pos rfl, sameB _ op, Option.bind_some, if_pos rfl, if_pos rfl, sameB _ os, Option.bind_some, if_pos rfl, if_pos rfl, hv, Option.bind_some, hv', Option.bind_some, beq_self_eq_true]
end Go.Proofs.Ytifpdpfjhjoieaa.Pure
