/-
  The plain law of SealTells: keys' halves, what is sealed, what is opened, and nonces, are as the document says.
-/
import Derived.Test.YtifpdpfjhjoieaaPSealTellsy1
import Derived.Test.YtifpdpfjhjoieaaE7
namespace Go.Proofs.Ytifpdpfjhjoieaa.Pure
set_option linter.unusedSimpArgs false
open Go.RowKit Go.Proofs.Ytifpdpfjhjoieaa Go.Proofs.Ytifpdpfjhjoieaa.P Go.Proofs.YtifpdpfjhjoieaaW.PrintWords Go.Proofs.YtifpdpfjhjoieaaW.PrintLast

theorem SealTells (l0 l1 l2 l3 : List Int) (n : Int) (o0 : byteOk l0 = true) (o1 : byteOk l1 = true) (o2 : byteOk l2 = true) (o3 : byteOk l3 = true) : ∃ k, pyxlaw06_SealTells.f k l0 l1 l2 l3 n = some true := by
  refine ⟨2, ?_⟩
  have up : pyxlaw06_SealTells.j0 2 l0 l1 l2 l3 n true true = some true := by rw [pyxlaw06_SealTells.j0, if_pos rfl]
  unfold pyxlaw06_SealTells.f pyxlaw06_shown.f
  rw [Option.bind_some]
  by_cases c0 : 50 < l0.length
  · rw [if_pos (by omega), up]
  by_cases c1 : 50 < l1.length
  · rw [if_neg (by omega), if_pos (by omega), up]
  by_cases c2 : 200 < l2.length
  · rw [if_neg (by omega), if_neg (by omega), if_pos (by omega), up]
  rw [if_neg (by omega), if_neg (by omega), if_neg (by omega)]
  by_cases c3 : 200 < l3.length
  · rw [decide_eq_true (by omega), up]
  rw [decide_eq_false (by omega)]
  have sm : smallB l0 l1 l2 l3 := ⟨o0, o1, o2, o3, by omega, by omega⟩
  obtain ⟨h, eh, ha, hb⟩ := halves_some l0 o0
  obtain ⟨s, es, hs⟩ := seal_some l0 l1 l2 l3 sm
  have eh' : pyxref06_Halves.f l0 = some h := by unfold pyxref06_Halves.f; rw [if_pos o0, eh]
  have es' : pyxref06_Seal.f l0 l1 l2 l3 = some s := es
  have eo := open_some l0 l1 l2 l3 sm
  have eo' : pyxref06_Open.f l0 l1 l2 l3 = some (openR l0 l1 l2 l3) := eo
  have ea : seal_At.f l1 n = some (atR l1 n) := rfl
  have ea' : pyxref06_At.f l1 n = some (atR l1 n) := rfl
  rw [pyxlaw06_SealTells.j0, if_neg (by decide), eh, Option.bind_some, eh', Option.bind_some, es, Option.bind_some, es', Option.bind_some, same_self _ ha, Option.bind_some, if_pos rfl, same_self _ hb, Option.bind_some, if_pos rfl, if_pos rfl,
    same_self _ hs, Option.bind_some, if_pos rfl, bne_self_eq_false, pyxlaw06_SealTells.j1, if_neg (by decide), eo, Option.bind_some, eo', Option.bind_some, ea, Option.bind_some, ea', Option.bind_some, if_pos rfl, same_self _ (byteOk_openR _ _ _ _), Option.bind_some, if_pos rfl, if_pos rfl,
    same_self _ (byteOk_atR _ _ o1), Option.bind_some, if_pos rfl, beq_self_eq_true]
end Go.Proofs.Ytifpdpfjhjoieaa.Pure
