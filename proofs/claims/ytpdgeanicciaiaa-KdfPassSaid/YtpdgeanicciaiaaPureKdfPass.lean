/-
  The plain law of KdfPass: bytes of passwords are as the document says.
-/
import Derived.Test.YtpdgeanicciaiaaPKdfPassy1
namespace Go.Proofs.Ytpdgeanicciaiaa.Pure
set_option linter.unusedSimpArgs false
open Go.RowKit Go.Proofs.Ytpdgeanicciaiaa Go.Proofs.Ytpdgeanicciaiaa.P Go.Proofs.YtpdgeanicciaiaaW.PrintWords Go.Proofs.YtpdgeanicciaiaaW.PrintLast

theorem KdfPass (l0 l1 : List Int) (a2 a3 : Int) (o0 : byteOk l0 = true) (o1 : byteOk l1 = true) : ∃ k, pyxlaw04_KdfPass.f k l0 l1 a2 a3 = some true := by
  refine ⟨1, ?_⟩
  have up' : pyxlaw04_KdfPass.j0 1 l0 l1 a2 a3 true true = some true := by rw [pyxlaw04_KdfPass.j0, if_pos rfl]
  unfold pyxlaw04_KdfPass.f pyxlaw04_shown.f
  rw [Option.bind_some]
  by_cases c0 : 200 < l0.length
  · rw [if_pos (by omega), up']
  by_cases c1 : 200 < l1.length
  · rw [if_neg (by omega), if_pos (by omega), up']
  rw [if_neg (by omega), if_neg (by omega)]
  have main : pyxlaw04_KdfPass.j0 1 l0 l1 a2 a3 true false = some true := by
    have e : ∀ x, byteOk x = true → pyxref01_Same.f x x = some true := fun x hx => by unfold pyxref01_Same.f; rw [if_pos ⟨hx, hx⟩, beq_self_eq_true]
    obtain ⟨r, hr, hro⟩ : ∃ r, kdf_Pass.f l0 l1 a2 a3 = some r ∧ byteOk r.1 = true := by
      unfold kdf_Pass.f
      split
      · exact ⟨_, rfl, rfl⟩
      split
      · exact ⟨_, rfl, rfl⟩
      split
      · exact ⟨_, rfl, rfl⟩
      split
      · exact ⟨_, rfl, rfl⟩
      rw [if_pos ⟨o0, o1, by omega, by omega⟩]
      exact ⟨_, rfl, byteOk_passOf _ _ _ _⟩
    rw [pyxlaw04_KdfPass.j0, if_neg (by simp)]
    unfold pyxref04_Pass.f
    rw [hr, Option.bind_some, Option.bind_some, if_pos rfl, e _ hro, Option.bind_some, if_pos rfl, beq_self_eq_true]
  have last : (if a3 > 100 then pyxlaw04_KdfPass.j0 1 l0 l1 a2 a3 true (decide (a3 ≤ 1024)) else pyxlaw04_KdfPass.j0 1 l0 l1 a2 a3 true false) = some true := by
    by_cases c3 : a3 > 100
    · rw [if_pos c3]
      by_cases c4 : a3 ≤ 1024
      · rw [decide_eq_true c4, up']
      · rw [decide_eq_false c4, main]
    · rw [if_neg c3, main]
  by_cases c2 : a2 > 6
  · rw [if_pos c2]
    by_cases c3 : a2 ≤ 1048576
    · rw [if_pos c3, up']
    · rw [if_neg c3, last]
  · rw [if_neg c2, last]
end Go.Proofs.Ytpdgeanicciaiaa.Pure
