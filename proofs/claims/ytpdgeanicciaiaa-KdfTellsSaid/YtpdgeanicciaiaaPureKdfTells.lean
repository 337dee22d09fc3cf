/-
  The plain law of KdfTells: keys of salts and secrets, and bytes of keys, with labels too, are as the document says.
-/
import Derived.Test.YtpdgeanicciaiaaPKdfTellsy1
namespace Go.Proofs.Ytpdgeanicciaiaa.Pure
set_option linter.unusedSimpArgs false
open Go.RowKit Go.Proofs.Ytpdgeanicciaiaa Go.Proofs.Ytpdgeanicciaiaa.P Go.Proofs.YtpdgeanicciaiaaW.PrintWords Go.Proofs.YtpdgeanicciaiaaW.PrintLast

theorem KdfTells (l0 l1 : List Int) (a2 : ByteArray) (a3 : Int) (o0 : byteOk l0 = true) (o1 : byteOk l1 = true) : ∃ k, pyxlaw04_KdfTells.f k l0 l1 a2 a3 = some true := by
  refine ⟨1, ?_⟩
  have up : ∀ x, pyxlaw04_KdfTells.j0 1 l0 l1 a2 a3 true true = x → some true = x := fun x h => by rw [← h, pyxlaw04_KdfTells.j0, if_pos rfl]
  have up' : pyxlaw04_KdfTells.j0 1 l0 l1 a2 a3 true true = some true := by rw [pyxlaw04_KdfTells.j0, if_pos rfl]
  unfold pyxlaw04_KdfTells.f pyxlaw04_shown.f
  rw [Option.bind_some]
  by_cases c0 : 200 < l0.length
  · rw [if_pos (by omega), up']
  by_cases c1 : 200 < l1.length
  · rw [if_neg (by omega), if_pos (by omega), up']
  by_cases c2 : 100 < a2.size
  · rw [if_neg (by omega), if_neg (by omega), if_pos (by omega), up']
  rw [if_neg (by omega), if_neg (by omega), if_neg (by omega)]
  have main : pyxlaw04_KdfTells.j0 1 l0 l1 a2 a3 true false = some true := by
    have e : ∀ x, byteOk x = true → pyxref01_Same.f x x = some true := fun x hx => by unfold pyxref01_Same.f; rw [if_pos ⟨hx, hx⟩, beq_self_eq_true]
    obtain ⟨r, hr, hro⟩ : ∃ r, kdf_Expand.f l0 l1 a3 = some r ∧ byteOk r.1 = true := by
      unfold kdf_Expand.f
      split
      · exact ⟨_, rfl, rfl⟩
      · split
        · exact ⟨_, rfl, rfl⟩
        · rw [if_pos ⟨o0, o1, by omega, by omega⟩]
          exact ⟨_, rfl, byteOk_expandOf _ _ _⟩
    obtain ⟨s, hs, hso⟩ : ∃ r, kdf_Label.f l0 a2 l1 a3 = some r ∧ byteOk r.1 = true := by
      unfold kdf_Label.f
      split
      · exact ⟨_, rfl, rfl⟩
      · split
        · exact ⟨_, rfl, rfl⟩
        · rw [if_pos ⟨o0, o1, by omega, by omega, by omega⟩]
          exact ⟨_, rfl, byteOk_labelOf _ _ _ _⟩
    have d : kdf_Derive.f l0 a2 = some (labelOf l0 a2 [] 32, 0) := by unfold kdf_Derive.f; rw [if_pos ⟨o0, by omega, by omega⟩]
    have s1 : mac_Sum.f l1 l0 = some (macSum l1 l0) := by unfold mac_Sum.f; rw [if_pos ⟨o1, o0, by omega, by omega⟩]
    have s2 : pyxref03_Sum.f l1 l0 = some (macSum l1 l0) := by unfold pyxref03_Sum.f; rw [if_pos ⟨o1, o0, by omega, by omega⟩]
    rw [pyxlaw04_KdfTells.j0, if_neg (by simp)]
    unfold pyxref04_Expand.f pyxref04_Label.f pyxref04_Derive.f kdf_Extract.f pyxref04_Extract.f
    rw [hr, Option.bind_some, Option.bind_some, hs, Option.bind_some, Option.bind_some, d, Option.bind_some, Option.bind_some, if_pos rfl, s1, Option.bind_some, s2, Option.bind_some, e _ (byteOk_macSum _ _), Option.bind_some, if_pos rfl,
      e _ hro, Option.bind_some, if_pos rfl, if_pos rfl, e _ hso, Option.bind_some, if_pos rfl, if_pos rfl, e _ (byteOk_labelOf _ _ _ _), Option.bind_some, if_pos rfl, beq_self_eq_true]
  by_cases c3 : a3 > 400
  · rw [if_pos c3]
    by_cases c4 : a3 ≤ 8160
    · rw [decide_eq_true c4, up']
    · rw [decide_eq_false c4, main]
  · rw [if_neg c3, main]
end Go.Proofs.Ytpdgeanicciaiaa.Pure
