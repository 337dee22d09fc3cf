/-
  The plain law of ShaTells: both digests are the plain digest.
-/
import Derived.Test.YtamaokokbajlgaaPShaTellsy1
import Derived.Test.YtamaokokbajlgaaShaFacts
namespace Go.Proofs.Ytamaokokbajlgaa.Pure
open Go.RowKit Go.Proofs.Ytamaokokbajlgaa Go.Proofs.Ytamaokokbajlgaa.P Go.Proofs.YtamaokokbajlgaaW.PrintWords Go.Proofs.YtamaokokbajlgaaW.PrintLast

theorem ShaTells : pyxlaw02_ShaTells.Pure := by
  intro l0 _ _ h0
  have o0 := byteOk_of_wf l0 h0
  unfold pyxlaw02_ShaTells.f pyxlaw02_shown.f
  rw [Option.bind_some]
  by_cases c0 : 1500 < l0.length
  · rw [if_pos (by omega)]
  rw [if_neg (by omega), if_pos rfl]
  have e1 : sha_Sum.f l0 = some (ofB (Sha.sum (toB l0))) := by unfold sha_Sum.f; rw [if_pos ⟨o0, by omega⟩]
  have e2 : pyxref02_Sum.f l0 = some (ofB (Sha.sum (toB l0))) := by unfold pyxref02_Sum.f; rw [if_pos ⟨o0, by omega⟩]
  rw [e1, e2, Option.bind_some, Option.bind_some]
  unfold pyxref01_Same.f
  rw [if_pos ⟨byteOk_sum _, byteOk_sum _⟩, Option.bind_some, beq_self_eq_true]
end Go.Proofs.Ytamaokokbajlgaa.Pure
