/-
  The plain law of SigBack: what is signed is verified; what is wrapped for a public half is unwrapped by its seed.
-/
import Derived.Test.YtifpdpfjhjoieaaPSigBacky1
import Derived.Test.YtifpdpfjhjoieaaK6
namespace Go.Proofs.Ytifpdpfjhjoieaa.Pure
set_option linter.unusedSimpArgs false
open Go.RowKit Go.Proofs.Ytifpdpfjhjoieaa Go.Proofs.Ytifpdpfjhjoieaa.P Go.Proofs.YtifpdpfjhjoieaaW.PrintWords Go.Proofs.YtifpdpfjhjoieaaW.PrintLast Go.Proofs.YtifpdpfjhjoieaaW.PrintMore

theorem SigBack (l0 l1 : List Int) (a2 : ByteArray) (l3 l4 : List Int) (o0 : byteOk l0 = true) (o1 : byteOk l1 = true) (o3 : byteOk l3 = true) (o4 : byteOk l4 = true) : ∃ k, pyxlaw07_SigBack.f k l0 l1 a2 l3 l4 = some true := by
  refine ⟨1, ?_⟩
  have up : pyxlaw07_SigBack.j0 1 l0 l1 a2 l3 l4 true true = some true := by rw [pyxlaw07_SigBack.j0, if_pos rfl]
  unfold pyxlaw07_SigBack.f pyxlaw07_shown.f
  rw [Option.bind_some]
  by_cases h0 : l0.length = 32
  case neg => rw [if_neg (by omega), up]
  by_cases h1 : l1.length = 32
  case neg => rw [if_pos (by omega), if_neg (by omega), up]
  rw [if_pos (by omega), if_pos (by omega)]
  by_cases c2 : 100 < a2.size
  · rw [if_pos (by omega), up]
  rw [if_neg (by omega)]
  by_cases c3 : 100 < l3.length
  · rw [if_pos (by omega), up]
  rw [if_neg (by omega)]
  by_cases c4 : 200 < l4.length
  · rw [decide_eq_true (by omega), up]
  rw [decide_eq_false (by omega)]
  have sm : smallT l0 a2 l4 := ⟨o0, o4, by omega, by omega, by omega⟩
  have sw : smallW l3 l4 := ⟨o3, o4, by omega, by omega⟩
  have e1 := public_32 l0 h0 o0
  have e2 := sign_32 l0 a2 l4 h0 sm
  have e3 := wrap_32 (pubOf l0) l1 l3 l4 (byteOk_pubOf _) (pubOf_length _) o1 h1 sw
  have e4 : sig_Unwrap.f l0 (pubOf l1) l3 (sealOf (wrapKey (pubOf l0) (pubOf l1) l3) (wrapNonce (pubOf l0) (pubOf l1) l3) [] l4) = some (l4, 0) := by
    rw [unwrap_32 l0 (pubOf l1) l3 _ o0 h0 (byteOk_pubOf _) (pubOf_length _) ⟨o3, byteOk_sealOf _ _ _ _, by omega, by rw [sealOf_length]; omega⟩, open_seal _ _ _ _ (wrapKey_length _ _ _) (wrapNonce_length _ _ _) o4]
  have e5 := public_32 l1 h1 o1
  have e6 : sig_Verify.f (pubOf l0) a2 l4 (sigTag (pubOf l0) a2 l4) = some 0 := by
    rw [verify_32 _ _ _ _ (pubOf_length _) (smallT_pub _ _ _ sm) (byteOk_sigTag _ _ _), if_pos (beq_self_eq_true _)]
  have el : ((sealOf (wrapKey (pubOf l0) (pubOf l1) l3) (wrapNonce (pubOf l0) (pubOf l1) l3) [] l4).length : Int) = wrap64 ((l4.length : Int) + 32) := by rw [sealOf_length]; unfold wrap64; omega
  rw [pyxlaw07_SigBack.j0, if_neg (by decide), e1, Option.bind_some, e2, Option.bind_some]
  dsimp only
  rw [e3, Option.bind_some]
  dsimp only
  rw [e4, Option.bind_some, e5, Option.bind_some, if_pos rfl, if_pos rfl, if_pos rfl, if_pos rfl, if_pos rfl, if_pos rfl, e6, Option.bind_some, if_pos rfl, sameB _ o4, Option.bind_some, if_pos rfl, sameB _ (byteOk_pubOf _), Option.bind_some, if_pos rfl, el, beq_self_eq_true]
end Go.Proofs.Ytifpdpfjhjoieaa.Pure
