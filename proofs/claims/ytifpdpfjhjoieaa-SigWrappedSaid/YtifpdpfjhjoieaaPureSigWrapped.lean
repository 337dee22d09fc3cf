/-
  The plain law of SigWrapped: two things wrapped by the same seed have the same half; another one's half is that of it; sealed bytes have 32 more.
-/
import Derived.Test.YtifpdpfjhjoieaaPSigWrappedy1
import Derived.Test.YtifpdpfjhjoieaaK6
namespace Go.Proofs.Ytifpdpfjhjoieaa.Pure
set_option linter.unusedSimpArgs false
open Go.RowKit Go.Proofs.Ytifpdpfjhjoieaa Go.Proofs.Ytifpdpfjhjoieaa.P Go.Proofs.YtifpdpfjhjoieaaW.PrintWords Go.Proofs.YtifpdpfjhjoieaaW.PrintLast Go.Proofs.YtifpdpfjhjoieaaW.PrintMore

theorem min_n (n m : Nat) (h : n < 256) (hm : 32 ≤ m) : mn (Int.tmod (wrap64 (n : Int)) 32) (m : Int) = ((n % 32 : Nat) : Int) := by
  have e : wrap64 (n : Int) = (n : Int) := by unfold wrap64; omega
  have e2 : Int.tmod (n : Int) 32 = ((n % 32 : Nat) : Int) := rfl
  rw [e, e2]
  unfold mn
  rw [if_neg (by omega)]
theorem SigWrapped (l0 l1 l2 l3 : List Int) (n : Nat) (hn : n < 256) (o0 : byteOk l0 = true) (o1 : byteOk l1 = true) (o2 : byteOk l2 = true) (o3 : byteOk l3 = true) : ∃ k, pyxlaw07_SigWrapped.f k l0 l1 l2 l3 (n : Int) = some true := by
  refine ⟨1, ?_⟩
  have up : pyxlaw07_SigWrapped.j0 1 l0 l1 l2 l3 (n : Int) true true = some true := by rw [pyxlaw07_SigWrapped.j0, if_pos rfl]
  unfold pyxlaw07_SigWrapped.f pyxlaw07_shown.f
  rw [Option.bind_some]
  by_cases h0 : l0.length = 32
  case neg => rw [if_neg (by omega), up]
  by_cases h1 : l1.length = 32
  case neg => rw [if_pos (by omega), if_neg (by omega), up]
  rw [if_pos (by omega), if_pos (by omega)]
  by_cases c2 : 200 < l2.length
  · rw [if_pos (by omega), up]
  rw [if_neg (by omega)]
  by_cases c3 : 200 < l3.length
  · rw [decide_eq_true (by omega), up]
  rw [decide_eq_false (by omega)]
  have s2 : smallW l2 l2 := ⟨o2, o2, by omega, by omega⟩
  have s3 : smallW l3 l3 := ⟨o3, o3, by omega, by omega⟩
  have e1 := half_32 l0 o0 h0
  have e2 := wrap_32 (pubOf l0) l1 l2 l2 (byteOk_pubOf _) (pubOf_length _) o1 h1 s2
  have e3 := wrap_32 (pubOf l0) l1 l3 l3 (byteOk_pubOf _) (pubOf_length _) o1 h1 s3
  have k2 := sealOf_length (wrapKey (pubOf l0) (pubOf l1) l2) (wrapNonce (pubOf l0) (pubOf l1) l2) [] l2
  have k3 := sealOf_length (wrapKey (pubOf l0) (pubOf l1) l3) (wrapNonce (pubOf l0) (pubOf l1) l3) [] l3
  have b2 := byteOk_sealOf (wrapKey (pubOf l0) (pubOf l1) l2) (wrapNonce (pubOf l0) (pubOf l1) l2) [] l2
  have hp := pubOf_length l1
  have op := byteOk_pubOf l1
  have e4 : ∀ x, sig_Unwrap.f l0 ((pubOf l1).take (((n % 32 : Nat) : Int)).toNat) l2 x = some ([], 1) := fun x => unwrap_bad _ _ _ _ o0 (by rw [List.length_take, hp, Int.toNat_natCast]; omega)
  have e5 : sig_Unwrap.f l0 (pubOf l1) l2 ((sealOf (wrapKey (pubOf l0) (pubOf l1) l2) (wrapNonce (pubOf l0) (pubOf l1) l2) [] l2).take (((n % 32 : Nat) : Int)).toNat) = some ([], 3) := by
    have hk : ((sealOf (wrapKey (pubOf l0) (pubOf l1) l2) (wrapNonce (pubOf l0) (pubOf l1) l2) [] l2).take (((n % 32 : Nat) : Int)).toNat).length < 32 := by rw [List.length_take, Int.toNat_natCast]; omega
    rw [unwrap_32 l0 (pubOf l1) l2 _ o0 h0 op hp ⟨o2, byteOk_take _ _ b2, by omega, by omega⟩]
    unfold openR
    rw [if_pos ⟨wrapKey_length _ _ _, wrapNonce_length _ _ _⟩, if_pos hk]
  have e6 := half_32 l1 o1 h1
  generalize sealOf (wrapKey (pubOf l0) (pubOf l1) l2) (wrapNonce (pubOf l0) (pubOf l1) l2) [] l2 = s at *
  generalize sealOf (wrapKey (pubOf l0) (pubOf l1) l3) (wrapNonce (pubOf l0) (pubOf l1) l3) [] l3 = t at *
  have f1 : (0 : Int) ≤ ((n % 32 : Nat) : Int) := Int.natCast_nonneg _
  have f2 : ((n % 32 : Nat) : Int) ≤ ((pubOf l1).length : Int) := by rw [hp]; omega
  have f3 : ((n % 32 : Nat) : Int) ≤ (s.length : Int) := by rw [k2]; omega
  have q2 : ((s.length : Nat) : Int) = wrap64 ((l2.length : Int) + 32) := by rw [k2]; unfold wrap64; omega
  have q3 : ((t.length : Nat) : Int) = wrap64 ((l3.length : Int) + 32) := by rw [k3]; unfold wrap64; omega
  have m1 := min_n n (pubOf l1).length hn (by omega)
  have m2 := min_n n s.length hn (by omega)
  rw [pyxlaw07_SigWrapped.j0, if_neg (by decide), e1, Option.bind_some, e2, Option.bind_some, e3, Option.bind_some]
  dsimp only
  rw [m1, m2]
  rw [if_pos f1, if_pos f2, e4, Option.bind_some]
  rw [if_pos f1, if_pos f3]
  rw [e5, Option.bind_some, if_pos rfl]
  dsimp only
  rw [if_pos rfl, if_pos rfl, sameB _ op, Option.bind_some, if_pos rfl, e6, Option.bind_some, sameB _ op, Option.bind_some, if_pos rfl]
  rw [if_pos q2]
  rw [if_pos q3]
  rw [if_pos rfl]
  exact congrArg some (by decide)
end Go.Proofs.Ytifpdpfjhjoieaa.Pure
