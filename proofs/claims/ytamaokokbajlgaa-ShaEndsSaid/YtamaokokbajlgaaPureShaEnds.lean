/-
  The plain law of ShaEnds: a digest hangs on each byte's place.
-/
import Derived.Test.YtamaokokbajlgaaPShaEndsy1
import Derived.Test.YtamaokokbajlgaaShaFacts
namespace Go.Proofs.Ytamaokokbajlgaa.Pure
open Go.RowKit Go.Proofs.Ytamaokokbajlgaa Go.Proofs.Ytamaokokbajlgaa.P Go.Proofs.YtamaokokbajlgaaW.PrintWords Go.Proofs.YtamaokokbajlgaaW.PrintLast

theorem pad_f (n : Nat) (h : n ≤ 500) : sha_Pad.f (n : Int) = some (ofB (Sha.pad n)) := by
  unfold sha_Pad.f
  rw [if_neg (by omega), if_neg (by omega), Int.toNat_natCast]
theorem sum_f (l : List Int) (h : byteOk l = true) (hl : l.length ≤ 500) : sha_Sum.f l = some (ofB (Sha.sum (toB l))) := by
  unfold sha_Sum.f
  rw [if_pos ⟨h, by omega⟩]
theorem same_f (a b : List Int) (ha : byteOk a = true) (hb : byteOk b = true) : pyxref01_Same.f a b = some (a == b) := by
  unfold pyxref01_Same.f
  rw [if_pos ⟨ha, hb⟩]

theorem ShaEnds : pyxlaw02_ShaEnds.Pure := by
  intro l0 l1 _ _ h0 _ _ h1
  have o0 := byteOk_of_wf l0 h0
  have o1 := byteOk_of_wf l1 h1
  refine ⟨1, ?_⟩
  unfold pyxlaw02_ShaEnds.f pyxlaw02_shown.f
  rw [Option.bind_some]
  by_cases c0 : 500 < l0.length
  · rw [if_pos (by omega), pyxlaw02_ShaEnds.j0, if_pos rfl]
  rw [if_neg (by omega)]
  by_cases c1 : 500 < l1.length
  · rw [pyxlaw02_ShaEnds.j0, if_pos (by simp; omega)]
  have q0 := Sha.pad_length l0.length
  have q1 := Sha.pad_length l1.length
  have p0 := Sha.padLen_le l0.length
  have p1 := Sha.padLen_le l1.length
  rw [pyxlaw02_ShaEnds.j0, if_neg (by simp; omega)]
  rw [Option.bind_some, List.nil_append, List.length_nil, if_pos (by omega), Option.bind_some, pad_f _ (by omega), Option.bind_some, ofB_length, q0, if_pos (by omega),
    Option.bind_some, List.nil_append, List.length_nil, if_pos (by omega), Option.bind_some, pad_f _ (by omega), Option.bind_some, ofB_length, q1, if_pos (by omega), same_f _ _ o0 o1, Option.bind_some, if_pos rfl,
    same_f _ _ ((byteOk_append _ _).2 ⟨o0, byteOk_pad _⟩) ((byteOk_append _ _).2 ⟨o1, byteOk_pad _⟩), Option.bind_some]
  have hs : (l0 ++ ofB (Sha.pad l0.length) == l1 ++ ofB (Sha.pad l1.length)) = (l0 == l1) := by
    rw [Bool.eq_iff_iff, beq_iff_eq, beq_iff_eq]
    exact ⟨padded_inj l0 l1 (by omega) (by omega), fun h => by rw [h]⟩
  rw [hs, if_pos (beq_self_eq_true _), sum_f l0 o0 (by omega), sum_f l1 o1 (by omega)]
  simp only [Option.bind_some]
  have hlen : (((ofB (Sha.sum (toB l0))).length : Nat) : Int) = 32 := by rw [ofB_length, Sha.sum_length]; rfl
  by_cases e : (l0 == l1) = true
  · have e' := beq_iff_eq.1 e
    rw [if_pos e, same_f _ _ (byteOk_sum _) (byteOk_sum _), Option.bind_some, e', if_pos (beq_self_eq_true _), ← e', hlen]
    rfl
  · rw [if_neg e, hlen]
    rfl
end Go.Proofs.Ytamaokokbajlgaa.Pure
