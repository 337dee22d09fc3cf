/-
  The plain law of MacSame: rows are the same just if they have as many bytes, and each is.
-/
import Derived.Test.YtamaokokbajlgaaPMacSamey1
namespace Go.Proofs.Ytamaokokbajlgaa.Pure
open Go.RowKit Go.Proofs.Ytamaokokbajlgaa Go.Proofs.Ytamaokokbajlgaa.P Go.Proofs.YtamaokokbajlgaaW.PrintWords Go.Proofs.YtamaokokbajlgaaW.PrintLast

theorem same_f (a b : List Int) (ha : byteOk a = true) (hb : byteOk b = true) (h : a.length ≤ 400) : mac_Same.f a b = some (a == b) := by
  unfold mac_Same.f
  rw [if_pos ⟨ha, hb, by omega⟩]
theorem xor_eq_self (a b : Nat) : a ^^^ b = a ↔ b = 0 := by
  constructor
  · intro h
    have h2 := congrArg (a ^^^ ·) h
    simp only [Nat.xor_self, ← Nat.xor_assoc, Nat.zero_xor] at h2
    exact h2
  · intro h
    rw [h, Nat.xor_zero]
theorem set_same (l : List Int) (i : Nat) (y : Int) (hi : i < l.length) (hl : byteOk l = true) (h0 : 0 ≤ y) (h1 : y < 256) : (l == l.set i (Go.bits .xor .u8 (rd l (i : Int)) y)) = (y == 0) := by
  obtain ⟨a, ha, ha2⟩ := rd_byte l hl i hi
  obtain ⟨b, rfl⟩ := Int.eq_ofNat_of_zero_le h0
  have hx := rd_at l i hi
  rw [ha, u8_xor_nat a b ha2 (by omega), Bool.eq_iff_iff, beq_iff_eq, beq_iff_eq]
  constructor
  · intro h
    have h3 := congrArg (fun m => m[i]?) h
    simp only [List.getElem?_set, if_pos hi, List.getElem?_eq_getElem hi, if_true] at h3
    injection h3 with h3
    have h4 : a ^^^ b = a := by omega
    rw [xor_eq_self] at h4
    omega
  · intro h
    have h4 : b = 0 := by omega
    rw [h4, Nat.xor_zero, ← ha, hx, List.set_getElem_self]
theorem byteOk_set (l : List Int) (i : Nat) (y : Int) (hl : byteOk l = true) (h0 : 0 ≤ y) (h1 : y < 256) : byteOk (l.set i y) = true := by
  rw [byteOk_iff] at hl ⊢
  intro x hx
  rcases List.mem_or_eq_of_mem_set hx with h | h
  · exact hl x h
  · omega
theorem MacSame : pyxlaw03_MacSame.Pure := by
  intro l0 a1 a2 _ _ h0 h1 h2
  have o0 := byteOk_of_wf l0 h0
  have b1 := Go.bounds_u16 h1
  have b2 := Go.bounds_u8 h2
  refine ⟨1, ?_⟩
  unfold pyxlaw03_MacSame.f pyxlaw03_shown.f
  rw [Option.bind_some]
  by_cases c0 : 300 < l0.length
  · rw [if_pos (by omega)]
  have o2 : byteOk (l0 ++ [a2]) = true := (byteOk_append _ _).2 ⟨o0, by rw [byteOk_iff]; intro x hx; rw [List.mem_singleton.1 hx]; omega⟩
  have n1 : (l0 == l0 ++ [a2]) = false := by
    rw [beq_eq_false_iff_ne]
    intro h
    have := congrArg List.length h
    simp at this
  have n2 : (l0 ++ [a2] == l0) = false := by
    rw [beq_eq_false_iff_ne]
    intro h
    have := congrArg List.length h
    simp at this
  rw [if_neg (by omega), Option.bind_some, List.nil_append, List.length_nil, if_pos (by omega), Option.bind_some, if_pos (by omega), Option.bind_some, same_f _ _ o0 o2 (by omega), Option.bind_some, n1, if_neg (by decide),
    same_f _ _ o2 o0 (by simp; omega), Option.bind_some, n2, if_neg (by decide), Option.bind_some, if_pos (by simp; omega), List.nil_append, same_f _ _ o0 o0 (by omega), Option.bind_some, beq_self_eq_true, pyxlaw03_MacSame.j0, if_neg (by decide)]
  by_cases hz : l0.length = 0
  · obtain rfl : l0 = [] := List.eq_nil_of_length_eq_zero hz
    rw [if_pos (by simp), if_pos rfl, same_f _ _ o0 o0 (by simp)]
    rfl
  · have e1 : wrap64 a1 = a1 := by unfold wrap64; omega
    obtain ⟨m, rfl⟩ := Int.eq_ofNat_of_zero_le (show 0 ≤ a1 by omega)
    have e2 : Int.tmod (m : Int) (l0.length : Int) = ((m % l0.length : Nat) : Int) := by rw [Int.tmod_eq_emod_of_nonneg (by omega)]; omega
    have hi : m % l0.length < l0.length := Nat.mod_lt _ (by omega)
    obtain ⟨a, ha, ha2⟩ := rd_byte l0 o0 _ hi
    have hs := set_same l0 _ a2 hi o0 (by omega) (by omega)
    have hs' : (l0.set (m % l0.length) (Go.bits .xor .u8 (rd l0 ((m % l0.length : Nat) : Int)) a2) == l0) = (a2 == 0) := by rw [← hs]; exact BEq.comm
    have ob : byteOk (l0.set (m % l0.length) (Go.bits .xor .u8 (rd l0 ((m % l0.length : Nat) : Int)) a2)) = true := by
      obtain ⟨b, rfl⟩ := Int.eq_ofNat_of_zero_le (show 0 ≤ a2 by omega)
      have hab : a ^^^ b < 2 ^ 8 := Nat.xor_lt_two_pow (by omega) (by omega)
      rw [ha, u8_xor_nat a b ha2 (by omega)]
      exact byteOk_set _ _ _ o0 (by omega) (by omega)
    rw [if_neg (by omega), Option.bind_some, List.nil_append, List.length_nil, if_pos (by omega), Option.bind_some, e1, e2, if_pos (by omega), if_pos (by omega), Option.bind_some, if_pos rfl, Int.toNat_natCast,
      same_f _ _ o0 ob (by omega), Option.bind_some, hs, beq_self_eq_true, if_pos rfl, same_f _ _ ob o0 (by rw [List.length_set]; omega), Option.bind_some, hs', beq_self_eq_true]
end Go.Proofs.Ytamaokokbajlgaa.Pure
