/-
  The plain law of SealSpoilt: a byte of sealed bytes that is changed makes Open refuse them, or two rows that are not the same have the same tag.
-/
import Derived.Test.YtifpdpfjhjoieaaPSealSpoilty1
import Derived.Test.YtifpdpfjhjoieaaZ5
import Derived.Test.YtifpdpfjhjoieaaZ3
namespace Go.Proofs.Ytifpdpfjhjoieaa.Pure
set_option linter.unusedSimpArgs false
set_option linter.unusedVariables false
open Go.RowKit Go.Proofs.Ytifpdpfjhjoieaa Go.Proofs.Ytifpdpfjhjoieaa.P Go.Proofs.YtifpdpfjhjoieaaW.PrintWords Go.Proofs.YtifpdpfjhjoieaaW.PrintLast

theorem xor_eq_self (a b : Nat) : a ^^^ b = a ↔ b = 0 := by
  constructor
  · intro h
    have h2 := congrArg (a ^^^ ·) h
    simp only [Nat.xor_self, ← Nat.xor_assoc, Nat.zero_xor] at h2
    exact h2
  · intro h
    rw [h, Nat.xor_zero]
theorem set_same (l : List Int) (i : Nat) (y : Int) (hi : i < l.length) (hl : byteOk l = true) (h0 : 0 ≤ y) (h1 : y < 256) : (l == l.set i (Go.bits .xor .u8 (rd l (i : Int)) y)) = (y == 0) := by
  obtain ⟨a, ha, ha2⟩ := rd_byte l hl i hi
  obtain ⟨b, rfl⟩ := Int.eq_ofNat_of_zero_le h0
  have hx := rd_at l i hi
  rw [ha, u8_xor_nat a b ha2 (by omega), Bool.eq_iff_iff, beq_iff_eq, beq_iff_eq]
  constructor
  · intro h
    have h3 := congrArg (fun m => m[i]?) h
    simp only [List.getElem?_set, if_pos hi, List.getElem?_eq_getElem hi, if_true] at h3
    injection h3 with h3
    have h4 : a ^^^ b = a := by omega
    rw [xor_eq_self] at h4
    omega
  · intro h
    have h4 : b = 0 := by omega
    rw [h4, Nat.xor_zero, ← ha, hx, List.set_getElem_self]
theorem byteOk_set (l : List Int) (i : Nat) (y : Int) (hl : byteOk l = true) (h0 : 0 ≤ y) (h1 : y < 256) : byteOk (l.set i y) = true := by
  rw [byteOk_iff] at hl ⊢
  intro x hx
  rcases List.mem_or_eq_of_mem_set hx with h | h
  · exact hl x h
  · omega
theorem cut4 (Y : List Int) (a b : Nat) : Y = Y.take 12 ++ ((Y.take (12 + a)).drop 12 ++ ((Y.drop (12 + a)).take b ++ (Y.drop (12 + a)).drop b)) := by
  rw [List.take_append_drop, ← List.append_assoc]
  have h : Y.take 12 = (Y.take (12 + a)).take 12 := by
    rw [List.take_take]
    congr 1
    omega
  rw [h, List.take_append_drop, List.take_append_drop]
/-- A byte that is changed: the tag behind it is as it was, and the rows that are tagged are not. -/
theorem spoilt (l0 l1 l2 S Y : List Int) (b i : Nat) (v : Int) (h1 : l1.length = 12) (hl2 : l2.length ≤ 100) (hS : S.length = b + 32) (hY : Y = l1 ++ l2 ++ S) (ht : sealTag l0 l1 l2 (S.take b) = S.drop b) (hne : Y.set i v ≠ Y)
    (h : sealTag l0 ((Y.set i v).take 12) (((Y.set i v).take (12 + l2.length)).drop 12) (((Y.set i v).drop (12 + l2.length)).take b) = ((Y.set i v).drop (12 + l2.length)).drop b) :
    (rowB l2 ++ l1 ++ S.take b ≠ rowB (((Y.set i v).take (12 + l2.length)).drop 12) ++ (Y.set i v).take 12 ++ ((Y.set i v).drop (12 + l2.length)).take b) ∧ ((Y.set i v).drop (12 + l2.length)).drop b = S.drop b := by
  have t1 : Y.take 12 = l1 := by rw [hY, List.append_assoc, List.take_left' h1]
  have t2 : Y.take (12 + l2.length) = l1 ++ l2 := by rw [hY, List.take_left' (by rw [List.length_append, h1])]
  have t2' : (l1 ++ l2).drop 12 = l2 := List.drop_left' h1
  have t3 : Y.drop (12 + l2.length) = S := by rw [hY, List.drop_left' (by rw [List.length_append, h1])]
  have hd : ((Y.set i v).drop (12 + l2.length)).drop b = S.drop b := by
    by_cases hi : i < 12 + l2.length + b
    · rw [List.drop_drop, List.drop_set_of_lt hi, ← List.drop_drop, t3]
    · have e1 : (Y.set i v).take 12 = l1 := by rw [List.take_set_of_le (by omega), t1]
      have e2 : (Y.set i v).take (12 + l2.length) = l1 ++ l2 := by rw [List.take_set_of_le (by omega), t2]
      have e3 : ((Y.set i v).drop (12 + l2.length)).take b = S.take b := by rw [List.drop_set, if_neg (by omega), t3, List.take_set_of_le (by omega)]
      rw [e1, e2, t2', e3, ht] at h
      exact h.symm
  refine ⟨fun e => hne ?_, hd⟩
  have hlen : (Y.set i v).length = 12 + l2.length + (b + 32) := by rw [List.length_set, hY, List.length_append, List.length_append, h1, hS]
  rw [List.append_assoc, List.append_assoc] at e
  obtain ⟨e1, e2⟩ := rowB_inj _ _ _ _ (by omega) (by rw [List.length_drop, List.length_take, hlen]; omega) e
  obtain ⟨e3, e4⟩ := List.append_inj e2 (by rw [List.length_take, hlen, h1]; omega)
  rw [cut4 (Y.set i v) l2.length b, ← e1, ← e3, ← e4, hd, hY, List.take_append_drop, List.append_assoc]
theorem told06 (a b c : List Int) (h1 : a.length ≤ 300000) (h2 : b.length ≤ 300000) (h3 : c.length ≤ 300000) : pyxlaw06_told.f a b c = some (rowB b ++ a ++ c) := by
  unfold pyxlaw06_told.f
  rw [if_pos ⟨h1, h2, h3⟩]
theorem SealSpoilt (l0 l1 l2 l3 : List Int) (n : Nat) (hn : n < 65536) (y : Int) (y0 : 0 ≤ y) (y1 : y < 256) (o0 : byteOk l0 = true) (o1 : byteOk l1 = true) (o2 : byteOk l2 = true) (o3 : byteOk l3 = true) : ∃ k, pyxlaw06_SealSpoilt.f k l0 l1 l2 l3 (n : Int) y = some true := by
  refine ⟨2, ?_⟩
  have up : pyxlaw06_SealSpoilt.j0 2 l0 l1 l2 l3 (n : Int) y true true = some true := by rw [pyxlaw06_SealSpoilt.j0, if_pos rfl]
  unfold pyxlaw06_SealSpoilt.f pyxlaw06_shown.f
  rw [Option.bind_some]
  by_cases h32 : l0.length = 32
  case neg => rw [if_neg (by omega), up]
  by_cases h12 : l1.length = 12
  case neg => rw [if_pos (by omega), if_neg (by omega), up]
  rw [if_pos (by omega), if_pos (by omega)]
  by_cases c2 : 100 < l2.length
  · rw [if_pos (by omega), up]
  rw [if_neg (by omega)]
  by_cases c3 : 200 < l3.length
  · rw [if_pos (by omega), up]
  rw [if_neg (by omega)]
  by_cases cy : y = 0
  · rw [cy, beq_self_eq_true]
    rw [cy] at up
    exact up
  clear up
  have cy' : (y == 0) = false := beq_eq_false_iff_ne.mpr cy
  have sm : smallB l0 l1 l2 l3 := ⟨o0, o1, o2, o3, by omega, by omega⟩
  have es := seal_32 l0 l1 l2 l3 sm h32 h12
  have eh : pyxref06_Halves.f l0 = some (lockOf l0, tagOf l0, 0) := by
    unfold pyxref06_Halves.f
    rw [if_pos o0]
    exact halves_32 l0 o0 h32
  have hS := sealOf_length l0 l1 l2 l3
  have oS := byteOk_sealOf l0 l1 l2 l3
  have hT : sealTag l0 l1 l2 ((sealOf l0 l1 l2 l3).take l3.length) = (sealOf l0 l1 l2 l3).drop l3.length := by rw [sealOf_take, sealOf_drop]
  generalize sealOf l0 l1 l2 l3 = S at es hS oS hT
  have dS : ((S.length : Int) != (wrap64 ((l3.length : Int) + 32))) = false := by
    have e : wrap64 ((l3.length : Int) + 32) = ((l3.length + 32 : Nat) : Int) := by unfold wrap64; omega
    rw [e, hS]
    exact bne_self_eq_false _
  have hw : wrap64 (12 + (l2.length : Int)) = ((12 + l2.length : Nat) : Int) := by unfold wrap64; omega
  have hn64 : wrap64 (n : Int) = (n : Int) := by unfold wrap64; omega
  obtain ⟨Y, hY⟩ : ∃ Y, Y = l1 ++ l2 ++ S := ⟨_, rfl⟩
  have LY : Y.length = 12 + l2.length + (l3.length + 32) := by rw [hY, List.length_append, List.length_append, h12, hS]
  have oY : byteOk Y = true := by rw [hY]; exact (byteOk_append _ _).2 ⟨(byteOk_append _ _).2 ⟨o1, o2⟩, oS⟩
  have hm : Int.tmod (n : Int) (Y.length : Int) = ((n % Y.length : Nat) : Int) := rfl
  have hi : n % Y.length < Y.length := Nat.mod_lt _ (by omega)
  have hset := set_same Y (n % Y.length) y hi oY y0 y1
  have hb := Go.bounds_u8 (wf_bits .xor .u8 (rd Y ((n % Y.length : Nat) : Int)) y)
  have oY' := byteOk_set Y (n % Y.length) _ oY hb.1 (by omega)
  rw [cy'] at hset
  rw [pyxlaw06_SealSpoilt.j0, cy', if_neg (by decide), es, Option.bind_some, if_pos rfl]
  dsimp only
  rw [dS, pyxlaw06_SealSpoilt.j1, if_neg (by decide), eh, Option.bind_some, Option.bind_some, if_pos (by rw [List.length_nil, h12]; decide), Option.bind_some, List.nil_append, if_pos (by omega), Option.bind_some, if_pos (by rw [List.length_append]; omega), Option.bind_some, ← hY, hn64, hm, hw, Int.toNat_natCast, Int.toNat_natCast]
  rw [if_neg (by omega), if_pos (Int.natCast_nonneg _), if_pos (by omega), Option.bind_some, if_pos (by omega), Option.bind_some, if_pos (by omega), if_pos (by omega), Option.bind_some, if_pos (Int.natCast_nonneg _), Option.bind_some]
  generalize Go.bits .xor .u8 (rd Y ((n % Y.length : Nat) : Int)) y = v at *
  generalize n % Y.length = i at *
  have hne : Y.set i v ≠ Y := fun e => by
    rw [e, beq_self_eq_true] at hset
    cases hset
  have lY' : (Y.set i v).length = 12 + l2.length + (l3.length + 32) := by rw [List.length_set, LY]
  have l12 : ((Y.set i v).take 12).length = 12 := by rw [List.length_take]; omega
  have lw : (((Y.set i v).take (12 + l2.length)).drop 12).length = l2.length := by rw [List.length_drop, List.length_take]; omega
  have ly : ((Y.set i v).drop (12 + l2.length)).length = l3.length + 32 := by rw [List.length_drop]; omega
  have sm2 : smallB l0 ((Y.set i v).take 12) (((Y.set i v).take (12 + l2.length)).drop 12) ((Y.set i v).drop (12 + l2.length)) := ⟨o0, byteOk_take _ _ oY', byteOk_drop _ _ (byteOk_take _ _ oY'), byteOk_drop _ _ oY', by omega, by omega⟩
  rw [open_some _ _ _ _ sm2, Option.bind_some]
  by_cases hc : sealTag l0 ((Y.set i v).take 12) (((Y.set i v).take (12 + l2.length)).drop 12) (((Y.set i v).drop (12 + l2.length)).take l3.length) = ((Y.set i v).drop (12 + l2.length)).drop l3.length
  case neg =>
    have e : openR l0 ((Y.set i v).take 12) (((Y.set i v).take (12 + l2.length)).drop 12) ((Y.set i v).drop (12 + l2.length)) = ([], 5) := by
      unfold openR
      rw [if_pos ⟨h32, l12⟩, if_neg (by omega), ly, Nat.add_sub_cancel, if_neg hc]
    rw [e, if_pos rfl, if_pos rfl]
    rfl
  obtain ⟨q1, q2⟩ := spoilt l0 l1 l2 S Y l3.length i v h12 (by omega) hS hY hT hne hc
  have s1 : pyxref03_Sum.f (tagOf l0) (rowB l2 ++ l1 ++ S.take l3.length) = some (S.drop l3.length) := by
    have e := rowB_length l2
    unfold pyxref03_Sum.f
    rw [if_pos ⟨byteOk_labelOf _ _ _ _, (byteOk_append _ _).2 ⟨(byteOk_append _ _).2 ⟨byteOk_rowB _ o2, o1⟩, byteOk_take _ _ oS⟩, by rw [tagOf_length]; decide, by rw [List.length_append, List.length_append, List.length_take]; omega⟩, ← hT, List.append_assoc]
    rfl
  have s2 : pyxref03_Sum.f (tagOf l0) (rowB (((Y.set i v).take (12 + l2.length)).drop 12) ++ (Y.set i v).take 12 ++ ((Y.set i v).drop (12 + l2.length)).take l3.length) = some (S.drop l3.length) := by
    have e := rowB_length (((Y.set i v).take (12 + l2.length)).drop 12)
    unfold pyxref03_Sum.f
    rw [if_pos ⟨byteOk_labelOf _ _ _ _, (byteOk_append _ _).2 ⟨(byteOk_append _ _).2 ⟨byteOk_rowB _ (byteOk_drop _ _ (byteOk_take _ _ oY')), byteOk_take _ _ oY'⟩, byteOk_take _ _ (byteOk_drop _ _ oY')⟩, by rw [tagOf_length]; decide, by rw [List.length_append, List.length_append, l12, List.length_take]; omega⟩, ← q2, ← hc, List.append_assoc]
    rfl
  have ok1 : byteOk (rowB l2 ++ l1 ++ S.take l3.length) = true := (byteOk_append _ _).2 ⟨(byteOk_append _ _).2 ⟨byteOk_rowB _ o2, o1⟩, byteOk_take _ _ oS⟩
  have ok2 : byteOk (rowB (((Y.set i v).take (12 + l2.length)).drop 12) ++ (Y.set i v).take 12 ++ ((Y.set i v).drop (12 + l2.length)).take l3.length) = true := (byteOk_append _ _).2 ⟨(byteOk_append _ _).2 ⟨byteOk_rowB _ (byteOk_drop _ _ (byteOk_take _ _ oY')), byteOk_take _ _ oY'⟩, byteOk_take _ _ (byteOk_drop _ _ oY')⟩
  have e : openR l0 ((Y.set i v).take 12) (((Y.set i v).take (12 + l2.length)).drop 12) ((Y.set i v).drop (12 + l2.length)) = (streamOf (lockOf l0) ((Y.set i v).take 12) (((Y.set i v).drop (12 + l2.length)).take l3.length), 0) := by
    unfold openR
    rw [if_pos ⟨h32, l12⟩, if_neg (by omega), ly, Nat.add_sub_cancel, if_pos hc]
  rw [e]
  dsimp only
  rw [if_neg (by decide), if_pos (Int.natCast_nonneg _), if_pos (by omega), Int.toNat_natCast, told06 _ _ _ (by omega) (by omega) (by rw [List.length_take]; omega), Option.bind_some, if_pos (by omega), told06 _ _ _ (by omega) (by omega) (by rw [List.length_take]; omega), Option.bind_some, if_pos rfl, same_some _ _ ok1 ok2, Option.bind_some, beq_eq_false_iff_ne.mpr q1, if_neg (by decide), s1, Option.bind_some, s2, Option.bind_some, same_self _ (byteOk_drop _ _ oS), Option.bind_some]
end Go.Proofs.Ytifpdpfjhjoieaa.Pure
