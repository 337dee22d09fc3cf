/-
  The plain law of KdfLabels: Label is Expand of what it says; with a label, or a context, or a number of bytes that is another one, the row that is expanded is another one.
-/
import Derived.Test.YtpdgeanicciaiaaPKdfLabelsy1
import Derived.Test.YtpdgeanicciaiaaZ4
import Derived.Lib.Strings
namespace Go.Proofs.Ytpdgeanicciaiaa.Pure
set_option linter.unusedSimpArgs false
open Go.RowKit Go.Proofs.Ytpdgeanicciaiaa Go.Proofs.Ytpdgeanicciaiaa.P Go.Proofs.YtpdgeanicciaiaaW.PrintWords Go.Proofs.YtpdgeanicciaiaaW.PrintLast

theorem bytesOf_inj (s t : ByteArray) (h : bytesOf s = bytesOf t) : s.toList = t.toList := by
  have hs : ∀ u : ByteArray, (bytesOf u).map (fun x => UInt8.ofNat x.toNat) = u.data.toList := fun u => by
    unfold bytesOf
    rw [List.map_map]
    conv => rhs; rw [← List.map_id u.data.toList]
    apply List.map_congr_left
    intro c _
    simp
  have h2 := congrArg (fun l : List Int => l.map (fun x => UInt8.ofNat x.toNat)) h
  rw [hs, hs] at h2
  have h3 : s = t := by
    cases s
    cases t
    congr 1
    exact Array.toList_inj.1 h2
  rw [h3]
theorem toList_inj' (s t : ByteArray) (h : s.toList = t.toList) : bytesOf s = bytesOf t := by
  have e : ∀ u : ByteArray, u.toList = u.data.toList := fun u => Lib.toList_data u
  rw [e, e] at h
  unfold bytesOf
  rw [h]
theorem labelRow_inj (a b : ByteArray) (x y : List Int) (ha : a.size ≤ 100) (hb : b.size ≤ 100) (hx : x.length ≤ 100) (hy : y.length ≤ 100) (n m : Nat) (hn : n < 65536) (hm : m < 65536) (h : labelRow a x n = labelRow b y m) : n = m ∧ a.toList = b.toList ∧ x = y := by
  unfold labelRow at h
  rw [List.append_assoc, List.append_assoc] at h
  obtain ⟨h1, h2⟩ := List.append_inj h (by rw [numB_length, numB_length])
  have l1 : (mls ++ bytesOf a).length ≤ 1000 := by rw [List.length_append, bytesOf_length]; show 8 + _ ≤ _; omega
  have l2 : (mls ++ bytesOf b).length ≤ 1000 := by rw [List.length_append, bytesOf_length]; show 8 + _ ≤ _; omega
  obtain ⟨h3, h4⟩ := rowB_inj _ _ _ _ (by omega) (by omega) h2
  rw [← List.append_nil (rowB x), ← List.append_nil (rowB y)] at h4
  obtain ⟨h5, -⟩ := rowB_inj _ _ _ _ (by omega) (by omega) h4
  exact ⟨numB_two_inj n m hn hm h1, bytesOf_inj a b (List.append_cancel_left h3), h5⟩
theorem KdfLabels (l0 : List Int) (a1 a2 : ByteArray) (l3 l4 : List Int) (o0 : byteOk l0 = true) (o3 : byteOk l3 = true) (o4 : byteOk l4 = true) : ∃ k, pyxlaw04_KdfLabels.f k l0 a1 a2 l3 l4 = some true := by
  refine ⟨1, ?_⟩
  have up' : pyxlaw04_KdfLabels.j0 1 l0 a1 a2 l3 l4 true true = some true := by rw [pyxlaw04_KdfLabels.j0, if_pos rfl]
  unfold pyxlaw04_KdfLabels.f pyxlaw04_shown.f
  rw [Option.bind_some]
  by_cases c0 : 100 < l0.length
  · rw [if_pos (by omega), up']
  by_cases c1 : 100 < a1.size
  · rw [if_neg (by omega), if_pos (by omega), up']
  by_cases c2 : 100 < a2.size
  · rw [if_neg (by omega), if_neg (by omega), if_pos (by omega), up']
  by_cases c3 : 100 < l3.length
  · rw [if_neg (by omega), if_neg (by omega), if_neg (by omega), if_pos (by omega), up']
  rw [if_neg (by omega), if_neg (by omega), if_neg (by omega), if_neg (by omega)]
  by_cases c4 : 100 < l4.length
  · rw [decide_eq_true (show (l4.length : Int) > 100 by omega), up']
  rw [decide_eq_false (show ¬ (l4.length : Int) > 100 by omega)]
  have e : ∀ x y, byteOk x = true → byteOk y = true → pyxref01_Same.f x y = some (x == y) := fun x y hx hy => by unfold pyxref01_Same.f; rw [if_pos ⟨hx, hy⟩]
  have tl : ∀ (a : ByteArray) (x : List Int) (c : Nat), a.size ≤ 100 → x.length ≤ 100 → byteOk x = true → c ≤ 8160 → pyxlaw04_told.f a x (c : Int) = some (labelRow a x c) := fun a x c h1 h2 h3 h4 => by
    unfold pyxlaw04_told.f
    rw [if_pos ⟨by omega, by omega, h3, by omega, by omega⟩, Int.toNat_natCast]
  have p1 := tl a1 l3 32 (by omega) (by omega) o3 (by omega)
  have p2 := tl a2 l4 32 (by omega) (by omega) o4 (by omega)
  have p3 := tl a1 l3 33 (by omega) (by omega) o3 (by omega)
  have p4 := label_some l0 a1 l3 32 (by omega) o0 o3 (by omega) (by omega) (by omega)
  have b1 := byteOk_labelRow a1 l3 32 o3
  have b2 := byteOk_labelRow a2 l4 32 o4
  have b3 := byteOk_labelRow a1 l3 33 o3
  have ll := labelRow_length a1 l3 32
  have p5 : kdf_Expand.f l0 (labelRow a1 l3 32) ((32 : Nat) : Int) = some (labelOf l0 a1 l3 32, 0) := by
    unfold kdf_Expand.f
    rw [if_neg (by omega), if_neg (by omega), if_pos ⟨o0, b1, by omega, by omega⟩, Int.toNat_natCast]
    rfl
  have n13 : (labelRow a1 l3 32 == labelRow a1 l3 33) = false := by
    rw [beq_eq_false_iff_ne]
    intro h
    have := (labelRow_inj a1 a1 l3 l3 (by omega) (by omega) (by omega) (by omega) 32 33 (by omega) (by omega) h).1
    omega
  have q12 : (labelRow a1 l3 32 == labelRow a2 l4 32) = (decide (a1.toList = a2.toList) && (l3 == l4)) := by
    rw [Bool.eq_iff_iff, beq_iff_eq, Bool.and_eq_true, decide_eq_true_eq, beq_iff_eq]
    constructor
    · intro h
      exact (labelRow_inj a1 a2 l3 l4 (by omega) (by omega) (by omega) (by omega) 32 32 (by omega) (by omega) h).2
    · rintro ⟨h1, h2⟩
      unfold labelRow
      rw [toList_inj' _ _ h1, h2]
  generalize labelRow a1 l3 32 = x1 at *
  generalize labelRow a2 l4 32 = x2 at *
  generalize labelRow a1 l3 33 = x3 at *
  have bl := byteOk_labelOf l0 a1 l3 32
  generalize labelOf l0 a1 l3 32 = y at *
  have p1 : pyxlaw04_told.f a1 l3 32 = some x1 := p1
  have p2 : pyxlaw04_told.f a2 l4 32 = some x2 := p2
  have p3 : pyxlaw04_told.f a1 l3 33 = some x3 := p3
  have p4 : kdf_Label.f l0 a1 l3 32 = some (y, 0) := p4
  have p5 : kdf_Expand.f l0 x1 32 = some (y, 0) := p5
  rw [pyxlaw04_KdfLabels.j0, if_neg (by simp), p1, Option.bind_some, p2, Option.bind_some, p3, Option.bind_some, p4, Option.bind_some, p5, Option.bind_some]
  by_cases ha : a1.toList = a2.toList
  · rw [if_pos ha, e _ _ o3 o4, Option.bind_some, if_pos rfl, if_pos rfl, if_pos rfl, e _ _ bl bl, Option.bind_some, beq_self_eq_true, if_pos rfl, e _ _ b1 b2, Option.bind_some, q12, decide_eq_true ha, Bool.true_and, beq_self_eq_true, if_pos rfl, e _ _ b1 b3, Option.bind_some, n13]
    rfl
  · rw [if_neg ha, if_pos rfl, if_pos rfl, if_pos rfl, e _ _ bl bl, Option.bind_some, beq_self_eq_true, if_pos rfl, e _ _ b1 b2, Option.bind_some, q12, decide_eq_false ha, Bool.false_and, beq_self_eq_true, if_pos rfl, e _ _ b1 b3, Option.bind_some, n13]
    rfl
end Go.Proofs.Ytpdgeanicciaiaa.Pure
