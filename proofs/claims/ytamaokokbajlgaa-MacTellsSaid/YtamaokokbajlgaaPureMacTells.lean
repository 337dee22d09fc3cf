/-
  The plain law of MacTells: keys' blocks, tags, of rows too, and whether rows are the same, are as the document says.
-/
import Derived.Test.YtamaokokbajlgaaPMacTellsy1
namespace Go.Proofs.Ytamaokokbajlgaa.Pure
open Go.RowKit Go.Proofs.Ytamaokokbajlgaa Go.Proofs.Ytamaokokbajlgaa.P Go.Proofs.YtamaokokbajlgaaW.PrintWords Go.Proofs.YtamaokokbajlgaaW.PrintLast

theorem flat_sum (n : Nat) : ∀ l : List (List Int), (∀ x ∈ l, x.length ≤ n) → l.flatten.length ≤ l.length * n
  | [], _ => by simp
  | x :: l, h => by
    have h1 := h x (by simp)
    have h2 := flat_sum n l (fun y hy => h y (by simp [hy]))
    rw [List.flatten_cons, List.length_append, List.length_cons, Nat.succ_mul]
    omega
theorem flat_byteOk (l : List (List Int)) (h : ∀ x ∈ l, byteOk x = true) : byteOk l.flatten = true := by
  rw [byteOk_iff]
  intro y hy
  obtain ⟨x, hx, hy⟩ := List.mem_flatten.1 hy
  exact (byteOk_iff x).1 (h x hx) y hy
theorem MacTells (l0 l1 : List Int) (l2 : List (List Int)) (h0 : ∀ x ∈ l0, (Lit.int .u8 x).wf = true) (h1 : ∀ x ∈ l1, (Lit.int .u8 x).wf = true)
    (h2 : ∀ x ∈ l2, (∀ n ∈ x, (Lit.int .u8 n).wf = true) ∧ x.length ≤ 140737488351232) : pyxlaw03_MacTells.f 1 l0 l1 l2 = some true := by
  have o0 := byteOk_of_wf l0 h0
  have o1 := byteOk_of_wf l1 h1
  have o2 := flat_byteOk l2 (fun x hx => byteOk_of_wf x (h2 x hx).1)
  unfold pyxlaw03_MacTells.f pyxlaw03_shown.f
  rw [Option.bind_some]
  by_cases c0 : 300 < l0.length
  · rw [if_pos (by omega), pyxlaw03_MacTells.j0, if_pos rfl]
  by_cases c1 : 300 < l1.length
  · rw [if_neg (by omega), if_pos (by omega), pyxlaw03_MacTells.j0, if_pos rfl]
  by_cases c2 : 20 < l2.length
  · rw [if_neg (by omega), if_neg (by omega), if_pos (by omega), pyxlaw03_MacTells.j0, if_pos rfl]
  have hs := flat_sum 140737488351232 l2 (fun x hx => (h2 x hx).2)
  have hs2 : l2.length * 140737488351232 ≤ 20 * 140737488351232 := Nat.mul_le_mul_right _ (by omega)
  rw [if_neg (by omega), if_neg (by omega), if_neg (by omega)]
  have hl : pyxref03_Long.f l2 = some ((l2.flatten.length + l2.length : Nat) : Int) := by
    unfold pyxref03_Long.f
    rw [if_pos ⟨by omega, by omega⟩]
  rw [hl, Option.bind_some, pyxlaw03_MacTells.j0]
  by_cases c3 : 300 < l2.flatten.length + l2.length
  · rw [if_pos (by simp only [decide_eq_true_eq]; omega)]
  rw [if_neg (by simp only [decide_eq_true_eq]; omega), if_pos rfl]
  have k1 : mac_Key.f l0 = some (macKey l0) := by unfold mac_Key.f; rw [if_pos ⟨o0, by omega⟩]
  have k2 : pyxref03_Key.f l0 = some (macKey l0) := by unfold pyxref03_Key.f; rw [if_pos ⟨o0, by omega⟩]
  have s1 : mac_Sum.f l0 l1 = some (macSum l0 l1) := by unfold mac_Sum.f; rw [if_pos ⟨o0, o1, by omega, by omega⟩]
  have s2 : pyxref03_Sum.f l0 l1 = some (macSum l0 l1) := by unfold pyxref03_Sum.f; rw [if_pos ⟨o0, o1, by omega, by omega⟩]
  have a1 : mac_All.f l0 l2 = some (macSum l0 l2.flatten) := by unfold mac_All.f; rw [if_pos ⟨o0, o2, by omega, by omega⟩]
  have a2 : pyxref03_All.f l0 l2 = some (macSum l0 l2.flatten) := by unfold pyxref03_All.f; rw [if_pos ⟨o0, o2, by omega, by omega, by omega⟩]
  have e : ∀ x, byteOk x = true → pyxref01_Same.f x x = some true := fun x hx => by unfold pyxref01_Same.f; rw [if_pos ⟨hx, hx⟩, beq_self_eq_true]
  have m1 : mac_Same.f l0 l1 = some (l0 == l1) := by unfold mac_Same.f; rw [if_pos ⟨o0, o1, by omega⟩]
  have m2 : pyxref01_Same.f l0 l1 = some (l0 == l1) := by unfold pyxref01_Same.f; rw [if_pos ⟨o0, o1⟩]
  rw [k1, Option.bind_some, k2, Option.bind_some, e _ (byteOk_macKey _ o0), Option.bind_some, if_pos rfl, s1, Option.bind_some, s2, Option.bind_some, e _ (byteOk_macSum _ _), Option.bind_some, if_pos rfl,
    a1, Option.bind_some, a2, Option.bind_some, e _ (byteOk_macSum _ _), Option.bind_some, if_pos rfl, m1, Option.bind_some, m2, Option.bind_some, beq_self_eq_true]
end Go.Proofs.Ytamaokokbajlgaa.Pure
