/-
  The plain law of SchedTells: what an epoch belongs to, the secret of who joins, an epoch's secrets, and one secret of those that are shared, are as the document says.
-/
import Derived.Test.YtpdgeanicciaiaaPSchedTellsy1
namespace Go.Proofs.Ytpdgeanicciaiaa.Pure
set_option linter.unusedSimpArgs false
open Go.RowKit Go.Proofs.Ytpdgeanicciaiaa Go.Proofs.Ytpdgeanicciaiaa.P Go.Proofs.YtpdgeanicciaiaaW.PrintWords Go.Proofs.YtpdgeanicciaiaaW.PrintLast

theorem flat_le (b : Nat) : ∀ (l : List (List Int)), (∀ x ∈ l, x.length ≤ b) → l.flatten.length ≤ l.length * b
  | [], _ => by simp
  | y :: l, h => by
    have ih := flat_le b l fun x hx => h x (List.mem_cons_of_mem _ hx)
    have h0 := h y (List.mem_cons_self ..)
    rw [List.flatten_cons, List.length_append, List.length_cons, Nat.add_mul, Nat.one_mul]
    omega
theorem le_flat : ∀ (l : List (List Int)), ∀ x ∈ l, x.length ≤ l.flatten.length
  | [], _, h => by cases h
  | y :: l, x, h => by
    rw [List.flatten_cons, List.length_append]
    rcases List.mem_cons.1 h with rfl | h
    · omega
    · have := le_flat l x h
      omega
theorem epochRows_ok (a b c : List Int) : [(epochRows a b c).1, (epochRows a b c).2.1, (epochRows a b c).2.2.1, (epochRows a b c).2.2.2.1, (epochRows a b c).2.2.2.2.1].all byteOk = true := by
  unfold epochRows
  split
  · exact ep_ok _
  · rfl
theorem joinerRes_ok (a b c : List Int) : byteOk (joinerRes a b c).1 = true := by
  unfold joinerRes
  split
  · exact byteOk_labelOf _ _ _ _
  · rfl
theorem ctxRes_ok (a : List Int) (n : Int) (b c : List Int) (oa : byteOk a = true) (ob : byteOk b = true) (oc : byteOk c = true) : byteOk (ctxRes a n b c).1 = true := by
  unfold ctxRes
  split
  · next h => exact (ctx_ok a n.toNat b c oa ob oc h.2.2.1 h.2.2.2.1 h.2.2.2.2).1
  · rfl
theorem same_refl (a b c d e : List Int) (h : [a, b, c, d, e].all byteOk = true) : pyxref12_Same.f a b c d e a b c d e = some true := by
  unfold pyxref12_Same.f sched_Same.f
  rw [if_pos ⟨h, h⟩]
  exact congrArg some (beq_iff_eq.2 rfl)
theorem SchedTells (g : List Int) (n : Int) (a b : List Int) (l : List (List Int)) (og : byteOk g = true) (oa : byteOk a = true) (ob : byteOk b = true) (ol : l.all byteOk = true) (hl : ∀ x ∈ l, x.length ≤ 140737488351232) : ∃ k, pyxlaw12_SchedTells.f k g n a b l = some true := by
  refine ⟨1, ?_⟩
  have up' : pyxlaw12_SchedTells.j0 1 g n a b l true true = some true := by rw [pyxlaw12_SchedTells.j0, if_pos rfl]
  unfold pyxlaw12_SchedTells.f pyxlaw12_shown.f
  rw [Option.bind_some]
  by_cases c0 : 300 < g.length
  · rw [if_pos (by omega), up']
  rw [if_neg (by omega)]
  by_cases c1 : 40 < a.length
  · rw [if_pos (by omega), up']
  rw [if_neg (by omega)]
  by_cases c2 : 40 < b.length
  · rw [if_pos (by omega), up']
  rw [if_neg (by omega)]
  by_cases c3 : 5 < l.length
  · rw [if_pos (by omega), up']
  rw [if_neg (by omega)]
  have hf := flat_le _ l hl
  have e0 : pyxref03_Long.f l = some ((l.flatten.length + l.length : Nat) : Int) := by
    unfold pyxref03_Long.f
    rw [if_pos ⟨by omega, by omega⟩]
  rw [e0, Option.bind_some]
  by_cases c4 : 300 < l.flatten.length + l.length
  · rw [decide_eq_true (by omega), up']
  rw [decide_eq_false (by omega)]
  have hs : smallRows l := ⟨by omega, fun x hx => by have := le_flat l x hx; omega⟩
  have x1 : sched_Context.f g n a b = some (ctxRes g n a b) := by
    unfold sched_Context.f
    rw [if_pos ⟨og, oa, ob, by omega, by omega, by omega⟩]
  have x2 : pyxref12_Context.f g n a b = some (ctxRes g n a b) := x1
  have x3 : sched_Joiner.f a b g = some (joinerRes a b g) := by
    unfold sched_Joiner.f
    rw [if_pos ⟨oa, ob, og, by omega, by omega, by omega⟩]
  have x4 : pyxref12_Joiner.f a b g = some (joinerRes a b g) := x3
  have x5 : sched_Epoch.f a b g = some (epochRows a b g) := by
    unfold sched_Epoch.f
    rw [if_pos ⟨oa, ob, og, by omega, by omega, by omega⟩]
  have x6 : pyxref12_Epoch.f a b g = some (epochRows a b g) := x5
  have x7 : sched_Shared.f l = some (sharedTo l l.length) := by
    unfold sched_Shared.f
    rw [if_pos ⟨hs, ol⟩]
  have x8 : pyxref12_Shared.f l = some (sharedTo l l.length) := x7
  have y1 := ctxRes_ok g n a b og oa ob
  have y2 := joinerRes_ok a b g
  have y3 := epochRows_ok a b g
  have y4 := (sharedTo_ok l l.length).1
  generalize ctxRes g n a b = p at *
  generalize joinerRes a b g = q at *
  generalize epochRows a b g = r at *
  generalize sharedTo l l.length = s at *
  rw [pyxlaw12_SchedTells.j0, if_neg (by simp), x1, Option.bind_some, x2, Option.bind_some, x3, Option.bind_some, x4, Option.bind_some, x5, Option.bind_some, x6, Option.bind_some, if_pos rfl]
  rw [same_some _ _ y1 y1, Option.bind_some, if_pos (beq_iff_eq.2 rfl), if_pos rfl]
  rw [same_some _ _ y2 y2, Option.bind_some, if_pos (beq_iff_eq.2 rfl), if_pos rfl]
  rw [same_refl _ _ _ _ _ y3, Option.bind_some, if_pos rfl, if_pos rfl]
  rw [x7, Option.bind_some, x8, Option.bind_some, same_some _ _ y4 y4, Option.bind_some]
  exact congrArg some (beq_iff_eq.2 rfl)
end Go.Proofs.Ytpdgeanicciaiaa.Pure
