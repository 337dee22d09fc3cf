/-
  The plain law of SchedContexts: what two epochs belong to is the same just if the group, the epoch, the tree, and the log are.
-/
import Derived.Test.YtpdgeanicciaiaaPSchedContextsy1
import Derived.Test.YtpdgeanicciaiaaZ4
namespace Go.Proofs.Ytpdgeanicciaiaa.Pure
set_option linter.unusedSimpArgs false
open Go.RowKit Go.Proofs.Ytpdgeanicciaiaa Go.Proofs.Ytpdgeanicciaiaa.P Go.Proofs.YtpdgeanicciaiaaW.PrintWords Go.Proofs.YtpdgeanicciaiaaW.PrintLast

theorem numB_six (n : Nat) : numB n 6 = [((n / 1099511627776 % 256 : Nat) : Int), ((n / 4294967296 % 256 : Nat) : Int), ((n / 16777216 % 256 : Nat) : Int), ((n / 65536 % 256 : Nat) : Int), ((n / 256 % 256 : Nat) : Int), ((n % 256 : Nat) : Int)] := by
  simp [numB, numAt, List.range_succ]
theorem numB_six_inj (n m : Nat) (hn : n < 4294967296) (hm : m < 4294967296) (h : numB n 6 = numB m 6) : n = m := by
  rw [numB_six, numB_six] at h
  simp only [List.cons.injEq, and_true] at h
  omega
theorem ctxOf_inj (a b x y x' y' : List Int) (m n : Nat) (ha : a.length ≤ 255) (hb : b.length ≤ 255) (hm : m < 4294967296) (hn : n < 4294967296) (hx : x.length = 32) (hx' : x'.length = 32) (h : ctxOf a m x y = ctxOf b n x' y') : a = b ∧ m = n ∧ x = x' := by
  unfold ctxOf at h
  rw [List.append_assoc, List.append_assoc, List.append_assoc, List.append_assoc] at h
  obtain ⟨h1, h2⟩ := rowB_inj _ _ _ _ (by omega) (by omega) h
  obtain ⟨h3, h4⟩ := List.append_inj h2 (by rw [numB_length, numB_length])
  obtain ⟨h5, h6⟩ := rowB_inj _ _ _ _ (by omega) (by omega) h4
  exact ⟨h1, numB_six_inj m n hm hn h3, h5⟩
theorem wrap_u32 (x : Nat) (h : x < 4294967296) : wrap64 (x : Int) = (x : Int) := by unfold wrap64; omega
theorem SchedContexts (l0 l1 : List Int) (m n t u : Nat) (hm : m < 4294967296) (hn : n < 4294967296) (ht : t < 256) (hu : u < 256) (o0 : byteOk l0 = true) (o1 : byteOk l1 = true) : ∃ k, pyxlaw12_SchedContexts.f k l0 l1 (m : Int) (n : Int) (t : Int) (u : Int) = some true := by
  refine ⟨1, ?_⟩
  have up' : pyxlaw12_SchedContexts.j0 1 l0 l1 m n t u true true = some true := by rw [pyxlaw12_SchedContexts.j0, if_pos rfl]
  unfold pyxlaw12_SchedContexts.f pyxlaw12_shown.f
  rw [Option.bind_some]
  by_cases c0 : 255 < l0.length
  · rw [if_pos (by omega), up']
  by_cases c1 : 255 < l1.length
  · rw [if_neg (by omega), decide_eq_true (show (l1.length : Int) > 255 by omega), up']
  rw [if_neg (by omega), decide_eq_false (show ¬ (l1.length : Int) > 255 by omega)]
  have ot : byteOk [(t : Int)] = true := by simp [byteOk]; omega
  have ou : byteOk [(u : Int)] = true := by simp [byteOk]; omega
  have s1 := refsha_some [(t : Int)] ot (by simp)
  have s2 := refsha_some [(u : Int)] ou (by simp)
  have x1 := dig_length [(t : Int)]
  have x2 := dig_length [(u : Int)]
  have y1 := byteOk_dig [(t : Int)]
  have y2 := byteOk_dig [(u : Int)]
  generalize dig [(t : Int)] = x at *
  generalize dig [(u : Int)] = y at *
  have w1 := wrap_u32 m hm
  have w2 := wrap_u32 n hn
  have k1 : sched_Context.f l0 (m : Int) x y = some (ctxOf l0 m x y, 0) := by
    unfold sched_Context.f
    rw [if_pos ⟨o0, y1, y2, by omega, by omega, by omega⟩, ctxRes_yes _ _ _ _ ⟨by omega, by omega, by omega, x1, x2⟩]
  have k2 : sched_Context.f l1 (n : Int) y x = some (ctxOf l1 n y x, 0) := by
    unfold sched_Context.f
    rw [if_pos ⟨o1, y2, y1, by omega, by omega, by omega⟩, ctxRes_yes _ _ _ _ ⟨by omega, by omega, by omega, x2, x1⟩]
  obtain ⟨z1, -⟩ := ctx_ok l0 m x y o0 y1 y2 (by omega) x1 x2
  obtain ⟨z2, -⟩ := ctx_ok l1 n y x o1 y2 y1 (by omega) x2 x1
  rw [pyxlaw12_SchedContexts.j0, if_neg (by simp), s1, Option.bind_some, s2, Option.bind_some, w1, k1, Option.bind_some, w2, k2, Option.bind_some, same_some _ _ o0 o1, Option.bind_some]
  by_cases ha : l0 = l1
  · rw [if_pos (by simpa using ha)]
    by_cases hmn : m = n
    · rw [if_pos (by omega), same_some _ _ y1 y2, Option.bind_some, if_pos rfl, if_pos rfl, if_pos rfl, same_some _ _ z1 z2, Option.bind_some]
      refine congrArg some ?_
      rw [beq_iff_eq, Bool.eq_iff_iff, beq_iff_eq, beq_iff_eq]
      constructor
      · intro h
        exact (ctxOf_inj _ _ _ _ _ _ _ _ (by omega) (by omega) hm hn x1 x2 h).2.2
      · intro h
        rw [ha, hmn, h]
    · rw [if_neg (by omega), if_pos rfl, if_pos rfl, if_pos rfl, same_some _ _ z1 z2, Option.bind_some]
      refine congrArg some ?_
      rw [beq_iff_eq, beq_eq_false_iff_ne]
      intro h
      exact hmn (ctxOf_inj _ _ _ _ _ _ _ _ (by omega) (by omega) hm hn x1 x2 h).2.1
  · rw [if_neg (by simpa using ha), if_pos rfl, if_pos rfl, if_pos rfl, same_some _ _ z1 z2, Option.bind_some]
    refine congrArg some ?_
    rw [beq_iff_eq, beq_eq_false_iff_ne]
    intro h
    exact ha (ctxOf_inj _ _ _ _ _ _ _ _ (by omega) (by omega) hm hn x1 x2 h).1
end Go.Proofs.Ytpdgeanicciaiaa.Pure
