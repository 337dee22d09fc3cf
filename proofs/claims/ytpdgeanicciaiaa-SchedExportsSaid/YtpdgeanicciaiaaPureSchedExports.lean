/-
  The plain law of SchedExports: a secret for others is Label of Label, of what the document says.
-/
import Derived.Test.YtpdgeanicciaiaaPSchedExportsy1
namespace Go.Proofs.Ytpdgeanicciaiaa.Pure
set_option linter.unusedSimpArgs false
open Go.RowKit Go.Proofs.Ytpdgeanicciaiaa Go.Proofs.Ytpdgeanicciaiaa.P Go.Proofs.YtpdgeanicciaiaaW.PrintWords Go.Proofs.YtpdgeanicciaiaaW.PrintLast

theorem wrap_u8 (n : Nat) (h : n < 256) : wrap64 (n : Int) = (n : Int) := by unfold wrap64; omega
theorem tmod_u8 (n : Nat) (h : n < 256) : Int.tmod (wrap64 (n : Int)) 100 = ((n % 100 : Nat) : Int) := by rw [wrap_u8 n h]; rfl
theorem row32_len {x : List Int} (h : row32 x = true) : x.length = 32 := by unfold row32 at h; simpa using h
theorem SchedExports (i s x c r : List Int) (w : ByteArray) (b : List Int) (n : Nat) (hn : n < 256) (ox : byteOk x = true) (ob : byteOk b = true) : ∃ k, pyxlaw12_SchedExports.f k i s x c r w b (n : Int) = some true := by
  refine ⟨1, ?_⟩
  have up' : pyxlaw12_SchedExports.j0 1 w b n true true i s x c r = some true := by rw [pyxlaw12_SchedExports.j0, if_pos rfl]
  unfold pyxlaw12_SchedExports.f pyxlaw12_shown.f pyxref12_Few.f pyxref12_Right.f
  rw [Option.bind_some, Option.bind_some]
  by_cases c0 : [i, s, x, c, r].all few = true
  case neg => rw [if_neg c0, up']
  rw [if_pos c0, Option.bind_some]
  by_cases c1 : [i, s, x, c, r].all row32 = true
  case neg => rw [if_neg c1, up']
  rw [if_pos c1]
  by_cases c2 : 50 < w.size
  · rw [if_pos (by omega), up']
  rw [if_neg (by omega)]
  by_cases c3 : 100 < b.length
  · rw [decide_eq_true (show (b.length : Int) > 100 by omega), up']
  rw [decide_eq_false (show ¬ (b.length : Int) > 100 by omega)]
  have hx : x.length = 32 := row32_len (List.all_eq_true.1 c1 x (by simp))
  have e1 : pyxref04_Label.f x w ([] : List Int) 32 = some (labelOf x w [] 32, 0) := label_get x w [] 32 (by omega) ox rfl (by omega) (by omega) (by simp)
  have o1 : byteOk (labelOf x w [] 32) = true := byteOk_labelOf _ _ _ _
  have n1 : (labelOf x w [] 32).length = 32 := labelOf_length _ _ _ _
  have e2 : pyxref04_Label.f (labelOf x w [] 32) (⟨#[101, 120, 112, 111, 114, 116, 101, 100]⟩ : ByteArray) (dig b) ((n % 100 : Nat) : Int) = some (labelOf (labelOf x w [] 32) labExported (dig b) (n % 100), 0) := label_get _ labExported _ (n % 100) (by omega) o1 (byteOk_dig _) (by omega) (by decide) (by rw [dig_length]; omega)
  have e3 : sched_Export.f i s x c r w b ((n % 100 : Nat) : Int) = some (labelOf (labelOf x w [] 32) labExported (dig b) (n % 100), 0) := by
    unfold sched_Export.f exportRes
    rw [if_pos ⟨ox, ob, by omega, by omega, by omega⟩, if_pos ⟨c1, by omega, by omega⟩]
    rfl
  rw [pyxlaw12_SchedExports.j0, if_neg (by simp), e1, Option.bind_some, refsha_some b ob (by omega), Option.bind_some, tmod_u8 n hn]
  dsimp only
  rw [e2, Option.bind_some, e3, Option.bind_some, if_pos rfl]
  dsimp only
  rw [if_pos rfl, same_some _ _ (byteOk_labelOf _ _ _ _) (byteOk_labelOf _ _ _ _), Option.bind_some, labelOf_length, if_pos (beq_iff_eq.2 rfl)]
  refine congrArg some ?_
  rw [beq_iff_eq]
end Go.Proofs.Ytpdgeanicciaiaa.Pure
