/-
  The row of SigWraps: what is wrapped, and unwrapped, is as the document says.
-/
import Derived.Test.YtifpdpfjhjoieaaRows
import Derived.Test.YtifpdpfjhjoieaaPSigWrapsy1
import Derived.Test.YtifpdpfjhjoieaaPureSigWraps
import Derived.WalkKit
import Derived.ProofKit
import Derived.OpenShut
import Derived.ShutString
import Derived.ChangeOld
import Derived.Below
import Derived.SizedLaws
import Derived.Test.YtifpdpfjhjoieaaJSized
import Derived.Test.YtifpdpfjhjoieaaX0
namespace Go.Proofs.Ytifpdpfjhjoieaa.sigWraps
open Go.ChangeShapes Go.WideShapes Go.ChangeAt Go.RowKit Go.Proofs.YtifpdpfjhjoieaaW.PrintWords Go.Proofs.YtifpdpfjhjoieaaW.PrintLast
open Go.ChangeMaps (open_string shut_string)
set_option linter.unusedVariables false
set_option linter.unusedSimpArgs false
theorem own : ownKnob Try.prog.godebug = none := by kernel_rfl
theorem laidOut : laidOutB Try.prog = true := by kernel_rfl
theorem list_n4 {α : Type} {l : List α} (h : l.length = 4) : ∃ x0 x1 x2 x3, l = [x0, x1, x2, x3] :=
  match l, h with
  | [x0, x1, x2, x3], _ => ⟨x0, x1, x2, x3, rfl⟩
def IsRow (k : IntKind) (w : World) (a : Option Addr) (len cap : Nat) (zs : List Int) : Prop :=
  (a = none ∧ len = 0 ∧ cap = 0 ∧ zs = []) ∨
  ∃ x, a = some x ∧ len ≤ cap ∧ cap ≤ maxLen ∧ zs.length = cap ∧ (∀ i, i < zs.length → w.cell? (x.add i) = some (.int k (zs.getD i 0))) ∧ ∀ n ∈ zs, (Lit.int k n).wf = true
set_option maxRecDepth 100000 in
set_option maxHeartbeats 2000000 in
theorem lifted (os : Os) (started : os.Started) (H : Type) (enc : TypeId × Value → H) :
    ReturnsInHanded {} Try.checked os 9 .any (Rows.sigWrapsSpec.pre6 enc Try.prog Try.f9 Rows.sigWrapsRow.domain false) (Rows.sigWrapsSpec.post enc Try.prog Try.f9 false true false false) := by
  refine returnsInHanded_of_change_sized (C := Try.checked) own started (by kernel_rfl) Try.func9
    (ChangeSpec.witness6 (enc := enc) (C := Try.checked) false ⟨#[], #[.agg #[.slice none 0 0, .slice none 0 0, .slice none 0 0, .slice none 0 0]], []⟩ 8 (by kernel_rfl) (by kernel_rfl) (by kernel_rfl) (by kernel_rfl)) ?_
  intro W base args ds gs before hval0 hW hcnd hsz0 _
  have hsz : (DataW.weightsEach Try.prog (Try.f9.params.toList ++ Rows.sigWrapsSpec.plain.varTypes Try.prog) (ds ++ gs)).all (· ≤ reachBytes) = true := hsz0
  have hval : ∀ (j : Nat) t v, Try.f9.params[j]? = some t → args[j]? = some v → Value.okWide Try.prog W .any base t v := hval0
  have hW' := hW
  obtain ⟨p, q, hA0, hV, rfl, hfz, hnd⟩ := hW
  have hA : DataW.TrodAll enc Try.prog W 0 (fun _ => true) true Try.f9.params.toList args.toList ds p := hA0
  rw [Try.params9] at hA hval hsz
  obtain ⟨v0, vs0, d0, ds0, p0, q0, hargs, rfl, rfl, h0, r0⟩ := trodAll_cons hA
  obtain ⟨rfl, rfl, rfl⟩ := trodAll_nil r0
  obtain rfl : args = #[v0] := by cases args; simp_all
  obtain ⟨rfl, rfl⟩ := trodVars_none hV
  have k0 := h0
  have lt0 : ∀ x ∈ p0, x.block < W.heap.size := by obtain ⟨m, hm⟩ := k0; exact DataW.trod_lt m _ _ _ hm
  obtain ⟨⟨cl0⟩, rfl, hs0⟩ := okWide_struct Try.underlying64 (hval 0 _ v0 rfl rfl)
  obtain ⟨fuel0, hall0⟩ := open_struct Try.underlying64 hs0 h0
  have hn0 : cl0.length = 4 := by
    have e : Try.prog.cellsOf 64 = 4 := by kernel_rfl
    rw [e] at hs0
    simpa using hs0
  obtain ⟨e0_0, e0_1, e0_2, e0_3, rfl⟩ := list_n4 hn0
  obtain ⟨y0_0, hy0_0⟩ := hall0 _ (List.mem_cons_self ..)
  have cz0_0 : Try.prog.cellsOf 22 = 1 := by kernel_rfl
  simp only [cz0_0, List.drop_zero, List.drop_succ_cons, List.take_succ_cons, List.take_zero] at hy0_0
  obtain ⟨a0_0, len0_0, cap0_0, rfl, z0_0, w0_0⟩ : ∃ a len cap, e0_0 = .slice a len cap ∧ ∃ zs, IsRow .u8 W a len cap zs := by
    rcases open_ints Try.underlying22 Try.underlying5 (by kernel_rfl) hy0_0 with ⟨hcs, _⟩ | ⟨x, l, c, zs, hcs, _, hl, hm, hz, _, hcell, hwz⟩
    · simp only [List.cons.injEq, and_true] at hcs
      exact ⟨none, 0, 0, hcs, [], .inl ⟨rfl, rfl, rfl, rfl⟩⟩
    · simp only [List.cons.injEq, and_true] at hcs
      exact ⟨some x, l, c, hcs, zs, .inr ⟨_, rfl, hl, hm, by simpa using hz, hcell, hwz⟩⟩
  obtain ⟨y0_1, hy0_1⟩ := hall0 _ (List.mem_cons_of_mem _ (List.mem_cons_self ..))
  have cz0_1 : Try.prog.cellsOf 22 = 1 := by kernel_rfl
  simp only [cz0_1, List.drop_zero, List.drop_succ_cons, List.take_succ_cons, List.take_zero] at hy0_1
  obtain ⟨a0_1, len0_1, cap0_1, rfl, z0_1, w0_1⟩ : ∃ a len cap, e0_1 = .slice a len cap ∧ ∃ zs, IsRow .u8 W a len cap zs := by
    rcases open_ints Try.underlying22 Try.underlying5 (by kernel_rfl) hy0_1 with ⟨hcs, _⟩ | ⟨x, l, c, zs, hcs, _, hl, hm, hz, _, hcell, hwz⟩
    · simp only [List.cons.injEq, and_true] at hcs
      exact ⟨none, 0, 0, hcs, [], .inl ⟨rfl, rfl, rfl, rfl⟩⟩
    · simp only [List.cons.injEq, and_true] at hcs
      exact ⟨some x, l, c, hcs, zs, .inr ⟨_, rfl, hl, hm, by simpa using hz, hcell, hwz⟩⟩
  obtain ⟨y0_2, hy0_2⟩ := hall0 _ (List.mem_cons_of_mem _ (List.mem_cons_of_mem _ (List.mem_cons_self ..)))
  have cz0_2 : Try.prog.cellsOf 22 = 1 := by kernel_rfl
  simp only [cz0_2, List.drop_zero, List.drop_succ_cons, List.take_succ_cons, List.take_zero] at hy0_2
  obtain ⟨a0_2, len0_2, cap0_2, rfl, z0_2, w0_2⟩ : ∃ a len cap, e0_2 = .slice a len cap ∧ ∃ zs, IsRow .u8 W a len cap zs := by
    rcases open_ints Try.underlying22 Try.underlying5 (by kernel_rfl) hy0_2 with ⟨hcs, _⟩ | ⟨x, l, c, zs, hcs, _, hl, hm, hz, _, hcell, hwz⟩
    · simp only [List.cons.injEq, and_true] at hcs
      exact ⟨none, 0, 0, hcs, [], .inl ⟨rfl, rfl, rfl, rfl⟩⟩
    · simp only [List.cons.injEq, and_true] at hcs
      exact ⟨some x, l, c, hcs, zs, .inr ⟨_, rfl, hl, hm, by simpa using hz, hcell, hwz⟩⟩
  obtain ⟨y0_3, hy0_3⟩ := hall0 _ (List.mem_cons_of_mem _ (List.mem_cons_of_mem _ (List.mem_cons_of_mem _ (List.mem_cons_self ..))))
  have cz0_3 : Try.prog.cellsOf 22 = 1 := by kernel_rfl
  simp only [cz0_3, List.drop_zero, List.drop_succ_cons, List.take_succ_cons, List.take_zero] at hy0_3
  obtain ⟨a0_3, len0_3, cap0_3, rfl, z0_3, w0_3⟩ : ∃ a len cap, e0_3 = .slice a len cap ∧ ∃ zs, IsRow .u8 W a len cap zs := by
    rcases open_ints Try.underlying22 Try.underlying5 (by kernel_rfl) hy0_3 with ⟨hcs, _⟩ | ⟨x, l, c, zs, hcs, _, hl, hm, hz, _, hcell, hwz⟩
    · simp only [List.cons.injEq, and_true] at hcs
      exact ⟨none, 0, 0, hcs, [], .inl ⟨rfl, rfl, rfl, rfl⟩⟩
    · simp only [List.cons.injEq, and_true] at hcs
      exact ⟨some x, l, c, hcs, zs, .inr ⟨_, rfl, hl, hm, by simpa using hz, hcell, hwz⟩⟩
  clear hA0 hval0 hsz0 hsz
  obtain ⟨l0_0, rfl, hr0_0, hm0_0, hw0_0, hc0_0⟩ := ReadsInt.ofRowC w0_0
  have hC0_0 : Kd.C (Kd.int .u8) W a0_0 l0_0.length l0_0 := Kd.C_of_reads (enc := Value.int .u8) (d := (0 : Int)) (h1 := fun _ => rfl) hr0_0
  obtain ⟨l0_1, rfl, hr0_1, hm0_1, hw0_1, hc0_1⟩ := ReadsInt.ofRowC w0_1
  have hC0_1 : Kd.C (Kd.int .u8) W a0_1 l0_1.length l0_1 := Kd.C_of_reads (enc := Value.int .u8) (d := (0 : Int)) (h1 := fun _ => rfl) hr0_1
  obtain ⟨l0_2, rfl, hr0_2, hm0_2, hw0_2, hc0_2⟩ := ReadsInt.ofRowC w0_2
  have hC0_2 : Kd.C (Kd.int .u8) W a0_2 l0_2.length l0_2 := Kd.C_of_reads (enc := Value.int .u8) (d := (0 : Int)) (h1 := fun _ => rfl) hr0_2
  obtain ⟨l0_3, rfl, hr0_3, hm0_3, hw0_3, hc0_3⟩ := ReadsInt.ofRowC w0_3
  have hC0_3 : Kd.C (Kd.int .u8) W a0_3 l0_3.length l0_3 := Kd.C_of_reads (enc := Value.int .u8) (d := (0 : Int)) (h1 := fun _ => rfl) hr0_3
  obtain ⟨kk, hkk⟩ := Pure.SigWraps l0_0 l0_1 l0_2 l0_3 (byteOk_of_wf l0_0 hw0_0) (byteOk_of_wf l0_1 hw0_1) (byteOk_of_wf l0_2 hw0_2) (byteOk_of_wf l0_3 hw0_3)
  refine (P.pyxlaw07_SigWraps.calls kk _ _ l0_0 _ _ l0_1 _ _ l0_2 _ _ l0_3 W hC0_0 hc0_0 hC0_1 hc0_1 hC0_2 hc0_2 hC0_3 hc0_3 hkk).mono fun e W' ⟨he, bel⟩ => ?_
  subst he
  exact ⟨_, rfl, _, _, _, [], _, [], hW', trodAll_mk1 (shut_bool Try.underlying4 _), (trodAll_cons_mk (Below.trod laidOut (by kernel_rfl) (of_decide_eq_true (by kernel_rfl)) k0 bel lt0) trodAll_mk0), rfl, bel.frame _, fun h => by cases h⟩
theorem over : Rows.sigWrapsRow.holds Try.pinned (OpenSpec.ofChange Rows.sigWrapsSpec) :=
  OpenClaim.holds_of_wide 9 Try.f9 rfl rfl rfl rfl rfl rfl rfl ⟨rfl, rfl, rfl, rfl, rfl⟩ rfl rfl rfl rfl rfl (by kernel_rfl) Try.func9 (by kernel_rfl)
    (of_decide_eq_true (by kernel_rfl)) (by unfold Func.isWrapper; first | (rw [if_pos (by decide +kernel)]; kernel_rfl) | (rw [if_neg (by decide +kernel)]; exact ⟨rfl, rfl⟩))
    (fun os started H enc _ => lifted os started H enc)
theorem proved : Rows.SigWrapsSaid := over
#print axioms proved
end Go.Proofs.Ytifpdpfjhjoieaa.sigWraps
namespace Go.Proofs.Ytifpdpfjhjoieaa
/-- The row, under a short name, for the claim. -/
theorem sigWraps_holds : Rows.SigWrapsSaid := sigWraps.proved
end Go.Proofs.Ytifpdpfjhjoieaa
