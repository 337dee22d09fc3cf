/-
  The card of RatchSpares: places that are passed over are spares, the last 32 of them; a spare that is taken leaves all others; behind that the next place is as it was.
-/
import Derived.Test.YtdklmafkcbjomaaDoorRows
import Derived.Test.YtdklmafkcbjomaaDoorCards
import Derived.Test.YtdklmafkcbjomaaDoorTie
import Derived.Test.YtdklmafkcbjomaaDoorRatSpares
import Derived.WalkKit
import Derived.ProofKit
import Derived.OpenShut
import Derived.ShutString
import Derived.ChangeOld
import Derived.Below
import Derived.SizedLaws
import Derived.LaidMore
import Derived.Stop.Joined
import Derived.SevenTiedAt
namespace Go.Proofs.YtdklmafkcbjomaaDoor.ratchSpares
open Go.ChangeShapes Go.WideShapes Go.ChangeAt Go.RowKit Go.Proofs.YtdklmafkcbjomaaDoorW.PrintWords Go.Proofs.YtdklmafkcbjomaaDoorW.PrintLast
set_option linter.unusedVariables false
set_option linter.unusedSimpArgs false
theorem own : ownKnob Tryd.prog.godebug = none := by kernel_rfl
theorem laidOut : laidOutB Tryd.prog = true := by kernel_rfl
set_option maxRecDepth 100000 in
set_option maxHeartbeats 2000000 in
theorem lifted (os : Os) (started : os.Started) (H : Type) (enc : TypeId × Value → H) :
    ReturnsInHanded {} Tryd.checked os 7 .any (fun w args => (Rows.ratchSparesSpec.pre enc Tryd.prog Tryd.f7 [] false w args ∧ laidMetH Tryd.prog laid2 w) ∧ sizedMet enc Tryd.prog Tryd.f7 (OpenSpec.ofChange Rows.ratchSparesSpec) false w args)
      (Rows.ratchSparesSpec.post enc Tryd.prog Tryd.f7 false true false false) := by
  refine returnsInHanded_of_change_and (C := Tryd.checked) (X := fun w _ => laidMetH Tryd.prog laid2 w) (fun _ _ _ hh h => h.of_heap hh) own started (by kernel_rfl) Tryd.func7
    (ChangeSpec.witness_shaped (enc := enc) (C := Tryd.checked) (os := os) (X := fun w _ => laidMetH Tryd.prog laid2 w) false (World.doorLaid Tryd.prog 400 os) #[.agg #[.int .i64 0, .slice none 0 0, .slice none 0 0], .int .u8 0, .int .u8 0] 8 rfl (World.shaped_of_RefB (by kernel_rfl) (by kernel_rfl)) (by kernel_rfl) (by kernel_rfl) (by kernel_rfl) (door_met os _)) ?_
  intro W base args ds gs before hval0 hW _ _ hL _
  have hT : TabOk W := tabOk_of_laid hL
  have hval : ∀ (j : Nat) t v, Tryd.f7.params[j]? = some t → args[j]? = some v → Value.okWide Tryd.prog W .any base t v := hval0
  have hW' := hW
  obtain ⟨p, q, hA0, hV, rfl, hfz, hnd⟩ := hW
  have hA : DataW.TrodAll enc Tryd.prog W 0 (fun _ => true) true Tryd.f7.params.toList args.toList ds p := hA0
  rw [Tryd.params7] at hA hval
  obtain ⟨v0, vs0, d0_, ds0, p0, q0, hargs, rfl, rfl, h0, r0⟩ := trodAll_cons hA
  obtain ⟨v1, vs1, d1_, ds1, p1, q1, rfl, rfl, rfl, h1, r1⟩ := trodAll_cons r0
  obtain ⟨v2, vs2, d2_, ds2, p2, q2, rfl, rfl, rfl, h2, r2⟩ := trodAll_cons r1
  obtain ⟨rfl, rfl, rfl⟩ := trodAll_nil r2
  obtain rfl : args = #[v0, v1, v2] := by cases args; simp_all
  obtain ⟨rfl, rfl⟩ := trodVars_none hV
  have k0 := h0
  have lt0 : ∀ x ∈ p0, x.block < W.heap.size := by obtain ⟨m, hm⟩ := k0; exact DataW.trod_lt m _ _ _ hm
  obtain ⟨⟨cl0⟩, rfl, hs0⟩ := okWide_struct Tryd.underlying25 (hval 0 _ v0 rfl rfl)
  obtain ⟨x0, hK0, hok0⟩ := open_chain.arg h0
  obtain ⟨A0,c0,B0,d0,e0,hc0,hC0,hd0,hD0⟩ := chain_open hK0
  have e0' : cl0 = _ := e0
  subst e0'
  obtain ⟨n1, rfl, rfl, rfl, wf1⟩ := open_int Tryd.underlying5 (hval 1 5 v1 rfl rfl) h1
  obtain ⟨n2, rfl, rfl, rfl, wf2⟩ := open_int Tryd.underlying5 (hval 2 5 v2 rfl rfl) h2
  clear hA0 hval0
  obtain ⟨nb, rfl⟩ := Int.eq_ofNat_of_zero_le (u8_wf n1 wf1).1
  obtain ⟨kb, rfl⟩ := Int.eq_ofNat_of_zero_le (u8_wf n2 wf2).1
  refine (spares_calls x0.n nb kb x0.s x0.L A0 B0 c0 d0 W hT hC0 hc0 hD0 hd0 (by have := (u8_wf _ wf1).2; omega) (by have := (u8_wf _ wf2).2; omega) hok0.2.1 hok0.2.2).mono fun e W' ⟨he, bel⟩ => ?_
  subst he
  exact ⟨_, rfl, _, _, _, [], _, [], hW', trodAll_mk1 (shut_bool Tryd.underlying4 _), (trodAll_cons_mk (Below.trod laidOut (by kernel_rfl) (of_decide_eq_true (by kernel_rfl)) k0 bel lt0) (trodAll_cons_mk (shut_int Tryd.underlying5 wf1) (trodAll_cons_mk (shut_int Tryd.underlying5 wf2) trodAll_mk0))), rfl, bel.frame _, fun h => by cases h⟩
theorem over : Rows.ratchSparesRow.holds Tryd.pinned (OpenSpec.ofChange Rows.ratchSparesSpec) :=
  OpenClaim.holds_of_wide 7 Tryd.f7 rfl rfl rfl rfl rfl rfl rfl ⟨rfl, rfl, rfl, rfl, rfl⟩ rfl rfl rfl rfl rfl (by kernel_rfl) Tryd.func7 (by kernel_rfl)
    (of_decide_eq_true (by kernel_rfl)) (by unfold Func.isWrapper; first | (rw [if_pos (by decide +kernel)]; kernel_rfl) | (rw [if_neg (by decide +kernel)]; exact ⟨rfl, rfl⟩))
    (fun os started H enc _ => lifted os started H enc)
theorem said : Rows.RatchSparesSaid := over
theorem noStand : ∀ (j : Nat) (t : TypeId), Tryd.f7.params[j]? = some t → Tryd.prog.wantsStandIn t = false := fun j t ht => by
  rw [Tryd.params7] at ht
  have hm : t ∈ [25, 5, 5] := by simpa using Array.mem_of_getElem? ht
  have hall : ([25, 5, 5].all fun u => !Tryd.prog.wantsStandIn u) = true := by kernel_rfl
  simpa using List.all_eq_true.1 hall t hm
theorem card : Rows.RatchSparesCardSaid :=
  Claim7.holds_tied_plain_at .later [] [.data, .data] true (true, "b08b13eea56cd8273eb5f0b38c055184c9e01f502b4512c50a8be8bff3fc2273") false
    said (fun _ h => by cases h) (by kernel_rfl) (fun _ h => by cases h) ratchSpares_row_tie rfl ⟨rfl, rfl⟩ (by kernel_rfl) rfl
    (fun f fn hf hfn => by
      obtain rfl : f = 7 := Option.some.inj ((show Tryd.prog.funcNamed "pyx/pyxlaw13.RatchSpares" = some 7 by kernel_rfl).symm.trans hf) |>.symm
      obtain rfl : fn = Tryd.f7 := (Option.some.inj (Tryd.func7.symm.trans hfn)).symm
      exact ⟨by kernel_rfl, noStand⟩)
    (by kernel_rfl)
#print axioms card
end Go.Proofs.YtdklmafkcbjomaaDoor.ratchSpares
namespace Go.Proofs.YtdklmafkcbjomaaDoor
/-- The card, under a short name, for the claim. -/
theorem ratchSpares_holds : Rows.RatchSparesCardSaid := ratchSpares.card
end Go.Proofs.YtdklmafkcbjomaaDoor
