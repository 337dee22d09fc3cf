/-
  The card of RatchSecrets: behind each place that is taken next the chain's secret is that of the place behind it; two leaves' chains part at their secrets only; a chain at its beginning has no spares.
-/
import Derived.Test.YtdklmafkcbjomaaDoorRows
import Derived.Test.YtdklmafkcbjomaaDoorCards
import Derived.Test.YtdklmafkcbjomaaDoorTie
import Derived.Test.YtdklmafkcbjomaaDoorRatSecrets
import Derived.WalkKit
import Derived.ProofKit
import Derived.OpenShut
import Derived.ShutString
import Derived.ChangeOld
import Derived.Below
import Derived.SizedLaws
import Derived.LaidMore
import Derived.Stop.Joined
import Derived.SevenTiedAt
namespace Go.Proofs.YtdklmafkcbjomaaDoor.ratchSecrets
open Go.ChangeShapes Go.WideShapes Go.ChangeAt Go.RowKit Go.Proofs.YtdklmafkcbjomaaDoorW.PrintWords Go.Proofs.YtdklmafkcbjomaaDoorW.PrintLast
set_option linter.unusedVariables false
set_option linter.unusedSimpArgs false
theorem own : ownKnob Tryd.prog.godebug = none := by kernel_rfl
theorem laidOut : laidOutB Tryd.prog = true := by kernel_rfl
set_option maxRecDepth 100000 in
set_option maxHeartbeats 2000000 in
theorem lifted (os : Os) (started : os.Started) (H : Type) (enc : TypeId × Value → H) :
    ReturnsInHanded {} Tryd.checked os 8 .any (fun w args => (Rows.ratchSecretsSpec.pre enc Tryd.prog Tryd.f8 [] false w args ∧ laidMetH Tryd.prog laid2 w) ∧ sizedMet enc Tryd.prog Tryd.f8 (OpenSpec.ofChange Rows.ratchSecretsSpec) false w args)
      (Rows.ratchSecretsSpec.post enc Tryd.prog Tryd.f8 false true false false) := by
  refine returnsInHanded_of_change_and (C := Tryd.checked) (X := fun w _ => laidMetH Tryd.prog laid2 w) (fun _ _ _ hh h => h.of_heap hh) own started (by kernel_rfl) Tryd.func8
    (ChangeSpec.witness_shaped (enc := enc) (C := Tryd.checked) (os := os) (X := fun w _ => laidMetH Tryd.prog laid2 w) false (World.doorLaid Tryd.prog 400 os) #[.agg #[.slice none 0 0, .int .u8 0, .int .u8 0, .int .u8 0]] 8 rfl (World.shaped_of_RefB (by kernel_rfl) (by kernel_rfl)) (by kernel_rfl) (by kernel_rfl) (by kernel_rfl) (door_met os _)) ?_
  intro W base args ds gs before hval0 hW _ _ hL _
  have hT : TabOk W := tabOk_of_laid hL
  have hval : ∀ (j : Nat) t v, Tryd.f8.params[j]? = some t → args[j]? = some v → Value.okWide Tryd.prog W .any base t v := hval0
  have hW' := hW
  obtain ⟨p, q, hA0, hV, rfl, hfz, hnd⟩ := hW
  have hA : DataW.TrodAll enc Tryd.prog W 0 (fun _ => true) true Tryd.f8.params.toList args.toList ds p := hA0
  rw [Tryd.params8] at hA hval
  obtain ⟨v0, vs0, d0_, ds0, p0, q0, hargs, rfl, rfl, h0, r0⟩ := trodAll_cons hA
  obtain ⟨rfl, rfl, rfl⟩ := trodAll_nil r0
  obtain rfl : args = #[v0] := by cases args; simp_all
  obtain ⟨rfl, rfl⟩ := trodVars_none hV
  have k0 := h0
  have lt0 : ∀ x ∈ p0, x.block < W.heap.size := by obtain ⟨m, hm⟩ := k0; exact DataW.trod_lt m _ _ _ hm
  obtain ⟨⟨cl0⟩, rfl, hs0⟩ := okWide_struct Tryd.underlying58 (hval 0 _ v0 rfl rfl)
  obtain ⟨x0, hK0, hok0⟩ := open_secrets.arg h0
  obtain ⟨A0,c0,e0,hc0,hC0⟩ := secrets_open hK0
  have e0' : cl0 = _ := e0
  subst e0'
  clear hA0 hval0
  obtain ⟨l0, n0, i0, k0⟩ := x0
  obtain ⟨nb, rfl⟩ := Int.eq_ofNat_of_zero_le hok0.2.1.1
  obtain ⟨ib, rfl⟩ := Int.eq_ofNat_of_zero_le hok0.2.2.1.1
  obtain ⟨kb, rfl⟩ := Int.eq_ofNat_of_zero_le hok0.2.2.2.1
  have hb1 := hok0.2.1.2
  have hb2 := hok0.2.2.1.2
  have hb3 := hok0.2.2.2.2
  dsimp only at hb1 hb2 hb3
  refine (secrets_calls A0 c0 l0 nb ib kb (by omega) (by omega) (by omega) W hT hC0 hc0 hok0.1).mono fun e W' ⟨he, bel⟩ => ?_
  subst he
  exact ⟨_, rfl, _, _, _, [], _, [], hW', trodAll_mk1 (shut_bool Tryd.underlying4 _), (trodAll_cons_mk (Below.trod laidOut (by kernel_rfl) (of_decide_eq_true (by kernel_rfl)) k0 bel lt0) trodAll_mk0), rfl, bel.frame _, fun h => by cases h⟩
theorem over : Rows.ratchSecretsRow.holds Tryd.pinned (OpenSpec.ofChange Rows.ratchSecretsSpec) :=
  OpenClaim.holds_of_wide 8 Tryd.f8 rfl rfl rfl rfl rfl rfl rfl ⟨rfl, rfl, rfl, rfl, rfl⟩ rfl rfl rfl rfl rfl (by kernel_rfl) Tryd.func8 (by kernel_rfl)
    (of_decide_eq_true (by kernel_rfl)) (by unfold Func.isWrapper; first | (rw [if_pos (by decide +kernel)]; kernel_rfl) | (rw [if_neg (by decide +kernel)]; exact ⟨rfl, rfl⟩))
    (fun os started H enc _ => lifted os started H enc)
theorem said : Rows.RatchSecretsSaid := over
theorem noStand : ∀ (j : Nat) (t : TypeId), Tryd.f8.params[j]? = some t → Tryd.prog.wantsStandIn t = false := fun j t ht => by
  rw [Tryd.params8] at ht
  have hm : t ∈ [58] := by simpa using Array.mem_of_getElem? ht
  have hall : ([58].all fun u => !Tryd.prog.wantsStandIn u) = true := by kernel_rfl
  simpa using List.all_eq_true.1 hall t hm
theorem card : Rows.RatchSecretsCardSaid :=
  Claim7.holds_tied_plain_at .later [] [.data, .data] true (true, "b08b13eea56cd8273eb5f0b38c055184c9e01f502b4512c50a8be8bff3fc2273") false
    said (fun _ h => by cases h) (by kernel_rfl) (fun _ h => by cases h) ratchSecrets_row_tie rfl ⟨rfl, rfl⟩ (by kernel_rfl) rfl
    (fun f fn hf hfn => by
      obtain rfl : f = 8 := Option.some.inj ((show Tryd.prog.funcNamed "pyx/pyxlaw13.RatchSecrets" = some 8 by kernel_rfl).symm.trans hf) |>.symm
      obtain rfl : fn = Tryd.f8 := (Option.some.inj (Tryd.func8.symm.trans hfn)).symm
      exact ⟨by kernel_rfl, noStand⟩)
    (by kernel_rfl)
#print axioms card
end Go.Proofs.YtdklmafkcbjomaaDoor.ratchSecrets
namespace Go.Proofs.YtdklmafkcbjomaaDoor
/-- The card, under a short name, for the claim. -/
theorem ratchSecrets_holds : Rows.RatchSecretsCardSaid := ratchSecrets.card
end Go.Proofs.YtdklmafkcbjomaaDoor
