/-
  The card of RatchTells: leaves' secrets, chains at their beginning, which are right, and which the same, are as the document says.
-/
import Derived.Test.YtdklmafkcbjomaaDoorRows
import Derived.Test.YtdklmafkcbjomaaDoorCards
import Derived.Test.YtdklmafkcbjomaaDoorTie
import Derived.Test.YtdklmafkcbjomaaDoorRatTells
import Derived.Test.YtdklmafkcbjomaaDoorX7
import Derived.WalkKit
import Derived.ProofKit
import Derived.OpenShut
import Derived.ShutString
import Derived.ChangeOld
import Derived.Below
import Derived.SizedLaws
import Derived.LaidMore
import Derived.Stop.Joined
import Derived.SevenTiedAt
namespace Go.Proofs.YtdklmafkcbjomaaDoor.ratchTells
open Go.ChangeShapes Go.WideShapes Go.ChangeAt Go.RowKit Go.Proofs.YtdklmafkcbjomaaDoorW.PrintWords Go.Proofs.YtdklmafkcbjomaaDoorW.PrintLast
set_option linter.unusedVariables false
set_option linter.unusedSimpArgs false
theorem own : ownKnob Tryd.prog.godebug = none := by kernel_rfl
theorem laidOut : laidOutB Tryd.prog = true := by kernel_rfl
set_option maxRecDepth 100000 in
set_option maxHeartbeats 2000000 in
theorem lifted (os : Os) (started : os.Started) (H : Type) (enc : TypeId × Value → H) :
    ReturnsInHanded {} Tryd.checked os 3 .any (fun w args => (Rows.ratchTellsSpec.pre enc Tryd.prog Tryd.f3 [] false w args ∧ laidMetH Tryd.prog laid2 w) ∧ sizedMet enc Tryd.prog Tryd.f3 (OpenSpec.ofChange Rows.ratchTellsSpec) false w args)
      (Rows.ratchTellsSpec.post enc Tryd.prog Tryd.f3 false true false false) := by
  refine returnsInHanded_of_change_and (C := Tryd.checked) (X := fun w _ => laidMetH Tryd.prog laid2 w) (fun _ _ _ hh h => h.of_heap hh) own started (by kernel_rfl) Tryd.func3
    (ChangeSpec.witness_shaped (enc := enc) (C := Tryd.checked) (os := os) (X := fun w _ => laidMetH Tryd.prog laid2 w) false (World.doorLaid Tryd.prog 400 os) #[.agg #[.slice none 0 0, .int .i64 0, .int .i64 0, .int .i64 0, .slice none 0 0, .slice none 0 0, .int .i64 0, .slice none 0 0, .slice none 0 0]] 8 rfl (World.shaped_of_RefB (by kernel_rfl) (by kernel_rfl)) (by kernel_rfl) (by kernel_rfl) (by kernel_rfl) (door_met os _)) ?_
  intro W base args ds gs before hval0 hW _ _ hL _
  have hT : TabOk W := tabOk_of_laid hL
  have hval : ∀ (j : Nat) t v, Tryd.f3.params[j]? = some t → args[j]? = some v → Value.okWide Tryd.prog W .any base t v := hval0
  have hW' := hW
  obtain ⟨p, q, hA0, hV, rfl, hfz, hnd⟩ := hW
  have hA : DataW.TrodAll enc Tryd.prog W 0 (fun _ => true) true Tryd.f3.params.toList args.toList ds p := hA0
  rw [Tryd.params3] at hA hval
  obtain ⟨v0, vs0, d0_, ds0, p0, q0, hargs, rfl, rfl, h0, r0⟩ := trodAll_cons hA
  obtain ⟨rfl, rfl, rfl⟩ := trodAll_nil r0
  obtain rfl : args = #[v0] := by cases args; simp_all
  obtain ⟨rfl, rfl⟩ := trodVars_none hV
  have k0 := h0
  have lt0 : ∀ x ∈ p0, x.block < W.heap.size := by obtain ⟨m, hm⟩ := k0; exact DataW.trod_lt m _ _ _ hm
  obtain ⟨⟨cl0⟩, rfl, hs0⟩ := okWide_struct Tryd.underlying27 (hval 0 _ v0 rfl rfl)
  obtain ⟨x0, hK0, hok0⟩ := open_tells.arg h0
  obtain ⟨A0,c0,Aa0,ca0,Ba0,da0,Ab0,cb0,Bb0,db0,e0,hc0,hC0,hca0,hCa0,hda0,hDa0,hcb0,hCb0,hdb0,hDb0⟩ := tells_open hK0
  have e0' : cl0 = _ := e0
  subst e0'
  clear hA0 hval0
  refine (tells_calls x0.n x0.i x0.a.n x0.b.n x0.l x0.a.s x0.b.s x0.a.L x0.b.L A0 Aa0 Ba0 Ab0 Bb0 c0 ca0 da0 cb0 db0 W hT hC0 hc0 hCa0 hca0 hDa0 hda0 hCb0 hcb0 hDb0 hdb0 hok0.2.1.1 hok0.2.1.2 hok0.1 hok0.2.2.2.1.2.1 hok0.2.2.2.1.2.2 hok0.2.2.2.2.2.1 hok0.2.2.2.2.2.2).mono fun e W' ⟨he, bel⟩ => ?_
  subst he
  exact ⟨_, rfl, _, _, _, [], _, [], hW', trodAll_mk1 (shut_bool Tryd.underlying4 _), (trodAll_cons_mk (Below.trod laidOut (by kernel_rfl) (of_decide_eq_true (by kernel_rfl)) k0 bel lt0) trodAll_mk0), rfl, bel.frame _, fun h => by cases h⟩
theorem over : Rows.ratchTellsRow.holds Tryd.pinned (OpenSpec.ofChange Rows.ratchTellsSpec) :=
  OpenClaim.holds_of_wide 3 Tryd.f3 rfl rfl rfl rfl rfl rfl rfl ⟨rfl, rfl, rfl, rfl, rfl⟩ rfl rfl rfl rfl rfl (by kernel_rfl) Tryd.func3 (by kernel_rfl)
    (of_decide_eq_true (by kernel_rfl)) (by unfold Func.isWrapper; first | (rw [if_pos (by decide +kernel)]; kernel_rfl) | (rw [if_neg (by decide +kernel)]; exact ⟨rfl, rfl⟩))
    (fun os started H enc _ => lifted os started H enc)
theorem said : Rows.RatchTellsSaid := over
theorem noStand : ∀ (j : Nat) (t : TypeId), Tryd.f3.params[j]? = some t → Tryd.prog.wantsStandIn t = false := fun j t ht => by
  rw [Tryd.params3] at ht
  have hm : t ∈ [27] := by simpa using Array.mem_of_getElem? ht
  have hall : ([27].all fun u => !Tryd.prog.wantsStandIn u) = true := by kernel_rfl
  simpa using List.all_eq_true.1 hall t hm
theorem card : Rows.RatchTellsCardSaid :=
  Claim7.holds_tied_plain_at .later [] [.data, .data] true (true, "b08b13eea56cd8273eb5f0b38c055184c9e01f502b4512c50a8be8bff3fc2273") false
    said (fun _ h => by cases h) (by kernel_rfl) (fun _ h => by cases h) ratchTells_row_tie rfl ⟨rfl, rfl⟩ (by kernel_rfl) rfl
    (fun f fn hf hfn => by
      obtain rfl : f = 3 := Option.some.inj ((show Tryd.prog.funcNamed "pyx/pyxlaw13.RatchTells" = some 3 by kernel_rfl).symm.trans hf) |>.symm
      obtain rfl : fn = Tryd.f3 := (Option.some.inj (Tryd.func3.symm.trans hfn)).symm
      exact ⟨by kernel_rfl, noStand⟩)
    (by kernel_rfl)
#print axioms card
end Go.Proofs.YtdklmafkcbjomaaDoor.ratchTells
namespace Go.Proofs.YtdklmafkcbjomaaDoor
/-- The card, under a short name, for the claim. -/
theorem ratchTells_holds : Rows.RatchTellsCardSaid := ratchTells.card
end Go.Proofs.YtdklmafkcbjomaaDoor
