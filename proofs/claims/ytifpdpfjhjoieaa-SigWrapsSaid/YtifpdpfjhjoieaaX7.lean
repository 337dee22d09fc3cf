/-
  The lower layers, walked and in closed forms, part 7: H2, H3, Vof, SealC, SealD, SigA, SigB, SigC, J0, J1, SigD, SigE, SigF, SealE, SealF.
-/
import Derived.Test.YtifpdpfjhjoieaaX0
import Derived.Test.YtifpdpfjhjoieaaX1
import Derived.Test.YtifpdpfjhjoieaaX6
import Derived.Test.YtifpdpfjhjoieaaJWords
import Derived.Test.YtifpdpfjhjoieaaJLast
import Derived.Test.YtifpdpfjhjoieaaJMore
import Derived.Test.YtifpdpfjhjoieaaJRepsOne
import Derived.Test.YtifpdpfjhjoieaaJGuard
import Derived.Test.YtifpdpfjhjoieaaJTab
import Derived.Test.YtifpdpfjhjoieaaProg
import Derived.Below
import Derived.Deep.Draws
import Derived.Deep.AppendLies
import Derived.Maps.AppendAt
import Derived.OwnWalk
import Derived.Laws.BytesArg
import Derived.Laws.MakeOwn
import Derived.Laws.OwnMore
import Derived.Deep.OwnRows
import Derived.Tactics
import Derived.Lib.ConvBytes
import Derived.Laws.Slices
import Derived.WalkKit
import Derived.KernelRfl
import Derived.RowKit3
import Derived.Deep.LoopGhost
import Derived.Deep.QuietTactic
import Derived.BigQuiet
import Derived.WideLaws
import Derived.Deep.DeepCutAuto
import Derived.Deep.CutBlock
import Derived.Deep.RegionHeld3
import Derived.Laws.Rows
import Derived.Lib.AppendStr
import Derived.ArgAppend
import Derived.Laws.IdiomCopy
import Derived.OrdersHeld
import Derived.Laws.BitsLemmas
import Derived.RowKit
/-! H2 -/
namespace Go.Proofs.Ytifpdpfjhjoieaa.H
open Go.Proofs.Ytifpdpfjhjoieaa.P
open Go.RowKit Go.Proofs.YtifpdpfjhjoieaaW.PrintWords Go.Proofs.YtifpdpfjhjoieaaW.PrintLast Go.Proofs.YtifpdpfjhjoieaaW.PrintMore
attribute [local go_sem] max2_int min2_int max_two min_two max_three min_three max_four min_four   -- for this text's walks alone
set_option linter.unusedVariables false
set_option linter.unusedSimpArgs false
-- NOT PRINTED: function 77 (pyxref01_power)
-- NOT PRINTED: function 70 (pyxref01_Len)
-- NOT PRINTED: function 71 (pyxref02_Pad)
-- NOT PRINTED: function 72 (pyxref02_keys)
-- NOT PRINTED: function 73 (pyxref02_Start)
-- NOT PRINTED: function 88 (pyxref02_word)
-- NOT PRINTED: function 89 (pyxref02_turn)
-- NOT PRINTED: function 74 (pyxref02_step)
-- NOT PRINTED: function 50 (pyxref02_Sum)
-- NOT PRINTED: function 49 (pyxref03_Key)
-- NOT PRINTED: function 51 (pyxref03_with)
-- NOT PRINTED: function 64 (pyxref04_Expand)
/-! ### pyxref06_Halves: function 15 -/
def pyxref06_Halves.f (l0 : List Int) : Option (List Int × List Int × Int) := if (l0.length : Int) = 32 then ((pyxref04_Label.f l0 (⟨#[108, 111, 99, 107]⟩ : ByteArray) ([] : List Int) 16).bind fun bt187 => ((pyxref04_Label.f l0 (⟨#[116, 97, 103]⟩ : ByteArray) ([] : List Int) 32).bind fun bt191 => (some (bt187.1, bt191.1, 0)))) else (some (([] : List Int), ([] : List Int), 1))
set_option maxHeartbeats 8000000 in
set_option maxRecDepth 100000 in
theorem pyxref06_Halves.calls (A0 : Option Addr) (c0 : Nat) (l0 : List Int) (r1 : List Int) (r2 : List Int) (r3 : Int) (w : World) (hr0 : Kd.C (Kd.int .u8) w A0 l0.length l0) (hc0 : l0.length ≤ c0) (h : pyxref06_Halves.f l0 = some (r1, r2, r3)) :
    Calls Try.prog 15 #[.slice A0 l0.length c0] w fun e w' => ∃ v0_ v1_ : Value, e = .returned (.tuple #[v0_, v1_, .int .i64 r3]) ∧ Kd.R (Kd.int .u8) 5 w' w.heap.size (fun k_ => some k_ ≠ (v1_ : Value).ownBlock) v0_ r1 ∧ Kd.R (Kd.int .u8) 5 w' w.heap.size (fun k_ => some k_ ≠ (v0_ : Value).ownBlock) v1_ r2 ∧ Below w.heap.size w w' := by
  have HR0 := Aside0.mk hr0
  have HC0 := Aside0.mk hc0
  clear hr0 hc0
  have HB := Aside0.mk (Below.refl w.heap.size w)
  have H : (if (l0.length : Int) = 32 then ((pyxref04_Label.f l0 (⟨#[108, 111, 99, 107]⟩ : ByteArray) ([] : List Int) 16).bind fun bt187 => ((pyxref04_Label.f l0 (⟨#[116, 97, 103]⟩ : ByteArray) ([] : List Int) 32).bind fun bt191 => (some (bt187.1, bt191.1, 0)))) else (some (([] : List Int), ([] : List Int), 1))) = some (r1, r2, r3) := h
  clear h
  by_cases c2 : (l0.length : Int) = 32
  rotate_left
  · rw [if_neg c2] at H
    have c2b0 : ((l0.length : Int) == 32) = false := beq_eq_false_iff_ne.mpr c2
    have c2b1 : ((l0.length : Int) != 32) = true := bne_iff_ne.mpr c2
    simp only [Option.some.injEq, Prod.mk.injEq] at H
    obtain ⟨rfl, rfl, rfl⟩ := H
    go_enter Try.func15, Try.ntmps15
    go_wp2
    go_ret3
    exact ⟨_, _, by first | rfl, by first | exact Kd.R_nil _ _ _ _ _, by first | exact Kd.R_nil _ _ _ _ _, by repeat ((with_reducible first | exact HB.out))⟩
  rw [if_pos c2] at H
  have c2b0 : ((l0.length : Int) == 32) = true := beq_iff_eq.mpr c2
  have c2b1 : ((l0.length : Int) != 32) = false := bne_eq_false_iff_eq.mpr c2
  clear c2
  replace H := Option.bind_eq_some_iff.mp H
  obtain ⟨⟨t187, t188⟩, A30, H⟩ := H
  replace H : ((pyxref04_Label.f l0 (⟨#[116, 97, 103]⟩ : ByteArray) ([] : List Int) 32).bind fun bt191 => (some (t187, bt191.1, 0))) = some (r1, r2, r3) := H
  have A3 := Aside0.mk A30
  clear A30
  replace H := Option.bind_eq_some_iff.mp H
  obtain ⟨⟨t191, t192⟩, A40, H⟩ := H
  replace H : (some (t187, t191, 0)) = some (r1, r2, r3) := H
  have A4 := Aside0.mk A40
  clear A40
  simp only [Option.some.injEq, Prod.mk.injEq] at H
  obtain ⟨rfl, rfl, rfl⟩ := H
  go_enter Try.func15, Try.ntmps15
  go_wp2_with (first | ((with_reducible refine gate_callee (f := 41) rfl ?_); refine goesL_ (some 14) rfl rfl Try.func41 (by kernel_rfl) rfl #[.slice A0 l0.length c0, .string (⟨#[108, 111, 99, 107]⟩ : ByteArray), .slice none 0 0, .int .i64 16] rfl (by (try simp only [List.map_toArray, List.map_cons, List.map_nil]); first | rfl) ?_; (refine (pyxref04_Label.calls _ _ l0 (⟨#[108, 111, 99, 107]⟩ : ByteArray) _ _ ([] : List Int) 16 t187 t188 _ ?side1 ?side2 ?side3 ?side4 A3.out).mono ?_); (case side1 => repeat (exact HR0.out)); (case side2 => exact HC0.out); (case side3 => exact Kd.C_nil _ _); (case side4 => exact Nat.le_refl _); rintro e w5 ⟨v189, rfl, ho0, hb⟩; refine ⟨_, rfl, ?_⟩; have n0_ := Aside0.mk (Kd.R_lower ho0 (below_size (by repeat ((with_reducible first | exact HB.out))))); have n1_ := Aside0.mk (below_step (by repeat ((with_reducible first | exact HB.out))) hb); clear HB; have HO190 := n0_; have HB := n1_; clear n0_ n1_; (try clear hb); (try clear ho0)) | ((with_reducible refine gate_callee (f := 41) rfl ?_); refine goesL_ (some 19) rfl rfl Try.func41 (by kernel_rfl) rfl #[.slice A0 l0.length c0, .string (⟨#[116, 97, 103]⟩ : ByteArray), .slice none 0 0, .int .i64 32] rfl (by (try simp only [List.map_toArray, List.map_cons, List.map_nil]); first | rfl) ?_; (refine (pyxref04_Label.calls _ _ l0 (⟨#[116, 97, 103]⟩ : ByteArray) _ _ ([] : List Int) 32 t191 t192 _ ?side1 ?side2 ?side3 ?side4 A4.out).mono ?_); (case side1 => repeat (exact (Kd.C_below HR0.out HB.out))); (case side2 => exact HC0.out); (case side3 => exact Kd.C_nil _ _); (case side4 => exact Nat.le_refl _); rintro e w6 ⟨v193, rfl, ho0, hb⟩; refine ⟨_, rfl, ?_⟩; have n0_ := Aside0.mk (Kd.R_elder' (by (with_reducible repeat (fail)); exact HO190.out) (Kd.R_base ho0) hb); have n1_ := Aside0.mk (Kd.R_lower (Kd.R_new' ho0 (Kd.R_lt (by (with_reducible repeat (fail)); exact HO190.out))) (below_size (by repeat ((with_reducible first | exact HB.out))))); have n2_ := Aside0.mk (below_step (by repeat ((with_reducible first | exact HB.out))) hb); clear HO190; clear HB; have HO190 := n0_; have HO194 := n1_; have HB := n2_; clear n0_ n1_ n2_; (try clear hb); (try clear ho0)))
  go_ret3
  exact ⟨_, _, by first | rfl, by (with_reducible repeat (fail)); exact Kd.R_mono HO190.out (fun _ hk => hk.2), by (with_reducible repeat (fail)); exact Kd.R_mono HO194.out (fun _ hk => hk.2), by repeat ((with_reducible first | exact HB.out))⟩
-- NOT PRINTED: function 90 (pyxref05_left)
-- NOT PRINTED: function 75 (pyxref05_turned)
-- NOT PRINTED: function 76 (pyxref05_Mul)
-- NOT PRINTED: function 52 (pyxref05_boxes)
-- NOT PRINTED: function 53 (pyxref05_keys)
-- NOT PRINTED: function 55 (pyxref05_lock)
/-! ### pyxref06_tag: function 45 -/
def pyxref06_tag.f (l0 : List Int) (l1 : List Int) (l2 : List Int) (l3 : List Int) : Option (List Int) := (pyxref01_Row.f l2).bind fun bt195 => ((pyxref03_All.f l0 (([bt195.1, l1, l3] : List (List Int)))).bind fun t202 => (some t202))
set_option maxHeartbeats 8000000 in
set_option maxRecDepth 100000 in
theorem pyxref06_tag.calls (A0 : Option Addr) (c0 : Nat) (l0 : List Int) (P1_ : Nat → Prop) (A1 : Option Addr) (c1 : Nat) (l1 : List Int) (A2 : Option Addr) (c2 : Nat) (l2 : List Int) (P3_ : Nat → Prop) (A3 : Option Addr) (c3 : Nat) (l3 : List Int) (r : List Int) (w : World) (hr0 : Kd.C (Kd.int .u8) w A0 l0.length l0) (hc0 : l0.length ≤ c0) (hs1 : Kd.V (Kd.int .u8) 5 w w.heap.size (fun k_ => P1_ k_) (.slice A1 l1.length c1) l1) (hr2 : Kd.C (Kd.int .u8) w A2 l2.length l2) (hc2 : l2.length ≤ c2) (hs3 : Kd.V (Kd.int .u8) 5 w w.heap.size (fun k_ => P3_ k_) (.slice A3 l3.length c3) l3) (h : pyxref06_tag.f l0 l1 l2 l3 = some r) :
    Calls Try.prog 45 #[.slice A0 l0.length c0, .slice A1 l1.length c1, .slice A2 l2.length c2, .slice A3 l3.length c3] w fun e w' => ∃ v0_ : Value, e = .returned (v0_) ∧ Kd.R (Kd.int .u8) 5 w' w.heap.size (fun k_ => (w.heap.size ≤ k_)) v0_ r ∧ Below w.heap.size w w' := by
  have HR0 := Aside0.mk hr0
  have HC0 := Aside0.mk hc0
  clear hr0 hc0
  have HO1 := Aside0.mk (show Kd.V (Kd.int .u8) 5 w w.heap.size (fun k_ => ((P1_ k_ ∨ P3_ k_) ∨ w.heap.size ≤ k_)) (.slice A1 l1.length c1) l1 from Kd.V_mono hs1 (fun k_ hk => .inl (.inl hk)))
  have HR2 := Aside0.mk hr2
  have HC2 := Aside0.mk hc2
  clear hr2 hc2
  have HO3 := Aside0.mk (show Kd.V (Kd.int .u8) 5 w w.heap.size (fun k_ => ((P1_ k_ ∨ P3_ k_) ∨ w.heap.size ≤ k_)) (.slice A3 l3.length c3) l3 from Kd.V_mono hs3 (fun k_ hk => .inl (.inr hk)))
  have HB := Aside0.mk (Below.refl w.heap.size w)
  have H : ((pyxref01_Row.f l2).bind fun bt195 => ((pyxref03_All.f l0 (([bt195.1, l1, l3] : List (List Int)))).bind fun t202 => (some t202))) = some r := h
  clear h
  replace H := Option.bind_eq_some_iff.mp H
  obtain ⟨⟨t195, t196⟩, A50, H⟩ := H
  replace H : ((pyxref03_All.f l0 (([t195, l1, l3] : List (List Int)))).bind fun t202 => (some t202)) = some r := H
  have A5 := Aside0.mk A50
  clear A50
  obtain ⟨y199, hy199⟩ : ∃ y_ : List (List Int), y_ = (([t195, l1, l3] : List (List Int))) := ⟨_, rfl⟩
  replace H : ((pyxref03_All.f l0 y199).bind fun t202 => (some t202)) = some r := by first | (rw [hy199]; with_reducible exact H)
  have Ny199 := Aside0.mk hy199
  clear hy199
  replace H := Option.bind_eq_some_iff.mp H
  obtain ⟨t202, A60, H⟩ := H
  replace H : (some t202) = some r := H
  have A6 := Aside0.mk A60
  clear A60
  obtain rfl := Option.some.inj H
  go_enter Try.func45, Try.ntmps45
  go_wp2_with (first | ((with_reducible refine gate_callee (f := 48) rfl ?_); refine goesL_ (some 13) rfl rfl Try.func48 (by kernel_rfl) rfl #[.slice A2 l2.length c2] rfl (by (try simp only [List.map_toArray, List.map_cons, List.map_nil]); first | rfl) ?_; (with_reducible refine (pyxref01_Row.calls _ _ l2 t195 t196 _ ?side1 ?side2 A5.out).mono ?_); (case side1 => repeat (exact HR2.out)); (case side2 => exact HC2.out); rintro e w7 ⟨v197, rfl, ho0, hb⟩; refine ⟨_, rfl, ?_⟩; have n0_ := Aside0.mk (Kd.V_elder' (by (with_reducible repeat (fail)); exact HO1.out) (Kd.R_base ho0) hb); have n1_ := Aside0.mk (Kd.V_elder' (by (with_reducible repeat (fail)); exact HO3.out) (Kd.R_base ho0) hb); have n2_ := Aside0.mk (Kd.R_lower (Kd.R_newM (M := fun k_ => (w.heap.size ≤ k_)) ho0 (below_size (by repeat ((with_reducible first | exact HB.out)))) (fun k_ h_ => h_)) (below_size (by repeat ((with_reducible first | exact HB.out))))); have n3_ := Aside0.mk (below_step (by repeat ((with_reducible first | exact HB.out))) hb); clear HO1; clear HO3; clear HB; have HO1 := n0_; have HO3 := n1_; have HO198 := n2_; have HB := n3_; clear n0_ n1_ n2_ n3_; (try clear hb); (try clear ho0); obtain ⟨Ao8, co8, eo8⟩ := Kd.R_slice HO198.out; subst eo8) | ((with_reducible refine gate_dst (N := 20) rfl ?_); refine Kd.N_lit (Kd.slice 5 (Kd.int .u8)) _ 22 ?hg (N' := 20) ?hd (xs := ([t195, l1, l3] : List (List Int))) (inner := [.slice Ao8 t195.length co8, .slice A1 l1.length c1, .slice A3 l3.length c3]) (ok := (fun k_ => ((P1_ k_ ∨ P3_ k_) ∨ w.heap.size ≤ k_))) (okp := (fun k_ => ((P1_ k_ ∨ P3_ k_) ∨ w.heap.size ≤ k_))) ?hr ?hp (fun _ hk => hk) ((show ∀ k_, w7.heap.size ≤ k_ → (fun k_ => ((P1_ k_ ∨ P3_ k_) ∨ w.heap.size ≤ k_)) k_ from fun k_ hk => (.inr (Nat.le_trans (below_size (by repeat ((with_reducible first | exact HB.out)))) hk))) _ (Nat.le_refl _)) (Below.refl _ _) (Nat.le_refl _) (by simp) ?_; (case hd => rfl); (case hg => rfl); (case hr => first | (go_simp; done)); (case hp => exact (Reps.one (show Kd.FK (Kd.slice 5 (Kd.int .u8)) _ _ t195 [.slice Ao8 t195.length co8] from (Kd.FK_slice_mk (Kd.R_reads' (Kd.R_mono (ok' := (fun k_ => ((P1_ k_ ∨ P3_ k_) ∨ w.heap.size ≤ k_))) (HO198.out) (fun k_ hk => (.inr (hk.1))))).2.1 (Kd.R_F (Kd.R_mono (ok' := (fun k_ => ((P1_ k_ ∨ P3_ k_) ∨ w.heap.size ≤ k_))) (HO198.out) (fun k_ hk => (.inr (hk.1))))))) (Reps.one (show Kd.FK (Kd.slice 5 (Kd.int .u8)) _ _ l1 [.slice A1 l1.length c1] from (Kd.FK_slice_mk (Kd.V_reads' (Kd.V_mono (ok' := (fun k_ => ((P1_ k_ ∨ P3_ k_) ∨ w.heap.size ≤ k_))) (HO1.out) (fun k_ hk => hk.1))).2.1 (Kd.V_F (Kd.V_mono (ok' := (fun k_ => ((P1_ k_ ∨ P3_ k_) ∨ w.heap.size ≤ k_))) (HO1.out) (fun k_ hk => hk.1))))) (Reps.one (show Kd.FK (Kd.slice 5 (Kd.int .u8)) _ _ l3 [.slice A3 l3.length c3] from (Kd.FK_slice_mk (Kd.V_reads' (Kd.V_mono (ok' := (fun k_ => ((P1_ k_ ∨ P3_ k_) ∨ w.heap.size ≤ k_))) (HO3.out) (fun k_ hk => hk.1))).2.1 (Kd.V_F (Kd.V_mono (ok' := (fun k_ => ((P1_ k_ ∨ P3_ k_) ∨ w.heap.size ≤ k_))) (HO3.out) (fun k_ hk => hk.1))))) (Reps.none _ _))))); intro v200 w9 ho10 hb hg_ hnew_; clear hg_ hnew_; (rw [← Ny199.out] at ho10); have n0_ := Aside0.mk (Kd.V_elder' (by (with_reducible repeat (fail)); exact HO1.out) (Kd.N_base ho10) hb); have n1_ := Aside0.mk (Kd.V_elder' (by (with_reducible repeat (fail)); exact HO3.out) (Kd.N_base ho10) hb); have n2_ := Aside0.mk (Kd.N_lower ho10 (below_size (by repeat ((with_reducible first | exact HB.out))))); have n3_ := Aside0.mk (below_step (by repeat ((with_reducible first | exact HB.out))) hb); clear HO1; clear HO3; clear HB; clear HO198; have HO1 := n0_; have HO3 := n1_; have HO201 := n2_; have HB := n3_; clear n0_ n1_ n2_ n3_; clear hb ho10; obtain ⟨Ao11, co11, eo11⟩ := Kd.N_slice HO201.out; subst eo11) | ((with_reducible refine gate_callee (f := 69) rfl ?_); refine goesL_ (some 21) rfl rfl Try.func69 (by kernel_rfl) rfl #[.slice A0 l0.length c0, .slice Ao11 y199.length co11] rfl (by (try simp only [List.map_toArray, List.map_cons, List.map_nil]); first | rfl) ?_; (with_reducible refine (pyxref03_All.calls _ _ l0 _ _ y199 t202 _ ?side1 ?side2 ?side3 ?side4 A6.out).mono ?_); (case side1 => repeat (exact (Kd.C_below HR0.out HB.out))); (case side2 => exact HC0.out); (case side3 => repeat (exact (Kd.N_reads' HO201.out).2.2)); (case side4 => exact (Kd.N_reads' HO201.out).2.1); rintro e w12 ⟨v203, rfl, ho0, hb⟩; refine ⟨_, rfl, ?_⟩; have n0_ := Aside0.mk (Kd.V_elder' (by (with_reducible repeat (fail)); exact HO1.out) (Kd.R_base ho0) hb); have n1_ := Aside0.mk (Kd.V_elder' (by (with_reducible repeat (fail)); exact HO3.out) (Kd.R_base ho0) hb); have n2_ := Aside0.mk (Kd.N_elder' (by (with_reducible repeat (fail)); exact HO201.out) (Kd.R_base ho0) hb); have n3_ := Aside0.mk (Kd.R_lower (Kd.R_newM (M := fun k_ => (w.heap.size ≤ k_)) ho0 (below_size (by repeat ((with_reducible first | exact HB.out)))) (fun k_ h_ => h_)) (below_size (by repeat ((with_reducible first | exact HB.out))))); have n4_ := Aside0.mk (below_step (by repeat ((with_reducible first | exact HB.out))) hb); clear HO1; clear HO3; clear HO201; clear HB; have HO1 := n0_; have HO3 := n1_; have HO201 := n2_; have HO204 := n3_; have HB := n4_; clear n0_ n1_ n2_ n3_ n4_; (try clear hb); (try clear ho0)))
  go_ret
  exact ⟨_, by first | rfl, by (with_reducible repeat (fail)); exact Kd.R_mono HO204.out (fun _ hk => hk.1), by repeat ((with_reducible first | exact HB.out))⟩
/-! ### pyxref06_Seal: function 17 -/
def pyxref06_Seal.j0 : Nat → List Int → List Int → List Int → List Int → List Int → Bool → Option (List Int × Int)
  | 0, _, _, _, _, _, _ => none
  | k + 1, x1, x2, x3, x10, x11, x28 => if x28 = true then (some (([] : List Int), 1)) else ((pyxref05_Stream.f x10 x1 x3).bind fun bt212 => ((some (([] : List Int) : List Int)).bind fun y216 => (if y216.length + bt212.1.length < 140737488355328 then ((some (y216 ++ bt212.1 : List Int)).bind fun y219 => ((pyxref06_tag.f x11 x1 x2 bt212.1).bind fun t222 => (if y219.length + t222.length < 140737488355328 then (some ((y219 ++ t222), 0)) else (none)))) else (none))))
def pyxref06_Seal.f (k : Nat) (l0 : List Int) (l1 : List Int) (l2 : List Int) (l3 : List Int) : Option (List Int × Int) := (pyxref06_Halves.f l0).bind fun bt205 => (if bt205.2.2 = 0 then (pyxref06_Seal.j0 k l1 l2 l3 bt205.1 bt205.2.1 ((l1.length : Int) != 12)) else (pyxref06_Seal.j0 k l1 l2 l3 bt205.1 bt205.2.1 true))
set_option maxHeartbeats 8000000 in
set_option maxRecDepth 100000 in
theorem pyxref06_Seal.calls (k : Nat) (A0 : Option Addr) (c0 : Nat) (l0 : List Int) (A1 : Option Addr) (c1 : Nat) (l1 : List Int) (A2 : Option Addr) (c2 : Nat) (l2 : List Int) (A3 : Option Addr) (c3 : Nat) (l3 : List Int) (r1 : List Int) (r2 : Int) (w : World) (hr0 : Kd.C (Kd.int .u8) w A0 l0.length l0) (hc0 : l0.length ≤ c0) (hr1 : Kd.C (Kd.int .u8) w A1 l1.length l1) (hc1 : l1.length ≤ c1) (hr2 : Kd.C (Kd.int .u8) w A2 l2.length l2) (hc2 : l2.length ≤ c2) (hr3 : Kd.C (Kd.int .u8) w A3 l3.length l3) (hc3 : l3.length ≤ c3) (h : pyxref06_Seal.f k l0 l1 l2 l3 = some (r1, r2)) :
    Calls Try.prog 17 #[.slice A0 l0.length c0, .slice A1 l1.length c1, .slice A2 l2.length c2, .slice A3 l3.length c3] w fun e w' => ∃ v0_ : Value, e = .returned (.tuple #[v0_, .int .i64 r2]) ∧ Kd.R (Kd.int .u8) 5 w' w.heap.size (fun _ => True) v0_ r1 ∧ Below w.heap.size w w' := by
  have HR0 := Aside0.mk hr0
  have HC0 := Aside0.mk hc0
  clear hr0 hc0
  have HR1 := Aside0.mk hr1
  have HC1 := Aside0.mk hc1
  clear hr1 hc1
  have HR2 := Aside0.mk hr2
  have HC2 := Aside0.mk hc2
  clear hr2 hc2
  have HR3 := Aside0.mk hr3
  have HC3 := Aside0.mk hc3
  clear hr3 hc3
  have HB := Aside0.mk (Below.refl w.heap.size w)
  have H : ((pyxref06_Halves.f l0).bind fun bt205 => (if bt205.2.2 = 0 then (pyxref06_Seal.j0 k l1 l2 l3 bt205.1 bt205.2.1 ((l1.length : Int) != 12)) else (pyxref06_Seal.j0 k l1 l2 l3 bt205.1 bt205.2.1 true))) = some (r1, r2) := h
  clear h
  replace H := Option.bind_eq_some_iff.mp H
  obtain ⟨⟨t205, t206, t207⟩, A50, H⟩ := H
  replace H : (if t207 = 0 then (pyxref06_Seal.j0 k l1 l2 l3 t205 t206 ((l1.length : Int) != 12)) else (pyxref06_Seal.j0 k l1 l2 l3 t205 t206 true)) = some (r1, r2) := H
  have A5 := Aside0.mk A50
  clear A50
  have HC6 := Aside0.mk H
  clear H
  go_enter Try.func17, Try.ntmps17
  go_upto_region 2 with (first | ((with_reducible refine gate_callee (f := 15) rfl ?_); refine goesL_ (some 18) rfl rfl Try.func15 (by kernel_rfl) rfl #[.slice A0 l0.length c0] rfl (by (try simp only [List.map_toArray, List.map_cons, List.map_nil]); first | rfl) ?_; (with_reducible refine (pyxref06_Halves.calls _ _ l0 t205 t206 t207 _ ?side1 ?side2 A5.out).mono ?_); (case side1 => repeat (exact HR0.out)); (case side2 => exact HC0.out); rintro e w7 ⟨v208, v210, rfl, ho0, ho1, hb⟩; refine ⟨_, rfl, ?_⟩; have n0_ := Aside0.mk (Kd.R_lower ho0 (below_size (by repeat ((with_reducible first | exact HB.out))))); have n1_ := Aside0.mk (Kd.R_lower ho1 (below_size (by repeat ((with_reducible first | exact HB.out))))); have n2_ := Aside0.mk (below_step (by repeat ((with_reducible first | exact HB.out))) hb); clear HB; have HO209 := n0_; have HO211 := n1_; have HB := n2_; clear n0_ n1_ n2_; (try clear hb); (try clear ho0); (try clear ho1)))
  (skip)
  go_cut [28] (fun v28 wc => ∃ (kq : Nat) (x28_5 : Bool), v28 = .bool x28_5 ∧ Aside0 (pyxref06_Seal.j0 kq l1 l2 l3 t205 t206 x28_5 = some (r1, r2)) ∧ Aside0 (kq ≤ k) ∧ Aside0 (Kd.R (Kd.int .u8) 5 wc w.heap.size (fun k_ => some k_ ≠ (v210 : Value).ownBlock) v208 t205) ∧ Aside0 (Kd.R (Kd.int .u8) 5 wc w.heap.size (fun k_ => some k_ ≠ (v208 : Value).ownBlock) v210 t206) ∧ Aside0 (Below w.heap.size w wc))
  case first =>
    have H := HC6.out
    clear HC6
    by_cases c8 : t207 = 0
    rotate_left
    · rw [if_neg c8] at H
      have c8b0 : (t207 == 0) = false := beq_eq_false_iff_ne.mpr c8
      have c8b1 : (t207 != 0) = true := bne_iff_ne.mpr c8
      (skip)
      have H' := Aside0.mk H
      clear H
      go_wp2
      go_meet
      case rel => exact ⟨_, (true), (by first | rfl), H', ⟨by first | omega⟩, ⟨by (with_reducible repeat (fail)); exact HO209.out⟩, ⟨by (with_reducible repeat (fail)); exact HO211.out⟩, ⟨by repeat ((with_reducible first | exact HB.out))⟩⟩
    rw [if_pos c8] at H
    have c8b0 : (t207 == 0) = true := beq_iff_eq.mpr c8
    have c8b1 : (t207 != 0) = false := bne_eq_false_iff_eq.mpr c8
    clear c8
    (skip)
    have H' := Aside0.mk H
    clear H
    go_wp2
    go_meet
    case rel => exact ⟨_, (((l1.length : Int) != 12)), (by first | rfl), H', ⟨by first | omega⟩, ⟨by (with_reducible repeat (fail)); exact HO209.out⟩, ⟨by (with_reducible repeat (fail)); exact HO211.out⟩, ⟨by repeat ((with_reducible first | exact HB.out))⟩⟩
  clear HC6
  skip
  skip
  skip
  skip
  skip
  skip
  skip
  obtain ⟨kq, x28_5, rfl, HA, HJ5, HO_10, HO_11, HB⟩ := hcut
  cases kq with
  | zero => exact absurd HA.out (by simp [pyxref06_Seal.j0])
  | succ kj5 =>
    have H := HA.out
    clear HA
    simp only [pyxref06_Seal.j0] at H
    by_cases c9 : x28_5 = true
    · subst c9
      have H1 : (some (([] : List Int), 1)) = some (r1, r2) := by rw [if_pos rfl] at H; exact H
      clear H
      have H := H1
      clear H1
      simp only [Option.some.injEq, Prod.mk.injEq] at H
      obtain ⟨rfl, rfl⟩ := H
      go_wp2
      go_ret2
      exact ⟨_, by first | rfl, by first | exact Kd.R_nil _ _ _ _ _, by repeat ((with_reducible first | exact HB.out))⟩
    replace c9 := Bool.eq_false_iff.mpr c9
    subst c9
    have H1 : ((pyxref05_Stream.f t205 l1 l3).bind fun bt212 => ((some (([] : List Int) : List Int)).bind fun y216 => (if y216.length + bt212.1.length < 140737488355328 then ((some (y216 ++ bt212.1 : List Int)).bind fun y219 => ((pyxref06_tag.f t206 l1 l2 bt212.1).bind fun t222 => (if y219.length + t222.length < 140737488355328 then (some ((y219 ++ t222), 0)) else (none)))) else (none)))) = some (r1, r2) := by rw [if_neg (show ¬ (false = true) by decide)] at H; exact H
    clear H
    have H := H1
    clear H1
    replace H := Option.bind_eq_some_iff.mp H
    obtain ⟨⟨t212, t213⟩, A100, H⟩ := H
    replace H : ((some (([] : List Int) : List Int)).bind fun y216 => (if y216.length + t212.length < 140737488355328 then ((some (y216 ++ t212 : List Int)).bind fun y219 => ((pyxref06_tag.f t206 l1 l2 t212).bind fun t222 => (if y219.length + t222.length < 140737488355328 then (some ((y219 ++ t222), 0)) else (none)))) else (none))) = some (r1, r2) := H
    have A10 := Aside0.mk A100
    clear A100
    obtain ⟨y216, hy216⟩ : ∃ y_ : List Int, y_ = (([] : List Int)) := ⟨_, rfl⟩
    replace H : (if y216.length + t212.length < 140737488355328 then ((some (y216 ++ t212 : List Int)).bind fun y219 => ((pyxref06_tag.f t206 l1 l2 t212).bind fun t222 => (if y219.length + t222.length < 140737488355328 then (some ((y219 ++ t222), 0)) else (none)))) else (none)) = some (r1, r2) := by first | (have H2_ := (Option.bind_some _ _).symm.trans H; rw [hy216]; with_reducible exact H2_)
    have Ny216 := Aside0.mk hy216
    clear hy216
    by_cases c11 : y216.length + t212.length < 140737488355328
    rotate_left
    · rw [if_neg c11] at H
      exact absurd H (by simp)
    rw [if_pos c11] at H
    have LMc11 := Aside0.mk c11
    clear c11
    obtain ⟨y219, hy219⟩ : ∃ y_ : List Int, y_ = (y216 ++ t212) := ⟨_, rfl⟩
    replace H : ((pyxref06_tag.f t206 l1 l2 t212).bind fun t222 => (if y219.length + t222.length < 140737488355328 then (some ((y219 ++ t222), 0)) else (none))) = some (r1, r2) := by first | (have H2_ := (Option.bind_some _ _).symm.trans H; rw [hy219]; with_reducible exact H2_)
    have Ny219 := Aside0.mk hy219
    clear hy219
    replace H := Option.bind_eq_some_iff.mp H
    obtain ⟨t222, A120, H⟩ := H
    replace H : (if y219.length + t222.length < 140737488355328 then (some ((y219 ++ t222), 0)) else (none)) = some (r1, r2) := H
    have A12 := Aside0.mk A120
    clear A120
    by_cases c13 : y219.length + t222.length < 140737488355328
    rotate_left
    · rw [if_neg c13] at H
      exact absurd H (by simp)
    rw [if_pos c13] at H
    have LMc13 := Aside0.mk c13
    clear c13
    obtain ⟨y225, hy225⟩ : ∃ y_ : List Int, y_ = (y219 ++ t222) := ⟨_, rfl⟩
    replace H : (some (y225, 0)) = some (r1, r2) := by first | (rw [hy225]; with_reducible exact H)
    have Ny225 := Aside0.mk hy225
    clear hy225
    simp only [Option.some.injEq, Prod.mk.injEq] at H
    obtain ⟨rfl, rfl⟩ := H
    obtain ⟨Ao14, co14, eo14⟩ := Kd.R_slice HO_10.out
    subst eo14
    go_wp2_with (first | ((with_reducible refine gate_callee (f := 25) rfl ?_); refine goesL_ (some 33) rfl rfl Try.func25 (by kernel_rfl) rfl #[.slice Ao14 t205.length co14, .slice A1 l1.length c1, .slice A3 l3.length c3] rfl (by (try simp only [List.map_toArray, List.map_cons, List.map_nil]); first | rfl) ?_; (with_reducible refine (pyxref05_Stream.calls _ _ t205 _ _ l1 _ _ l3 t212 t213 _ ?side1 ?side2 ?side3 ?side4 ?side5 ?side6 A10.out).mono ?_); (case side1 => repeat (exact (Kd.R_reads' HO_10.out).2.2)); (case side2 => exact (Kd.R_reads' HO_10.out).2.1); (case side3 => repeat (exact (Kd.C_below HR1.out HB.out))); (case side4 => exact HC1.out); (case side5 => repeat (exact (Kd.C_below HR3.out HB.out))); (case side6 => exact HC3.out); rintro e w15 ⟨v214, rfl, ho0, hb⟩; refine ⟨_, rfl, ?_⟩; have n0_ := Aside0.mk (Kd.R_elder' (by (with_reducible repeat (fail)); exact HO_10.out) (Kd.R_base ho0) hb); have n1_ := Aside0.mk (Kd.R_elder' (by (with_reducible repeat (fail)); exact HO_11.out) (Kd.R_base ho0) hb); have n2_ := Aside0.mk (Kd.R_lower (Kd.R_new' (Kd.R_new' ho0 (Kd.R_lt (by (with_reducible repeat (fail)); exact HO_10.out))) (Kd.R_lt (by (with_reducible repeat (fail)); exact HO_11.out))) (below_size (by repeat ((with_reducible first | exact HB.out))))); have n3_ := Aside0.mk (below_step (by repeat ((with_reducible first | exact HB.out))) hb); clear HO_10; clear HO_11; clear HB; have HO_10 := n0_; have HO_11 := n1_; have HO215 := n2_; have HB := n3_; clear n0_ n1_ n2_ n3_; (try clear hb); (try clear ho0)) | ((with_reducible refine gate_dst (N := 36) rfl ?_); (try (refine gate_guard (by rfl) ?_; dsimp only)); refine Kd.R_lit (Kd.int .u8) _ 5 ?hg (N := 36) ?hd (xs := ([] : List Int)) (inner := []) (ok := fun _ => True) (okp := fun _ => True) ?hr ?hp (fun _ hk => hk) trivial (Below.refl _ _) (Nat.le_refl _) (by simp) ?_; (case hd => rfl); (case hg => rfl); (case hr => first | (go_simp; done)); (case hp => exact (Reps.none _ _)); intro v217 w16 ho17 hb hg_ hnew_; clear hg_ hnew_; (rw [← Ny216.out] at ho17); have n0_ := Aside0.mk (Kd.R_elder' (by (with_reducible repeat (fail)); exact HO_10.out) (Kd.R_base ho17) hb); have n1_ := Aside0.mk (Kd.R_elder' (by (with_reducible repeat (fail)); exact HO_11.out) (Kd.R_base ho17) hb); have n2_ := Aside0.mk (Kd.R_elder' (by (with_reducible repeat (fail)); exact HO215.out) (Kd.R_base ho17) hb); have n3_ := Aside0.mk (Kd.R_lower (Kd.R_new' (Kd.R_new' (Kd.R_new' ho17 (Kd.R_lt (by (with_reducible repeat (fail)); exact HO_10.out))) (Kd.R_lt (by (with_reducible repeat (fail)); exact HO_11.out))) (Kd.R_lt (by (with_reducible repeat (fail)); exact HO215.out))) (below_size (by repeat ((with_reducible first | exact HB.out))))); have n4_ := Aside0.mk (below_step (by repeat ((with_reducible first | exact HB.out))) hb); clear HO_10; clear HO_11; clear HO215; clear HB; have HO_10 := n0_; have HO_11 := n1_; have HO215 := n2_; have HO218 := n3_; have HB := n4_; clear n0_ n1_ n2_ n3_ n4_; clear hb ho17; obtain ⟨Ao19, co19, eo19⟩ := Kd.R_slice HO215.out; subst eo19) | ((with_reducible refine gate_builtin (b := .append) (xs := #[.tmp 36, .tmp 37]) rfl ?_); (try (refine gate_guard (by rfl) ?_; dsimp only)); at_builtin; refine Kd.R_append_rows (Kd.int .u8) (w0 := w) w.heap.size rfl (.tmp 36) (.tmp 37) 22 5 (.int .u8 0) 1 rfl Try.underlying22 info5 rfl (by decide) (by omega) v217 y216 t212 _ _ _ (fun k_ => some k_ ≠ (.slice Ao14 t205.length co14 : Value).ownBlock ∧ some k_ ≠ (v210 : Value).ownBlock ∧ some k_ ≠ (.slice Ao19 t212.length co19 : Value).ownBlock) (fun _ => False) rfl rfl ?aO ?aR (fun _ _ h => h) (fun _ h => h.elim) ?aF ?aB ?aS ?aL ?_; (case aR => repeat (exact (Kd.R_reads' HO215.out).2.2)); (case aB => exact (by repeat ((with_reducible first | exact HB.out)))); (case aF => exact (fun k_ hk => ⟨Kd.fresh' (Kd.R_lt (by (with_reducible repeat (fail)); exact HO_10.out)) k_ hk, Kd.fresh' (Kd.R_lt (by (with_reducible repeat (fail)); exact HO_11.out)) k_ hk, Kd.fresh' (Kd.R_lt (by (with_reducible repeat (fail)); exact HO215.out)) k_ hk⟩)); (case aO => exact (by (with_reducible repeat (fail)); exact Kd.R_mono HO218.out (fun _ hk => ⟨hk.1.1.2, ⟨hk.1.2, hk.2⟩⟩))); (case aS => exact (below_size (by repeat ((with_reducible first | exact HB.out))))); (case aL => have := LMc11.out; omega); intro v220 w18 ho hb hg hat; rw [← Ny219.out] at ho; have n0_ := Aside0.mk (Kd.R_after (ok := (fun k_ => some k_ ≠ (v210 : Value).ownBlock ∧ some k_ ≠ (.slice Ao19 t212.length co19 : Value).ownBlock)) (by (with_reducible repeat (fail)); exact HO_10.out) hg hat); have n1_ := Aside0.mk (Kd.R_after (ok := (fun k_ => some k_ ≠ (.slice Ao14 t205.length co14 : Value).ownBlock ∧ some k_ ≠ (.slice Ao19 t212.length co19 : Value).ownBlock)) (by (with_reducible repeat (fail)); exact HO_11.out) hg hat); have n2_ := Aside0.mk (Kd.R_after (ok := (fun k_ => some k_ ≠ (.slice Ao14 t205.length co14 : Value).ownBlock ∧ some k_ ≠ (v210 : Value).ownBlock)) (by (with_reducible repeat (fail)); exact Kd.R_mono HO215.out (fun _ hk => ⟨⟨hk.1.1.2, hk.1.2⟩, hk.2⟩)) hg hat); have n3_ := Aside0.mk (hb); have n4_ := Aside0.mk (ho); clear HO_10; clear HO_11; clear HO215; clear HB; clear HO218; have HO_10 := n0_; have HO_11 := n1_; have HO215 := n2_; have HB := n3_; have HO221 := n4_; clear n0_ n1_ n2_ n3_ n4_; clear ho hb hg hat; obtain ⟨Ao20, co20, eo20⟩ := Kd.R_slice HO_11.out; subst eo20) | ((with_reducible refine gate_callee (f := 45) rfl ?_); refine goesL_ (some 44) rfl rfl Try.func45 (by kernel_rfl) rfl #[.slice Ao20 t206.length co20, .slice A1 l1.length c1, .slice A2 l2.length c2, .slice Ao19 t212.length co19] rfl (by (try simp only [List.map_toArray, List.map_cons, List.map_nil]); first | rfl) ?_; (with_reducible refine (pyxref06_tag.calls _ _ t206 (fun k_ => k_ < w.heap.size) _ _ l1 _ _ l2 (fun k_ => some k_ = (.slice Ao19 t212.length co19 : Value).ownBlock) _ _ t212 t222 _ ?side1 ?side2 ?side3 ?side4 ?side5 ?side6 A12.out).mono ?_); (case side1 => repeat (exact (Kd.R_reads' HO_11.out).2.2)); (case side2 => exact (Kd.R_reads' HO_11.out).2.1); (case side3 => exact Kd.V_mk HC1.out (Kd.F_below (Kd.C_F (Kd.heap_int .u8) HR1.out) (by repeat ((with_reducible first | exact HB.out))))); (case side4 => repeat (exact (Kd.C_below HR2.out HB.out))); (case side5 => exact HC2.out); (case side6 => exact Kd.R_V (Kd.R_tight rfl (HO215.out))); rintro e w21 ⟨v223, rfl, ho0, hb⟩; refine ⟨_, rfl, ?_⟩; have n0_ := Aside0.mk (Kd.R_elder' (by (with_reducible repeat (fail)); exact HO_10.out) (Kd.R_base ho0) hb); have n1_ := Aside0.mk (Kd.R_elder' (by (with_reducible repeat (fail)); exact HO_11.out) (Kd.R_base ho0) hb); have n2_ := Aside0.mk (Kd.R_elder' (by (with_reducible repeat (fail)); exact HO215.out) (Kd.R_base ho0) hb); have n3_ := Aside0.mk (Kd.R_elder' (by (with_reducible repeat (fail)); exact HO221.out) (Kd.R_base ho0) hb); have n4_ := Aside0.mk (Kd.R_lower (Kd.R_new' (Kd.R_new' (Kd.R_new' (Kd.R_new' (Kd.R_mono (ok' := fun k_ => True) ho0 (fun _ hk_ => trivial)) (Kd.R_lt (by (with_reducible repeat (fail)); exact HO_10.out))) (Kd.R_lt (by (with_reducible repeat (fail)); exact HO_11.out))) (Kd.R_lt (by (with_reducible repeat (fail)); exact HO215.out))) (Kd.R_lt (by (with_reducible repeat (fail)); exact HO221.out))) (below_size (by repeat ((with_reducible first | exact HB.out))))); have n5_ := Aside0.mk (below_step (by repeat ((with_reducible first | exact HB.out))) hb); clear HO_10; clear HO_11; clear HO215; clear HO221; clear HB; have HO_10 := n0_; have HO_11 := n1_; have HO215 := n2_; have HO221 := n3_; have HO224 := n4_; have HB := n5_; clear n0_ n1_ n2_ n3_ n4_ n5_; (try clear hb); (try clear ho0); obtain ⟨Ao23, co23, eo23⟩ := Kd.R_slice HO224.out; subst eo23) | ((with_reducible refine gate_builtin (b := .append) (xs := #[.tmp 39, .tmp 44]) rfl ?_); (try (refine gate_guard (by rfl) ?_; dsimp only)); at_builtin; refine Kd.R_append_rows (Kd.int .u8) (w0 := w) w.heap.size rfl (.tmp 39) (.tmp 44) 22 5 (.int .u8 0) 1 rfl Try.underlying22 info5 rfl (by decide) (by omega) v220 y219 t222 _ _ _ (fun k_ => some k_ ≠ (.slice Ao14 t205.length co14 : Value).ownBlock ∧ some k_ ≠ (.slice Ao20 t206.length co20 : Value).ownBlock ∧ some k_ ≠ (.slice Ao19 t212.length co19 : Value).ownBlock ∧ some k_ ≠ (.slice Ao23 t222.length co23 : Value).ownBlock) (fun _ => False) rfl rfl ?aO ?aR (fun _ _ h => h) (fun _ h => h.elim) ?aF ?aB ?aS ?aL ?_; (case aR => repeat (exact (Kd.R_reads' HO224.out).2.2)); (case aB => exact (by repeat ((with_reducible first | exact HB.out)))); (case aF => exact (fun k_ hk => ⟨Kd.fresh' (Kd.R_lt (by (with_reducible repeat (fail)); exact HO_10.out)) k_ hk, Kd.fresh' (Kd.R_lt (by (with_reducible repeat (fail)); exact HO_11.out)) k_ hk, Kd.fresh' (Kd.R_lt (by (with_reducible repeat (fail)); exact HO215.out)) k_ hk, Kd.fresh' (Kd.R_lt (by (with_reducible repeat (fail)); exact HO224.out)) k_ hk⟩)); (case aO => exact (by (with_reducible repeat (fail)); exact Kd.R_mono HO221.out (fun _ hk => ⟨hk.1.1, ⟨hk.1.2.1, ⟨hk.1.2.2, hk.2⟩⟩⟩))); (case aS => exact (below_size (by repeat ((with_reducible first | exact HB.out))))); (case aL => have := LMc13.out; omega); intro v226 w22 ho hb hg hat; rw [← Ny225.out] at ho; have n0_ := Aside0.mk (Kd.R_after (ok := (fun k_ => some k_ ≠ (.slice Ao20 t206.length co20 : Value).ownBlock ∧ some k_ ≠ (.slice Ao19 t212.length co19 : Value).ownBlock ∧ some k_ ≠ (.slice Ao23 t222.length co23 : Value).ownBlock)) (by (with_reducible repeat (fail)); exact Kd.R_mono HO_10.out (fun _ hk => ⟨⟨hk.1.1.1, ⟨hk.1.1.2, hk.2⟩⟩, hk.1.2⟩)) hg hat); have n1_ := Aside0.mk (Kd.R_after (ok := (fun k_ => some k_ ≠ (.slice Ao14 t205.length co14 : Value).ownBlock ∧ some k_ ≠ (.slice Ao19 t212.length co19 : Value).ownBlock ∧ some k_ ≠ (.slice Ao23 t222.length co23 : Value).ownBlock)) (by (with_reducible repeat (fail)); exact Kd.R_mono HO_11.out (fun _ hk => ⟨⟨hk.1.1.1, ⟨hk.1.1.2, hk.2⟩⟩, hk.1.2⟩)) hg hat); have n2_ := Aside0.mk (Kd.R_after (ok := (fun k_ => some k_ ≠ (.slice Ao14 t205.length co14 : Value).ownBlock ∧ some k_ ≠ (.slice Ao20 t206.length co20 : Value).ownBlock ∧ some k_ ≠ (.slice Ao23 t222.length co23 : Value).ownBlock)) (by (with_reducible repeat (fail)); exact Kd.R_mono HO215.out (fun _ hk => ⟨⟨hk.1.1.1, ⟨hk.1.1.2, hk.2⟩⟩, hk.1.2⟩)) hg hat); have n3_ := Aside0.mk (Kd.R_after (ok := (fun k_ => some k_ ≠ (.slice Ao14 t205.length co14 : Value).ownBlock ∧ some k_ ≠ (.slice Ao20 t206.length co20 : Value).ownBlock ∧ some k_ ≠ (.slice Ao19 t212.length co19 : Value).ownBlock)) (by (with_reducible repeat (fail)); exact Kd.R_mono HO224.out (fun _ hk => ⟨⟨hk.1.1.1.2, ⟨hk.1.1.2, hk.1.2⟩⟩, hk.2⟩)) hg hat); have n4_ := Aside0.mk (hb); have n5_ := Aside0.mk (ho); clear HO_10; clear HO_11; clear HO215; clear HO224; clear HB; clear HO221; have HO_10 := n0_; have HO_11 := n1_; have HO215 := n2_; have HO224 := n3_; have HB := n4_; have HO227 := n5_; clear n0_ n1_ n2_ n3_ n4_ n5_; clear ho hb hg hat))
    go_ret2
    exact ⟨_, by first | rfl, by (with_reducible repeat (fail)); exact Kd.R_mono HO227.out (fun _ hk => trivial), by repeat ((with_reducible first | exact HB.out))⟩
end Go.Proofs.Ytifpdpfjhjoieaa.H

/-! H3 -/
namespace Go.Proofs.Ytifpdpfjhjoieaa.H
open Go.Proofs.Ytifpdpfjhjoieaa.P
open Go.RowKit Go.Proofs.YtifpdpfjhjoieaaW.PrintWords Go.Proofs.YtifpdpfjhjoieaaW.PrintLast Go.Proofs.YtifpdpfjhjoieaaW.PrintMore
attribute [local go_sem] max2_int min2_int max_two min_two max_three min_three max_four min_four   -- for this text's walks alone
set_option linter.unusedVariables false
set_option linter.unusedSimpArgs false
/-! ### pyxref06_Open: function 20 -/
def pyxref06_Open.j0 : Nat → List Int → List Int → List Int → List Int → List Int → Bool → Option (List Int × Int)
  | 0, _, _, _, _, _, _ => none
  | k + 1, x1, x2, x3, x10, x11, x28 => if x28 = true then (some (([] : List Int), 1)) else (if (x3.length : Int) < 32 then (some (([] : List Int), 3)) else (if 0 ≤ (wrap64 ((x3.length : Int) - 32)) then (if (wrap64 ((x3.length : Int) - 32)) ≤ (x3.length : Int) then ((pyxref06_tag.f x11 x1 x2 (x3.take ((wrap64 ((x3.length : Int) - 32)) : Int).toNat)).bind fun t236 => ((pyxref01_Same.f t236 (x3.drop ((wrap64 ((x3.length : Int) - 32)) : Int).toNat)).bind fun t240 => (if t240 = true then ((pyxref05_Stream.f x10 x1 (x3.take ((wrap64 ((x3.length : Int) - 32)) : Int).toNat)).bind fun bt242 => (some (bt242.1, 0))) else (some (([] : List Int), 5))))) else (none)) else (none)))
def pyxref06_Open.f (k : Nat) (l0 : List Int) (l1 : List Int) (l2 : List Int) (l3 : List Int) : Option (List Int × Int) := (pyxref06_Halves.f l0).bind fun bt228 => (if bt228.2.2 = 0 then (pyxref06_Open.j0 k l1 l2 l3 bt228.1 bt228.2.1 ((l1.length : Int) != 12)) else (pyxref06_Open.j0 k l1 l2 l3 bt228.1 bt228.2.1 true))
def pyxref06_Open.T7 : Bool × List (List Nat × List Nat) := (true, [([], []), ([], []), ([], []), ([], []), ([], []), ([3, 4], [3, 4]), ([0, 1, 2, 5], [0, 1, 2, 5]), ([], []), ([], []), ([7, 8], [7, 8]), ([6, 9, 6], [6, 9]), ([10], [10])])
def pyxref06_Open.B7 : List Nat := [0, 0, 0, 0, 0, 24, 63, 0, 0, 384, 1023, 2047]
theorem pyxref06_Open.tab7 : rtab .any (opsOf Try.f20 7) = pyxref06_Open.T7 := by kernel_rfl
theorem pyxref06_Open.bits7 : waitsOk pyxref06_Open.T7.2 pyxref06_Open.B7 = true := by kernel_rfl
set_option maxHeartbeats 8000000 in
set_option maxRecDepth 100000 in
theorem pyxref06_Open.calls (k : Nat) (A0 : Option Addr) (c0 : Nat) (l0 : List Int) (A1 : Option Addr) (c1 : Nat) (l1 : List Int) (A2 : Option Addr) (c2 : Nat) (l2 : List Int) (A3 : Option Addr) (c3 : Nat) (l3 : List Int) (r1 : List Int) (r2 : Int) (w : World) (hr0 : Kd.C (Kd.int .u8) w A0 l0.length l0) (hc0 : l0.length ≤ c0) (hr1 : Kd.C (Kd.int .u8) w A1 l1.length l1) (hc1 : l1.length ≤ c1) (hr2 : Kd.C (Kd.int .u8) w A2 l2.length l2) (hc2 : l2.length ≤ c2) (hr3 : Kd.C (Kd.int .u8) w A3 l3.length l3) (hc3 : l3.length ≤ c3) (h : pyxref06_Open.f k l0 l1 l2 l3 = some (r1, r2)) :
    Calls Try.prog 20 #[.slice A0 l0.length c0, .slice A1 l1.length c1, .slice A2 l2.length c2, .slice A3 l3.length c3] w fun e w' => ∃ v0_ : Value, e = .returned (.tuple #[v0_, .int .i64 r2]) ∧ Kd.R (Kd.int .u8) 5 w' w.heap.size (fun _ => True) v0_ r1 ∧ Below w.heap.size w w' := by
  have HR0 := Aside0.mk hr0
  have HC0 := Aside0.mk hc0
  clear hr0 hc0
  have HR1 := Aside0.mk hr1
  have HC1 := Aside0.mk hc1
  clear hr1 hc1
  have HR2 := Aside0.mk hr2
  have HC2 := Aside0.mk hc2
  clear hr2 hc2
  have HR3 := Aside0.mk hr3
  have HC3 := Aside0.mk hc3
  clear hr3 hc3
  have HB := Aside0.mk (Below.refl w.heap.size w)
  have H : ((pyxref06_Halves.f l0).bind fun bt228 => (if bt228.2.2 = 0 then (pyxref06_Open.j0 k l1 l2 l3 bt228.1 bt228.2.1 ((l1.length : Int) != 12)) else (pyxref06_Open.j0 k l1 l2 l3 bt228.1 bt228.2.1 true))) = some (r1, r2) := h
  clear h
  replace H := Option.bind_eq_some_iff.mp H
  obtain ⟨⟨t228, t229, t230⟩, A50, H⟩ := H
  replace H : (if t230 = 0 then (pyxref06_Open.j0 k l1 l2 l3 t228 t229 ((l1.length : Int) != 12)) else (pyxref06_Open.j0 k l1 l2 l3 t228 t229 true)) = some (r1, r2) := H
  have A5 := Aside0.mk A50
  clear A50
  have HC6 := Aside0.mk H
  clear H
  go_enter Try.func20, Try.ntmps20
  go_upto_region 2 with (first | ((with_reducible refine gate_callee (f := 15) rfl ?_); refine goesL_ (some 18) rfl rfl Try.func15 (by kernel_rfl) rfl #[.slice A0 l0.length c0] rfl (by (try simp only [List.map_toArray, List.map_cons, List.map_nil]); first | rfl) ?_; (with_reducible refine (pyxref06_Halves.calls _ _ l0 t228 t229 t230 _ ?side1 ?side2 A5.out).mono ?_); (case side1 => repeat (exact HR0.out)); (case side2 => exact HC0.out); rintro e w7 ⟨v231, v233, rfl, ho0, ho1, hb⟩; refine ⟨_, rfl, ?_⟩; have n0_ := Aside0.mk (Kd.R_lower ho0 (below_size (by repeat ((with_reducible first | exact HB.out))))); have n1_ := Aside0.mk (Kd.R_lower ho1 (below_size (by repeat ((with_reducible first | exact HB.out))))); have n2_ := Aside0.mk (below_step (by repeat ((with_reducible first | exact HB.out))) hb); clear HB; have HO232 := n0_; have HO234 := n1_; have HB := n2_; clear n0_ n1_ n2_; (try clear hb); (try clear ho0); (try clear ho1)))
  (skip)
  go_cut [28] (fun v28 wc => ∃ (kq : Nat) (x28_5 : Bool), v28 = .bool x28_5 ∧ Aside0 (pyxref06_Open.j0 kq l1 l2 l3 t228 t229 x28_5 = some (r1, r2)) ∧ Aside0 (kq ≤ k) ∧ Aside0 (Kd.R (Kd.int .u8) 5 wc w.heap.size (fun k_ => some k_ ≠ (v233 : Value).ownBlock) v231 t228) ∧ Aside0 (Kd.R (Kd.int .u8) 5 wc w.heap.size (fun k_ => some k_ ≠ (v231 : Value).ownBlock) v233 t229) ∧ Aside0 (Below w.heap.size w wc))
  case first =>
    have H := HC6.out
    clear HC6
    by_cases c8 : t230 = 0
    rotate_left
    · rw [if_neg c8] at H
      have c8b0 : (t230 == 0) = false := beq_eq_false_iff_ne.mpr c8
      have c8b1 : (t230 != 0) = true := bne_iff_ne.mpr c8
      (skip)
      have H' := Aside0.mk H
      clear H
      go_wp2
      go_meet
      case rel => exact ⟨_, (true), (by first | rfl), H', ⟨by first | omega⟩, ⟨by (with_reducible repeat (fail)); exact HO232.out⟩, ⟨by (with_reducible repeat (fail)); exact HO234.out⟩, ⟨by repeat ((with_reducible first | exact HB.out))⟩⟩
    rw [if_pos c8] at H
    have c8b0 : (t230 == 0) = true := beq_iff_eq.mpr c8
    have c8b1 : (t230 != 0) = false := bne_eq_false_iff_eq.mpr c8
    clear c8
    (skip)
    have H' := Aside0.mk H
    clear H
    go_wp2
    go_meet
    case rel => exact ⟨_, (((l1.length : Int) != 12)), (by first | rfl), H', ⟨by first | omega⟩, ⟨by (with_reducible repeat (fail)); exact HO232.out⟩, ⟨by (with_reducible repeat (fail)); exact HO234.out⟩, ⟨by repeat ((with_reducible first | exact HB.out))⟩⟩
  clear HC6
  skip
  skip
  skip
  skip
  skip
  skip
  skip
  obtain ⟨kq, x28_5, rfl, HA, HJ5, HO_10, HO_11, HB⟩ := hcut
  cases kq with
  | zero => exact absurd HA.out (by simp [pyxref06_Open.j0])
  | succ kj5 =>
    have H := HA.out
    clear HA
    simp only [pyxref06_Open.j0] at H
    by_cases c9 : x28_5 = true
    · subst c9
      have H1 : (some (([] : List Int), 1)) = some (r1, r2) := by rw [if_pos rfl] at H; exact H
      clear H
      have H := H1
      clear H1
      simp only [Option.some.injEq, Prod.mk.injEq] at H
      obtain ⟨rfl, rfl⟩ := H
      go_wp2
      go_ret2
      exact ⟨_, by first | rfl, by first | exact Kd.R_nil _ _ _ _ _, by repeat ((with_reducible first | exact HB.out))⟩
    replace c9 := Bool.eq_false_iff.mpr c9
    subst c9
    have H1 : (if (l3.length : Int) < 32 then (some (([] : List Int), 3)) else (if 0 ≤ (wrap64 ((l3.length : Int) - 32)) then (if (wrap64 ((l3.length : Int) - 32)) ≤ (l3.length : Int) then ((pyxref06_tag.f t229 l1 l2 (l3.take ((wrap64 ((l3.length : Int) - 32)) : Int).toNat)).bind fun t236 => ((pyxref01_Same.f t236 (l3.drop ((wrap64 ((l3.length : Int) - 32)) : Int).toNat)).bind fun t240 => (if t240 = true then ((pyxref05_Stream.f t228 l1 (l3.take ((wrap64 ((l3.length : Int) - 32)) : Int).toNat)).bind fun bt242 => (some (bt242.1, 0))) else (some (([] : List Int), 5))))) else (none)) else (none))) = some (r1, r2) := by rw [if_neg (show ¬ (false = true) by decide)] at H; exact H
    clear H
    have H := H1
    clear H1
    by_cases c10 : (l3.length : Int) < 32
    · rw [if_pos c10] at H
      have c10b0 : decide ((l3.length : Int) < 32) = true := decide_eq_true c10
      have c10b1 : decide (l3.length < 32) = true := decide_eq_true (by omega)
      clear c10
      simp only [Option.some.injEq, Prod.mk.injEq] at H
      obtain ⟨rfl, rfl⟩ := H
      go_wp2
      go_ret2
      exact ⟨_, by first | rfl, by first | exact Kd.R_nil _ _ _ _ _, by repeat ((with_reducible first | exact HB.out))⟩
    rw [if_neg c10] at H
    have c10b0 : decide ((l3.length : Int) < 32) = false := decide_eq_false c10
    have c10b1 : decide (l3.length < 32) = false := decide_eq_false (by omega)
    clear c10
    obtain ⟨ji11, hji11⟩ : ∃ j_ : Int, (wrap64 ((l3.length : Int) - 32)) = j_ := ⟨_, rfl⟩
    replace H : (if 0 ≤ (ji11) then (if (ji11) ≤ (l3.length : Int) then ((pyxref06_tag.f t229 l1 l2 (l3.take ((ji11) : Int).toNat)).bind fun t236 => ((pyxref01_Same.f t236 (l3.drop ((ji11) : Int).toNat)).bind fun t240 => (if t240 = true then ((pyxref05_Stream.f t228 l1 (l3.take ((ji11) : Int).toNat)).bind fun bt242 => (some (bt242.1, 0))) else (some (([] : List Int), 5))))) else (none)) else (none)) = some (r1, r2) := by first | (rw [hji11] at H; exact H)
    have hji11w : (IntKind.i64.wrap ((l3.length : Int) - 32)) = ji11 := (i64_w _).trans hji11
    by_cases c12 : 0 ≤ (ji11)
    rotate_left
    · rw [if_neg c12] at H
      exact absurd H (by simp)
    rw [if_pos c12] at H
    have c12b0 := eq_true c12
    have c12b1 : decide (0 ≤ (ji11)) = true := decide_eq_true c12
    clear c12
    by_cases c13 : (ji11) ≤ (l3.length : Int)
    rotate_left
    · rw [if_neg c13] at H
      exact absurd H (by simp)
    rw [if_pos c13] at H
    have c13b0 := eq_true c13
    have c13b1 : decide ((ji11) ≤ (l3.length : Int)) = true := decide_eq_true c13
    clear c13
    replace H := Option.bind_eq_some_iff.mp H
    obtain ⟨t236, A140, H⟩ := H
    replace H : ((pyxref01_Same.f t236 (l3.drop ((ji11) : Int).toNat)).bind fun t240 => (if t240 = true then ((pyxref05_Stream.f t228 l1 (l3.take ((ji11) : Int).toNat)).bind fun bt242 => (some (bt242.1, 0))) else (some (([] : List Int), 5)))) = some (r1, r2) := H
    have A14 := Aside0.mk A140
    clear A140
    have c15b0 := eq_true (of_decide_eq_true (by first | (with_reducible assumption)) : 0 ≤ (ji11))
    have c16b0 := eq_true (of_decide_eq_true (by first | (with_reducible assumption)) : (ji11) ≤ (l3.length : Int))
    replace H := Option.bind_eq_some_iff.mp H
    obtain ⟨t240, A170, H⟩ := H
    replace H : (if t240 = true then ((pyxref05_Stream.f t228 l1 (l3.take ((ji11) : Int).toNat)).bind fun bt242 => (some (bt242.1, 0))) else (some (([] : List Int), 5))) = some (r1, r2) := H
    have A17 := Aside0.mk A170
    clear A170
    by_cases c18 : t240 = true
    rotate_left
    · replace c18 := Bool.eq_false_iff.mpr c18
      subst c18
      have H1 : (some (([] : List Int), 5)) = some (r1, r2) := by rw [if_neg (show ¬ (false = true) by decide)] at H; exact H
      clear H
      have H := H1
      clear H1
      simp only [Option.some.injEq, Prod.mk.injEq] at H
      obtain ⟨rfl, rfl⟩ := H
      try go_wp2
      have n0_ := Aside0.mk (Kd.R_drew HO_10.out)
      have n1_ := Aside0.mk (Kd.R_drew HO_11.out)
      have n2_ := Aside0.mk (below_drew1 HB.out)
      clear HO_10
      clear HO_11
      clear HB
      have HO_10 := n0_
      have HO_11 := n1_
      have HB := n2_
      clear n0_ n1_ n2_
      obtain ⟨i032, hi032, _, hsz32, _⟩ := info_parts info5
      obtain ⟨hcut32, hA32, hC32⟩ := print_take_of (P := Try.prog) (Value.int .u8) 0 22 5 .i64 Try.underlying22 hi032 hsz32 A3 c3 l3 (ji11) (of_decide_eq_true (by first | (with_reducible assumption))) (of_decide_eq_true (by first | (with_reducible assumption))) HC3.out
      have HR235 := Aside0.mk (Kd.C_of_reads (h1 := fun _ => rfl) (hA32 _ (Kd.reads_of_C HR3.out)))
      have HC235 := Aside0.mk hC32
      clear hA32 hC32 hi032 hsz32
      obtain ⟨i033, hi033, _, hsz33, _⟩ := info_parts info5
      obtain ⟨A33, hcut33, hA33, hC33⟩ := print_drop_of (P := Try.prog) (Value.int .u8) 0 22 5 .i64 Try.underlying22 hi033 hsz33 A3 c3 l3 (ji11) (of_decide_eq_true (by first | (with_reducible assumption))) (of_decide_eq_true (by first | (with_reducible assumption))) HC3.out
      have HR239 := Aside0.mk (Kd.C_of_reads (h1 := fun _ => rfl) (hA33 _ (Kd.reads_of_C HR3.out)))
      have HC239 := Aside0.mk hC33
      clear hA33 hC33 hi033 hsz33
      obtain ⟨Ao34, co34, eo34⟩ := Kd.R_slice HO_11.out
      (subst eo34)
      refine start_ (n := 12) (S := fun w' => True) (ds := []) #[false, false, false, false, false, false, false, false, false, false, false, false] (by kernel_rfl) rfl rfl trivial (fun hHeld => ?_); refine with_tabW pyxref06_Open.tab7 pyxref06_Open.bits7 (fun HT_ HW_ => ?_)
      generalize wc.drew = w31 at HO_10 HO_11 HB HR235 HR239 hHeld ⊢
      refine pure_ (i := 0) (N := some 35) (v := ?_) (a' := ?_) #[true, false, false, false, false, false, false, false, false, false, false, false] rfl rfl (any_of HT_.out (by kernel_rfl)) (fun _ _ _ h => h) (Or.inl ⟨by rfl, ?_⟩) ?_ ?_
      rotate_left
      · intro w'
        go_simp
        with_reducible rfl
      rotate_left
      · simp only [Act.put, List.setIfInBounds_toArray, List.set_cons_zero, List.set_cons_succ, i64_w, i32_w]
        rfl
      refine pure_ (i := 1) (N := some 36) (v := ?_) (a' := ?_) #[true, true, false, false, false, false, false, false, false, false, false, false] rfl rfl (any_of HT_.out (by kernel_rfl)) (fun _ _ _ h => h) (Or.inl ⟨by rfl, ?_⟩) ?_ ?_
      rotate_left
      · intro w'
        go_simp
        with_reducible rfl
      rotate_left
      · simp only [Act.put, List.setIfInBounds_toArray, List.set_cons_zero, List.set_cons_succ, i64_w, i32_w]
        rfl
      refine pure_ (i := 2) (N := some 37) (v := ?_) (a' := ?_) #[true, true, true, false, false, false, false, false, false, false, false, false] rfl rfl (any_of HT_.out (by kernel_rfl)) (fun _ _ _ h => h) (Or.inl ⟨by rfl, ?_⟩) ?_ ?_
      rotate_left
      · intro w'
        go_simp
        with_reducible rfl
      rotate_left
      · simp only [Act.put, List.setIfInBounds_toArray, List.set_cons_zero, List.set_cons_succ, i64_w, i32_w]
        rfl
      refine pure_ (i := 3) (N := some 38) (v := ?_) (a' := ?_) #[true, true, true, true, false, false, false, false, false, false, false, false] rfl rfl (any_of HT_.out (by kernel_rfl)) (fun _ _ _ h => h) (Or.inl ⟨by rfl, ?_⟩) ?_ ?_
      rotate_left
      · intro w'
        go_simp
        with_reducible rfl
      rotate_left
      · simp only [Act.put, List.setIfInBounds_toArray, List.set_cons_zero, List.set_cons_succ, i64_w, i32_w]
        rfl
      refine pure_ (i := 4) (N := some 39) (v := ?_) (a' := ?_) #[true, true, true, true, true, false, false, false, false, false, false, false] rfl rfl (any_of HT_.out (by kernel_rfl)) (fun _ _ _ h => h) (Or.inl ⟨by rfl, ?_⟩) ?_ ?_
      rotate_left
      · intro w'
        go_simp
        with_reducible rfl
      rotate_left
      · simp only [Act.put, List.setIfInBounds_toArray, List.set_cons_zero, List.set_cons_succ, i64_w, i32_w]
        rfl
      refine pure_ (i := 5) (N := some 40) (v := ?_) (a' := ?_) #[true, true, true, true, true, true, false, false, false, false, false, false] rfl rfl (any_of HT_.out (by kernel_rfl)) (fun _ _ _ h => h) (Or.inl ⟨by rfl, ?_⟩) ?_ ?_
      rotate_left
      · intro w'
        go_simp
        with_reducible rfl
      rotate_left
      · simp only [Act.put, List.setIfInBounds_toArray, List.set_cons_zero, List.set_cons_succ, i64_w, i32_w]
        rfl
      refine pure_ (i := 7) (N := some 42) (v := ?_) (a' := ?_) #[true, true, true, true, true, true, false, true, false, false, false, false] rfl rfl (any_of HT_.out (by kernel_rfl)) (fun _ _ _ h => h) (Or.inl ⟨by rfl, ?_⟩) ?_ ?_
      rotate_left
      · intro w'
        go_simp
        with_reducible rfl
      rotate_left
      · simp only [Act.put, List.setIfInBounds_toArray, List.set_cons_zero, List.set_cons_succ, i64_w, i32_w]
        rfl
      refine pure_ (i := 8) (N := some 43) (v := ?_) (a' := ?_) #[true, true, true, true, true, true, false, true, true, false, false, false] rfl rfl (any_of HT_.out (by kernel_rfl)) (fun _ _ _ h => h) (Or.inl ⟨by rfl, ?_⟩) ?_ ?_
      rotate_left
      · intro w'
        go_simp
        with_reducible rfl
      rotate_left
      · simp only [Act.put, List.setIfInBounds_toArray, List.set_cons_zero, List.set_cons_succ, i64_w, i32_w]
        rfl
      refine pure_ (i := 9) (N := some 44) (v := ?_) (a' := ?_) #[true, true, true, true, true, true, false, true, true, true, false, false] rfl rfl (any_of HT_.out (by kernel_rfl)) (fun _ _ _ h => h) (Or.inl ⟨by rfl, ?_⟩) ?_ ?_
      rotate_left
      · intro w'
        go_simp
        with_reducible rfl
      rotate_left
      · simp only [Act.put, List.setIfInBounds_toArray, List.set_cons_zero, List.set_cons_succ, i64_w, i32_w]
        rfl
      refine one_ (i := 6) (N := some 41) #[true, true, true, true, true, true, true, true, true, true, false, false] rfl rfl (one_of HT_.out (by kernel_rfl)) (by decide) (fun K hK => ?_)
      refine goes_ Try.func45 (by kernel_rfl) rfl #[.slice Ao34 t229.length co34, .slice A1 l1.length c1, .slice A2 l2.length c2, .slice A3 (l3.take ((ji11) : Int).toNat).length c3] (by rfl) rfl rfl (by (try simp only [List.map_toArray, List.map_cons, List.map_nil]); first | (rw [show (l3.take ((ji11) : Int).toNat).length = (ji11).toNat from (by rw [List.length_take]; have h_ : ((ji11) : Int) ≤ (l3.length : Int) := of_decide_eq_true (by first | (with_reducible assumption)); omega)] <;> rfl)) ?_
      with_reducible refine (pyxref06_tag.calls _ _ t229 (fun k_ => k_ < w.heap.size) _ _ l1 _ _ l2 (fun k_ => k_ < w.heap.size) _ _ (l3.take ((ji11) : Int).toNat) t236 _ ?side1 ?side2 ?side3 ?side4 ?side5 ?side6 A14.out).mono ?_
      (case side1 => repeat (exact (Kd.R_reads' HO_11.out).2.2))
      (case side2 => exact (Kd.R_reads' HO_11.out).2.1)
      (case side3 => exact Kd.V_mk HC1.out (Kd.F_below (Kd.C_F (Kd.heap_int .u8) HR1.out) (by repeat ((with_reducible first | exact HB.out)))))
      (case side4 => repeat (exact (Kd.C_below HR2.out HB.out)))
      (case side5 => exact HC2.out)
      (case side6 => exact Kd.V_mk HC235.out (Kd.F_below (Kd.C_F (Kd.heap_int .u8) HR235.out) (by repeat ((with_reducible first | exact HB.out)))))
      rintro e w35 ⟨v237, rfl, ho0, hb⟩
      refine ⟨_, rfl, ?_⟩
      have n0_ := Aside0.mk (Kd.R_elder' (by (with_reducible repeat (fail)); exact HO_10.out) (Kd.R_base ho0) hb)
      have n1_ := Aside0.mk (Kd.R_elder' (by (with_reducible repeat (fail)); exact HO_11.out) (Kd.R_base ho0) hb)
      have n2_ := Aside0.mk (Kd.R_lower (Kd.R_new' (Kd.R_new' (Kd.R_mono (ok' := fun k_ => True) ho0 (fun _ hk_ => trivial)) (Kd.R_lt (by (with_reducible repeat (fail)); exact HO_10.out))) (Kd.R_lt (by (with_reducible repeat (fail)); exact HO_11.out))) (below_size (by repeat ((with_reducible first | exact HB.out)))))
      have n3_ := Aside0.mk (below_step (by repeat ((with_reducible first | exact HB.out))) hb)
      clear HO_10
      clear HO_11
      clear HB
      have HO_10 := n0_
      have HO_11 := n1_
      have HO238 := n2_
      have HB := n3_
      clear n0_ n1_ n2_ n3_
      (try clear hb)
      (skip)
      (skip)
      (skip)
      (try clear ho0)
      obtain ⟨Ao36, co36, eo36⟩ := Kd.R_slice HO238.out
      (subst eo36)
      refine hK.out _ _ trivial (fun hHeld => ?_)
      clear hK K
      refine norm_ (a' := ?_) ?_ ?_
      rotate_left
      · show Act.put _ (some 41) _ = _
        simp only [Act.put, List.setIfInBounds_toArray, List.set_cons_zero, List.set_cons_succ, i64_w, i32_w]
        rfl
      refine one_ (i := 10) (N := some 45) #[true, true, true, true, true, true, true, true, true, true, true, false] rfl rfl (one_of HT_.out (by kernel_rfl)) (by decide) (fun K hK => ?_)
      refine goes_ Try.func18 (by kernel_rfl) rfl #[.slice Ao36 t236.length co36, .slice A33 (l3.drop ((ji11) : Int).toNat).length (c3 - (ji11).toNat)] (by rfl) rfl rfl (by (try simp only [List.map_toArray, List.map_cons, List.map_nil]); first | (rw [show (l3.drop ((ji11) : Int).toNat).length = (l3.length - (ji11).toNat) from List.length_drop] <;> rfl)) ?_
      with_reducible refine (pyxref01_Same.calls _ _ t236 _ _ (l3.drop ((ji11) : Int).toNat) false _ ?side1 ?side2 ?side3 ?side4 A17.out).mono ?_
      (case side1 => repeat (exact (Kd.R_reads' HO238.out).2.2))
      (case side2 => exact (Kd.R_reads' HO238.out).2.1)
      (case side3 => repeat (exact (Kd.C_below HR239.out HB.out)))
      (case side4 => exact HC239.out)
      rintro e w' ⟨rfl, ⟨nd, rfl⟩⟩
      refine ⟨_, rfl, ?_⟩
      refine hK.out _ _ trivial (fun hHeld => ?_)
      clear hK K
      refine norm_ (a' := ?_) ?_ ?_
      rotate_left
      · show Act.put _ (some 45) _ = _
        simp only [Act.put, List.setIfInBounds_toArray, List.set_cons_zero, List.set_cons_succ, i64_w, i32_w]
        rfl
      refine pure_ (i := 11) (N := some 46) (v := ?_) (a' := ?_) #[true, true, true, true, true, true, true, true, true, true, true, true] rfl rfl (any_of HT_.out (by kernel_rfl)) (fun _ _ _ h => h) (Or.inl ⟨by rfl, ?_⟩) ?_ ?_
      rotate_left
      · intro w'
        go_simp
        with_reducible rfl
      rotate_left
      · simp only [Act.put, List.setIfInBounds_toArray, List.set_cons_zero, List.set_cons_succ, i64_w, i32_w]
        rfl
      refine done_ (done_of HT_.out (by kernel_rfl)) ?_
      try go_wp2
      go_ret2
      exact ⟨_, by first | rfl, by first | exact Kd.R_nil _ _ _ _ _, by repeat ((with_reducible first | exact HB.out | apply pw_below_drewN))⟩
    subst c18
    have H1 : ((pyxref05_Stream.f t228 l1 (l3.take ((ji11) : Int).toNat)).bind fun bt242 => (some (bt242.1, 0))) = some (r1, r2) := by rw [if_pos rfl] at H; exact H
    clear H
    have H := H1
    clear H1
    have c19b0 := eq_true (of_decide_eq_true (by first | (with_reducible assumption)) : 0 ≤ (ji11))
    have c20b0 := eq_true (of_decide_eq_true (by first | (with_reducible assumption)) : (ji11) ≤ (l3.length : Int))
    replace H := Option.bind_eq_some_iff.mp H
    obtain ⟨⟨t242, t243⟩, A210, H⟩ := H
    replace H : (some (t242, 0)) = some (r1, r2) := H
    have A21 := Aside0.mk A210
    clear A210
    simp only [Option.some.injEq, Prod.mk.injEq] at H
    obtain ⟨rfl, rfl⟩ := H
    try go_wp2
    have n0_ := Aside0.mk (Kd.R_drew HO_10.out)
    have n1_ := Aside0.mk (Kd.R_drew HO_11.out)
    have n2_ := Aside0.mk (below_drew1 HB.out)
    clear HO_10
    clear HO_11
    clear HB
    have HO_10 := n0_
    have HO_11 := n1_
    have HB := n2_
    clear n0_ n1_ n2_
    obtain ⟨i023, hi023, _, hsz23, _⟩ := info_parts info5
    obtain ⟨hcut23, hA23, hC23⟩ := print_take_of (P := Try.prog) (Value.int .u8) 0 22 5 .i64 Try.underlying22 hi023 hsz23 A3 c3 l3 (ji11) (of_decide_eq_true (by first | (with_reducible assumption))) (of_decide_eq_true (by first | (with_reducible assumption))) HC3.out
    have HR235 := Aside0.mk (Kd.C_of_reads (h1 := fun _ => rfl) (hA23 _ (Kd.reads_of_C HR3.out)))
    have HC235 := Aside0.mk hC23
    clear hA23 hC23 hi023 hsz23
    obtain ⟨i024, hi024, _, hsz24, _⟩ := info_parts info5
    obtain ⟨A24, hcut24, hA24, hC24⟩ := print_drop_of (P := Try.prog) (Value.int .u8) 0 22 5 .i64 Try.underlying22 hi024 hsz24 A3 c3 l3 (ji11) (of_decide_eq_true (by first | (with_reducible assumption))) (of_decide_eq_true (by first | (with_reducible assumption))) HC3.out
    have HR239 := Aside0.mk (Kd.C_of_reads (h1 := fun _ => rfl) (hA24 _ (Kd.reads_of_C HR3.out)))
    have HC239 := Aside0.mk hC24
    clear hA24 hC24 hi024 hsz24
    obtain ⟨Ao25, co25, eo25⟩ := Kd.R_slice HO_11.out
    (subst eo25)
    refine start_ (n := 12) (S := fun w' => True) (ds := []) #[false, false, false, false, false, false, false, false, false, false, false, false] (by kernel_rfl) rfl rfl trivial (fun hHeld => ?_); refine with_tabW pyxref06_Open.tab7 pyxref06_Open.bits7 (fun HT_ HW_ => ?_)
    generalize wc.drew = w22 at HO_10 HO_11 HB HR235 HR239 hHeld ⊢
    refine pure_ (i := 0) (N := some 35) (v := ?_) (a' := ?_) #[true, false, false, false, false, false, false, false, false, false, false, false] rfl rfl (any_of HT_.out (by kernel_rfl)) (fun _ _ _ h => h) (Or.inl ⟨by rfl, ?_⟩) ?_ ?_
    rotate_left
    · intro w'
      go_simp
      with_reducible rfl
    rotate_left
    · simp only [Act.put, List.setIfInBounds_toArray, List.set_cons_zero, List.set_cons_succ, i64_w, i32_w]
      rfl
    refine pure_ (i := 1) (N := some 36) (v := ?_) (a' := ?_) #[true, true, false, false, false, false, false, false, false, false, false, false] rfl rfl (any_of HT_.out (by kernel_rfl)) (fun _ _ _ h => h) (Or.inl ⟨by rfl, ?_⟩) ?_ ?_
    rotate_left
    · intro w'
      go_simp
      with_reducible rfl
    rotate_left
    · simp only [Act.put, List.setIfInBounds_toArray, List.set_cons_zero, List.set_cons_succ, i64_w, i32_w]
      rfl
    refine pure_ (i := 2) (N := some 37) (v := ?_) (a' := ?_) #[true, true, true, false, false, false, false, false, false, false, false, false] rfl rfl (any_of HT_.out (by kernel_rfl)) (fun _ _ _ h => h) (Or.inl ⟨by rfl, ?_⟩) ?_ ?_
    rotate_left
    · intro w'
      go_simp
      with_reducible rfl
    rotate_left
    · simp only [Act.put, List.setIfInBounds_toArray, List.set_cons_zero, List.set_cons_succ, i64_w, i32_w]
      rfl
    refine pure_ (i := 3) (N := some 38) (v := ?_) (a' := ?_) #[true, true, true, true, false, false, false, false, false, false, false, false] rfl rfl (any_of HT_.out (by kernel_rfl)) (fun _ _ _ h => h) (Or.inl ⟨by rfl, ?_⟩) ?_ ?_
    rotate_left
    · intro w'
      go_simp
      with_reducible rfl
    rotate_left
    · simp only [Act.put, List.setIfInBounds_toArray, List.set_cons_zero, List.set_cons_succ, i64_w, i32_w]
      rfl
    refine pure_ (i := 4) (N := some 39) (v := ?_) (a' := ?_) #[true, true, true, true, true, false, false, false, false, false, false, false] rfl rfl (any_of HT_.out (by kernel_rfl)) (fun _ _ _ h => h) (Or.inl ⟨by rfl, ?_⟩) ?_ ?_
    rotate_left
    · intro w'
      go_simp
      with_reducible rfl
    rotate_left
    · simp only [Act.put, List.setIfInBounds_toArray, List.set_cons_zero, List.set_cons_succ, i64_w, i32_w]
      rfl
    refine pure_ (i := 5) (N := some 40) (v := ?_) (a' := ?_) #[true, true, true, true, true, true, false, false, false, false, false, false] rfl rfl (any_of HT_.out (by kernel_rfl)) (fun _ _ _ h => h) (Or.inl ⟨by rfl, ?_⟩) ?_ ?_
    rotate_left
    · intro w'
      go_simp
      with_reducible rfl
    rotate_left
    · simp only [Act.put, List.setIfInBounds_toArray, List.set_cons_zero, List.set_cons_succ, i64_w, i32_w]
      rfl
    refine pure_ (i := 7) (N := some 42) (v := ?_) (a' := ?_) #[true, true, true, true, true, true, false, true, false, false, false, false] rfl rfl (any_of HT_.out (by kernel_rfl)) (fun _ _ _ h => h) (Or.inl ⟨by rfl, ?_⟩) ?_ ?_
    rotate_left
    · intro w'
      go_simp
      with_reducible rfl
    rotate_left
    · simp only [Act.put, List.setIfInBounds_toArray, List.set_cons_zero, List.set_cons_succ, i64_w, i32_w]
      rfl
    refine pure_ (i := 8) (N := some 43) (v := ?_) (a' := ?_) #[true, true, true, true, true, true, false, true, true, false, false, false] rfl rfl (any_of HT_.out (by kernel_rfl)) (fun _ _ _ h => h) (Or.inl ⟨by rfl, ?_⟩) ?_ ?_
    rotate_left
    · intro w'
      go_simp
      with_reducible rfl
    rotate_left
    · simp only [Act.put, List.setIfInBounds_toArray, List.set_cons_zero, List.set_cons_succ, i64_w, i32_w]
      rfl
    refine pure_ (i := 9) (N := some 44) (v := ?_) (a' := ?_) #[true, true, true, true, true, true, false, true, true, true, false, false] rfl rfl (any_of HT_.out (by kernel_rfl)) (fun _ _ _ h => h) (Or.inl ⟨by rfl, ?_⟩) ?_ ?_
    rotate_left
    · intro w'
      go_simp
      with_reducible rfl
    rotate_left
    · simp only [Act.put, List.setIfInBounds_toArray, List.set_cons_zero, List.set_cons_succ, i64_w, i32_w]
      rfl
    refine one_ (i := 6) (N := some 41) #[true, true, true, true, true, true, true, true, true, true, false, false] rfl rfl (one_of HT_.out (by kernel_rfl)) (by decide) (fun K hK => ?_)
    refine goes_ Try.func45 (by kernel_rfl) rfl #[.slice Ao25 t229.length co25, .slice A1 l1.length c1, .slice A2 l2.length c2, .slice A3 (l3.take ((ji11) : Int).toNat).length c3] (by rfl) rfl rfl (by (try simp only [List.map_toArray, List.map_cons, List.map_nil]); first | (rw [show (l3.take ((ji11) : Int).toNat).length = (ji11).toNat from (by rw [List.length_take]; have h_ : ((ji11) : Int) ≤ (l3.length : Int) := of_decide_eq_true (by first | (with_reducible assumption)); omega)] <;> rfl)) ?_
    with_reducible refine (pyxref06_tag.calls _ _ t229 (fun k_ => k_ < w.heap.size) _ _ l1 _ _ l2 (fun k_ => k_ < w.heap.size) _ _ (l3.take ((ji11) : Int).toNat) t236 _ ?side1 ?side2 ?side3 ?side4 ?side5 ?side6 A14.out).mono ?_
    (case side1 => repeat (exact (Kd.R_reads' HO_11.out).2.2))
    (case side2 => exact (Kd.R_reads' HO_11.out).2.1)
    (case side3 => exact Kd.V_mk HC1.out (Kd.F_below (Kd.C_F (Kd.heap_int .u8) HR1.out) (by repeat ((with_reducible first | exact HB.out)))))
    (case side4 => repeat (exact (Kd.C_below HR2.out HB.out)))
    (case side5 => exact HC2.out)
    (case side6 => exact Kd.V_mk HC235.out (Kd.F_below (Kd.C_F (Kd.heap_int .u8) HR235.out) (by repeat ((with_reducible first | exact HB.out)))))
    rintro e w26 ⟨v237, rfl, ho0, hb⟩
    refine ⟨_, rfl, ?_⟩
    have n0_ := Aside0.mk (Kd.R_elder' (by (with_reducible repeat (fail)); exact HO_10.out) (Kd.R_base ho0) hb)
    have n1_ := Aside0.mk (Kd.R_elder' (by (with_reducible repeat (fail)); exact HO_11.out) (Kd.R_base ho0) hb)
    have n2_ := Aside0.mk (Kd.R_lower (Kd.R_new' (Kd.R_new' (Kd.R_mono (ok' := fun k_ => True) ho0 (fun _ hk_ => trivial)) (Kd.R_lt (by (with_reducible repeat (fail)); exact HO_10.out))) (Kd.R_lt (by (with_reducible repeat (fail)); exact HO_11.out))) (below_size (by repeat ((with_reducible first | exact HB.out)))))
    have n3_ := Aside0.mk (below_step (by repeat ((with_reducible first | exact HB.out))) hb)
    clear HO_10
    clear HO_11
    clear HB
    have HO_10 := n0_
    have HO_11 := n1_
    have HO238 := n2_
    have HB := n3_
    clear n0_ n1_ n2_ n3_
    (try clear hb)
    (skip)
    (skip)
    (skip)
    (try clear ho0)
    obtain ⟨Ao27, co27, eo27⟩ := Kd.R_slice HO238.out
    (subst eo27)
    refine hK.out _ _ trivial (fun hHeld => ?_)
    clear hK K
    refine norm_ (a' := ?_) ?_ ?_
    rotate_left
    · show Act.put _ (some 41) _ = _
      simp only [Act.put, List.setIfInBounds_toArray, List.set_cons_zero, List.set_cons_succ, i64_w, i32_w]
      rfl
    refine one_ (i := 10) (N := some 45) #[true, true, true, true, true, true, true, true, true, true, true, false] rfl rfl (one_of HT_.out (by kernel_rfl)) (by decide) (fun K hK => ?_)
    refine goes_ Try.func18 (by kernel_rfl) rfl #[.slice Ao27 t236.length co27, .slice A24 (l3.drop ((ji11) : Int).toNat).length (c3 - (ji11).toNat)] (by rfl) rfl rfl (by (try simp only [List.map_toArray, List.map_cons, List.map_nil]); first | (rw [show (l3.drop ((ji11) : Int).toNat).length = (l3.length - (ji11).toNat) from List.length_drop] <;> rfl)) ?_
    with_reducible refine (pyxref01_Same.calls _ _ t236 _ _ (l3.drop ((ji11) : Int).toNat) true _ ?side1 ?side2 ?side3 ?side4 A17.out).mono ?_
    (case side1 => repeat (exact (Kd.R_reads' HO238.out).2.2))
    (case side2 => exact (Kd.R_reads' HO238.out).2.1)
    (case side3 => repeat (exact (Kd.C_below HR239.out HB.out)))
    (case side4 => exact HC239.out)
    rintro e w' ⟨rfl, ⟨nd, rfl⟩⟩
    refine ⟨_, rfl, ?_⟩
    refine hK.out _ _ trivial (fun hHeld => ?_)
    clear hK K
    refine norm_ (a' := ?_) ?_ ?_
    rotate_left
    · show Act.put _ (some 45) _ = _
      simp only [Act.put, List.setIfInBounds_toArray, List.set_cons_zero, List.set_cons_succ, i64_w, i32_w]
      rfl
    refine pure_ (i := 11) (N := some 46) (v := ?_) (a' := ?_) #[true, true, true, true, true, true, true, true, true, true, true, true] rfl rfl (any_of HT_.out (by kernel_rfl)) (fun _ _ _ h => h) (Or.inl ⟨by rfl, ?_⟩) ?_ ?_
    rotate_left
    · intro w'
      go_simp
      with_reducible rfl
    rotate_left
    · simp only [Act.put, List.setIfInBounds_toArray, List.set_cons_zero, List.set_cons_succ, i64_w, i32_w]
      rfl
    refine done_ (done_of HT_.out (by kernel_rfl)) ?_
    obtain ⟨i028, hi028, _, hsz28, _⟩ := info_parts info5
    obtain ⟨hcut28, hA28, hC28⟩ := print_take_of (P := Try.prog) (Value.int .u8) 0 22 5 .i64 Try.underlying22 hi028 hsz28 A3 c3 l3 (ji11) (of_decide_eq_true (by first | (with_reducible assumption))) (of_decide_eq_true (by first | (with_reducible assumption))) HC3.out
    have HR241 := Aside0.mk (Kd.C_of_reads (h1 := fun _ => rfl) (hA28 _ (Kd.reads_of_C HR3.out)))
    have HC241 := Aside0.mk hC28
    clear hA28 hC28 hi028 hsz28
    obtain ⟨Ao29, co29, eo29⟩ := Kd.R_slice HO_10.out
    subst eo29
    try go_wp2_with (first | ((with_reducible refine gate_callee (f := 25) rfl ?_); refine goesL_ (some 53) rfl rfl Try.func25 (by kernel_rfl) rfl #[.slice Ao29 t228.length co29, .slice A1 l1.length c1, .slice A3 (l3.take ((ji11) : Int).toNat).length c3] rfl (by (try simp only [List.map_toArray, List.map_cons, List.map_nil]); first | (rw [show (l3.take ((ji11) : Int).toNat).length = (ji11).toNat from (by rw [List.length_take]; have h_ : ((ji11) : Int) ≤ (l3.length : Int) := of_decide_eq_true (by first | (with_reducible assumption)); omega)] <;> rfl)) ?_; (with_reducible refine (pyxref05_Stream.calls _ _ t228 _ _ l1 _ _ (l3.take ((ji11) : Int).toNat) t242 t243 _ ?side1 ?side2 ?side3 ?side4 ?side5 ?side6 A21.out).mono ?_); (case side1 => repeat (exact (Kd.R_reads' HO_10.out).2.2)); (case side2 => exact (Kd.R_reads' HO_10.out).2.1); (case side3 => repeat (exact (Kd.C_below HR1.out (by repeat ((with_reducible first | exact HB.out | apply pw_below_drewN)))))); (case side4 => exact HC1.out); (case side5 => repeat (exact (Kd.C_below HR241.out (by repeat ((with_reducible first | exact HB.out | apply pw_below_drewN)))))); (case side6 => exact HC241.out); rintro e w30 ⟨v244, rfl, ho0, hb⟩; refine ⟨_, rfl, ?_⟩; have n0_ := Aside0.mk (Kd.R_elder' (by (with_reducible repeat (apply Kd.R_drewN)); exact HO_10.out) (Kd.R_base ho0) hb); have n1_ := Aside0.mk (Kd.R_elder' (by (with_reducible repeat (apply Kd.R_drewN)); exact HO_11.out) (Kd.R_base ho0) hb); have n2_ := Aside0.mk (Kd.R_elder' (by (with_reducible repeat (apply Kd.R_drewN)); exact HO238.out) (Kd.R_base ho0) hb); have n3_ := Aside0.mk (Kd.R_lower (Kd.R_new' (Kd.R_new' (Kd.R_new' ho0 (Kd.R_lt (by (with_reducible repeat (apply Kd.R_drewN)); exact HO_10.out))) (Kd.R_lt (by (with_reducible repeat (apply Kd.R_drewN)); exact HO_11.out))) (Kd.R_lt (by (with_reducible repeat (apply Kd.R_drewN)); exact HO238.out))) (below_size (by repeat ((with_reducible first | exact HB.out | apply pw_below_drewN))))); have n4_ := Aside0.mk (below_step (by repeat ((with_reducible first | exact HB.out | apply pw_below_drewN))) hb); clear HO_10; clear HO_11; clear HO238; clear HB; have HO_10 := n0_; have HO_11 := n1_; have HO238 := n2_; have HO245 := n3_; have HB := n4_; clear n0_ n1_ n2_ n3_ n4_; (try clear hb); (try clear ho0)))
    go_ret2
    exact ⟨_, by first | rfl, by (with_reducible repeat (fail)); exact Kd.R_mono HO245.out (fun _ hk => trivial), by repeat ((with_reducible first | exact HB.out))⟩
end Go.Proofs.Ytifpdpfjhjoieaa.H

/-! Vof -/
namespace Go.Proofs.Ytifpdpfjhjoieaa
set_option linter.unusedVariables false
open Go.RowKit Go.Proofs.YtifpdpfjhjoieaaW.PrintWords Go.Proofs.YtifpdpfjhjoieaaW.PrintLast Go.Proofs.YtifpdpfjhjoieaaW.PrintMore Iter
theorem F_of_C {W : World} {A : Option Addr} {n : Nat} {xs : List Int} (h : Kd.C (Kd.int .u8) W A n xs) : Kd.F (Kd.int .u8) W (fun _ => True) A n xs := fun W' hW' => by
  rcases Nat.eq_zero_or_pos n with h0 | h0
  · exact ⟨h.1, h.2.1, fun hn => by omega⟩
  · obtain ⟨ad, rfl, hlt⟩ := C_some h h0
    exact C_same h (hW' ad.block trivial hlt)
theorem V_of_C {W : World} {A : Option Addr} {c : Nat} {xs : List Int} (b : Nat) (h : Kd.C (Kd.int .u8) W A xs.length xs) (hc : xs.length ≤ c) : Kd.V (Kd.int .u8) 5 W b (fun _ => True) (.slice A xs.length c) xs := Kd.V_mk hc (F_of_C h)
end Go.Proofs.Ytifpdpfjhjoieaa

/-! SealC -/
namespace Go.Proofs.Ytifpdpfjhjoieaa
set_option linter.unusedVariables false
set_option linter.unusedSimpArgs false
open Go.RowKit Go.Proofs.YtifpdpfjhjoieaaW.PrintWords Go.Proofs.YtifpdpfjhjoieaaW.PrintLast
theorem byteOk_drop (l : List Int) (n : Nat) (h : byteOk l = true) : byteOk (l.drop n) = true := by
  rw [byteOk_iff] at h ⊢
  exact fun x hx => h x (List.mem_of_mem_drop hx)
/-- What is opened. -/
def openR (key nonce aad b : List Int) : List Int × Int :=
  if key.length = 32 ∧ nonce.length = 12 then (if b.length < 32 then ([], 3) else if sealTag key nonce aad (b.take (b.length - 32)) = b.drop (b.length - 32) then (streamOf (lockOf key) nonce (b.take (b.length - 32)), 0) else ([], 5)) else ([], 1)
def smallB (key nonce aad b : List Int) : Prop := byteOk key = true ∧ byteOk nonce = true ∧ byteOk aad = true ∧ byteOk b = true ∧ aad.length ≤ 300000 ∧ b.length ≤ 300000
instance (key nonce aad b : List Int) : Decidable (smallB key nonce aad b) := by unfold smallB; infer_instance
theorem cut32 (n : Nat) (h : 32 ≤ n) (h2 : n ≤ 300000) : wrap64 ((n : Int) - 32) = ((n - 32 : Nat) : Int) := by unfold wrap64; omega
theorem cut32' (n : Nat) (h : n < 32) : wrap64 ((n : Int) - 32) < 0 := by unfold wrap64; omega
theorem stream_some (key nonce b : List Int) (h12 : nonce.length = 12) (o1 : byteOk nonce = true) (o3 : byteOk b = true) (l : b.length ≤ 300000) : P.aes_Stream.f (lockOf key) nonce b = some (streamOf (lockOf key) nonce b, 0) := by
  unfold P.aes_Stream.f
  rw [if_pos (lockOf_length key), if_pos h12, if_pos ⟨byteOk_labelOf _ _ _ _, o1, o3, by omega⟩]
theorem open_eq (l0 l1 l2 l3 : List Int) (h : smallB l0 l1 l2 l3) : H.seal_Open.f l0 l1 l2 l3 = some (openR l0 l1 l2 l3) := by
  obtain ⟨o0, o1, o2, o3, o4, o5⟩ := h
  unfold H.seal_Open.f openR
  by_cases hk : l0.length = 32 ∧ l1.length = 12
  case neg => rw [ready_bad _ _ _ o0 hk, if_neg hk, Option.bind_some, if_neg (by decide)]
  rw [ready_good _ _ _ o0 hk.1 hk.2 (by omega), if_pos hk, Option.bind_some, if_pos rfl]
  by_cases h32 : l3.length < 32
  · rw [if_pos (cut32' _ h32), if_pos h32]
  have e := cut32 l3.length (by omega) o5
  have hs := byteOk_take l3 (l3.length - 32) o3
  have hd := byteOk_drop l3 (l3.length - 32) o3
  have hl : (l3.take (l3.length - 32)).length ≤ 300000 := by rw [List.length_take]; omega
  rw [e, if_neg (by omega), if_neg h32, if_pos (by omega), if_pos (by omega), Int.toNat_natCast, tag_good _ _ _ _ o1 o2 hs hk.2 o4 hl, Option.bind_some]
  unfold P.mac_Same.f
  rw [if_pos ⟨byteOk_sealTag _ _ _ _, hd, by rw [sealTag_length]; decide⟩, Option.bind_some]
  by_cases ht : sealTag l0 l1 l2 (l3.take (l3.length - 32)) = l3.drop (l3.length - 32)
  · rw [if_pos ht, if_pos (beq_iff_eq.2 ht), stream_some _ _ _ hk.2 o1 hs hl, Option.bind_some]
  · rw [if_neg ht, if_neg (by rw [beq_iff_eq]; exact ht)]
theorem rtag_good (key nonce aad s : List Int) (h1 : byteOk nonce = true) (h2 : byteOk aad = true) (h3 : byteOk s = true) (l1 : nonce.length = 12) (l2 : aad.length ≤ 300000) (l3 : s.length ≤ 300000) : H.pyxref06_tag.f (tagOf key) nonce aad s = some (sealTag key nonce aad s) := by
  have hl := rowB_length aad
  have e : ([rowB aad, nonce, s] : List (List Int)).flatten = rowB aad ++ (nonce ++ s) := by simp
  unfold H.pyxref06_tag.f P.pyxref03_All.f P.pyxref01_Row.f
  rw [rowOf_small _ (by omega), Option.bind_some, e, if_pos ⟨byteOk_labelOf _ _ _ _, (byteOk_append _ _).2 ⟨byteOk_rowB _ h2, (byteOk_append _ _).2 ⟨h1, h3⟩⟩, by rw [tagOf_length]; decide, by rw [List.length_append, List.length_append]; omega, by show 3 ≤ 9223372036854775800; decide⟩, Option.bind_some]
  rfl
theorem rhalves_eq (l0 : List Int) (h0 : byteOk l0 = true) : H.pyxref06_Halves.f l0 = P.seal_Halves.f l0 := by
  unfold H.pyxref06_Halves.f P.seal_Halves.f
  by_cases h32 : l0.length = 32
  rotate_left
  · rw [if_neg (by omega), if_neg h32]
  have e1 : P.pyxref04_Label.f l0 (⟨#[108, 111, 99, 107]⟩ : ByteArray) ([] : List Int) 16 = some (labelOf l0 labLock [] 16, 0) := label_some l0 labLock [] 16 (by decide) h0 rfl (by omega) (by decide) (by decide)
  have e2 : P.pyxref04_Label.f l0 (⟨#[116, 97, 103]⟩ : ByteArray) ([] : List Int) 32 = some (labelOf l0 labTag [] 32, 0) := label_some l0 labTag [] 32 (by decide) h0 rfl (by omega) (by decide) (by decide)
  rw [if_pos (by omega), if_pos h32, if_pos h0, e1, Option.bind_some, e2, Option.bind_some]
theorem rseal_eq (l0 l1 l2 l3 : List Int) (h : smallB l0 l1 l2 l3) : H.pyxref06_Seal.f 1 l0 l1 l2 l3 = P.seal_Seal.f l0 l1 l2 l3 := by
  obtain ⟨o0, o1, o2, o3, o4, o5⟩ := h
  unfold H.pyxref06_Seal.f P.seal_Seal.f
  rw [rhalves_eq _ o0, if_pos ⟨o0, o1, o2, o3, o4, o5⟩]
  unfold P.seal_Halves.f
  by_cases h32 : l0.length = 32
  case neg => rw [if_neg h32, if_neg (fun x => h32 x.1), Option.bind_some, if_neg (by decide), H.pyxref06_Seal.j0, if_pos rfl]
  rw [if_pos h32, if_pos o0, Option.bind_some, if_pos rfl]
  by_cases h12 : l1.length = 12
  case neg => rw [if_neg (fun x => h12 x.2), show ((l1.length : Int) != 12) = true from by simp; omega, H.pyxref06_Seal.j0, if_pos rfl]
  have es : P.pyxref05_Stream.f (labelOf l0 labLock [] 16) l1 l3 = some (streamOf (lockOf l0) l1 l3, 0) := stream_some l0 l1 l3 h12 o1 o3 o5
  have et : H.pyxref06_tag.f (labelOf l0 labTag [] 32) l1 l2 (streamOf (lockOf l0) l1 l3) = some (sealTag l0 l1 l2 (streamOf (lockOf l0) l1 l3)) := rtag_good l0 l1 l2 _ o1 o2 (byteOk_streamOf _ _ _) h12 o4 (by rw [streamOf_length]; exact o5)
  have l1' : ([] : List Int).length + (streamOf (lockOf l0) l1 l3).length < 140737488355328 := by rw [streamOf_length, List.length_nil]; omega
  have l2' : ([] ++ streamOf (lockOf l0) l1 l3).length + (sealTag l0 l1 l2 (streamOf (lockOf l0) l1 l3)).length < 140737488355328 := by rw [List.nil_append, streamOf_length, sealTag_length]; omega
  rw [if_pos ⟨h32, h12⟩, show ((l1.length : Int) != 12) = false from by rw [h12]; rfl, H.pyxref06_Seal.j0, if_neg (by decide), es, Option.bind_some, Option.bind_some]
  dsimp only
  rw [if_pos l1', Option.bind_some, et, Option.bind_some, if_pos l2']
  rfl
theorem ropen_eq (l0 l1 l2 l3 : List Int) (h : smallB l0 l1 l2 l3) : H.pyxref06_Open.f 1 l0 l1 l2 l3 = some (openR l0 l1 l2 l3) := by
  obtain ⟨o0, o1, o2, o3, o4, o5⟩ := h
  unfold H.pyxref06_Open.f openR
  rw [rhalves_eq _ o0]
  unfold P.seal_Halves.f
  by_cases h32 : l0.length = 32
  case neg => rw [if_neg h32, if_neg (fun x => h32 x.1), Option.bind_some, if_neg (by decide), H.pyxref06_Open.j0, if_pos rfl]
  rw [if_pos h32, if_pos o0, Option.bind_some, if_pos rfl]
  by_cases h12 : l1.length = 12
  case neg => rw [if_neg (fun x => h12 x.2), show ((l1.length : Int) != 12) = true from by simp; omega, H.pyxref06_Open.j0, if_pos rfl]
  rw [if_pos ⟨h32, h12⟩, show ((l1.length : Int) != 12) = false from by rw [h12]; rfl, H.pyxref06_Open.j0, if_neg (by decide)]
  by_cases hl : l3.length < 32
  · rw [if_pos (by omega), if_pos hl]
  have e := cut32 l3.length (by omega) o5
  have hs := byteOk_take l3 (l3.length - 32) o3
  have hd := byteOk_drop l3 (l3.length - 32) o3
  have hll : (l3.take (l3.length - 32)).length ≤ 300000 := by rw [List.length_take]; omega
  have es : P.pyxref05_Stream.f (labelOf l0 labLock [] 16) l1 (l3.take (l3.length - 32)) = some (streamOf (lockOf l0) l1 (l3.take (l3.length - 32)), 0) := stream_some l0 l1 _ h12 o1 hs hll
  have et : H.pyxref06_tag.f (labelOf l0 labTag [] 32) l1 l2 (l3.take (l3.length - 32)) = some (sealTag l0 l1 l2 (l3.take (l3.length - 32))) := rtag_good l0 l1 l2 _ o1 o2 hs h12 o4 hll
  rw [if_neg (by omega), e, if_neg hl, if_pos (by omega), if_pos (by omega), Int.toNat_natCast, et, Option.bind_some]
  unfold P.pyxref01_Same.f
  rw [if_pos ⟨byteOk_sealTag _ _ _ _, hd⟩, Option.bind_some]
  by_cases ht : sealTag l0 l1 l2 (l3.take (l3.length - 32)) = l3.drop (l3.length - 32)
  · rw [if_pos ht, if_pos (beq_iff_eq.2 ht), es, Option.bind_some]
  · rw [if_neg ht, if_neg (by rw [beq_iff_eq]; exact ht)]
end Go.Proofs.Ytifpdpfjhjoieaa

/-! SealD -/
namespace Go.Proofs.Ytifpdpfjhjoieaa
set_option linter.unusedVariables false
set_option linter.unusedSimpArgs false
open Go.RowKit Go.Proofs.YtifpdpfjhjoieaaW.PrintWords Go.Proofs.YtifpdpfjhjoieaaW.PrintLast
namespace P
def seal_Open.f (key nonce aad b : List Int) : Option (List Int × Int) := if smallB key nonce aad b then some (openR key nonce aad b) else none
theorem seal_Open.calls (A0 : Option Addr) (c0 : Nat) (l0 : List Int) (A1 : Option Addr) (c1 : Nat) (l1 : List Int) (A2 : Option Addr) (c2 : Nat) (l2 : List Int) (A3 : Option Addr) (c3 : Nat) (l3 : List Int) (r1 : List Int) (r2 : Int) (w : World) (hr0 : Kd.C (Kd.int .u8) w A0 l0.length l0) (hc0 : l0.length ≤ c0) (hr1 : Kd.C (Kd.int .u8) w A1 l1.length l1) (hc1 : l1.length ≤ c1) (hr2 : Kd.C (Kd.int .u8) w A2 l2.length l2) (hc2 : l2.length ≤ c2) (hr3 : Kd.C (Kd.int .u8) w A3 l3.length l3) (hc3 : l3.length ≤ c3) (h : seal_Open.f l0 l1 l2 l3 = some (r1, r2)) :
    Calls Try.prog 19 #[.slice A0 l0.length c0, .slice A1 l1.length c1, .slice A2 l2.length c2, .slice A3 l3.length c3] w fun e w' => ∃ v0_ : Value, e = .returned (.tuple #[v0_, .int .i64 r2]) ∧ Kd.R (Kd.int .u8) 5 w' w.heap.size (fun _ => True) v0_ r1 ∧ Below w.heap.size w w' := by
  unfold seal_Open.f at h
  split at h
  case isFalse => cases h
  case isTrue hok =>
  refine (H.seal_Open.calls A0 c0 l0 (fun _ => True) A1 c1 l1 A2 c2 l2 (fun _ => True) A3 c3 l3 r1 r2 w hr0 hc0 (V_of_C _ hr1 hc1) hr2 hc2 (V_of_C _ hr3 hc3) ((open_eq _ _ _ _ hok).trans h)).mono ?_
  rintro e w' ⟨v, rfl, hR, hb⟩
  exact ⟨v, rfl, Kd.R_mono hR (fun _ _ => trivial), hb⟩
def pyxref06_Seal.f (key nonce aad b : List Int) : Option (List Int × Int) := seal_Seal.f key nonce aad b
theorem pyxref06_Seal.calls (A0 : Option Addr) (c0 : Nat) (l0 : List Int) (A1 : Option Addr) (c1 : Nat) (l1 : List Int) (A2 : Option Addr) (c2 : Nat) (l2 : List Int) (A3 : Option Addr) (c3 : Nat) (l3 : List Int) (r1 : List Int) (r2 : Int) (w : World) (hr0 : Kd.C (Kd.int .u8) w A0 l0.length l0) (hc0 : l0.length ≤ c0) (hr1 : Kd.C (Kd.int .u8) w A1 l1.length l1) (hc1 : l1.length ≤ c1) (hr2 : Kd.C (Kd.int .u8) w A2 l2.length l2) (hc2 : l2.length ≤ c2) (hr3 : Kd.C (Kd.int .u8) w A3 l3.length l3) (hc3 : l3.length ≤ c3) (h : pyxref06_Seal.f l0 l1 l2 l3 = some (r1, r2)) :
    Calls Try.prog 17 #[.slice A0 l0.length c0, .slice A1 l1.length c1, .slice A2 l2.length c2, .slice A3 l3.length c3] w fun e w' => ∃ v0_ : Value, e = .returned (.tuple #[v0_, .int .i64 r2]) ∧ Kd.R (Kd.int .u8) 5 w' w.heap.size (fun _ => True) v0_ r1 ∧ Below w.heap.size w w' := by
  have h0 := h
  unfold pyxref06_Seal.f seal_Seal.f at h
  split at h
  case isFalse => cases h
  case isTrue hok => exact H.pyxref06_Seal.calls 1 A0 c0 l0 A1 c1 l1 A2 c2 l2 A3 c3 l3 r1 r2 w hr0 hc0 hr1 hc1 hr2 hc2 hr3 hc3 ((rseal_eq _ _ _ _ hok).trans h0)
def pyxref06_Open.f (key nonce aad b : List Int) : Option (List Int × Int) := seal_Open.f key nonce aad b
theorem pyxref06_Open.calls (A0 : Option Addr) (c0 : Nat) (l0 : List Int) (A1 : Option Addr) (c1 : Nat) (l1 : List Int) (A2 : Option Addr) (c2 : Nat) (l2 : List Int) (A3 : Option Addr) (c3 : Nat) (l3 : List Int) (r1 : List Int) (r2 : Int) (w : World) (hr0 : Kd.C (Kd.int .u8) w A0 l0.length l0) (hc0 : l0.length ≤ c0) (hr1 : Kd.C (Kd.int .u8) w A1 l1.length l1) (hc1 : l1.length ≤ c1) (hr2 : Kd.C (Kd.int .u8) w A2 l2.length l2) (hc2 : l2.length ≤ c2) (hr3 : Kd.C (Kd.int .u8) w A3 l3.length l3) (hc3 : l3.length ≤ c3) (h : pyxref06_Open.f l0 l1 l2 l3 = some (r1, r2)) :
    Calls Try.prog 20 #[.slice A0 l0.length c0, .slice A1 l1.length c1, .slice A2 l2.length c2, .slice A3 l3.length c3] w fun e w' => ∃ v0_ : Value, e = .returned (.tuple #[v0_, .int .i64 r2]) ∧ Kd.R (Kd.int .u8) 5 w' w.heap.size (fun _ => True) v0_ r1 ∧ Below w.heap.size w w' := by
  unfold pyxref06_Open.f seal_Open.f at h
  split at h
  case isFalse => cases h
  case isTrue hok => exact H.pyxref06_Open.calls 1 A0 c0 l0 A1 c1 l1 A2 c2 l2 A3 c3 l3 r1 r2 w hr0 hc0 hr1 hc1 hr2 hc2 hr3 hc3 ((ropen_eq _ _ _ _ hok).trans h)
def pyxref06_Halves.f (key : List Int) : Option (List Int × List Int × Int) := if byteOk key = true then seal_Halves.f key else none
theorem pyxref06_Halves.calls (A0 : Option Addr) (c0 : Nat) (l0 : List Int) (r1 : List Int) (r2 : List Int) (r3 : Int) (w : World) (hr0 : Kd.C (Kd.int .u8) w A0 l0.length l0) (hc0 : l0.length ≤ c0) (h : pyxref06_Halves.f l0 = some (r1, r2, r3)) :
    Calls Try.prog 15 #[.slice A0 l0.length c0] w fun e w' => ∃ v0_ v1_ : Value, e = .returned (.tuple #[v0_, v1_, .int .i64 r3]) ∧ Kd.R (Kd.int .u8) 5 w' w.heap.size (fun k_ => some k_ ≠ (v1_ : Value).ownBlock) v0_ r1 ∧ Kd.R (Kd.int .u8) 5 w' w.heap.size (fun k_ => some k_ ≠ (v0_ : Value).ownBlock) v1_ r2 ∧ Below w.heap.size w w' := by
  unfold pyxref06_Halves.f at h
  split at h
  case isFalse => cases h
  case isTrue hok => exact H.pyxref06_Halves.calls A0 c0 l0 r1 r2 r3 w hr0 hc0 ((rhalves_eq l0 hok).trans h)
end P
end Go.Proofs.Ytifpdpfjhjoieaa

/-! SigA -/
namespace Go.Proofs.Ytifpdpfjhjoieaa
set_option linter.unusedVariables false
set_option linter.unusedSimpArgs false
open Go.RowKit Go.Shelf Iter Go.Proofs.YtifpdpfjhjoieaaW.PrintWords Go.Proofs.YtifpdpfjhjoieaaW.PrintLast
attribute [local go_sem] Oper.semAt_some
def labKey : ByteArray := ⟨#[107, 101, 121]⟩
def labNonce : ByteArray := ⟨#[110, 111, 110, 99, 101]⟩
set_option maxRecDepth 100000 in
set_option maxHeartbeats 1000000 in
theorem sigLabel_calls (lab : ByteArray) (n : Nat) (m : Int) (hm : m = (n : Int)) (hn : n ≤ 8160) (hl : lab.size ≤ 100000) (A0 : Option Addr) (c0 : Nat) (key : List Int) (A1 : Option Addr) (c1 : Nat) (info : List Int) (w : World) (ho : byteOk key = true) (hk : key.length ≤ 900000) (oi : byteOk info = true) (li : info.length ≤ 100000)
    (hr : Kd.C (Kd.int .u8) w A0 key.length key) (hc : key.length ≤ c0) (hr1 : Kd.C (Kd.int .u8) w A1 info.length info) (hc1 : info.length ≤ c1) :
    Calls Try.prog 57 #[.slice A0 key.length c0, .string lab, .slice A1 info.length c1, .int .i64 m] w fun e w' => ∃ v, e = .returned v ∧ Kd.R (Kd.int .u8) 5 w' w.heap.size (fun _ => True) v (labelOf key lab info n) ∧ Below w.heap.size w w' := by
  have hL := Lib.hid (show P.kdf_Label.f key lab info m = some (labelOf key lab info n, 0) by rw [hm]; exact label_some key lab info n hn ho oi hk hl li)
  have HK := Lib.hid (And.intro hr hr1)
  clear hm ho oi hr hr1
  go_enter Try.func57, Try.ntmps57
  go_wp2_with fail
  refine (P.kdf_Label.calls A0 c0 key lab A1 c1 info m (labelOf key lab info n) 0 w HK.out.1 hc HK.out.2 hc1 hL.out).mono ?_
  rintro e w' ⟨v, rfl, hR, hb⟩
  have HR := Lib.hid (And.intro hR hb)
  clear hR hb
  go_wp2
  go_ret
  exact ⟨_, rfl, HR.out⟩
namespace P
def sig_shared.f (pub half info : List Int) : Option (List Int × List Int) :=
  if byteOk pub = true ∧ byteOk half = true ∧ byteOk info = true ∧ pub.length ≤ 900000 ∧ half.length ≤ 800000 ∧ info.length ≤ 100000 then some (labelOf (macSum pub half) labKey info 32, labelOf (macSum pub half) labNonce info 12) else none
set_option maxRecDepth 100000 in
set_option maxHeartbeats 1000000 in
theorem sig_shared.calls (A0 : Option Addr) (c0 : Nat) (l0 : List Int) (A1 : Option Addr) (c1 : Nat) (l1 : List Int) (A2 : Option Addr) (c2 : Nat) (l2 : List Int) (r1 : List Int) (r2 : List Int) (w : World) (hr0 : Kd.C (Kd.int .u8) w A0 l0.length l0) (hc0 : l0.length ≤ c0) (hr1 : Kd.C (Kd.int .u8) w A1 l1.length l1) (hc1 : l1.length ≤ c1) (hr2 : Kd.C (Kd.int .u8) w A2 l2.length l2) (hc2 : l2.length ≤ c2) (h : sig_shared.f l0 l1 l2 = some (r1, r2)) :
    Calls Try.prog 60 #[.slice A0 l0.length c0, .slice A1 l1.length c1, .slice A2 l2.length c2] w fun e w' => ∃ v0_ v1_ : Value, e = .returned (.tuple #[v0_, v1_]) ∧ Kd.R (Kd.int .u8) 5 w' w.heap.size (fun k_ => some k_ ≠ (v1_ : Value).ownBlock) v0_ r1 ∧ Kd.R (Kd.int .u8) 5 w' w.heap.size (fun k_ => some k_ ≠ (v0_ : Value).ownBlock) v1_ r2 ∧ Below w.heap.size w w' := by
  unfold sig_shared.f at h
  split at h
  case isFalse => cases h
  case isTrue hok =>
  obtain ⟨o0, o1, o2, k0, k1, k2⟩ := hok
  injection h with h
  injection h with h1 h2
  subst h1 h2
  have hM := Lib.hid (show P.mac_Sum.f l0 l1 = some (macSum l0 l1) by unfold P.mac_Sum.f; rw [if_pos ⟨o0, o1, k0, k1⟩])
  have HK := Lib.hid (And.intro hr0 (And.intro hr1 (And.intro hr2 (And.intro o2 (And.intro k2 (And.intro (byteOk_macSum l0 l1) (show (macSum l0 l1).length ≤ 900000 by rw [macSum_length]; decide)))))))
  clear hr0 hr1 hr2 o0 o1 o2 k0 k1 k2
  generalize macSum l0 l1 = S at hM HK ⊢
  go_enter Try.func60, Try.ntmps60
  go_wp2_with fail
  refine (P.mac_Sum.calls A0 c0 l0 A1 c1 l1 S w HK.out.1 hc0 HK.out.2.1 hc1 hM.out).mono ?_
  rintro e W0 ⟨v, rfl, hR0, hb0⟩
  obtain ⟨As, cs, rfl, hcs, hCs⟩ := Kd.R_reads hR0
  have H0 := Lib.hid (And.intro hCs (And.intro (Kd.C_below HK.out.2.2.1 hb0) hb0))
  clear hR0 hCs hb0
  go_wp2_with fail
  refine (sigLabel_calls labKey 32 32 rfl (by decide) (by decide) As cs S A2 c2 l2 W0 HK.out.2.2.2.2.2.1 HK.out.2.2.2.2.2.2 HK.out.2.2.2.1 HK.out.2.2.2.2.1 H0.out.1 hcs H0.out.2.1 hc2).mono ?_
  rintro e W1 ⟨v1, rfl, hR1, hb1⟩
  have H1 := Lib.hid (And.intro (Kd.C_below H0.out.1 hb1) (And.intro (Kd.C_below H0.out.2.1 hb1) (And.intro hR1 (And.intro (H0.out.2.2.trans (hb1.mono H0.out.2.2.size)) H0.out.2.2.size))))
  clear H0 hR1 hb1
  go_wp2_with fail
  refine (sigLabel_calls labNonce 12 12 rfl (by decide) (by decide) As cs S A2 c2 l2 W1 HK.out.2.2.2.2.2.1 HK.out.2.2.2.2.2.2 HK.out.2.2.2.1 HK.out.2.2.2.2.1 H1.out.1 hcs H1.out.2.1 hc2).mono ?_
  rintro e W2 ⟨v2, rfl, hR2, hb2⟩
  have hlt := Kd.R_lt H1.out.2.2.1
  have hR1' := Kd.R_elder' H1.out.2.2.1 (v := v2) (fun k hk => own_base (Kd.own_of_R (enc := Value.int .u8) (h1 := fun _ => rfl) hR2) k hk) hb2
  have hR2' := Kd.R_new' hR2 (u := v1) hlt
  have H2 := Lib.hid (And.intro hR1' (And.intro hR2' (And.intro (H1.out.2.2.2.1.trans (hb2.mono H1.out.2.2.2.1.size)) (And.intro H1.out.2.2.2.1.size H1.out.2.2.2.2))))
  clear hlt hR1' hR2' H1 hR2 hb2
  go_wp2
  go_ret2
  exact ⟨v1, v2, rfl, Kd.R_mono (Kd.R_lower H2.out.1 H2.out.2.2.2.2) (fun _ hk => hk.2), Kd.R_mono (Kd.R_lower H2.out.2.1 H2.out.2.2.2.1) (fun _ hk => hk.2), H2.out.2.2.1⟩
end P
end Go.Proofs.Ytifpdpfjhjoieaa

/-! SigB -/
namespace Go.Proofs.Ytifpdpfjhjoieaa
set_option linter.unusedVariables false
set_option linter.unusedSimpArgs false
open Go.RowKit Go.Shelf Iter Go.Proofs.YtifpdpfjhjoieaaW.PrintWords Go.Proofs.YtifpdpfjhjoieaaW.PrintLast Go.Proofs.YtifpdpfjhjoieaaW.PrintMore
attribute [local go_sem] Oper.semAt_some
/-- What is signed, and its tag. -/
def sigTold (lab : ByteArray) (b : List Int) : List Int := rowB (mls ++ bytesOf lab) ++ rowB b
def sigTag (pub : List Int) (lab : ByteArray) (b : List Int) : List Int := macSum pub (sigTold lab b)
theorem byteOk_sigTold (lab : ByteArray) (b : List Int) (h : byteOk b = true) : byteOk (sigTold lab b) = true := (byteOk_append _ _).2 ⟨byteOk_rowB _ (byteOk_mls lab), byteOk_rowB _ h⟩
theorem sigTold_length (lab : ByteArray) (b : List Int) : (sigTold lab b).length ≤ lab.size + b.length + 16 := by
  have h1 := rowB_length (mls ++ bytesOf lab)
  have h2 := rowB_length b
  have h4 : (mls ++ bytesOf lab).length = lab.size + 8 := by rw [List.length_append, bytesOf_length]; exact Nat.add_comm _ _
  unfold sigTold
  rw [List.length_append]
  omega
theorem sigTag_length (pub : List Int) (lab : ByteArray) (b : List Int) : (sigTag pub lab b).length = 32 := macSum_length _ _
theorem byteOk_sigTag (pub : List Int) (lab : ByteArray) (b : List Int) : byteOk (sigTag pub lab b) = true := byteOk_macSum _ _
def smallT (pub : List Int) (lab : ByteArray) (b : List Int) : Prop := byteOk pub = true ∧ byteOk b = true ∧ pub.length ≤ 900000 ∧ lab.size ≤ 100000 ∧ b.length ≤ 300000
instance (pub : List Int) (lab : ByteArray) (b : List Int) : Decidable (smallT pub lab b) := by unfold smallT; infer_instance
namespace P
def sig_tag.f (pub : List Int) (lab : ByteArray) (b : List Int) : Option (List Int × Int) := if smallT pub lab b then some (sigTag pub lab b, 0) else none
set_option maxRecDepth 100000 in
set_option maxHeartbeats 1000000 in
theorem sig_tag.calls (A0 : Option Addr) (c0 : Nat) (l0 : List Int) (a1 : ByteArray) (A2 : Option Addr) (c2 : Nat) (l2 : List Int) (r1 : List Int) (r2 : Int) (w : World) (hr0 : Kd.C (Kd.int .u8) w A0 l0.length l0) (hc0 : l0.length ≤ c0) (hr2 : Kd.C (Kd.int .u8) w A2 l2.length l2) (hc2 : l2.length ≤ c2) (h : sig_tag.f l0 a1 l2 = some (r1, r2)) :
    Calls Try.prog 58 #[.slice A0 l0.length c0, .string a1, .slice A2 l2.length c2] w fun e w' => ∃ v0_ : Value, e = .returned (.tuple #[v0_, .int .i64 r2]) ∧ Kd.R (Kd.int .u8) 5 w' w.heap.size (fun _ => True) v0_ r1 ∧ Below w.heap.size w w' := by
  unfold sig_tag.f at h
  split at h
  case isFalse => cases h
  case isTrue hok =>
  obtain ⟨o0, o2, k0, k1, k2⟩ := hok
  injection h with h
  injection h with h1 h2
  subst h1 h2
  obtain ⟨t, ht⟩ : ∃ t : ByteArray, t = mlsS ++ a1 := ⟨_, rfl⟩
  have htb : bytesOf t = mls ++ bytesOf a1 := by rw [ht, bytesOf_append, mls_bytes]
  have htl : (bytesOf t).length = a1.size + 8 := by rw [htb, List.length_append, bytesOf_length]; exact Nat.add_comm _ _
  have hts : t.size = a1.size + 8 := by rw [← bytesOf_length, htl]
  have hrow1 : P.byt_Row.f (bytesOf t) = some (rowB (bytesOf t), 0) := by unfold P.byt_Row.f; rw [rowOf_small _ (by omega)]
  have hrow2 : P.byt_Row.f l2 = some (rowB l2, 0) := by unfold P.byt_Row.f; rw [rowOf_small _ (by omega)]
  have kb : ∀ W : World, (convert 9 22 (.string ({ data := #[77, 76, 83, 32, 49, 46, 48, 32] } ++ a1))).run Try.prog W = .ok (.slice (some ⟨W.heap.size, 0, none⟩) t.size (grownCap W t.size 0 5)) (Lib.bytesWorld W 5 t) := fun W => by
    rw [ht]
    exact print_bytes (P := Try.prog) 9 22 5 Try.underlying9 Try.underlying22 Try.underlying5 (mlsS ++ a1) W
  have hall : P.mac_All.f l0 [rowB (bytesOf t), rowB l2] = some (sigTag l0 a1 l2) := by
    have hl := sigTold_length a1 l2
    have e : ([rowB (bytesOf t), rowB l2] : List (List Int)).flatten = sigTold a1 l2 := by rw [htb]; simp [sigTold]
    unfold P.mac_All.f
    rw [e, if_pos ⟨o0, byteOk_sigTold _ _ o2, k0, by omega⟩]
    rfl
  have HR := Lib.hid (And.intro hrow1 (And.intro hrow2 hall))
  have HT := Lib.hid (And.intro hts (And.intro (bytesOf_length t) k1))
  have KB := Lib.hid kb
  have HK := Lib.hid (And.intro hr0 hr2)
  clear hrow1 hrow2 hall kb hr0 hr2 o0 o2 ht htb htl hts k1 k2 k0
  generalize sigTag l0 a1 l2 = G at *
  have hkb := KB.out w
  have hcp := grownCap_ge w t.size 0 5
  have hC2 := bytes_C w t (by have := HT.out.1; have := HT.out.2.2; omega)
  have hb2 := bytes_below (Below.refl w.heap.size w) (Nat.le_refl _) 5 t
  rw [← HT.out.2.1] at hkb hcp
  generalize grownCap w (bytesOf t).length 0 5 = cp at *
  generalize Lib.bytesWorld w 5 t = W2 at *
  have H0 := Lib.hid (And.intro hC2 (And.intro (Kd.C_below HK.out.1 hb2) (And.intro (Kd.C_below HK.out.2 hb2) hb2)))
  have Hcp := Lib.hid hcp
  clear hcp hC2 hb2 KB
  go_enter Try.func58, Try.ntmps58
  go_wp2_with fail
  · rename_i hx
    exfalso
    have := HT.out.2.2
    omega
  refine (P.byt_Row.calls (some ⟨w.heap.size, 0, none⟩) cp (bytesOf t) (rowB (bytesOf t)) 0 W2 H0.out.1 Hcp.out HR.out.1).mono ?_
  rintro e W3 ⟨v3, rfl, hR3, hb3⟩
  obtain ⟨A3, c3, rfl, hl3, hC3⟩ := Kd.R_reads hR3
  have H3 := Lib.hid (And.intro hC3 (And.intro (Kd.C_below H0.out.2.1 hb3) (And.intro (Kd.C_below H0.out.2.2.1 hb3) (H0.out.2.2.2.trans (hb3.mono H0.out.2.2.2.size)))))
  clear hR3 hC3 hb3 H0
  generalize rowB (bytesOf t) = d1 at *
  go_wp2_with fail
  refine (P.byt_Row.calls A2 c2 l2 (rowB l2) 0 W3 H3.out.2.2.1 hc2 HR.out.2.1).mono ?_
  rintro e W4 ⟨v4, rfl, hR4, hb4⟩
  obtain ⟨A4, c4, rfl, hl4, hC4⟩ := Kd.R_reads hR4
  have H4 := Lib.hid (And.intro hC4 (And.intro (Kd.C_below H3.out.1 hb4) (And.intro (Kd.C_below H3.out.2.1 hb4) (H3.out.2.2.2.trans (hb4.mono H3.out.2.2.2.size)))))
  clear hR4 hC4 hb4 H3
  generalize rowB l2 = d2 at *
  have hc5 := c_two W4 22 A3 A4 c3 c4 d1 d2 H4.out.2.1 hl3 H4.out.1 hl4
  have hb5 := H4.out.2.2.2.alloc H4.out.2.2.2.size (Obj.cells #[.slice A3 d1.length c3, .slice A4 d2.length c4] 22)
  have H5 := Lib.hid (And.intro hc5 (And.intro (Kd.C_alloc H4.out.2.2.1 (Obj.cells #[.slice A3 d1.length c3, .slice A4 d2.length c4] 22)) hb5))
  clear hc5 hb5
  go_wp2_with fail
  refine (P.mac_All.calls A0 c0 l0 (some ⟨W4.heap.size, 0, none⟩) 2 [d1, d2] G _ H5.out.2.1 hc0 H5.out.1 (Nat.le_refl _) HR.out.2.2).mono ?_
  rintro e W6 ⟨v6, rfl, hR6, hb6⟩
  have H6 := Lib.hid (And.intro hR6 (And.intro (H5.out.2.2.trans (hb6.mono H5.out.2.2.size)) H5.out.2.2.size))
  clear hR6 hb6 H5 H4
  go_wp2
  go_ret2
  exact ⟨v6, rfl, Kd.R_lower H6.out.1 H6.out.2.2, H6.out.2.1⟩
end P
end Go.Proofs.Ytifpdpfjhjoieaa

/-! J0 -/
namespace Go.Proofs.Ytifpdpfjhjoieaa.J
open Go.Proofs.Ytifpdpfjhjoieaa.P
open Go.RowKit Go.Proofs.YtifpdpfjhjoieaaW.PrintWords Go.Proofs.YtifpdpfjhjoieaaW.PrintLast Go.Proofs.YtifpdpfjhjoieaaW.PrintMore
attribute [local go_sem] max2_int min2_int max_two min_two max_three min_three max_four min_four   -- for this text's walks alone
set_option linter.unusedVariables false
set_option linter.unusedSimpArgs false
def errW : Option Int → Value
  | none => .nilIface
  | some c => .iface 0 (.int .i64 c)
theorem errW_none : errW none = .nilIface := rfl
theorem errW_some (c : Int) : errW (some c) = .iface 0 (.int .i64 c) := rfl
-- the values' own types
def rd_L1 (xs : List (List Int)) (i : Int) : (List Int) := xs.getD i.toNat ([] : List Int)
theorem at_L1 {w : World} {A : Option Addr} {n : Nat} {xs : List (List Int)} (h : Kd.C (Kd.slice 5 (Kd.int .u8)) w A n xs) (i : Int) (h0 : 0 ≤ i) (h1 : i < n) : ∃ ad A0 c0, A = some ad ∧ w.cell? (ad.add i.toNat) = some (.slice A0 (rd_L1 xs i).length c0) ∧ (rd_L1 xs i).length ≤ c0 ∧ (Kd.int .u8).C w A0 (rd_L1 xs i).length (rd_L1 xs i) := by
  obtain ⟨ad, c, e, _, hK, hc0⟩ := Kd.C_get h ([] : List Int) i h0 h1
  have hc : ∀ j u, c[j]? = some u → w.cell? (ad.add (i.toNat * 1 + j)) = some u := hc0
  obtain ⟨A0, c0, rfl, l0, g0⟩ := hK
  exact ⟨ad, A0, c0, e, by have hq := hc 0 _ rfl; rwa [Nat.mul_one, Nat.add_zero] at hq, l0, g0⟩
end Go.Proofs.Ytifpdpfjhjoieaa.J

/-! J1 -/
namespace Go.Proofs.Ytifpdpfjhjoieaa.J
open Go.Proofs.Ytifpdpfjhjoieaa.P
open Go.RowKit Go.Proofs.YtifpdpfjhjoieaaW.PrintWords Go.Proofs.YtifpdpfjhjoieaaW.PrintLast Go.Proofs.YtifpdpfjhjoieaaW.PrintMore
attribute [local go_sem] max2_int min2_int max_two min_two max_three min_three max_four min_four   -- for this text's walks alone
set_option linter.unusedVariables false
set_option linter.unusedSimpArgs false
/-! ### sig_right: function 56 -/
def sig_right.l0 : Nat → List (List Int) → Int → Int → Option (Bool)
  | 0, _, _, _ => none
  | k + 1, x5, x6, x7 => if x7 < x6 then (if 0 ≤ x7 then (if x7 < (x5.length : Int) then (if ((rd_L1 x5 x7).length : Int) = 32 then (sig_right.l0 k x5 x6 (wrap64 (x7 + 1))) else (some false)) else (none)) else (none)) else (some true)
def sig_right.f (k : Nat) (l0 : List (List Int)) : Option (Bool) := sig_right.l0 k l0 (l0.length : Int) 0
set_option maxHeartbeats 8000000 in
set_option maxRecDepth 100000 in
theorem sig_right.calls (k : Nat) (A0 : Option Addr) (c0 : Nat) (l0 : List (List Int)) (r : Bool) (w : World) (hr0 : Kd.C (Kd.slice 5 (Kd.int .u8)) w A0 l0.length l0) (hc0 : l0.length ≤ c0) (h : sig_right.f k l0 = some r) :
    Calls Try.prog 56 #[.slice A0 l0.length c0] w fun e w' => e = .returned (.bool r) ∧ Drawn0 w w' := by
  have HR0 := Aside0.mk hr0
  have HC0 := Aside0.mk hc0
  clear hr0 hc0
  have H : (sig_right.l0 k l0 (l0.length : Int) 0) = some r := h
  clear h
  have H' := Aside0.mk H
  clear H
  go_enter Try.func56, Try.ntmps56
  go_wp2
  go_loopg [7] k (fun kq v7 w' => ∃ (x7_1 : Int), v7 = .int .i64 x7_1 ∧ Aside0 (sig_right.l0 kq l0 (l0.length : Int) x7_1 = some r) ∧ Aside0 (kq ≤ k) ∧ Drawn0 w w')
  case atStart => exact ⟨(0), (by first | rfl), H', ⟨Nat.le_refl _⟩, by repeat (exact Drawn0.refl _)⟩
  clear H'
  obtain ⟨x7_1, rfl, HA, HK1, ⟨m1, rfl⟩⟩ := hrel
  cases gk with
  | zero => exact absurd HA.out (by simp [sig_right.l0])
  | succ k1 =>
    have H := HA.out
    clear HA
    simp only [sig_right.l0] at H
    by_cases c2 : x7_1 < (l0.length : Int)
    rotate_left
    · rw [if_neg c2] at H
      have c2b0 : decide (x7_1 < (l0.length : Int)) = false := decide_eq_false c2
      clear c2
      obtain rfl := Option.some.inj H
      go_wp2
      go_ret
      exact ⟨by first | rfl, by repeat (first | exact Drawn0.refl _ | apply Drawn0.step)⟩
    rw [if_pos c2] at H
    have c2b0 : decide (x7_1 < (l0.length : Int)) = true := decide_eq_true c2
    clear c2
    by_cases c3 : 0 ≤ x7_1
    rotate_left
    · rw [if_neg c3] at H
      exact absurd H (by simp)
    rw [if_pos c3] at H
    have c3b0 : decide (0 ≤ x7_1) = true := decide_eq_true c3
    clear c3
    by_cases c4 : x7_1 < (l0.length : Int)
    rotate_left
    · rw [if_neg c4] at H
      exact absurd H (by simp)
    rw [if_pos c4] at H
    have c4b0 : decide (x7_1 < (l0.length : Int)) = true := decide_eq_true c4
    clear c4
    by_cases c5 : ((rd_L1 l0 x7_1).length : Int) = 32
    rotate_left
    · rw [if_neg c5] at H
      have c5b0 : (((rd_L1 l0 x7_1).length : Int) == 32) = false := beq_eq_false_iff_ne.mpr c5
      have c5b1 : (((rd_L1 l0 x7_1).length : Int) != 32) = true := bne_iff_ne.mpr c5
      obtain rfl := Option.some.inj H
      have p101 : 0 ≤ (x7_1 : Int) := of_decide_eq_true (by first | (with_reducible assumption))
      have q101 : x7_1 < (l0.length : Int) := of_decide_eq_true (by first | (with_reducible assumption))
      obtain ⟨ad101, A101_0, c101_0, e101, hx101_0, hl101_0, hi101_0⟩ := at_L1 HR0.out x7_1 p101 q101
      cases e101
      have HR101_0 := Aside0.mk hi101_0
      have HC101_0 := Aside0.mk hl101_0
      clear hi101_0 hl101_0
      replace p101 := eq_true p101
      replace q101 := eq_true q101
      go_wp2
      go_ret
      exact ⟨by first | rfl, by repeat (first | exact Drawn0.refl _ | apply Drawn0.step)⟩
    rw [if_pos c5] at H
    have c5b0 : (((rd_L1 l0 x7_1).length : Int) == 32) = true := beq_iff_eq.mpr c5
    have c5b1 : (((rd_L1 l0 x7_1).length : Int) != 32) = false := bne_eq_false_iff_eq.mpr c5
    clear c5
    have H' := Aside0.mk H
    clear H
    have p101 : 0 ≤ (x7_1 : Int) := of_decide_eq_true (by first | (with_reducible assumption))
    have q101 : x7_1 < (l0.length : Int) := of_decide_eq_true (by first | (with_reducible assumption))
    obtain ⟨ad101, A101_0, c101_0, e101, hx101_0, hl101_0, hi101_0⟩ := at_L1 HR0.out x7_1 p101 q101
    cases e101
    have HR101_0 := Aside0.mk hi101_0
    have HC101_0 := Aside0.mk hl101_0
    clear hi101_0 hl101_0
    replace p101 := eq_true p101
    replace q101 := eq_true q101
    go_wp2
    go_roundg k1
    case measure => have := HK1.out; omega
    case rel => exact ⟨(wrap64 (x7_1 + 1)), (by first | rfl), H', ⟨by have := HK1.out; omega⟩, by repeat (first | exact Drawn0.refl _ | apply Drawn0.step)⟩
-- NOT PRINTED: function 47 (byt_Num)
-- NOT PRINTED: function 95 (byt_wide)
-- NOT PRINTED: function 79 (byt_Len)
-- NOT PRINTED: function 80 (kdf_first)
-- NOT PRINTED: function 63 (kdf_Expand)
-- NOT PRINTED: function 27 (sig_Public)
-- NOT PRINTED: function 104 (slices_Grow_byte_byte)
-- NOT PRINTED: function 99 (slices_Concat_byte_byte)
-- NOT PRINTED: function 87 (mac_joined)
-- NOT PRINTED: function 105 (sha_primes)
-- NOT PRINTED: function 112 (bits_Mul64)
-- NOT PRINTED: function 113 (bits_Add64)
-- NOT PRINTED: function 110 (sha_above)
-- NOT PRINTED: function 106 (sha_root)
-- NOT PRINTED: function 100 (sha_keys)
-- NOT PRINTED: function 101 (sha_Start)
-- NOT PRINTED: function 111 (bits_RotateLeft32)
-- NOT PRINTED: function 108 (sha_turned)
-- NOT PRINTED: function 107 (sha_words)
-- NOT PRINTED: function 102 (sha_mixed)
-- NOT PRINTED: function 103 (sha_Pad)
-- NOT PRINTED: function 94 (sha_Sum)
-- NOT PRINTED: function 91 (mac_Key)
-- NOT PRINTED: function 29 (sig_Sign)
-- NOT PRINTED: function 31 (sig_Verify)
-- NOT PRINTED: function 14 (seal_Halves)
-- NOT PRINTED: function 42 (seal_ready)
-- NOT PRINTED: function 83 (aes_Mul)
-- NOT PRINTED: function 96 (aes_inverse)
-- NOT PRINTED: function 97 (bits_RotateLeft8)
-- NOT PRINTED: function 82 (aes_Box)
-- NOT PRINTED: function 65 (aes_boxes)
-- NOT PRINTED: function 66 (aes_keys)
-- NOT PRINTED: function 84 (aes_state_with)
-- NOT PRINTED: function 85 (aes_state_shifted)
-- NOT PRINTED: function 86 (aes_state_mixed)
-- NOT PRINTED: function 67 (aes_locked)
-- NOT PRINTED: function 43 (aes_Stream)
-- NOT PRINTED: function 44 (seal_tag)
-- NOT PRINTED: function 33 (sig_Wrap)
-- NOT PRINTED: function 35 (sig_Unwrap)
-- NOT PRINTED: function 77 (pyxref01_power)
-- NOT PRINTED: function 54 (pyxref01_Num)
-- NOT PRINTED: function 70 (pyxref01_Len)
-- NOT PRINTED: function 71 (pyxref02_Pad)
-- NOT PRINTED: function 72 (pyxref02_keys)
-- NOT PRINTED: function 73 (pyxref02_Start)
-- NOT PRINTED: function 88 (pyxref02_word)
-- NOT PRINTED: function 89 (pyxref02_turn)
-- NOT PRINTED: function 74 (pyxref02_step)
-- NOT PRINTED: function 50 (pyxref02_Sum)
-- NOT PRINTED: function 49 (pyxref03_Key)
-- NOT PRINTED: function 51 (pyxref03_with)
-- NOT PRINTED: function 64 (pyxref04_Expand)
/-! ### pyxref07_Public: function 28 -/
def pyxref07_Public.f (l0 : List Int) : Option (List Int × Int) := if (l0.length : Int) = 32 then ((pyxref04_Label.f l0 (⟨#[112, 117, 98, 108, 105, 99]⟩ : ByteArray) ([] : List Int) 32).bind fun bt106 => (some (bt106.1, bt106.2))) else (some (([] : List Int), 1))
set_option maxHeartbeats 8000000 in
set_option maxRecDepth 100000 in
theorem pyxref07_Public.calls (A0 : Option Addr) (c0 : Nat) (l0 : List Int) (r1 : List Int) (r2 : Int) (w : World) (hr0 : Kd.C (Kd.int .u8) w A0 l0.length l0) (hc0 : l0.length ≤ c0) (h : pyxref07_Public.f l0 = some (r1, r2)) :
    Calls Try.prog 28 #[.slice A0 l0.length c0] w fun e w' => ∃ v0_ : Value, e = .returned (.tuple #[v0_, .int .i64 r2]) ∧ Kd.R (Kd.int .u8) 5 w' w.heap.size (fun _ => True) v0_ r1 ∧ Below w.heap.size w w' := by
  have HR0 := Aside0.mk hr0
  have HC0 := Aside0.mk hc0
  clear hr0 hc0
  have HB := Aside0.mk (Below.refl w.heap.size w)
  have H : (if (l0.length : Int) = 32 then ((pyxref04_Label.f l0 (⟨#[112, 117, 98, 108, 105, 99]⟩ : ByteArray) ([] : List Int) 32).bind fun bt106 => (some (bt106.1, bt106.2))) else (some (([] : List Int), 1))) = some (r1, r2) := h
  clear h
  by_cases c2 : (l0.length : Int) = 32
  rotate_left
  · rw [if_neg c2] at H
    have c2b0 : ((l0.length : Int) == 32) = false := beq_eq_false_iff_ne.mpr c2
    have c2b1 : ((l0.length : Int) != 32) = true := bne_iff_ne.mpr c2
    simp only [Option.some.injEq, Prod.mk.injEq] at H
    obtain ⟨rfl, rfl⟩ := H
    go_enter Try.func28, Try.ntmps28
    go_wp2
    go_ret2
    exact ⟨_, by first | rfl, by first | exact Kd.R_nil _ _ _ _ _, by repeat ((with_reducible first | exact HB.out))⟩
  rw [if_pos c2] at H
  have c2b0 : ((l0.length : Int) == 32) = true := beq_iff_eq.mpr c2
  have c2b1 : ((l0.length : Int) != 32) = false := bne_eq_false_iff_eq.mpr c2
  clear c2
  replace H := Option.bind_eq_some_iff.mp H
  obtain ⟨⟨t106, t107⟩, A30, H⟩ := H
  replace H : (some (t106, t107)) = some (r1, r2) := H
  have A3 := Aside0.mk A30
  clear A30
  simp only [Option.some.injEq, Prod.mk.injEq] at H
  obtain ⟨rfl, rfl⟩ := H
  go_enter Try.func28, Try.ntmps28
  go_wp2_with (first | ((with_reducible refine gate_callee (f := 41) rfl ?_); refine goesL_ (some 8) rfl rfl Try.func41 (by kernel_rfl) rfl #[.slice A0 l0.length c0, .string (⟨#[112, 117, 98, 108, 105, 99]⟩ : ByteArray), .slice none 0 0, .int .i64 32] rfl (by (try simp only [List.map_toArray, List.map_cons, List.map_nil]); first | rfl) ?_; (refine (pyxref04_Label.calls _ _ l0 (⟨#[112, 117, 98, 108, 105, 99]⟩ : ByteArray) _ _ ([] : List Int) 32 t106 t107 _ ?side1 ?side2 ?side3 ?side4 A3.out).mono ?_); (case side1 => repeat (exact HR0.out)); (case side2 => exact HC0.out); (case side3 => exact Kd.C_nil _ _); (case side4 => exact Nat.le_refl _); rintro e w4 ⟨v108, rfl, ho0, hb⟩; refine ⟨_, rfl, ?_⟩; have n0_ := Aside0.mk (Kd.R_lower ho0 (below_size (by repeat ((with_reducible first | exact HB.out))))); have n1_ := Aside0.mk (below_step (by repeat ((with_reducible first | exact HB.out))) hb); clear HB; have HO109 := n0_; have HB := n1_; clear n0_ n1_; (try clear hb); (try clear ho0)))
  go_ret2
  exact ⟨_, by first | rfl, by (with_reducible repeat (fail)); exact HO109.out, by repeat ((with_reducible first | exact HB.out))⟩
-- NOT PRINTED: function 15 (pyxref06_Halves)
-- NOT PRINTED: function 90 (pyxref05_left)
-- NOT PRINTED: function 75 (pyxref05_turned)
-- NOT PRINTED: function 76 (pyxref05_Mul)
-- NOT PRINTED: function 52 (pyxref05_boxes)
-- NOT PRINTED: function 53 (pyxref05_keys)
-- NOT PRINTED: function 55 (pyxref05_lock)
-- NOT PRINTED: function 25 (pyxref05_Stream)
-- NOT PRINTED: function 69 (pyxref03_All)
-- NOT PRINTED: function 45 (pyxref06_tag)
/-! ### pyxref07_keys: function 61 -/
def pyxref07_keys.f (l0 : List Int) (l1 : List Int) (l2 : List Int) : Option (List Int × List Int) := (pyxref03_Sum.f l0 l1).bind fun t121 => ((pyxref04_Label.f t121 (⟨#[107, 101, 121]⟩ : ByteArray) l2 32).bind fun bt124 => ((pyxref04_Label.f t121 (⟨#[110, 111, 110, 99, 101]⟩ : ByteArray) l2 12).bind fun bt128 => (some (bt124.1, bt128.1))))
set_option maxHeartbeats 8000000 in
set_option maxRecDepth 100000 in
theorem pyxref07_keys.calls (A0 : Option Addr) (c0 : Nat) (l0 : List Int) (A1 : Option Addr) (c1 : Nat) (l1 : List Int) (A2 : Option Addr) (c2 : Nat) (l2 : List Int) (r1 : List Int) (r2 : List Int) (w : World) (hr0 : Kd.C (Kd.int .u8) w A0 l0.length l0) (hc0 : l0.length ≤ c0) (hr1 : Kd.C (Kd.int .u8) w A1 l1.length l1) (hc1 : l1.length ≤ c1) (hr2 : Kd.C (Kd.int .u8) w A2 l2.length l2) (hc2 : l2.length ≤ c2) (h : pyxref07_keys.f l0 l1 l2 = some (r1, r2)) :
    Calls Try.prog 61 #[.slice A0 l0.length c0, .slice A1 l1.length c1, .slice A2 l2.length c2] w fun e w' => ∃ v0_ v1_ : Value, e = .returned (.tuple #[v0_, v1_]) ∧ Kd.R (Kd.int .u8) 5 w' w.heap.size (fun k_ => some k_ ≠ (v1_ : Value).ownBlock) v0_ r1 ∧ Kd.R (Kd.int .u8) 5 w' w.heap.size (fun k_ => some k_ ≠ (v0_ : Value).ownBlock) v1_ r2 ∧ Below w.heap.size w w' := by
  have HR0 := Aside0.mk hr0
  have HC0 := Aside0.mk hc0
  clear hr0 hc0
  have HR1 := Aside0.mk hr1
  have HC1 := Aside0.mk hc1
  clear hr1 hc1
  have HR2 := Aside0.mk hr2
  have HC2 := Aside0.mk hc2
  clear hr2 hc2
  have HB := Aside0.mk (Below.refl w.heap.size w)
  have H : ((pyxref03_Sum.f l0 l1).bind fun t121 => ((pyxref04_Label.f t121 (⟨#[107, 101, 121]⟩ : ByteArray) l2 32).bind fun bt124 => ((pyxref04_Label.f t121 (⟨#[110, 111, 110, 99, 101]⟩ : ByteArray) l2 12).bind fun bt128 => (some (bt124.1, bt128.1))))) = some (r1, r2) := h
  clear h
  replace H := Option.bind_eq_some_iff.mp H
  obtain ⟨t121, A40, H⟩ := H
  replace H : ((pyxref04_Label.f t121 (⟨#[107, 101, 121]⟩ : ByteArray) l2 32).bind fun bt124 => ((pyxref04_Label.f t121 (⟨#[110, 111, 110, 99, 101]⟩ : ByteArray) l2 12).bind fun bt128 => (some (bt124.1, bt128.1)))) = some (r1, r2) := H
  have A4 := Aside0.mk A40
  clear A40
  replace H := Option.bind_eq_some_iff.mp H
  obtain ⟨⟨t124, t125⟩, A50, H⟩ := H
  replace H : ((pyxref04_Label.f t121 (⟨#[110, 111, 110, 99, 101]⟩ : ByteArray) l2 12).bind fun bt128 => (some (t124, bt128.1))) = some (r1, r2) := H
  have A5 := Aside0.mk A50
  clear A50
  replace H := Option.bind_eq_some_iff.mp H
  obtain ⟨⟨t128, t129⟩, A60, H⟩ := H
  replace H : (some (t124, t128)) = some (r1, r2) := H
  have A6 := Aside0.mk A60
  clear A60
  simp only [Option.some.injEq, Prod.mk.injEq] at H
  obtain ⟨rfl, rfl⟩ := H
  go_enter Try.func61, Try.ntmps61
  go_wp2_with (first | ((with_reducible refine gate_callee (f := 24) rfl ?_); refine goesL_ (some 15) rfl rfl Try.func24 (by kernel_rfl) rfl #[.slice A0 l0.length c0, .slice A1 l1.length c1] rfl (by (try simp only [List.map_toArray, List.map_cons, List.map_nil]); first | rfl) ?_; (with_reducible refine (pyxref03_Sum.calls _ _ l0 _ _ l1 t121 _ ?side1 ?side2 ?side3 ?side4 A4.out).mono ?_); (case side1 => repeat (exact HR0.out)); (case side2 => exact HC0.out); (case side3 => repeat (exact HR1.out)); (case side4 => exact HC1.out); rintro e w7 ⟨v122, rfl, ho0, hb⟩; refine ⟨_, rfl, ?_⟩; have n0_ := Aside0.mk (Kd.R_lower ho0 (below_size (by repeat ((with_reducible first | exact HB.out))))); have n1_ := Aside0.mk (below_step (by repeat ((with_reducible first | exact HB.out))) hb); clear HB; have HO123 := n0_; have HB := n1_; clear n0_ n1_; (try clear hb); (try clear ho0); obtain ⟨Ao8, co8, eo8⟩ := Kd.R_slice HO123.out; subst eo8) | ((with_reducible refine gate_callee (f := 41) rfl ?_); refine goesL_ (some 19) rfl rfl Try.func41 (by kernel_rfl) rfl #[.slice Ao8 t121.length co8, .string (⟨#[107, 101, 121]⟩ : ByteArray), .slice A2 l2.length c2, .int .i64 32] rfl (by (try simp only [List.map_toArray, List.map_cons, List.map_nil]); first | rfl) ?_; (with_reducible refine (pyxref04_Label.calls _ _ t121 (⟨#[107, 101, 121]⟩ : ByteArray) _ _ l2 32 t124 t125 _ ?side1 ?side2 ?side3 ?side4 A5.out).mono ?_); (case side1 => repeat (exact (Kd.R_reads' HO123.out).2.2)); (case side2 => exact (Kd.R_reads' HO123.out).2.1); (case side3 => repeat (exact (Kd.C_below HR2.out HB.out))); (case side4 => exact HC2.out); rintro e w9 ⟨v126, rfl, ho0, hb⟩; refine ⟨_, rfl, ?_⟩; have n0_ := Aside0.mk (Kd.R_elder' (by (with_reducible repeat (fail)); exact HO123.out) (Kd.R_base ho0) hb); have n1_ := Aside0.mk (Kd.R_lower (Kd.R_new' ho0 (Kd.R_lt (by (with_reducible repeat (fail)); exact HO123.out))) (below_size (by repeat ((with_reducible first | exact HB.out))))); have n2_ := Aside0.mk (below_step (by repeat ((with_reducible first | exact HB.out))) hb); clear HO123; clear HB; have HO123 := n0_; have HO127 := n1_; have HB := n2_; clear n0_ n1_ n2_; (try clear hb); (try clear ho0)) | ((with_reducible refine gate_callee (f := 41) rfl ?_); refine goesL_ (some 25) rfl rfl Try.func41 (by kernel_rfl) rfl #[.slice Ao8 t121.length co8, .string (⟨#[110, 111, 110, 99, 101]⟩ : ByteArray), .slice A2 l2.length c2, .int .i64 12] rfl (by (try simp only [List.map_toArray, List.map_cons, List.map_nil]); first | rfl) ?_; (with_reducible refine (pyxref04_Label.calls _ _ t121 (⟨#[110, 111, 110, 99, 101]⟩ : ByteArray) _ _ l2 12 t128 t129 _ ?side1 ?side2 ?side3 ?side4 A6.out).mono ?_); (case side1 => repeat (exact (Kd.R_reads' HO123.out).2.2)); (case side2 => exact (Kd.R_reads' HO123.out).2.1); (case side3 => repeat (exact (Kd.C_below HR2.out HB.out))); (case side4 => exact HC2.out); rintro e w10 ⟨v130, rfl, ho0, hb⟩; refine ⟨_, rfl, ?_⟩; have n0_ := Aside0.mk (Kd.R_elder' (by (with_reducible repeat (fail)); exact HO123.out) (Kd.R_base ho0) hb); have n1_ := Aside0.mk (Kd.R_elder' (by (with_reducible repeat (fail)); exact HO127.out) (Kd.R_base ho0) hb); have n2_ := Aside0.mk (Kd.R_lower (Kd.R_new' (Kd.R_new' ho0 (Kd.R_lt (by (with_reducible repeat (fail)); exact HO123.out))) (Kd.R_lt (by (with_reducible repeat (fail)); exact HO127.out))) (below_size (by repeat ((with_reducible first | exact HB.out))))); have n3_ := Aside0.mk (below_step (by repeat ((with_reducible first | exact HB.out))) hb); clear HO123; clear HO127; clear HB; have HO123 := n0_; have HO127 := n1_; have HO131 := n2_; have HB := n3_; clear n0_ n1_ n2_ n3_; (try clear hb); (try clear ho0)))
  go_ret2
  exact ⟨_, _, by first | rfl, by (with_reducible repeat (fail)); exact Kd.R_mono HO127.out (fun _ hk => hk.2), by (with_reducible repeat (fail)); exact Kd.R_mono HO131.out (fun _ hk => hk.2), by repeat ((with_reducible first | exact HB.out))⟩
/-! ### pyxref07_Wrap: function 34 -/
def pyxref07_Wrap.j0 : Nat → List Int → List Int → List Int → List Int → Bool → Option (List Int × List Int × Int)
  | 0, _, _, _, _, _ => none
  | k + 1, x0, x2, x3, x11, x28 => if x28 = true then (some (([] : List Int), ([] : List Int), 1)) else ((pyxref07_keys.f x0 x11 x2).bind fun bt136 => ((pyxref06_Seal.f bt136.1 bt136.2 ([] : List Int) x3).bind fun bt142 => (some (x11, bt142.1, 0))))
def pyxref07_Wrap.f (k : Nat) (l0 : List Int) (l1 : List Int) (l2 : List Int) (l3 : List Int) : Option (List Int × List Int × Int) := (pyxref07_Public.f l1).bind fun bt132 => (if bt132.2 = 0 then (pyxref07_Wrap.j0 k l0 l2 l3 bt132.1 ((l0.length : Int) != 32)) else (pyxref07_Wrap.j0 k l0 l2 l3 bt132.1 true))
set_option maxHeartbeats 8000000 in
set_option maxRecDepth 100000 in
theorem pyxref07_Wrap.calls (k : Nat) (A0 : Option Addr) (c0 : Nat) (l0 : List Int) (A1 : Option Addr) (c1 : Nat) (l1 : List Int) (A2 : Option Addr) (c2 : Nat) (l2 : List Int) (A3 : Option Addr) (c3 : Nat) (l3 : List Int) (r1 : List Int) (r2 : List Int) (r3 : Int) (w : World) (hr0 : Kd.C (Kd.int .u8) w A0 l0.length l0) (hc0 : l0.length ≤ c0) (hr1 : Kd.C (Kd.int .u8) w A1 l1.length l1) (hc1 : l1.length ≤ c1) (hr2 : Kd.C (Kd.int .u8) w A2 l2.length l2) (hc2 : l2.length ≤ c2) (hr3 : Kd.C (Kd.int .u8) w A3 l3.length l3) (hc3 : l3.length ≤ c3) (h : pyxref07_Wrap.f k l0 l1 l2 l3 = some (r1, r2, r3)) :
    Calls Try.prog 34 #[.slice A0 l0.length c0, .slice A1 l1.length c1, .slice A2 l2.length c2, .slice A3 l3.length c3] w fun e w' => ∃ v0_ v1_ : Value, e = .returned (.tuple #[v0_, v1_, .int .i64 r3]) ∧ Kd.R (Kd.int .u8) 5 w' w.heap.size (fun k_ => some k_ ≠ (v1_ : Value).ownBlock) v0_ r1 ∧ Kd.R (Kd.int .u8) 5 w' w.heap.size (fun k_ => some k_ ≠ (v0_ : Value).ownBlock) v1_ r2 ∧ Below w.heap.size w w' := by
  have HR0 := Aside0.mk hr0
  have HC0 := Aside0.mk hc0
  clear hr0 hc0
  have HR1 := Aside0.mk hr1
  have HC1 := Aside0.mk hc1
  clear hr1 hc1
  have HR2 := Aside0.mk hr2
  have HC2 := Aside0.mk hc2
  clear hr2 hc2
  have HR3 := Aside0.mk hr3
  have HC3 := Aside0.mk hc3
  clear hr3 hc3
  have HB := Aside0.mk (Below.refl w.heap.size w)
  have H : ((pyxref07_Public.f l1).bind fun bt132 => (if bt132.2 = 0 then (pyxref07_Wrap.j0 k l0 l2 l3 bt132.1 ((l0.length : Int) != 32)) else (pyxref07_Wrap.j0 k l0 l2 l3 bt132.1 true))) = some (r1, r2, r3) := h
  clear h
  replace H := Option.bind_eq_some_iff.mp H
  obtain ⟨⟨t132, t133⟩, A50, H⟩ := H
  replace H : (if t133 = 0 then (pyxref07_Wrap.j0 k l0 l2 l3 t132 ((l0.length : Int) != 32)) else (pyxref07_Wrap.j0 k l0 l2 l3 t132 true)) = some (r1, r2, r3) := H
  have A5 := Aside0.mk A50
  clear A50
  have HC6 := Aside0.mk H
  clear H
  go_enter Try.func34, Try.ntmps34
  go_upto_region 2 with (first | ((with_reducible refine gate_callee (f := 28) rfl ?_); refine goesL_ (some 19) rfl rfl Try.func28 (by kernel_rfl) rfl #[.slice A1 l1.length c1] rfl (by (try simp only [List.map_toArray, List.map_cons, List.map_nil]); first | rfl) ?_; (with_reducible refine (pyxref07_Public.calls _ _ l1 t132 t133 _ ?side1 ?side2 A5.out).mono ?_); (case side1 => repeat (exact HR1.out)); (case side2 => exact HC1.out); rintro e w7 ⟨v134, rfl, ho0, hb⟩; refine ⟨_, rfl, ?_⟩; have n0_ := Aside0.mk (Kd.R_lower ho0 (below_size (by repeat ((with_reducible first | exact HB.out))))); have n1_ := Aside0.mk (below_step (by repeat ((with_reducible first | exact HB.out))) hb); clear HB; have HO135 := n0_; have HB := n1_; clear n0_ n1_; (try clear hb); (try clear ho0)))
  (skip)
  go_cut [28] (fun v28 wc => ∃ (kq : Nat) (x28_5 : Bool), v28 = .bool x28_5 ∧ Aside0 (pyxref07_Wrap.j0 kq l0 l2 l3 t132 x28_5 = some (r1, r2, r3)) ∧ Aside0 (kq ≤ k) ∧ Aside0 (Kd.R (Kd.int .u8) 5 wc w.heap.size (fun _ => True) v134 t132) ∧ Aside0 (Below w.heap.size w wc))
  case first =>
    have H := HC6.out
    clear HC6
    by_cases c8 : t133 = 0
    rotate_left
    · rw [if_neg c8] at H
      have c8b0 : (t133 == 0) = false := beq_eq_false_iff_ne.mpr c8
      have c8b1 : (t133 != 0) = true := bne_iff_ne.mpr c8
      (skip)
      have H' := Aside0.mk H
      clear H
      go_wp2
      go_meet
      case rel => exact ⟨_, (true), (by first | rfl), H', ⟨by first | omega⟩, ⟨by (with_reducible repeat (fail)); exact HO135.out⟩, ⟨by repeat ((with_reducible first | exact HB.out))⟩⟩
    rw [if_pos c8] at H
    have c8b0 : (t133 == 0) = true := beq_iff_eq.mpr c8
    have c8b1 : (t133 != 0) = false := bne_eq_false_iff_eq.mpr c8
    clear c8
    (skip)
    have H' := Aside0.mk H
    clear H
    go_wp2
    go_meet
    case rel => exact ⟨_, (((l0.length : Int) != 32)), (by first | rfl), H', ⟨by first | omega⟩, ⟨by (with_reducible repeat (fail)); exact HO135.out⟩, ⟨by repeat ((with_reducible first | exact HB.out))⟩⟩
  clear HC6
  skip
  skip
  skip
  skip
  skip
  skip
  skip
  obtain ⟨kq, x28_5, rfl, HA, HJ5, HO_11, HB⟩ := hcut
  cases kq with
  | zero => exact absurd HA.out (by simp [pyxref07_Wrap.j0])
  | succ kj5 =>
    have H := HA.out
    clear HA
    simp only [pyxref07_Wrap.j0] at H
    by_cases c9 : x28_5 = true
    · subst c9
      have H1 : (some (([] : List Int), ([] : List Int), 1)) = some (r1, r2, r3) := by rw [if_pos rfl] at H; exact H
      clear H
      have H := H1
      clear H1
      simp only [Option.some.injEq, Prod.mk.injEq] at H
      obtain ⟨rfl, rfl, rfl⟩ := H
      go_wp2
      go_ret3
      exact ⟨_, _, by first | rfl, by first | exact Kd.R_nil _ _ _ _ _, by first | exact Kd.R_nil _ _ _ _ _, by repeat ((with_reducible first | exact HB.out))⟩
    replace c9 := Bool.eq_false_iff.mpr c9
    subst c9
    have H1 : ((pyxref07_keys.f l0 t132 l2).bind fun bt136 => ((pyxref06_Seal.f bt136.1 bt136.2 ([] : List Int) l3).bind fun bt142 => (some (t132, bt142.1, 0)))) = some (r1, r2, r3) := by rw [if_neg (show ¬ (false = true) by decide)] at H; exact H
    clear H
    have H := H1
    clear H1
    replace H := Option.bind_eq_some_iff.mp H
    obtain ⟨⟨t136, t137⟩, A100, H⟩ := H
    replace H : ((pyxref06_Seal.f t136 t137 ([] : List Int) l3).bind fun bt142 => (some (t132, bt142.1, 0))) = some (r1, r2, r3) := H
    have A10 := Aside0.mk A100
    clear A100
    replace H := Option.bind_eq_some_iff.mp H
    obtain ⟨⟨t142, t143⟩, A110, H⟩ := H
    replace H : (some (t132, t142, 0)) = some (r1, r2, r3) := H
    have A11 := Aside0.mk A110
    clear A110
    simp only [Option.some.injEq, Prod.mk.injEq] at H
    obtain ⟨rfl, rfl, rfl⟩ := H
    obtain ⟨Ao12, co12, eo12⟩ := Kd.R_slice HO_11.out
    subst eo12
    go_wp2_with (first | ((with_reducible refine gate_callee (f := 61) rfl ?_); refine goesL_ (some 33) rfl rfl Try.func61 (by kernel_rfl) rfl #[.slice A0 l0.length c0, .slice Ao12 t132.length co12, .slice A2 l2.length c2] rfl (by (try simp only [List.map_toArray, List.map_cons, List.map_nil]); first | rfl) ?_; (with_reducible refine (pyxref07_keys.calls _ _ l0 _ _ t132 _ _ l2 t136 t137 _ ?side1 ?side2 ?side3 ?side4 ?side5 ?side6 A10.out).mono ?_); (case side1 => repeat (exact (Kd.C_below HR0.out HB.out))); (case side2 => exact HC0.out); (case side3 => repeat (exact (Kd.R_reads' HO_11.out).2.2)); (case side4 => exact (Kd.R_reads' HO_11.out).2.1); (case side5 => repeat (exact (Kd.C_below HR2.out HB.out))); (case side6 => exact HC2.out); rintro e w13 ⟨v138, v140, rfl, ho0, ho1, hb⟩; refine ⟨_, rfl, ?_⟩; have n0_ := Aside0.mk (Kd.R_mono (Kd.R_told (Kd.R_told (Kd.R_old (by (with_reducible repeat (fail)); exact HO_11.out) hb) (Kd.R_base ho0)) (Kd.R_base ho1)) (fun _ h_ => h_.1)); have n1_ := Aside0.mk (Kd.R_lower (Kd.R_new' ho0 (Kd.R_lt (by (with_reducible repeat (fail)); exact HO_11.out))) (below_size (by repeat ((with_reducible first | exact HB.out))))); have n2_ := Aside0.mk (Kd.R_lower (Kd.R_new' ho1 (Kd.R_lt (by (with_reducible repeat (fail)); exact HO_11.out))) (below_size (by repeat ((with_reducible first | exact HB.out))))); have n3_ := Aside0.mk (below_step (by repeat ((with_reducible first | exact HB.out))) hb); clear HO_11; clear HB; have HO_11 := n0_; have HO139 := n1_; have HO141 := n2_; have HB := n3_; clear n0_ n1_ n2_ n3_; (try clear hb); (try clear ho0); (try clear ho1); obtain ⟨Ao14, co14, eo14⟩ := Kd.R_slice HO139.out; subst eo14; obtain ⟨Ao15, co15, eo15⟩ := Kd.R_slice HO141.out; subst eo15) | ((with_reducible refine gate_callee (f := 17) rfl ?_); refine goesL_ (some 40) rfl rfl Try.func17 (by kernel_rfl) rfl #[.slice Ao14 t136.length co14, .slice Ao15 t137.length co15, .slice none 0 0, .slice A3 l3.length c3] rfl (by (try simp only [List.map_toArray, List.map_cons, List.map_nil]); first | rfl) ?_; (refine (pyxref06_Seal.calls _ _ t136 _ _ t137 _ _ ([] : List Int) _ _ l3 t142 t143 _ ?side1 ?side2 ?side3 ?side4 ?side5 ?side6 ?side7 ?side8 A11.out).mono ?_); (case side1 => repeat (exact (Kd.R_reads' HO139.out).2.2)); (case side2 => exact (Kd.R_reads' HO139.out).2.1); (case side3 => repeat (exact (Kd.R_reads' HO141.out).2.2)); (case side4 => exact (Kd.R_reads' HO141.out).2.1); (case side5 => exact Kd.C_nil _ _); (case side6 => exact Nat.le_refl _); (case side7 => repeat (exact (Kd.C_below HR3.out HB.out))); (case side8 => exact HC3.out); rintro e w16 ⟨v144, rfl, ho0, hb⟩; refine ⟨_, rfl, ?_⟩; have n0_ := Aside0.mk (Kd.R_elder' (by (with_reducible repeat (fail)); exact HO_11.out) (Kd.R_base ho0) hb); have n1_ := Aside0.mk (Kd.R_elder' (by (with_reducible repeat (fail)); exact HO139.out) (Kd.R_base ho0) hb); have n2_ := Aside0.mk (Kd.R_elder' (by (with_reducible repeat (fail)); exact HO141.out) (Kd.R_base ho0) hb); have n3_ := Aside0.mk (Kd.R_lower (Kd.R_new' (Kd.R_new' (Kd.R_new' ho0 (Kd.R_lt (by (with_reducible repeat (fail)); exact HO_11.out))) (Kd.R_lt (by (with_reducible repeat (fail)); exact HO139.out))) (Kd.R_lt (by (with_reducible repeat (fail)); exact HO141.out))) (below_size (by repeat ((with_reducible first | exact HB.out))))); have n4_ := Aside0.mk (below_step (by repeat ((with_reducible first | exact HB.out))) hb); clear HO_11; clear HO139; clear HO141; clear HB; have HO_11 := n0_; have HO139 := n1_; have HO141 := n2_; have HO145 := n3_; have HB := n4_; clear n0_ n1_ n2_ n3_ n4_; (try clear hb); (try clear ho0)))
    go_ret3
    exact ⟨_, _, by first | rfl, by (with_reducible repeat (fail)); exact Kd.R_mono HO_11.out (fun _ hk => hk.2), by (with_reducible repeat (fail)); exact Kd.R_mono HO145.out (fun _ hk => hk.1.1.2), by repeat ((with_reducible first | exact HB.out))⟩
/-! ### pyxref07_Unwrap: function 36 -/
def pyxref07_Unwrap.j0 : Nat → List Int → List Int → List Int → List Int → Bool → Option (List Int × Int)
  | 0, _, _, _, _, _ => none
  | k + 1, x1, x2, x3, x10, x25 => if x25 = true then (some (([] : List Int), 1)) else ((pyxref07_keys.f x10 x1 x2).bind fun bt150 => ((pyxref06_Open.f bt150.1 bt150.2 ([] : List Int) x3).bind fun bt156 => (some (bt156.1, bt156.2))))
def pyxref07_Unwrap.f (k : Nat) (l0 : List Int) (l1 : List Int) (l2 : List Int) (l3 : List Int) : Option (List Int × Int) := (pyxref07_Public.f l0).bind fun bt146 => (if bt146.2 = 0 then (pyxref07_Unwrap.j0 k l1 l2 l3 bt146.1 ((l1.length : Int) != 32)) else (pyxref07_Unwrap.j0 k l1 l2 l3 bt146.1 true))
set_option maxHeartbeats 8000000 in
set_option maxRecDepth 100000 in
theorem pyxref07_Unwrap.calls (k : Nat) (A0 : Option Addr) (c0 : Nat) (l0 : List Int) (A1 : Option Addr) (c1 : Nat) (l1 : List Int) (A2 : Option Addr) (c2 : Nat) (l2 : List Int) (A3 : Option Addr) (c3 : Nat) (l3 : List Int) (r1 : List Int) (r2 : Int) (w : World) (hr0 : Kd.C (Kd.int .u8) w A0 l0.length l0) (hc0 : l0.length ≤ c0) (hr1 : Kd.C (Kd.int .u8) w A1 l1.length l1) (hc1 : l1.length ≤ c1) (hr2 : Kd.C (Kd.int .u8) w A2 l2.length l2) (hc2 : l2.length ≤ c2) (hr3 : Kd.C (Kd.int .u8) w A3 l3.length l3) (hc3 : l3.length ≤ c3) (h : pyxref07_Unwrap.f k l0 l1 l2 l3 = some (r1, r2)) :
    Calls Try.prog 36 #[.slice A0 l0.length c0, .slice A1 l1.length c1, .slice A2 l2.length c2, .slice A3 l3.length c3] w fun e w' => ∃ v0_ : Value, e = .returned (.tuple #[v0_, .int .i64 r2]) ∧ Kd.R (Kd.int .u8) 5 w' w.heap.size (fun _ => True) v0_ r1 ∧ Below w.heap.size w w' := by
  have HR0 := Aside0.mk hr0
  have HC0 := Aside0.mk hc0
  clear hr0 hc0
  have HR1 := Aside0.mk hr1
  have HC1 := Aside0.mk hc1
  clear hr1 hc1
  have HR2 := Aside0.mk hr2
  have HC2 := Aside0.mk hc2
  clear hr2 hc2
  have HR3 := Aside0.mk hr3
  have HC3 := Aside0.mk hc3
  clear hr3 hc3
  have HB := Aside0.mk (Below.refl w.heap.size w)
  have H : ((pyxref07_Public.f l0).bind fun bt146 => (if bt146.2 = 0 then (pyxref07_Unwrap.j0 k l1 l2 l3 bt146.1 ((l1.length : Int) != 32)) else (pyxref07_Unwrap.j0 k l1 l2 l3 bt146.1 true))) = some (r1, r2) := h
  clear h
  replace H := Option.bind_eq_some_iff.mp H
  obtain ⟨⟨t146, t147⟩, A50, H⟩ := H
  replace H : (if t147 = 0 then (pyxref07_Unwrap.j0 k l1 l2 l3 t146 ((l1.length : Int) != 32)) else (pyxref07_Unwrap.j0 k l1 l2 l3 t146 true)) = some (r1, r2) := H
  have A5 := Aside0.mk A50
  clear A50
  have HC6 := Aside0.mk H
  clear H
  go_enter Try.func36, Try.ntmps36
  go_upto_region 2 with (first | ((with_reducible refine gate_callee (f := 28) rfl ?_); refine goesL_ (some 16) rfl rfl Try.func28 (by kernel_rfl) rfl #[.slice A0 l0.length c0] rfl (by (try simp only [List.map_toArray, List.map_cons, List.map_nil]); first | rfl) ?_; (with_reducible refine (pyxref07_Public.calls _ _ l0 t146 t147 _ ?side1 ?side2 A5.out).mono ?_); (case side1 => repeat (exact HR0.out)); (case side2 => exact HC0.out); rintro e w7 ⟨v148, rfl, ho0, hb⟩; refine ⟨_, rfl, ?_⟩; have n0_ := Aside0.mk (Kd.R_lower ho0 (below_size (by repeat ((with_reducible first | exact HB.out))))); have n1_ := Aside0.mk (below_step (by repeat ((with_reducible first | exact HB.out))) hb); clear HB; have HO149 := n0_; have HB := n1_; clear n0_ n1_; (try clear hb); (try clear ho0)))
  (skip)
  go_cut [25] (fun v25 wc => ∃ (kq : Nat) (x25_5 : Bool), v25 = .bool x25_5 ∧ Aside0 (pyxref07_Unwrap.j0 kq l1 l2 l3 t146 x25_5 = some (r1, r2)) ∧ Aside0 (kq ≤ k) ∧ Aside0 (Kd.R (Kd.int .u8) 5 wc w.heap.size (fun _ => True) v148 t146) ∧ Aside0 (Below w.heap.size w wc))
  case first =>
    have H := HC6.out
    clear HC6
    by_cases c8 : t147 = 0
    rotate_left
    · rw [if_neg c8] at H
      have c8b0 : (t147 == 0) = false := beq_eq_false_iff_ne.mpr c8
      have c8b1 : (t147 != 0) = true := bne_iff_ne.mpr c8
      (skip)
      have H' := Aside0.mk H
      clear H
      go_wp2
      go_meet
      case rel => exact ⟨_, (true), (by first | rfl), H', ⟨by first | omega⟩, ⟨by (with_reducible repeat (fail)); exact HO149.out⟩, ⟨by repeat ((with_reducible first | exact HB.out))⟩⟩
    rw [if_pos c8] at H
    have c8b0 : (t147 == 0) = true := beq_iff_eq.mpr c8
    have c8b1 : (t147 != 0) = false := bne_eq_false_iff_eq.mpr c8
    clear c8
    (skip)
    have H' := Aside0.mk H
    clear H
    go_wp2
    go_meet
    case rel => exact ⟨_, (((l1.length : Int) != 32)), (by first | rfl), H', ⟨by first | omega⟩, ⟨by (with_reducible repeat (fail)); exact HO149.out⟩, ⟨by repeat ((with_reducible first | exact HB.out))⟩⟩
  clear HC6
  skip
  skip
  skip
  skip
  skip
  skip
  skip
  obtain ⟨kq, x25_5, rfl, HA, HJ5, HO_10, HB⟩ := hcut
  cases kq with
  | zero => exact absurd HA.out (by simp [pyxref07_Unwrap.j0])
  | succ kj5 =>
    have H := HA.out
    clear HA
    simp only [pyxref07_Unwrap.j0] at H
    by_cases c9 : x25_5 = true
    · subst c9
      have H1 : (some (([] : List Int), 1)) = some (r1, r2) := by rw [if_pos rfl] at H; exact H
      clear H
      have H := H1
      clear H1
      simp only [Option.some.injEq, Prod.mk.injEq] at H
      obtain ⟨rfl, rfl⟩ := H
      go_wp2
      go_ret2
      exact ⟨_, by first | rfl, by first | exact Kd.R_nil _ _ _ _ _, by repeat ((with_reducible first | exact HB.out))⟩
    replace c9 := Bool.eq_false_iff.mpr c9
    subst c9
    have H1 : ((pyxref07_keys.f t146 l1 l2).bind fun bt150 => ((pyxref06_Open.f bt150.1 bt150.2 ([] : List Int) l3).bind fun bt156 => (some (bt156.1, bt156.2)))) = some (r1, r2) := by rw [if_neg (show ¬ (false = true) by decide)] at H; exact H
    clear H
    have H := H1
    clear H1
    replace H := Option.bind_eq_some_iff.mp H
    obtain ⟨⟨t150, t151⟩, A100, H⟩ := H
    replace H : ((pyxref06_Open.f t150 t151 ([] : List Int) l3).bind fun bt156 => (some (bt156.1, bt156.2))) = some (r1, r2) := H
    have A10 := Aside0.mk A100
    clear A100
    replace H := Option.bind_eq_some_iff.mp H
    obtain ⟨⟨t156, t157⟩, A110, H⟩ := H
    replace H : (some (t156, t157)) = some (r1, r2) := H
    have A11 := Aside0.mk A110
    clear A110
    simp only [Option.some.injEq, Prod.mk.injEq] at H
    obtain ⟨rfl, rfl⟩ := H
    obtain ⟨Ao12, co12, eo12⟩ := Kd.R_slice HO_10.out
    subst eo12
    go_wp2_with (first | ((with_reducible refine gate_callee (f := 61) rfl ?_); refine goesL_ (some 30) rfl rfl Try.func61 (by kernel_rfl) rfl #[.slice Ao12 t146.length co12, .slice A1 l1.length c1, .slice A2 l2.length c2] rfl (by (try simp only [List.map_toArray, List.map_cons, List.map_nil]); first | rfl) ?_; (with_reducible refine (pyxref07_keys.calls _ _ t146 _ _ l1 _ _ l2 t150 t151 _ ?side1 ?side2 ?side3 ?side4 ?side5 ?side6 A10.out).mono ?_); (case side1 => repeat (exact (Kd.R_reads' HO_10.out).2.2)); (case side2 => exact (Kd.R_reads' HO_10.out).2.1); (case side3 => repeat (exact (Kd.C_below HR1.out HB.out))); (case side4 => exact HC1.out); (case side5 => repeat (exact (Kd.C_below HR2.out HB.out))); (case side6 => exact HC2.out); rintro e w13 ⟨v152, v154, rfl, ho0, ho1, hb⟩; refine ⟨_, rfl, ?_⟩; have n0_ := Aside0.mk (Kd.R_mono (Kd.R_told (Kd.R_told (Kd.R_old (by (with_reducible repeat (fail)); exact HO_10.out) hb) (Kd.R_base ho0)) (Kd.R_base ho1)) (fun _ h_ => h_.1)); have n1_ := Aside0.mk (Kd.R_lower (Kd.R_new' ho0 (Kd.R_lt (by (with_reducible repeat (fail)); exact HO_10.out))) (below_size (by repeat ((with_reducible first | exact HB.out))))); have n2_ := Aside0.mk (Kd.R_lower (Kd.R_new' ho1 (Kd.R_lt (by (with_reducible repeat (fail)); exact HO_10.out))) (below_size (by repeat ((with_reducible first | exact HB.out))))); have n3_ := Aside0.mk (below_step (by repeat ((with_reducible first | exact HB.out))) hb); clear HO_10; clear HB; have HO_10 := n0_; have HO153 := n1_; have HO155 := n2_; have HB := n3_; clear n0_ n1_ n2_ n3_; (try clear hb); (try clear ho0); (try clear ho1); obtain ⟨Ao14, co14, eo14⟩ := Kd.R_slice HO153.out; subst eo14; obtain ⟨Ao15, co15, eo15⟩ := Kd.R_slice HO155.out; subst eo15) | ((with_reducible refine gate_callee (f := 20) rfl ?_); refine goesL_ (some 36) rfl rfl Try.func20 (by kernel_rfl) rfl #[.slice Ao14 t150.length co14, .slice Ao15 t151.length co15, .slice none 0 0, .slice A3 l3.length c3] rfl (by (try simp only [List.map_toArray, List.map_cons, List.map_nil]); first | rfl) ?_; (refine (pyxref06_Open.calls _ _ t150 _ _ t151 _ _ ([] : List Int) _ _ l3 t156 t157 _ ?side1 ?side2 ?side3 ?side4 ?side5 ?side6 ?side7 ?side8 A11.out).mono ?_); (case side1 => repeat (exact (Kd.R_reads' HO153.out).2.2)); (case side2 => exact (Kd.R_reads' HO153.out).2.1); (case side3 => repeat (exact (Kd.R_reads' HO155.out).2.2)); (case side4 => exact (Kd.R_reads' HO155.out).2.1); (case side5 => exact Kd.C_nil _ _); (case side6 => exact Nat.le_refl _); (case side7 => repeat (exact (Kd.C_below HR3.out HB.out))); (case side8 => exact HC3.out); rintro e w16 ⟨v158, rfl, ho0, hb⟩; refine ⟨_, rfl, ?_⟩; have n0_ := Aside0.mk (Kd.R_elder' (by (with_reducible repeat (fail)); exact HO_10.out) (Kd.R_base ho0) hb); have n1_ := Aside0.mk (Kd.R_elder' (by (with_reducible repeat (fail)); exact HO153.out) (Kd.R_base ho0) hb); have n2_ := Aside0.mk (Kd.R_elder' (by (with_reducible repeat (fail)); exact HO155.out) (Kd.R_base ho0) hb); have n3_ := Aside0.mk (Kd.R_lower (Kd.R_new' (Kd.R_new' (Kd.R_new' ho0 (Kd.R_lt (by (with_reducible repeat (fail)); exact HO_10.out))) (Kd.R_lt (by (with_reducible repeat (fail)); exact HO153.out))) (Kd.R_lt (by (with_reducible repeat (fail)); exact HO155.out))) (below_size (by repeat ((with_reducible first | exact HB.out))))); have n4_ := Aside0.mk (below_step (by repeat ((with_reducible first | exact HB.out))) hb); clear HO_10; clear HO153; clear HO155; clear HB; have HO_10 := n0_; have HO153 := n1_; have HO155 := n2_; have HO159 := n3_; have HB := n4_; clear n0_ n1_ n2_ n3_ n4_; (try clear hb); (try clear ho0)))
    go_ret2
    exact ⟨_, by first | rfl, by (with_reducible repeat (fail)); exact Kd.R_mono HO159.out (fun _ hk => trivial), by repeat ((with_reducible first | exact HB.out))⟩
end Go.Proofs.Ytifpdpfjhjoieaa.J

/-! SigD -/
namespace Go.Proofs.Ytifpdpfjhjoieaa
set_option linter.unusedVariables false
set_option linter.unusedSimpArgs false
open Go.RowKit Go.Shelf Iter Go.Proofs.YtifpdpfjhjoieaaW.PrintWords Go.Proofs.YtifpdpfjhjoieaaW.PrintLast
attribute [local go_sem] Oper.semAt_some
/-- One row, laid as a row of rows. -/
theorem c_one (W : World) (T : Nat) (A : Option Addr) (c : Nat) (x : List Int) (hx : Kd.C (Kd.int .u8) W A x.length x) (hcx : x.length ≤ c) :
    Kd.C (Kd.slice 5 (Kd.int .u8)) (W.alloc (.cells #[.slice A x.length c] T)) (some ⟨W.heap.size, 0, none⟩) 1 [x] := by
  refine ⟨rfl, by omega, fun _ => ⟨_, rfl, fun j p hj => ?_⟩⟩
  have hcell : ∀ j, (W.alloc (.cells #[.slice A x.length c] T)).cell? ((⟨W.heap.size, 0, none⟩ : Addr).add j) = (#[Value.slice A x.length c] : Array Value)[j]? := fun j => by
    rw [add_plain]
    exact cell_of_row _ _ _ _ _ _ (heap_alloc_new W _)
  rcases j with _ | j
  · injection hj with hj
    subst hj
    refine ⟨[.slice A x.length c], rfl, ⟨A, c, rfl, hcx, Kd.C_alloc hx _⟩, fun i u hu => ?_⟩
    rcases i with _ | i
    · exact (hcell 0).trans hu
    · cases hu
  · cases hj
theorem right_one (x : List Int) : J.sig_right.f 3 [x] = some (decide (x.length = 32)) := by
  have h1 : wrap64 1 = 1 := by first | rfl | (simp [wrap64]; done) | (unfold wrap64; decide) | go_num
  have h0 : J.rd_L1 [x] 0 = x := rfl
  unfold J.sig_right.f
  by_cases h : x.length = 32
  · have h' : ((x.length : Nat) : Int) = 32 := by omega
    simp [J.sig_right.l0, h0, h1, h]
  · have h' : ¬ ((x.length : Nat) : Int) = 32 := by omega
    simp [J.sig_right.l0, h0, h1, h, h']
def labPublic : ByteArray := ⟨#[112, 117, 98, 108, 105, 99]⟩
set_option maxRecDepth 100000 in
set_option maxHeartbeats 1000000 in
theorem sigPublic_calls (A0 : Option Addr) (c0 : Nat) (l0 : List Int) (w : World) (hr0 : Kd.C (Kd.int .u8) w A0 l0.length l0) (hc0 : l0.length ≤ c0) (h32 : l0.length = 32) (ho : byteOk l0 = true) :
    Calls Try.prog 27 #[.slice A0 l0.length c0] w fun e w' => ∃ v, e = .returned (.tuple #[v, .int .i64 0]) ∧ Kd.R (Kd.int .u8) 5 w' w.heap.size (fun _ => True) v (labelOf l0 labPublic [] 32) ∧ Below w.heap.size w w' := by
  have H32 := Lib.hid h32
  have HK := Lib.hid (And.intro hr0 ho)
  have hc1 := c_one w 22 A0 c0 l0 hr0 hc0
  have H1 := Lib.hid hc1
  clear hr0 ho hc1 h32
  go_enter Try.func27, Try.ntmps27
  go_wp2_with fail
  refine (J.sig_right.calls 3 (some ⟨w.heap.size, 0, none⟩) 1 [l0] true _ H1.out (Nat.le_refl _) (by rw [right_one, H32.out]; rfl)).mono ?_
  rintro e W1 ⟨rfl, hb1⟩
  go_wp2_with fail
  have hb0 := (Below.refl w.heap.size w).alloc (Nat.le_refl _) (Obj.cells #[.slice A0 l0.length c0] 22)
  have hbw : Below w.heap.size w W1 := hb0.trans ((Drawn0.below hb1).mono hb0.size)
  have HW := Lib.hid (And.intro (Kd.C_below HK.out.1 hbw) hbw)
  clear hb0 hbw hb1 H1
  have hnil : Kd.C (Kd.int .u8) W1 none ([] : List Int).length [] := ⟨rfl, by decide, fun h => absurd h (by decide)⟩
  refine (sigLabel_calls labPublic 32 32 rfl (by decide) (by decide) A0 c0 l0 none 0 [] W1 HK.out.2 (by rw [H32.out]; decide) rfl (by decide) HW.out.1 hc0 hnil (Nat.le_refl _)).mono ?_
  rintro e W2 ⟨v2, rfl, hR2, hb2⟩
  have H2 := Lib.hid (And.intro (Kd.R_lower hR2 HW.out.2.size) (HW.out.2.trans (hb2.mono HW.out.2.size)))
  clear hR2 hb2
  go_wp2
  go_ret2
  exact ⟨v2, rfl, H2.out⟩
set_option maxRecDepth 100000 in
set_option maxHeartbeats 1000000 in
theorem sigPublic_bad (A0 : Option Addr) (c0 : Nat) (l0 : List Int) (w : World) (hr0 : Kd.C (Kd.int .u8) w A0 l0.length l0) (hc0 : l0.length ≤ c0) (h32 : l0.length ≠ 32) :
    Calls Try.prog 27 #[.slice A0 l0.length c0] w fun e w' => ∃ v, e = .returned (.tuple #[v, .int .i64 1]) ∧ Kd.R (Kd.int .u8) 5 w' w.heap.size (fun _ => True) v [] ∧ Below w.heap.size w w' := by
  have H32 := Lib.hid h32
  have hc1 := c_one w 22 A0 c0 l0 hr0 hc0
  have H1 := Lib.hid hc1
  clear hr0 hc1 h32
  go_enter Try.func27, Try.ntmps27
  go_wp2_with fail
  refine (J.sig_right.calls 3 (some ⟨w.heap.size, 0, none⟩) 1 [l0] false _ H1.out (Nat.le_refl _) (by rw [right_one]; simp [H32.out])).mono ?_
  rintro e W1 ⟨rfl, hb1⟩
  have hb0 := (Below.refl w.heap.size w).alloc (Nat.le_refl _) (Obj.cells #[.slice A0 l0.length c0] 22)
  have HW := Lib.hid (hb0.trans ((Drawn0.below hb1).mono hb0.size))
  clear hb0 hb1 H1
  go_wp2
  go_ret2
  exact ⟨_, rfl, Kd.R_nil _ _ _ _ _, HW.out⟩
namespace P
def sig_Public.f (l0 : List Int) : Option (List Int × Int) := if l0.length = 32 then (if byteOk l0 = true then some (labelOf l0 labPublic [] 32, 0) else none) else some ([], 1)
theorem sig_Public.calls (A0 : Option Addr) (c0 : Nat) (l0 : List Int) (r1 : List Int) (r2 : Int) (w : World) (hr0 : Kd.C (Kd.int .u8) w A0 l0.length l0) (hc0 : l0.length ≤ c0) (h : sig_Public.f l0 = some (r1, r2)) :
    Calls Try.prog 27 #[.slice A0 l0.length c0] w fun e w' => ∃ v0_ : Value, e = .returned (.tuple #[v0_, .int .i64 r2]) ∧ Kd.R (Kd.int .u8) 5 w' w.heap.size (fun _ => True) v0_ r1 ∧ Below w.heap.size w w' := by
  unfold sig_Public.f at h
  split at h
  case isTrue h32 =>
    split at h
    case isFalse => cases h
    case isTrue ho =>
    injection h with h
    injection h with h1 h2
    subst h1 h2
    exact sigPublic_calls A0 c0 l0 w hr0 hc0 h32 ho
  case isFalse h32 =>
    injection h with h
    injection h with h1 h2
    subst h1 h2
    exact sigPublic_bad A0 c0 l0 w hr0 hc0 h32
end P
end Go.Proofs.Ytifpdpfjhjoieaa

/-! SigE -/
namespace Go.Proofs.Ytifpdpfjhjoieaa
set_option linter.unusedVariables false
set_option linter.unusedSimpArgs false
open Go.RowKit Go.Shelf Iter Go.Proofs.YtifpdpfjhjoieaaW.PrintWords Go.Proofs.YtifpdpfjhjoieaaW.PrintLast
attribute [local go_sem] Oper.semAt_some
set_option maxRecDepth 100000 in
set_option maxHeartbeats 1000000 in
theorem sigVerify_calls (A0 : Option Addr) (c0 : Nat) (l0 : List Int) (a1 : ByteArray) (A2 : Option Addr) (c2 : Nat) (l2 : List Int) (A3 : Option Addr) (c3 : Nat) (l3 : List Int) (w : World) (hr0 : Kd.C (Kd.int .u8) w A0 l0.length l0) (hc0 : l0.length ≤ c0) (hr2 : Kd.C (Kd.int .u8) w A2 l2.length l2) (hc2 : l2.length ≤ c2) (hr3 : Kd.C (Kd.int .u8) w A3 l3.length l3) (hc3 : l3.length ≤ c3) (h32 : l0.length = 32) (hs : smallT l0 a1 l2) (o3 : byteOk l3 = true) :
    Calls Try.prog 31 #[.slice A0 l0.length c0, .string a1, .slice A2 l2.length c2, .slice A3 l3.length c3] w fun e w' => e = .returned (.int .i64 (if (sigTag l0 a1 l2 == l3) = true then 0 else 5)) ∧ Below w.heap.size w w' := by
  have H32 := Lib.hid h32
  have hc1 := c_one w 22 A0 c0 l0 hr0 hc0
  have H1 := Lib.hid hc1
  have HT := Lib.hid (show P.sig_tag.f l0 a1 l2 = some (sigTag l0 a1 l2, 0) by unfold P.sig_tag.f; rw [if_pos hs])
  have HM := Lib.hid (show P.mac_Same.f (sigTag l0 a1 l2) l3 = some (sigTag l0 a1 l2 == l3) by unfold P.mac_Same.f; rw [if_pos ⟨byteOk_sigTag _ _ _, o3, by rw [sigTag_length]; decide⟩])
  have HK := Lib.hid (And.intro hr0 (And.intro hr2 hr3))
  clear hr0 hr2 hr3 hc1 h32 hs o3
  generalize sigTag l0 a1 l2 = G at *
  generalize (G == l3) = B at *
  go_enter Try.func31, Try.ntmps31
  go_wp2_with fail
  refine (J.sig_right.calls 3 (some ⟨w.heap.size, 0, none⟩) 1 [l0] true _ H1.out (Nat.le_refl _) (by rw [right_one, H32.out]; rfl)).mono ?_
  rintro e W1 ⟨rfl, hb1⟩
  have hb0 := (Below.refl w.heap.size w).alloc (Nat.le_refl _) (Obj.cells #[.slice A0 l0.length c0] 22)
  have HW := Lib.hid (hb0.trans ((Drawn0.below hb1).mono hb0.size))
  clear hb0 hb1 H1
  go_wp2_with fail
  refine (P.sig_tag.calls A0 c0 l0 a1 A2 c2 l2 G 0 W1 (Kd.C_below HK.out.1 HW.out) hc0 (Kd.C_below HK.out.2.1 HW.out) hc2 HT.out).mono ?_
  rintro e W2 ⟨v2, rfl, hR2, hb2⟩
  obtain ⟨A4, c4, rfl, hl4, hC4⟩ := Kd.R_reads hR2
  have hbw := HW.out.trans (hb2.mono HW.out.size)
  have H2 := Lib.hid (And.intro hC4 (And.intro (Kd.C_below HK.out.2.2 hbw) hbw))
  clear hR2 hb2 hC4 hbw HW
  go_wp2_with fail
  refine (P.mac_Same.calls A4 c4 G A3 c3 l3 B W2 H2.out.1 hl4 H2.out.2.1 hc3 HM.out).mono ?_
  rintro e W3 ⟨rfl, hb3⟩
  have H3 := Lib.hid (H2.out.2.2.trans ((Drawn0.below hb3).mono H2.out.2.2.size))
  clear hb3 H2
  cases B
  · go_wp2
    go_ret
    exact ⟨rfl, H3.out⟩
  · go_wp2
    go_ret
    exact ⟨rfl, H3.out⟩
set_option maxRecDepth 100000 in
set_option maxHeartbeats 1000000 in
theorem sigVerify_bad (A0 : Option Addr) (c0 : Nat) (l0 : List Int) (a1 : ByteArray) (v2 v3 : Value) (w : World) (hr0 : Kd.C (Kd.int .u8) w A0 l0.length l0) (hc0 : l0.length ≤ c0) (h32 : l0.length ≠ 32) :
    Calls Try.prog 31 #[.slice A0 l0.length c0, .string a1, v2, v3] w fun e w' => e = .returned (.int .i64 1) ∧ Below w.heap.size w w' := by
  have H32 := Lib.hid h32
  have hc1 := c_one w 22 A0 c0 l0 hr0 hc0
  have H1 := Lib.hid hc1
  clear hr0 hc1 h32
  go_enter Try.func31, Try.ntmps31
  go_wp2_with fail
  refine (J.sig_right.calls 3 (some ⟨w.heap.size, 0, none⟩) 1 [l0] false _ H1.out (Nat.le_refl _) (by rw [right_one]; simp [H32.out])).mono ?_
  rintro e W1 ⟨rfl, hb1⟩
  have hb0 := (Below.refl w.heap.size w).alloc (Nat.le_refl _) (Obj.cells #[.slice A0 l0.length c0] 22)
  have HW := Lib.hid (hb0.trans ((Drawn0.below hb1).mono hb0.size))
  clear hb0 hb1 H1
  go_wp2
  go_ret
  exact ⟨rfl, HW.out⟩
namespace P
def sig_Verify.f (pub : List Int) (lab : ByteArray) (b s : List Int) : Option Int := if pub.length = 32 then (if smallT pub lab b ∧ byteOk s = true then some (if (sigTag pub lab b == s) = true then 0 else 5) else none) else some 1
theorem sig_Verify.calls (A0 : Option Addr) (c0 : Nat) (l0 : List Int) (a1 : ByteArray) (A2 : Option Addr) (c2 : Nat) (l2 : List Int) (A3 : Option Addr) (c3 : Nat) (l3 : List Int) (r : Int) (w : World) (hr0 : Kd.C (Kd.int .u8) w A0 l0.length l0) (hc0 : l0.length ≤ c0) (hr2 : Kd.C (Kd.int .u8) w A2 l2.length l2) (hc2 : l2.length ≤ c2) (hr3 : Kd.C (Kd.int .u8) w A3 l3.length l3) (hc3 : l3.length ≤ c3) (h : sig_Verify.f l0 a1 l2 l3 = some r) :
    Calls Try.prog 31 #[.slice A0 l0.length c0, .string a1, .slice A2 l2.length c2, .slice A3 l3.length c3] w fun e w' => e = .returned (.int .i64 r) ∧ Below w.heap.size w w' := by
  unfold sig_Verify.f at h
  split at h
  case isTrue h32 =>
    split at h
    case isFalse => cases h
    case isTrue ho =>
    injection h with h
    subst h
    exact sigVerify_calls A0 c0 l0 a1 A2 c2 l2 A3 c3 l3 w hr0 hc0 hr2 hc2 hr3 hc3 h32 ho.1 ho.2
  case isFalse h32 =>
    injection h with h
    subst h
    exact sigVerify_bad A0 c0 l0 a1 _ _ w hr0 hc0 h32
end P
end Go.Proofs.Ytifpdpfjhjoieaa

/-! SigF -/
namespace Go.Proofs.Ytifpdpfjhjoieaa
set_option linter.unusedVariables false
set_option linter.unusedSimpArgs false
open Go.RowKit Go.Shelf Iter Go.Proofs.YtifpdpfjhjoieaaW.PrintWords Go.Proofs.YtifpdpfjhjoieaaW.PrintLast
attribute [local go_sem] Oper.semAt_some
def pubOf (seed : List Int) : List Int := labelOf seed labPublic [] 32
theorem pubOf_length (seed : List Int) : (pubOf seed).length = 32 := labelOf_length _ _ _ _
theorem byteOk_pubOf (seed : List Int) : byteOk (pubOf seed) = true := byteOk_labelOf _ _ _ _
def wrapKey (pub half info : List Int) : List Int := labelOf (macSum pub half) labKey info 32
def wrapNonce (pub half info : List Int) : List Int := labelOf (macSum pub half) labNonce info 12
theorem wrapKey_length (pub half info : List Int) : (wrapKey pub half info).length = 32 := labelOf_length _ _ _ _
theorem wrapNonce_length (pub half info : List Int) : (wrapNonce pub half info).length = 12 := labelOf_length _ _ _ _
theorem byteOk_wrapKey (pub half info : List Int) : byteOk (wrapKey pub half info) = true := byteOk_labelOf _ _ _ _
theorem byteOk_wrapNonce (pub half info : List Int) : byteOk (wrapNonce pub half info) = true := byteOk_labelOf _ _ _ _
theorem public_32 (l0 : List Int) (h32 : l0.length = 32) (ho : byteOk l0 = true) : P.sig_Public.f l0 = some (pubOf l0, 0) := by
  unfold P.sig_Public.f
  rw [if_pos h32, if_pos ho]
  rfl
theorem public_bad (l0 : List Int) (h32 : l0.length ≠ 32) : P.sig_Public.f l0 = some ([], 1) := by
  unfold P.sig_Public.f
  rw [if_neg h32]
theorem smallT_pub (l0 : List Int) (lab : ByteArray) (b : List Int) (h : smallT l0 lab b) : smallT (pubOf l0) lab b := ⟨byteOk_pubOf _, h.2.1, by rw [pubOf_length]; decide, h.2.2.2.1, h.2.2.2.2⟩
def smallW (info b : List Int) : Prop := byteOk info = true ∧ byteOk b = true ∧ info.length ≤ 100000 ∧ b.length ≤ 300000
instance (info b : List Int) : Decidable (smallW info b) := by unfold smallW; infer_instance
theorem shared_some (pub half info : List Int) (o0 : byteOk pub = true) (o1 : byteOk half = true) (o2 : byteOk info = true) (k0 : pub.length = 32) (k1 : half.length = 32) (k2 : info.length ≤ 100000) : P.sig_shared.f pub half info = some (wrapKey pub half info, wrapNonce pub half info) := by
  unfold P.sig_shared.f
  rw [if_pos ⟨o0, o1, o2, by omega, by omega, k2⟩]
  rfl
theorem wrap_seal (pub half info b : List Int) (h : smallW info b) : P.seal_Seal.f (wrapKey pub half info) (wrapNonce pub half info) [] b = some (sealOf (wrapKey pub half info) (wrapNonce pub half info) [] b, 0) := by
  unfold P.seal_Seal.f
  rw [if_pos ⟨byteOk_wrapKey _ _ _, byteOk_wrapNonce _ _ _, rfl, h.2.1, by decide, h.2.2.2⟩, if_pos ⟨wrapKey_length _ _ _, wrapNonce_length _ _ _⟩]
theorem wrap_open (pub half info b : List Int) (h : smallW info b) : P.seal_Open.f (wrapKey pub half info) (wrapNonce pub half info) [] b = some (openR (wrapKey pub half info) (wrapNonce pub half info) [] b) := by
  unfold P.seal_Open.f
  rw [if_pos ⟨byteOk_wrapKey _ _ _, byteOk_wrapNonce _ _ _, rfl, h.2.1, by decide, h.2.2.2⟩]
set_option maxRecDepth 100000 in
set_option maxHeartbeats 1000000 in
theorem sigSign_calls (A0 : Option Addr) (c0 : Nat) (l0 : List Int) (a1 : ByteArray) (A2 : Option Addr) (c2 : Nat) (l2 : List Int) (w : World) (hr0 : Kd.C (Kd.int .u8) w A0 l0.length l0) (hc0 : l0.length ≤ c0) (hr2 : Kd.C (Kd.int .u8) w A2 l2.length l2) (hc2 : l2.length ≤ c2) (h32 : l0.length = 32) (hs : smallT l0 a1 l2) :
    Calls Try.prog 29 #[.slice A0 l0.length c0, .string a1, .slice A2 l2.length c2] w fun e w' => ∃ v, e = .returned (.tuple #[v, .int .i64 0]) ∧ Kd.R (Kd.int .u8) 5 w' w.heap.size (fun _ => True) v (sigTag (pubOf l0) a1 l2) ∧ Below w.heap.size w w' := by
  have HP := Lib.hid (public_32 l0 h32 hs.1)
  have HT := Lib.hid (show P.sig_tag.f (pubOf l0) a1 l2 = some (sigTag (pubOf l0) a1 l2, 0) by unfold P.sig_tag.f; rw [if_pos (smallT_pub _ _ _ hs)])
  have HK := Lib.hid (And.intro hr0 hr2)
  clear hr0 hr2 h32 hs
  generalize sigTag (pubOf l0) a1 l2 = G at *
  generalize pubOf l0 = p at *
  go_enter Try.func29, Try.ntmps29
  go_wp2_with fail
  refine (P.sig_Public.calls A0 c0 l0 p 0 w HK.out.1 hc0 HP.out).mono ?_
  rintro e W1 ⟨v1, rfl, hR1, hb1⟩
  obtain ⟨A3, c3, rfl, hl3, hC3⟩ := Kd.R_reads hR1
  have H1 := Lib.hid (And.intro hC3 (And.intro (Kd.C_below HK.out.2 hb1) hb1))
  clear hR1 hC3 hb1
  go_wp2_with fail
  refine (P.sig_tag.calls A3 c3 p a1 A2 c2 l2 G 0 W1 H1.out.1 hl3 H1.out.2.1 hc2 HT.out).mono ?_
  rintro e W2 ⟨v2, rfl, hR2, hb2⟩
  have H2 := Lib.hid (And.intro (Kd.R_lower hR2 H1.out.2.2.size) (H1.out.2.2.trans (hb2.mono H1.out.2.2.size)))
  clear hR2 hb2
  go_wp2
  go_ret2
  exact ⟨v2, rfl, H2.out⟩
set_option maxRecDepth 100000 in
set_option maxHeartbeats 1000000 in
theorem sigSign_bad (A0 : Option Addr) (c0 : Nat) (l0 : List Int) (a1 : ByteArray) (v2 : Value) (w : World) (hr0 : Kd.C (Kd.int .u8) w A0 l0.length l0) (hc0 : l0.length ≤ c0) (h32 : l0.length ≠ 32) :
    Calls Try.prog 29 #[.slice A0 l0.length c0, .string a1, v2] w fun e w' => ∃ v, e = .returned (.tuple #[v, .int .i64 1]) ∧ Kd.R (Kd.int .u8) 5 w' w.heap.size (fun _ => True) v [] ∧ Below w.heap.size w w' := by
  have HP := Lib.hid (public_bad l0 h32)
  have HK := Lib.hid hr0
  clear hr0 h32
  go_enter Try.func29, Try.ntmps29
  go_wp2_with fail
  refine (P.sig_Public.calls A0 c0 l0 [] 1 w HK.out hc0 HP.out).mono ?_
  rintro e W1 ⟨v1, rfl, hR1, hb1⟩
  have H1 := Lib.hid hb1
  clear hR1 hb1
  go_wp2
  go_ret2
  exact ⟨_, rfl, Kd.R_nil _ _ _ _ _, H1.out⟩
set_option maxRecDepth 100000 in
set_option maxHeartbeats 1000000 in
theorem sigUnwrap_calls (A0 : Option Addr) (c0 : Nat) (l0 : List Int) (A1 : Option Addr) (c1 : Nat) (l1 : List Int) (A2 : Option Addr) (c2 : Nat) (l2 : List Int) (A3 : Option Addr) (c3 : Nat) (l3 : List Int) (w : World) (hr0 : Kd.C (Kd.int .u8) w A0 l0.length l0) (hc0 : l0.length ≤ c0) (hr1 : Kd.C (Kd.int .u8) w A1 l1.length l1) (hc1 : l1.length ≤ c1) (hr2 : Kd.C (Kd.int .u8) w A2 l2.length l2) (hc2 : l2.length ≤ c2) (hr3 : Kd.C (Kd.int .u8) w A3 l3.length l3) (hc3 : l3.length ≤ c3) (h0 : l0.length = 32) (o0 : byteOk l0 = true) (h1 : l1.length = 32) (o1 : byteOk l1 = true) (hs : smallW l2 l3) (r1 : List Int) (r2 : Int) (hr : openR (wrapKey (pubOf l0) l1 l2) (wrapNonce (pubOf l0) l1 l2) [] l3 = (r1, r2)) :
    Calls Try.prog 35 #[.slice A0 l0.length c0, .slice A1 l1.length c1, .slice A2 l2.length c2, .slice A3 l3.length c3] w fun e w' => ∃ v, e = .returned (.tuple #[v, .int .i64 r2]) ∧ Kd.R (Kd.int .u8) 5 w' w.heap.size (fun _ => True) v r1 ∧ Below w.heap.size w w' := by
  have HP := Lib.hid (public_32 l0 h0 o0)
  have HS := Lib.hid (shared_some (pubOf l0) l1 l2 (byteOk_pubOf _) o1 hs.1 (pubOf_length _) h1 hs.2.2.1)
  have HO := Lib.hid (show P.seal_Open.f (wrapKey (pubOf l0) l1 l2) (wrapNonce (pubOf l0) l1 l2) [] l3 = some (r1, r2) from (wrap_open _ _ _ _ hs).trans (congrArg some hr))
  have H32 := Lib.hid h1
  have HK := Lib.hid (And.intro hr0 (And.intro hr1 (And.intro hr2 hr3)))
  clear hr0 hr1 hr2 hr3 h0 o0 h1 o1 hs hr
  generalize wrapKey (pubOf l0) l1 l2 = K at *
  generalize wrapNonce (pubOf l0) l1 l2 = Z at *
  generalize pubOf l0 = p at *
  go_enter Try.func35, Try.ntmps35
  go_wp2_with fail
  refine (P.sig_Public.calls A0 c0 l0 p 0 w HK.out.1 hc0 HP.out).mono ?_
  rintro e W1 ⟨v1, rfl, hR1, hb1⟩
  obtain ⟨A4, c4, rfl, hl4, hC4⟩ := Kd.R_reads hR1
  have H1 := Lib.hid (And.intro hC4 (And.intro (Kd.C_below HK.out.2.1 hb1) (And.intro (Kd.C_below HK.out.2.2.1 hb1) (And.intro (Kd.C_below HK.out.2.2.2 hb1) hb1))))
  clear hR1 hC4 hb1 HK
  go_wp2_with fail
  have hx := c_one W1 22 A1 c1 l1 H1.out.2.1 hc1
  have hb0 := H1.out.2.2.2.2.alloc H1.out.2.2.2.2.size (Obj.cells #[.slice A1 l1.length c1] 22)
  have hbl := (Below.refl W1.heap.size W1).alloc (Nat.le_refl _) (Obj.cells #[.slice A1 l1.length c1] 22)
  refine (J.sig_right.calls 3 (some ⟨W1.heap.size, 0, none⟩) 1 [l1] true _ hx (Nat.le_refl _) (by rw [right_one, H32.out]; rfl)).mono ?_
  rintro e W2 ⟨rfl, hb2⟩
  have hbd := hbl.trans ((Drawn0.below hb2).mono hbl.size)
  have H2 := Lib.hid (And.intro (Kd.C_below H1.out.1 hbd) (And.intro (Kd.C_below H1.out.2.1 hbd) (And.intro (Kd.C_below H1.out.2.2.1 hbd) (And.intro (Kd.C_below H1.out.2.2.2.1 hbd) (H1.out.2.2.2.2.trans (hbd.mono H1.out.2.2.2.2.size))))))
  clear hx hb0 hbl hbd hb2 H1
  go_wp2_with fail
  refine (P.sig_shared.calls A4 c4 p A1 c1 l1 A2 c2 l2 K Z W2 H2.out.1 hl4 H2.out.2.1 hc1 H2.out.2.2.1 hc2 HS.out).mono ?_
  rintro e W3 ⟨v5, v6, rfl, hR5, hR6, hb3⟩
  obtain ⟨A5, c5, rfl, hl5, hC5⟩ := Kd.R_reads hR5
  obtain ⟨A6, c6, rfl, hl6, hC6⟩ := Kd.R_reads hR6
  have H3 := Lib.hid (And.intro hC5 (And.intro hC6 (And.intro (Kd.C_below H2.out.2.2.2.1 hb3) (H2.out.2.2.2.2.trans (hb3.mono H2.out.2.2.2.2.size)))))
  clear hR5 hR6 hC5 hC6 hb3 H2
  go_wp2_with fail
  refine (P.seal_Open.calls A5 c5 K A6 c6 Z none 0 [] A3 c3 l3 r1 r2 W3 H3.out.1 hl5 H3.out.2.1 hl6 (Kd.C_nil _ _) (Nat.le_refl _) H3.out.2.2.1 hc3 HO.out).mono ?_
  rintro e W4 ⟨v7, rfl, hR7, hb4⟩
  have H4 := Lib.hid (And.intro (Kd.R_lower hR7 H3.out.2.2.2.size) (H3.out.2.2.2.trans (hb4.mono H3.out.2.2.2.size)))
  clear hR7 hb4 H3
  go_wp2
  go_ret2
  exact ⟨v7, rfl, H4.out⟩
set_option maxRecDepth 100000 in
set_option maxHeartbeats 1000000 in
theorem sigUnwrap_bad (A0 : Option Addr) (c0 : Nat) (l0 : List Int) (v1 v2 v3 : Value) (w : World) (hr0 : Kd.C (Kd.int .u8) w A0 l0.length l0) (hc0 : l0.length ≤ c0) (h32 : l0.length ≠ 32) :
    Calls Try.prog 35 #[.slice A0 l0.length c0, v1, v2, v3] w fun e w' => ∃ v, e = .returned (.tuple #[v, .int .i64 1]) ∧ Kd.R (Kd.int .u8) 5 w' w.heap.size (fun _ => True) v [] ∧ Below w.heap.size w w' := by
  have HP := Lib.hid (public_bad l0 h32)
  have HK := Lib.hid hr0
  clear hr0 h32
  go_enter Try.func35, Try.ntmps35
  go_wp2_with fail
  refine (P.sig_Public.calls A0 c0 l0 [] 1 w HK.out hc0 HP.out).mono ?_
  rintro e W1 ⟨v4, rfl, hR1, hb1⟩
  have H1 := Lib.hid hb1
  clear hR1 hb1
  go_wp2
  go_ret2
  exact ⟨_, rfl, Kd.R_nil _ _ _ _ _, H1.out⟩
set_option maxRecDepth 100000 in
set_option maxHeartbeats 1000000 in
theorem sigUnwrap_bad2 (A0 : Option Addr) (c0 : Nat) (l0 : List Int) (A1 : Option Addr) (c1 : Nat) (l1 : List Int) (v2 v3 : Value) (w : World) (hr0 : Kd.C (Kd.int .u8) w A0 l0.length l0) (hc0 : l0.length ≤ c0) (hr1 : Kd.C (Kd.int .u8) w A1 l1.length l1) (hc1 : l1.length ≤ c1) (h0 : l0.length = 32) (o0 : byteOk l0 = true) (h1 : l1.length ≠ 32) :
    Calls Try.prog 35 #[.slice A0 l0.length c0, .slice A1 l1.length c1, v2, v3] w fun e w' => ∃ v, e = .returned (.tuple #[v, .int .i64 1]) ∧ Kd.R (Kd.int .u8) 5 w' w.heap.size (fun _ => True) v [] ∧ Below w.heap.size w w' := by
  have HP := Lib.hid (public_32 l0 h0 o0)
  have H32 := Lib.hid h1
  have HK := Lib.hid (And.intro hr0 hr1)
  clear hr0 hr1 h0 o0 h1
  generalize pubOf l0 = p at *
  go_enter Try.func35, Try.ntmps35
  go_wp2_with fail
  refine (P.sig_Public.calls A0 c0 l0 p 0 w HK.out.1 hc0 HP.out).mono ?_
  rintro e W1 ⟨v4, rfl, hR1, hb1⟩
  have H1 := Lib.hid (And.intro (Kd.C_below HK.out.2 hb1) hb1)
  clear hR1 hb1 HK
  go_wp2_with fail
  have hx := c_one W1 22 A1 c1 l1 H1.out.1 hc1
  have hbl := (Below.refl W1.heap.size W1).alloc (Nat.le_refl _) (Obj.cells #[.slice A1 l1.length c1] 22)
  refine (J.sig_right.calls 3 (some ⟨W1.heap.size, 0, none⟩) 1 [l1] false _ hx (Nat.le_refl _) (by rw [right_one]; simp [H32.out])).mono ?_
  rintro e W2 ⟨rfl, hb2⟩
  have hbd := hbl.trans ((Drawn0.below hb2).mono hbl.size)
  have H2 := Lib.hid (H1.out.2.trans (hbd.mono H1.out.2.size))
  clear hx hbl hbd hb2 H1
  go_wp2
  go_ret2
  exact ⟨_, rfl, Kd.R_nil _ _ _ _ _, H2.out⟩
set_option maxRecDepth 100000 in
set_option maxHeartbeats 1000000 in
theorem sigWrap_calls (A0 : Option Addr) (c0 : Nat) (l0 : List Int) (A1 : Option Addr) (c1 : Nat) (l1 : List Int) (A2 : Option Addr) (c2 : Nat) (l2 : List Int) (A3 : Option Addr) (c3 : Nat) (l3 : List Int) (w : World) (hr0 : Kd.C (Kd.int .u8) w A0 l0.length l0) (hc0 : l0.length ≤ c0) (hr1 : Kd.C (Kd.int .u8) w A1 l1.length l1) (hc1 : l1.length ≤ c1) (hr2 : Kd.C (Kd.int .u8) w A2 l2.length l2) (hc2 : l2.length ≤ c2) (hr3 : Kd.C (Kd.int .u8) w A3 l3.length l3) (hc3 : l3.length ≤ c3) (h1 : l1.length = 32) (o1 : byteOk l1 = true) (h0 : l0.length = 32) (o0 : byteOk l0 = true) (hs : smallW l2 l3) :
    Calls Try.prog 33 #[.slice A0 l0.length c0, .slice A1 l1.length c1, .slice A2 l2.length c2, .slice A3 l3.length c3] w fun e w' => ∃ v0_ v1_ : Value, e = .returned (.tuple #[v0_, v1_, .int .i64 0]) ∧ Kd.R (Kd.int .u8) 5 w' w.heap.size (fun k_ => some k_ ≠ (v1_ : Value).ownBlock) v0_ (pubOf l1) ∧ Kd.R (Kd.int .u8) 5 w' w.heap.size (fun k_ => some k_ ≠ (v0_ : Value).ownBlock) v1_ (sealOf (wrapKey l0 (pubOf l1) l2) (wrapNonce l0 (pubOf l1) l2) [] l3) ∧ Below w.heap.size w w' := by
  have HP := Lib.hid (public_32 l1 h1 o1)
  have HS := Lib.hid (shared_some l0 (pubOf l1) l2 o0 (byteOk_pubOf _) hs.1 h0 (pubOf_length _) hs.2.2.1)
  have HO := Lib.hid (wrap_seal l0 (pubOf l1) l2 l3 hs)
  have H32 := Lib.hid h0
  have HK := Lib.hid (And.intro hr0 (And.intro hr1 (And.intro hr2 hr3)))
  clear hr0 hr1 hr2 hr3 h0 o0 h1 o1 hs
  generalize sealOf (wrapKey l0 (pubOf l1) l2) (wrapNonce l0 (pubOf l1) l2) [] l3 = G at *
  generalize wrapKey l0 (pubOf l1) l2 = K at *
  generalize wrapNonce l0 (pubOf l1) l2 = Z at *
  generalize pubOf l1 = p at *
  go_enter Try.func33, Try.ntmps33
  go_wp2_with fail
  refine (P.sig_Public.calls A1 c1 l1 p 0 w HK.out.2.1 hc1 HP.out).mono ?_
  rintro e W1 ⟨v1, rfl, hR1, hb1⟩
  have hR1a := hR1
  obtain ⟨A4, c4, rfl, hl4, hC4⟩ := Kd.R_reads hR1
  have H1 := Lib.hid (And.intro hC4 (And.intro (Kd.C_below HK.out.1 hb1) (And.intro (Kd.C_below HK.out.2.2.1 hb1) (And.intro (Kd.C_below HK.out.2.2.2 hb1) (And.intro hR1a hb1)))))
  clear hR1 hR1a hC4 hb1 HK
  go_wp2_with fail
  have hx := c_one W1 22 A0 c0 l0 H1.out.2.1 hc0
  have hbl := (Below.refl W1.heap.size W1).alloc (Nat.le_refl _) (Obj.cells #[.slice A0 l0.length c0] 22)
  refine (J.sig_right.calls 3 (some ⟨W1.heap.size, 0, none⟩) 1 [l0] true _ hx (Nat.le_refl _) (by rw [right_one, H32.out]; rfl)).mono ?_
  rintro e W2 ⟨rfl, hb2⟩
  have hbd := hbl.trans ((Drawn0.below hb2).mono hbl.size)
  have H2 := Lib.hid (And.intro (Kd.C_below H1.out.1 hbd) (And.intro (Kd.C_below H1.out.2.1 hbd) (And.intro (Kd.C_below H1.out.2.2.1 hbd) (And.intro (Kd.C_below H1.out.2.2.2.1 hbd) (And.intro (Kd.R_below H1.out.2.2.2.2.1 hbd) (H1.out.2.2.2.2.2.trans (hbd.mono H1.out.2.2.2.2.2.size)))))))
  clear hx hbl hbd hb2 H1
  go_wp2_with fail
  refine (P.sig_shared.calls A0 c0 l0 A4 c4 p A2 c2 l2 K Z W2 H2.out.2.1 hc0 H2.out.1 hl4 H2.out.2.2.1 hc2 HS.out).mono ?_
  rintro e W3 ⟨v5, v6, rfl, hR5, hR6, hb3⟩
  obtain ⟨A5, c5, rfl, hl5, hC5⟩ := Kd.R_reads hR5
  obtain ⟨A6, c6, rfl, hl6, hC6⟩ := Kd.R_reads hR6
  have H3 := Lib.hid (And.intro hC5 (And.intro hC6 (And.intro (Kd.C_below H2.out.2.2.2.1 hb3) (And.intro (Kd.R_below H2.out.2.2.2.2.1 hb3) (H2.out.2.2.2.2.2.trans (hb3.mono H2.out.2.2.2.2.2.size))))))
  clear hR5 hR6 hC5 hC6 hb3 H2
  go_wp2_with fail
  refine (P.seal_Seal.calls A5 c5 K A6 c6 Z none 0 [] A3 c3 l3 G 0 W3 H3.out.1 hl5 H3.out.2.1 hl6 (Kd.C_nil _ _) (Nat.le_refl _) H3.out.2.2.1 hc3 HO.out).mono ?_
  rintro e W4 ⟨v7, rfl, hR7, hb4⟩
  have hlt := Kd.R_lt H3.out.2.2.2.1
  have hR1' := Kd.R_elder' H3.out.2.2.2.1 (v := v7) (fun k hk => own_base (Kd.own_of_R (enc := Value.int .u8) (h1 := fun _ => rfl) hR7) k hk) hb4
  have hR2' := Kd.R_new' hR7 (u := .slice A4 p.length c4) hlt
  have H4 := Lib.hid (And.intro hR1' (And.intro (Kd.R_lower hR2' H3.out.2.2.2.2.size) (H3.out.2.2.2.2.trans (hb4.mono H3.out.2.2.2.2.size))))
  clear hlt hR1' hR2' hR7 hb4 H3
  go_wp2
  go_ret3
  exact ⟨_, v7, rfl, Kd.R_mono H4.out.1 (fun _ hk => hk.2), Kd.R_mono H4.out.2.1 (fun _ hk => hk.2), H4.out.2.2⟩
set_option maxRecDepth 100000 in
set_option maxHeartbeats 1000000 in
theorem sigWrap_bad (v0 : Value) (A1 : Option Addr) (c1 : Nat) (l1 : List Int) (v2 v3 : Value) (w : World) (hr1 : Kd.C (Kd.int .u8) w A1 l1.length l1) (hc1 : l1.length ≤ c1) (h32 : l1.length ≠ 32) :
    Calls Try.prog 33 #[v0, .slice A1 l1.length c1, v2, v3] w fun e w' => e = .returned (.tuple #[.slice none 0 0, .slice none 0 0, .int .i64 1]) ∧ Below w.heap.size w w' := by
  have HP := Lib.hid (public_bad l1 h32)
  have HK := Lib.hid hr1
  clear hr1 h32
  go_enter Try.func33, Try.ntmps33
  go_wp2_with fail
  refine (P.sig_Public.calls A1 c1 l1 [] 1 w HK.out hc1 HP.out).mono ?_
  rintro e W1 ⟨v4, rfl, hR1, hb1⟩
  have H1 := Lib.hid hb1
  clear hR1 hb1
  go_wp2
  go_ret3
  exact ⟨rfl, H1.out⟩
set_option maxRecDepth 100000 in
set_option maxHeartbeats 1000000 in
theorem sigWrap_bad2 (A0 : Option Addr) (c0 : Nat) (l0 : List Int) (A1 : Option Addr) (c1 : Nat) (l1 : List Int) (v2 v3 : Value) (w : World) (hr0 : Kd.C (Kd.int .u8) w A0 l0.length l0) (hc0 : l0.length ≤ c0) (hr1 : Kd.C (Kd.int .u8) w A1 l1.length l1) (hc1 : l1.length ≤ c1) (h1 : l1.length = 32) (o1 : byteOk l1 = true) (h0 : l0.length ≠ 32) :
    Calls Try.prog 33 #[.slice A0 l0.length c0, .slice A1 l1.length c1, v2, v3] w fun e w' => e = .returned (.tuple #[.slice none 0 0, .slice none 0 0, .int .i64 1]) ∧ Below w.heap.size w w' := by
  have HP := Lib.hid (public_32 l1 h1 o1)
  have H32 := Lib.hid h0
  have HK := Lib.hid (And.intro hr0 hr1)
  clear hr0 hr1 h0 o1 h1
  generalize pubOf l1 = p at *
  go_enter Try.func33, Try.ntmps33
  go_wp2_with fail
  refine (P.sig_Public.calls A1 c1 l1 p 0 w HK.out.2 hc1 HP.out).mono ?_
  rintro e W1 ⟨v4, rfl, hR1, hb1⟩
  have H1 := Lib.hid (And.intro (Kd.C_below HK.out.1 hb1) hb1)
  clear hR1 hb1 HK
  go_wp2_with fail
  have hx := c_one W1 22 A0 c0 l0 H1.out.1 hc0
  have hbl := (Below.refl W1.heap.size W1).alloc (Nat.le_refl _) (Obj.cells #[.slice A0 l0.length c0] 22)
  refine (J.sig_right.calls 3 (some ⟨W1.heap.size, 0, none⟩) 1 [l0] false _ hx (Nat.le_refl _) (by rw [right_one]; simp [H32.out])).mono ?_
  rintro e W2 ⟨rfl, hb2⟩
  have hbd := hbl.trans ((Drawn0.below hb2).mono hbl.size)
  have H2 := Lib.hid (H1.out.2.trans (hbd.mono H1.out.2.size))
  clear hx hbl hbd hb2 H1
  go_wp2
  go_ret3
  exact ⟨rfl, H2.out⟩
namespace P
def sig_Sign.f (l0 : List Int) (a1 : ByteArray) (l2 : List Int) : Option (List Int × Int) := if l0.length = 32 then (if smallT l0 a1 l2 then some (sigTag (pubOf l0) a1 l2, 0) else none) else some ([], 1)
theorem sig_Sign.calls (A0 : Option Addr) (c0 : Nat) (l0 : List Int) (a1 : ByteArray) (A2 : Option Addr) (c2 : Nat) (l2 : List Int) (r1 : List Int) (r2 : Int) (w : World) (hr0 : Kd.C (Kd.int .u8) w A0 l0.length l0) (hc0 : l0.length ≤ c0) (hr2 : Kd.C (Kd.int .u8) w A2 l2.length l2) (hc2 : l2.length ≤ c2) (h : sig_Sign.f l0 a1 l2 = some (r1, r2)) :
    Calls Try.prog 29 #[.slice A0 l0.length c0, .string a1, .slice A2 l2.length c2] w fun e w' => ∃ v0_ : Value, e = .returned (.tuple #[v0_, .int .i64 r2]) ∧ Kd.R (Kd.int .u8) 5 w' w.heap.size (fun _ => True) v0_ r1 ∧ Below w.heap.size w w' := by
  unfold sig_Sign.f at h
  split at h
  case isTrue h32 =>
    split at h
    case isFalse => cases h
    case isTrue ho =>
    injection h with h
    injection h with h1 h2
    subst h1 h2
    exact sigSign_calls A0 c0 l0 a1 A2 c2 l2 w hr0 hc0 hr2 hc2 h32 ho
  case isFalse h32 =>
    injection h with h
    injection h with h1 h2
    subst h1 h2
    exact sigSign_bad A0 c0 l0 a1 _ w hr0 hc0 h32
def sig_Unwrap.f (l0 l1 l2 l3 : List Int) : Option (List Int × Int) := if l0.length = 32 then (if byteOk l0 = true then (if l1.length = 32 then (if byteOk l1 = true ∧ smallW l2 l3 then some (openR (wrapKey (pubOf l0) l1 l2) (wrapNonce (pubOf l0) l1 l2) [] l3) else none) else some ([], 1)) else none) else some ([], 1)
theorem sig_Unwrap.calls (A0 : Option Addr) (c0 : Nat) (l0 : List Int) (A1 : Option Addr) (c1 : Nat) (l1 : List Int) (A2 : Option Addr) (c2 : Nat) (l2 : List Int) (A3 : Option Addr) (c3 : Nat) (l3 : List Int) (r1 : List Int) (r2 : Int) (w : World) (hr0 : Kd.C (Kd.int .u8) w A0 l0.length l0) (hc0 : l0.length ≤ c0) (hr1 : Kd.C (Kd.int .u8) w A1 l1.length l1) (hc1 : l1.length ≤ c1) (hr2 : Kd.C (Kd.int .u8) w A2 l2.length l2) (hc2 : l2.length ≤ c2) (hr3 : Kd.C (Kd.int .u8) w A3 l3.length l3) (hc3 : l3.length ≤ c3) (h : sig_Unwrap.f l0 l1 l2 l3 = some (r1, r2)) :
    Calls Try.prog 35 #[.slice A0 l0.length c0, .slice A1 l1.length c1, .slice A2 l2.length c2, .slice A3 l3.length c3] w fun e w' => ∃ v0_ : Value, e = .returned (.tuple #[v0_, .int .i64 r2]) ∧ Kd.R (Kd.int .u8) 5 w' w.heap.size (fun _ => True) v0_ r1 ∧ Below w.heap.size w w' := by
  unfold sig_Unwrap.f at h
  split at h
  case isFalse h32 =>
    injection h with h
    injection h with h1 h2
    subst h1 h2
    exact sigUnwrap_bad A0 c0 l0 _ _ _ w hr0 hc0 h32
  case isTrue h32 =>
  split at h
  case isFalse => cases h
  case isTrue ho =>
  split at h
  case isFalse h1 =>
    injection h with h
    injection h with h2 h3
    subst h2 h3
    exact sigUnwrap_bad2 A0 c0 l0 A1 c1 l1 _ _ w hr0 hc0 hr1 hc1 h32 ho h1
  case isTrue h1 =>
  split at h
  case isFalse => cases h
  case isTrue hs =>
  injection h with h
  exact sigUnwrap_calls A0 c0 l0 A1 c1 l1 A2 c2 l2 A3 c3 l3 w hr0 hc0 hr1 hc1 hr2 hc2 hr3 hc3 h32 ho h1 hs.1 hs.2 r1 r2 h
def sig_Wrap.f (l0 l1 l2 l3 : List Int) : Option (List Int × List Int × Int) := if l1.length = 32 then (if byteOk l1 = true then (if l0.length = 32 then (if byteOk l0 = true ∧ smallW l2 l3 then some (pubOf l1, sealOf (wrapKey l0 (pubOf l1) l2) (wrapNonce l0 (pubOf l1) l2) [] l3, 0) else none) else some ([], [], 1)) else none) else some ([], [], 1)
theorem sig_Wrap.calls (A0 : Option Addr) (c0 : Nat) (l0 : List Int) (A1 : Option Addr) (c1 : Nat) (l1 : List Int) (A2 : Option Addr) (c2 : Nat) (l2 : List Int) (A3 : Option Addr) (c3 : Nat) (l3 : List Int) (r1 : List Int) (r2 : List Int) (r3 : Int) (w : World) (hr0 : Kd.C (Kd.int .u8) w A0 l0.length l0) (hc0 : l0.length ≤ c0) (hr1 : Kd.C (Kd.int .u8) w A1 l1.length l1) (hc1 : l1.length ≤ c1) (hr2 : Kd.C (Kd.int .u8) w A2 l2.length l2) (hc2 : l2.length ≤ c2) (hr3 : Kd.C (Kd.int .u8) w A3 l3.length l3) (hc3 : l3.length ≤ c3) (h : sig_Wrap.f l0 l1 l2 l3 = some (r1, r2, r3)) :
    Calls Try.prog 33 #[.slice A0 l0.length c0, .slice A1 l1.length c1, .slice A2 l2.length c2, .slice A3 l3.length c3] w fun e w' => ∃ v0_ v1_ : Value, e = .returned (.tuple #[v0_, v1_, .int .i64 r3]) ∧ Kd.R (Kd.int .u8) 5 w' w.heap.size (fun k_ => some k_ ≠ (v1_ : Value).ownBlock) v0_ r1 ∧ Kd.R (Kd.int .u8) 5 w' w.heap.size (fun k_ => some k_ ≠ (v0_ : Value).ownBlock) v1_ r2 ∧ Below w.heap.size w w' := by
  unfold sig_Wrap.f at h
  split at h
  case isFalse h32 =>
    injection h with h
    injection h with h1 h2
    injection h2 with h2 h3
    subst h1 h2 h3
    refine (sigWrap_bad (.slice A0 l0.length c0) A1 c1 l1 _ _ w hr1 hc1 h32).mono ?_
    rintro e w' ⟨rfl, hb⟩
    exact ⟨_, _, rfl, Kd.R_nil _ _ _ _ _, Kd.R_nil _ _ _ _ _, hb⟩
  case isTrue h32 =>
  split at h
  case isFalse => cases h
  case isTrue ho =>
  split at h
  case isFalse h1 =>
    injection h with h
    injection h with h2 h3
    injection h3 with h3 h4
    subst h2 h3 h4
    refine (sigWrap_bad2 A0 c0 l0 A1 c1 l1 _ _ w hr0 hc0 hr1 hc1 h32 ho h1).mono ?_
    rintro e w' ⟨rfl, hb⟩
    exact ⟨_, _, rfl, Kd.R_nil _ _ _ _ _, Kd.R_nil _ _ _ _ _, hb⟩
  case isTrue h1 =>
  split at h
  case isFalse => cases h
  case isTrue hs =>
  injection h with h
  injection h with h2 h3
  injection h3 with h3 h4
  subst h2 h3 h4
  exact sigWrap_calls A0 c0 l0 A1 c1 l1 A2 c2 l2 A3 c3 l3 w hr0 hc0 hr1 hc1 hr2 hc2 hr3 hc3 h32 ho h1 hs.1 hs.2
end P
end Go.Proofs.Ytifpdpfjhjoieaa

/-! SealE -/
namespace Go.Proofs.Ytifpdpfjhjoieaa
set_option linter.unusedVariables false
set_option linter.unusedSimpArgs false
open Go.RowKit Go.Shelf Iter Go.Proofs.YtifpdpfjhjoieaaW.PrintWords Go.Proofs.YtifpdpfjhjoieaaW.PrintLast
attribute [local go_sem] Oper.semAt_some
def Z32 : List Int := List.replicate 32 0
theorem sealOf_take (key nonce aad b : List Int) : (sealOf key nonce aad b).take b.length = streamOf (lockOf key) nonce b := by
  unfold sealOf
  rw [List.take_left' (streamOf_length _ _ _)]
theorem sealOf_drop (key nonce aad b : List Int) : (sealOf key nonce aad b).drop b.length = sealTag key nonce aad (streamOf (lockOf key) nonce b) := by
  unfold sealOf
  rw [List.drop_left' (streamOf_length _ _ _)]
theorem bytes_wf (b : List Int) (h : byteOk b = true) : ∀ x ∈ b, 0 ≤ x ∧ x < 256 := (byteOk_iff b).1 h
/-- What is sealed is opened. -/
theorem open_seal (key nonce aad b : List Int) (h32 : key.length = 32) (h12 : nonce.length = 12) (o : byteOk b = true) : openR key nonce aad (sealOf key nonce aad b) = (b, 0) := by
  have e : b.length + 32 - 32 = b.length := by omega
  unfold openR
  rw [if_pos ⟨h32, h12⟩, sealOf_length, if_neg (by omega), e, sealOf_take, sealOf_drop, if_pos rfl, streamOf_back _ _ _ (bytes_wf b o)]
end Go.Proofs.Ytifpdpfjhjoieaa

/-! SealF -/
namespace Go.Proofs.Ytifpdpfjhjoieaa
set_option linter.unusedVariables false
set_option linter.unusedSimpArgs false
open Go.RowKit Go.Shelf Iter Go.Proofs.YtifpdpfjhjoieaaW.PrintWords Go.Proofs.YtifpdpfjhjoieaaW.PrintLast
attribute [local go_sem] Oper.semAt_some
theorem byV_nums (l : List Int) : byV l = (nums .u8 l).toArray := rfl
theorem madeN (n : Nat) (m : Int) (hm : m = (n : Int)) (hn : n ≤ 140737488355328) (W : World) : (Instr.makeSlice 22 (.int .i64 m) (.int .i64 m)).run Try.prog W = .ok (.slice (some ⟨W.heap.size, 0, none⟩) n n) (W.alloc (.cells (nums .u8 (List.replicate n 0)).toArray 5)) := by
  subst hm
  rw [← byV_nums]
  exact madeB n hn W
namespace P
end P
end Go.Proofs.Ytifpdpfjhjoieaa
