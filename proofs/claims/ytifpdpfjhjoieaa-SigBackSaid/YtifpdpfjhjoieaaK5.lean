/-
  The lower layers, walked and in closed forms, part 5: H1, SealB, H2, H3, Vof, SealC, SealD, SigA, SigB, SigC, J0, J1, SigD, SigE.
-/
import Derived.Test.YtifpdpfjhjoieaaK0
import Derived.Test.YtifpdpfjhjoieaaK1
import Derived.Test.YtifpdpfjhjoieaaK4
import Derived.Test.YtifpdpfjhjoieaaUWords
import Derived.Test.YtifpdpfjhjoieaaULast
import Derived.Test.YtifpdpfjhjoieaaUMore
import Derived.Test.YtifpdpfjhjoieaaURepsOne
import Derived.Test.YtifpdpfjhjoieaaUTab
import Derived.Test.YtifpdpfjhjoieaaProg
import Derived.Below
import Derived.Deep.Draws
import Derived.Deep.AppendLies
import Derived.Maps.AppendAt
import Derived.OwnWalk
import Derived.Laws.BytesArg
import Derived.Laws.MakeOwn
import Derived.Laws.OwnMore
import Derived.Deep.OwnRows
import Derived.Tactics
import Derived.Lib.ConvBytes
import Derived.Laws.Slices
import Derived.WalkKit
import Derived.KernelRfl
import Derived.RowKit3
import Derived.Deep.LoopGhost
import Derived.Deep.QuietTactic
import Derived.BigQuiet
import Derived.WideLaws
import Derived.Deep.DeepCutAuto
import Derived.Deep.CutBlock
import Derived.Deep.RegionHeld3
import Derived.Laws.Rows
import Derived.Lib.AppendStr
import Derived.ArgAppend
import Derived.Laws.IdiomCopy
import Derived.OrdersHeld
import Derived.Laws.BitsLemmas
import Derived.RowKit
/-! H1 -/
namespace Go.Proofs.Ytifpdpfjhjoieaa.H
open Go.Proofs.Ytifpdpfjhjoieaa.P
open Go.RowKit Go.Proofs.YtifpdpfjhjoieaaW.PrintWords Go.Proofs.YtifpdpfjhjoieaaW.PrintLast Go.Proofs.YtifpdpfjhjoieaaW.PrintMore
attribute [local go_sem] max2_int min2_int max_two min_two max_three min_three max_four min_four   -- for this text's walks alone
set_option linter.unusedVariables false
set_option linter.unusedSimpArgs false
-- NOT PRINTED: function 95 (byt_wide)
-- NOT PRINTED: function 79 (byt_Len)
/-! ### seal_ready: function 42 -/
def seal_ready.f (l0 : List Int) (l1 : List Int) (l2 : List Int) : Option (List Int × List Int × List Int × Int) := (seal_Halves.f l0).bind fun bt101 => (if bt101.2.2 = 0 then (if (l1.length : Int) = 12 then ((byt_Row.f l2).bind fun bt108 => (some (bt101.1, bt101.2.1, bt108.1, bt108.2))) else (some (([] : List Int), ([] : List Int), ([] : List Int), 1))) else (some (([] : List Int), ([] : List Int), ([] : List Int), 1)))
set_option maxHeartbeats 8000000 in
set_option maxRecDepth 100000 in
theorem seal_ready.calls (A0 : Option Addr) (c0 : Nat) (l0 : List Int) (A1 : Option Addr) (c1 : Nat) (l1 : List Int) (A2 : Option Addr) (c2 : Nat) (l2 : List Int) (r1 : List Int) (r2 : List Int) (r3 : List Int) (r4 : Int) (w : World) (hr0 : Kd.C (Kd.int .u8) w A0 l0.length l0) (hc0 : l0.length ≤ c0) (hr1 : Kd.C (Kd.int .u8) w A1 l1.length l1) (hc1 : l1.length ≤ c1) (hr2 : Kd.C (Kd.int .u8) w A2 l2.length l2) (hc2 : l2.length ≤ c2) (h : seal_ready.f l0 l1 l2 = some (r1, r2, r3, r4)) :
    Calls Try.prog 42 #[.slice A0 l0.length c0, .slice A1 l1.length c1, .slice A2 l2.length c2] w fun e w' => ∃ v0_ v1_ v2_ : Value, e = .returned (.tuple #[v0_, v1_, v2_, .int .i64 r4]) ∧ Kd.R (Kd.int .u8) 5 w' w.heap.size (fun k_ => some k_ ≠ (v1_ : Value).ownBlock ∧ some k_ ≠ (v2_ : Value).ownBlock) v0_ r1 ∧ Kd.R (Kd.int .u8) 5 w' w.heap.size (fun k_ => some k_ ≠ (v0_ : Value).ownBlock ∧ some k_ ≠ (v2_ : Value).ownBlock) v1_ r2 ∧ Kd.R (Kd.int .u8) 5 w' w.heap.size (fun k_ => some k_ ≠ (v0_ : Value).ownBlock ∧ some k_ ≠ (v1_ : Value).ownBlock) v2_ r3 ∧ Below w.heap.size w w' := by
  have HR0 := Aside0.mk hr0
  have HC0 := Aside0.mk hc0
  clear hr0 hc0
  have HR1 := Aside0.mk hr1
  have HC1 := Aside0.mk hc1
  clear hr1 hc1
  have HR2 := Aside0.mk hr2
  have HC2 := Aside0.mk hc2
  clear hr2 hc2
  have HB := Aside0.mk (Below.refl w.heap.size w)
  have H : ((seal_Halves.f l0).bind fun bt101 => (if bt101.2.2 = 0 then (if (l1.length : Int) = 12 then ((byt_Row.f l2).bind fun bt108 => (some (bt101.1, bt101.2.1, bt108.1, bt108.2))) else (some (([] : List Int), ([] : List Int), ([] : List Int), 1))) else (some (([] : List Int), ([] : List Int), ([] : List Int), 1)))) = some (r1, r2, r3, r4) := h
  clear h
  replace H := Option.bind_eq_some_iff.mp H
  obtain ⟨⟨t101, t102, t103⟩, A40, H⟩ := H
  replace H : (if t103 = 0 then (if (l1.length : Int) = 12 then ((byt_Row.f l2).bind fun bt108 => (some (t101, t102, bt108.1, bt108.2))) else (some (([] : List Int), ([] : List Int), ([] : List Int), 1))) else (some (([] : List Int), ([] : List Int), ([] : List Int), 1))) = some (r1, r2, r3, r4) := H
  have A4 := Aside0.mk A40
  clear A40
  by_cases c5 : t103 = 0
  · rw [if_pos c5] at H
    have c5b0 : (t103 == 0) = true := beq_iff_eq.mpr c5
    have c5b1 : (t103 != 0) = false := bne_eq_false_iff_eq.mpr c5
    clear c5
    by_cases c6 : (l1.length : Int) = 12
    · rw [if_pos c6] at H
      have c6b0 : ((l1.length : Int) == 12) = true := beq_iff_eq.mpr c6
      have c6b1 : ((l1.length : Int) != 12) = false := bne_eq_false_iff_eq.mpr c6
      clear c6
      replace H := Option.bind_eq_some_iff.mp H
      obtain ⟨⟨t108, t109⟩, A70, H⟩ := H
      replace H : (some (t101, t102, t108, t109)) = some (r1, r2, r3, r4) := H
      have A7 := Aside0.mk A70
      clear A70
      simp only [Option.some.injEq, Prod.mk.injEq] at H
      obtain ⟨rfl, rfl, rfl, rfl⟩ := H
      go_enter Try.func42, Try.ntmps42
      go_wp2_with (first | ((with_reducible refine gate_callee (f := 14) rfl ?_); refine goesL_ (some 16) rfl rfl Try.func14 (by kernel_rfl) rfl #[.slice A0 l0.length c0] rfl (by (try simp only [List.map_toArray, List.map_cons, List.map_nil]); first | done | rfl | (simp only [List.length_drop, List.length_take]; rfl)) ?_; (with_reducible refine (seal_Halves.calls _ _ l0 t101 t102 t103 _ ?side1 ?side2 A4.out).mono ?_); (case side1 => repeat (first | exact HR0.out | (with_reducible refine Kd.C_alloc ?_ _) | (with_reducible refine Kd.C_drewN ?_ _) | (with_reducible refine Kd.C_drew ?_))); (case side2 => exact HC0.out); rintro e w8 ⟨v104, v106, rfl, ho0, ho1, hb⟩; refine ⟨_, rfl, ?_⟩; have n0_ := Aside0.mk (Kd.R_lower ho0 (below_size (by repeat (first | (with_reducible first | exact HB.out | apply below_alloc | apply pw_below_drewN | apply below_drew1) | exact HB.out)))); have n1_ := Aside0.mk (Kd.R_lower ho1 (below_size (by repeat (first | (with_reducible first | exact HB.out | apply below_alloc | apply pw_below_drewN | apply below_drew1) | exact HB.out)))); have n2_ := Aside0.mk (below_step (by repeat (first | (with_reducible first | exact HB.out | apply below_alloc | apply pw_below_drewN | apply below_drew1) | exact HB.out)) hb); clear HB; have HO105 := n0_; have HO107 := n1_; have HB := n2_; clear n0_ n1_ n2_; (try clear hb); (try clear hb2); (try clear hk); (try clear hi); (try clear ho0); (try clear ho1)) | ((with_reducible refine gate_callee (f := 62) rfl ?_); refine goesL_ (some 29) rfl rfl Try.func62 (by kernel_rfl) rfl #[.slice A2 l2.length c2] rfl (by (try simp only [List.map_toArray, List.map_cons, List.map_nil]); first | done | rfl | (simp only [List.length_drop, List.length_take]; rfl)) ?_; (with_reducible refine (byt_Row.calls _ _ l2 t108 t109 _ ?side1 ?side2 A7.out).mono ?_); (case side1 => repeat (first | exact (Kd.C_below HR2.out HB.out) | (with_reducible refine Kd.C_alloc ?_ _) | (with_reducible refine Kd.C_drewN ?_ _) | (with_reducible refine Kd.C_drew ?_))); (case side2 => exact HC2.out); rintro e w9 ⟨v110, rfl, ho0, hb⟩; refine ⟨_, rfl, ?_⟩; have n0_ := Aside0.mk (Kd.R_elder' (by (with_reducible repeat (first | apply Kd.R_alloc | apply Kd.R_drewN | apply Kd.R_drew)); exact HO105.out) (Kd.R_base ho0) hb); have n1_ := Aside0.mk (Kd.R_elder' (by (with_reducible repeat (first | apply Kd.R_alloc | apply Kd.R_drewN | apply Kd.R_drew)); exact HO107.out) (Kd.R_base ho0) hb); have n2_ := Aside0.mk (Kd.R_lower (Kd.R_new' (Kd.R_new' ho0 (Kd.R_lt (by (with_reducible repeat (first | apply Kd.R_alloc | apply Kd.R_drewN | apply Kd.R_drew)); exact HO105.out))) (Kd.R_lt (by (with_reducible repeat (first | apply Kd.R_alloc | apply Kd.R_drewN | apply Kd.R_drew)); exact HO107.out))) (below_size (by repeat (first | (with_reducible first | exact HB.out | apply below_alloc | apply pw_below_drewN | apply below_drew1) | exact HB.out)))); have n3_ := Aside0.mk (below_step (by repeat (first | (with_reducible first | exact HB.out | apply below_alloc | apply pw_below_drewN | apply below_drew1) | exact HB.out)) hb); clear HO105; clear HO107; clear HB; have HO105 := n0_; have HO107 := n1_; have HO111 := n2_; have HB := n3_; clear n0_ n1_ n2_ n3_; (try clear hb); (try clear hb2); (try clear hk); (try clear hi); (try clear ho0)))
      refine bodyPost_ret (results_list (rs := [.tmp 6, .tmp 7, .tmp 8, .tmp 9]) rfl (by simp) (.tmp (.tmp (.tmp (.tmp .nil))))) rfl ?_
      exact ⟨_, _, _, by first | rfl | (simp [errW_none, errW_some] <;> rfl) | (simp [*, errW_none, errW_some] <;> rfl), by (with_reducible repeat (first | apply Kd.R_alloc | apply Kd.R_drewN | apply Kd.R_drew)); exact HO105.out, by (with_reducible repeat (first | apply Kd.R_alloc | apply Kd.R_drewN | apply Kd.R_drew)); exact HO107.out, by (with_reducible repeat (first | apply Kd.R_alloc | apply Kd.R_drewN | apply Kd.R_drew)); exact Kd.R_mono HO111.out (fun _ hk => ⟨hk.1.2, hk.2⟩), by repeat (first | (with_reducible first | exact HB.out | apply below_alloc | apply pw_below_drewN | apply below_drew1) | exact HB.out)⟩
    · rw [if_neg c6] at H
      have c6b0 : ((l1.length : Int) == 12) = false := beq_eq_false_iff_ne.mpr c6
      have c6b1 : ((l1.length : Int) != 12) = true := bne_iff_ne.mpr c6
      simp only [Option.some.injEq, Prod.mk.injEq] at H
      obtain ⟨rfl, rfl, rfl, rfl⟩ := H
      go_enter Try.func42, Try.ntmps42
      go_wp2_with (first | ((with_reducible refine gate_callee (f := 14) rfl ?_); refine goesL_ (some 16) rfl rfl Try.func14 (by kernel_rfl) rfl #[.slice A0 l0.length c0] rfl (by (try simp only [List.map_toArray, List.map_cons, List.map_nil]); first | done | rfl | (simp only [List.length_drop, List.length_take]; rfl)) ?_; (with_reducible refine (seal_Halves.calls _ _ l0 t101 t102 t103 _ ?side1 ?side2 A4.out).mono ?_); (case side1 => repeat (first | exact HR0.out | (with_reducible refine Kd.C_alloc ?_ _) | (with_reducible refine Kd.C_drewN ?_ _) | (with_reducible refine Kd.C_drew ?_))); (case side2 => exact HC0.out); rintro e w10 ⟨v104, v106, rfl, ho0, ho1, hb⟩; refine ⟨_, rfl, ?_⟩; have n0_ := Aside0.mk (Kd.R_lower ho0 (below_size (by repeat (first | (with_reducible first | exact HB.out | apply below_alloc | apply pw_below_drewN | apply below_drew1) | exact HB.out)))); have n1_ := Aside0.mk (Kd.R_lower ho1 (below_size (by repeat (first | (with_reducible first | exact HB.out | apply below_alloc | apply pw_below_drewN | apply below_drew1) | exact HB.out)))); have n2_ := Aside0.mk (below_step (by repeat (first | (with_reducible first | exact HB.out | apply below_alloc | apply pw_below_drewN | apply below_drew1) | exact HB.out)) hb); clear HB; have HO105 := n0_; have HO107 := n1_; have HB := n2_; clear n0_ n1_ n2_; (try clear hb); (try clear hb2); (try clear hk); (try clear hi); (try clear ho0); (try clear ho1)))
      refine bodyPost_ret (results_list (rs := [.tmp 6, .tmp 7, .tmp 8, .tmp 9]) rfl (by simp) (.tmp (.tmp (.tmp (.tmp .nil))))) rfl ?_
      exact ⟨_, _, _, by first | rfl | (simp [errW_none, errW_some] <;> rfl) | (simp [*, errW_none, errW_some] <;> rfl), by first | exact Kd.R_nil _ _ _ _ _ | exact Kd.N_nil _ _ _ _ _ | exact Kd.V_nil _ _ _ _ _ | exact Kd.Q_nil _ _ _ _ _ | exact Kd.S_nil _ _ _ _ _, by first | exact Kd.R_nil _ _ _ _ _ | exact Kd.N_nil _ _ _ _ _ | exact Kd.V_nil _ _ _ _ _ | exact Kd.Q_nil _ _ _ _ _ | exact Kd.S_nil _ _ _ _ _, by first | exact Kd.R_nil _ _ _ _ _ | exact Kd.N_nil _ _ _ _ _ | exact Kd.V_nil _ _ _ _ _ | exact Kd.Q_nil _ _ _ _ _ | exact Kd.S_nil _ _ _ _ _, by repeat (first | (with_reducible first | exact HB.out | apply below_alloc | apply pw_below_drewN | apply below_drew1) | exact HB.out)⟩
  · rw [if_neg c5] at H
    have c5b0 : (t103 == 0) = false := beq_eq_false_iff_ne.mpr c5
    have c5b1 : (t103 != 0) = true := bne_iff_ne.mpr c5
    simp only [Option.some.injEq, Prod.mk.injEq] at H
    obtain ⟨rfl, rfl, rfl, rfl⟩ := H
    go_enter Try.func42, Try.ntmps42
    go_wp2_with (first | ((with_reducible refine gate_callee (f := 14) rfl ?_); refine goesL_ (some 16) rfl rfl Try.func14 (by kernel_rfl) rfl #[.slice A0 l0.length c0] rfl (by (try simp only [List.map_toArray, List.map_cons, List.map_nil]); first | done | rfl | (simp only [List.length_drop, List.length_take]; rfl)) ?_; (with_reducible refine (seal_Halves.calls _ _ l0 t101 t102 t103 _ ?side1 ?side2 A4.out).mono ?_); (case side1 => repeat (first | exact HR0.out | (with_reducible refine Kd.C_alloc ?_ _) | (with_reducible refine Kd.C_drewN ?_ _) | (with_reducible refine Kd.C_drew ?_))); (case side2 => exact HC0.out); rintro e w11 ⟨v104, v106, rfl, ho0, ho1, hb⟩; refine ⟨_, rfl, ?_⟩; have n0_ := Aside0.mk (Kd.R_lower ho0 (below_size (by repeat (first | (with_reducible first | exact HB.out | apply below_alloc | apply pw_below_drewN | apply below_drew1) | exact HB.out)))); have n1_ := Aside0.mk (Kd.R_lower ho1 (below_size (by repeat (first | (with_reducible first | exact HB.out | apply below_alloc | apply pw_below_drewN | apply below_drew1) | exact HB.out)))); have n2_ := Aside0.mk (below_step (by repeat (first | (with_reducible first | exact HB.out | apply below_alloc | apply pw_below_drewN | apply below_drew1) | exact HB.out)) hb); clear HB; have HO105 := n0_; have HO107 := n1_; have HB := n2_; clear n0_ n1_ n2_; (try clear hb); (try clear hb2); (try clear hk); (try clear hi); (try clear ho0); (try clear ho1)))
    refine bodyPost_ret (results_list (rs := [.tmp 6, .tmp 7, .tmp 8, .tmp 9]) rfl (by simp) (.tmp (.tmp (.tmp (.tmp .nil))))) rfl ?_
    exact ⟨_, _, _, by first | rfl | (simp [errW_none, errW_some] <;> rfl) | (simp [*, errW_none, errW_some] <;> rfl), by first | exact Kd.R_nil _ _ _ _ _ | exact Kd.N_nil _ _ _ _ _ | exact Kd.V_nil _ _ _ _ _ | exact Kd.Q_nil _ _ _ _ _ | exact Kd.S_nil _ _ _ _ _, by first | exact Kd.R_nil _ _ _ _ _ | exact Kd.N_nil _ _ _ _ _ | exact Kd.V_nil _ _ _ _ _ | exact Kd.Q_nil _ _ _ _ _ | exact Kd.S_nil _ _ _ _ _, by first | exact Kd.R_nil _ _ _ _ _ | exact Kd.N_nil _ _ _ _ _ | exact Kd.V_nil _ _ _ _ _ | exact Kd.Q_nil _ _ _ _ _ | exact Kd.S_nil _ _ _ _ _, by repeat (first | (with_reducible first | exact HB.out | apply below_alloc | apply pw_below_drewN | apply below_drew1) | exact HB.out)⟩
-- NOT PRINTED: function 104 (slices_Grow_byte_byte)
-- NOT PRINTED: function 99 (slices_Concat_byte_byte)
-- NOT PRINTED: function 87 (mac_joined)
-- NOT PRINTED: function 105 (sha_primes)
-- NOT PRINTED: function 112 (bits_Mul64)
-- NOT PRINTED: function 113 (bits_Add64)
-- NOT PRINTED: function 110 (sha_above)
-- NOT PRINTED: function 106 (sha_root)
-- NOT PRINTED: function 100 (sha_keys)
-- NOT PRINTED: function 101 (sha_Start)
-- NOT PRINTED: function 111 (bits_RotateLeft32)
-- NOT PRINTED: function 108 (sha_turned)
-- NOT PRINTED: function 107 (sha_words)
-- NOT PRINTED: function 102 (sha_mixed)
-- NOT PRINTED: function 103 (sha_Pad)
-- NOT PRINTED: function 94 (sha_Sum)
-- NOT PRINTED: function 91 (mac_Key)
/-! ### seal_tag: function 44 -/
def seal_tag.f (l0 : List Int) (l1 : List (List Int)) : Option (List Int) := (mac_All.f l0 l1).bind fun t112 => (some t112)
set_option maxHeartbeats 8000000 in
set_option maxRecDepth 100000 in
theorem seal_tag.calls (A0 : Option Addr) (c0 : Nat) (l0 : List Int) (A1 : Option Addr) (c1 : Nat) (l1 : List (List Int)) (r : List Int) (w : World) (hr0 : Kd.C (Kd.int .u8) w A0 l0.length l0) (hc0 : l0.length ≤ c0) (hr1 : Kd.C (Kd.slice 5 (Kd.int .u8)) w A1 l1.length l1) (hc1 : l1.length ≤ c1) (h : seal_tag.f l0 l1 = some r) :
    Calls Try.prog 44 #[.slice A0 l0.length c0, .slice A1 l1.length c1] w fun e w' => ∃ v0_ : Value, e = .returned (v0_) ∧ Kd.R (Kd.int .u8) 5 w' w.heap.size (fun _ => True) v0_ r ∧ Below w.heap.size w w' := by
  have HR0 := Aside0.mk hr0
  have HC0 := Aside0.mk hc0
  clear hr0 hc0
  have HR1 := Aside0.mk hr1
  have HC1 := Aside0.mk hc1
  clear hr1 hc1
  have HB := Aside0.mk (Below.refl w.heap.size w)
  have H : ((mac_All.f l0 l1).bind fun t112 => (some t112)) = some r := h
  clear h
  replace H := Option.bind_eq_some_iff.mp H
  obtain ⟨t112, A30, H⟩ := H
  replace H : (some t112) = some r := H
  have A3 := Aside0.mk A30
  clear A30
  obtain rfl := Option.some.inj H
  go_enter Try.func44, Try.ntmps44
  go_wp2_with (first | ((with_reducible refine gate_callee (f := 68) rfl ?_); refine goesL_ (some 7) rfl rfl Try.func68 (by kernel_rfl) rfl #[.slice A0 l0.length c0, .slice A1 l1.length c1] rfl (by (try simp only [List.map_toArray, List.map_cons, List.map_nil]); first | done | rfl | (simp only [List.length_drop, List.length_take]; rfl)) ?_; (with_reducible refine (mac_All.calls _ _ l0 _ _ l1 t112 _ ?side1 ?side2 ?side3 ?side4 A3.out).mono ?_); (case side1 => repeat (first | exact HR0.out | (with_reducible refine Kd.C_alloc ?_ _) | (with_reducible refine Kd.C_drewN ?_ _) | (with_reducible refine Kd.C_drew ?_))); (case side2 => exact HC0.out); (case side3 => repeat (first | exact HR1.out | (with_reducible refine Kd.C_alloc ?_ _) | (with_reducible refine Kd.C_drewN ?_ _) | (with_reducible refine Kd.C_drew ?_))); (case side4 => exact HC1.out); rintro e w4 ⟨v113, rfl, ho0, hb⟩; refine ⟨_, rfl, ?_⟩; have n0_ := Aside0.mk (Kd.R_lower ho0 (below_size (by repeat (first | (with_reducible first | exact HB.out | apply below_alloc | apply pw_below_drewN | apply below_drew1) | exact HB.out)))); have n1_ := Aside0.mk (below_step (by repeat (first | (with_reducible first | exact HB.out | apply below_alloc | apply pw_below_drewN | apply below_drew1) | exact HB.out)) hb); clear HB; have HO114 := n0_; have HB := n1_; clear n0_ n1_; (try clear hb); (try clear hb2); (try clear hk); (try clear hi); (try clear ho0)))
  go_ret
  exact ⟨_, by first | rfl | (simp [errW_none, errW_some] <;> rfl) | (simp [*, errW_none, errW_some] <;> rfl), by (with_reducible repeat (first | apply Kd.R_alloc | apply Kd.R_drewN | apply Kd.R_drew)); exact HO114.out, by repeat (first | (with_reducible first | exact HB.out | apply below_alloc | apply pw_below_drewN | apply below_drew1) | exact HB.out)⟩
-- NOT PRINTED: function 83 (aes_Mul)
-- NOT PRINTED: function 96 (aes_inverse)
-- NOT PRINTED: function 97 (bits_RotateLeft8)
-- NOT PRINTED: function 82 (aes_Box)
-- NOT PRINTED: function 65 (aes_boxes)
-- NOT PRINTED: function 66 (aes_keys)
-- NOT PRINTED: function 84 (aes_state_with)
-- NOT PRINTED: function 85 (aes_state_shifted)
-- NOT PRINTED: function 86 (aes_state_mixed)
-- NOT PRINTED: function 67 (aes_locked)
-- NOT PRINTED: function 16 (seal_Seal)
/-! ### seal_Open: function 19 -/
def seal_Open.f (l0 : List Int) (l1 : List Int) (l2 : List Int) (l3 : List Int) : Option (List Int × Int) := (seal_ready.f l0 l1 l2).bind fun bt138 => (if bt138.2.2.2 = 0 then (if (wrap64 ((l3.length : Int) - 32)) < 0 then (some (([] : List Int), 3)) else (if 0 ≤ (wrap64 ((l3.length : Int) - 32)) then (if (wrap64 ((l3.length : Int) - 32)) ≤ (l3.length : Int) then ((seal_tag.f bt138.2.1 (([bt138.2.2.1, l1, (l3.take ((wrap64 ((l3.length : Int) - 32)) : Int).toNat)] : List (List Int)))).bind fun t156 => ((mac_Same.f t156 (l3.drop ((wrap64 ((l3.length : Int) - 32)) : Int).toNat)).bind fun t164 => (if t164 = true then ((aes_Stream.f bt138.1 l1 (l3.take ((wrap64 ((l3.length : Int) - 32)) : Int).toNat)).bind fun bt170 => (some (bt170.1, bt170.2))) else (some (([] : List Int), 5))))) else (none)) else (none))) else (some (([] : List Int), bt138.2.2.2)))
def seal_Open.T7 : Bool × List (List Nat × List Nat) := (true, [([], []), ([], []), ([], []), ([], []), ([], []), ([3, 4], [3, 4]), ([1, 2, 5], [1, 2, 5]), ([0, 6], [0, 6]), ([], []), ([], []), ([8, 9], [8, 9]), ([7, 10, 7], [7, 10]), ([11], [11]), ([12, 11], [12])])
def seal_Open.B7 : List Nat := [0, 0, 0, 0, 0, 24, 62, 127, 0, 0, 768, 2047, 4095, 8191]
theorem seal_Open.tab7 : rtab .any (opsOf Try.f19 7) = seal_Open.T7 := by kernel_rfl
theorem seal_Open.bits7 : waitsOk seal_Open.T7.2 seal_Open.B7 = true := by kernel_rfl
set_option maxHeartbeats 8000000 in
set_option maxRecDepth 100000 in
theorem seal_Open.calls (A0 : Option Addr) (c0 : Nat) (l0 : List Int) (P1_ : Nat → Prop) (A1 : Option Addr) (c1 : Nat) (l1 : List Int) (A2 : Option Addr) (c2 : Nat) (l2 : List Int) (P3_ : Nat → Prop) (A3 : Option Addr) (c3 : Nat) (l3 : List Int) (r1 : List Int) (r2 : Int) (w : World) (hr0 : Kd.C (Kd.int .u8) w A0 l0.length l0) (hc0 : l0.length ≤ c0) (hs1 : Kd.V (Kd.int .u8) 5 w w.heap.size (fun k_ => P1_ k_) (.slice A1 l1.length c1) l1) (hr2 : Kd.C (Kd.int .u8) w A2 l2.length l2) (hc2 : l2.length ≤ c2) (hs3 : Kd.V (Kd.int .u8) 5 w w.heap.size (fun k_ => P3_ k_) (.slice A3 l3.length c3) l3) (h : seal_Open.f l0 l1 l2 l3 = some (r1, r2)) :
    Calls Try.prog 19 #[.slice A0 l0.length c0, .slice A1 l1.length c1, .slice A2 l2.length c2, .slice A3 l3.length c3] w fun e w' => ∃ v0_ : Value, e = .returned (.tuple #[v0_, .int .i64 r2]) ∧ Kd.R (Kd.int .u8) 5 w' w.heap.size (fun k_ => (w.heap.size ≤ k_)) v0_ r1 ∧ Below w.heap.size w w' := by
  have HR0 := Aside0.mk hr0
  have HC0 := Aside0.mk hc0
  clear hr0 hc0
  have HO1 := Aside0.mk (show Kd.V (Kd.int .u8) 5 w w.heap.size (fun k_ => ((P1_ k_ ∨ P3_ k_) ∨ w.heap.size ≤ k_)) (.slice A1 l1.length c1) l1 from Kd.V_mono hs1 (fun k_ hk => .inl (.inl hk)))
  have HR2 := Aside0.mk hr2
  have HC2 := Aside0.mk hc2
  clear hr2 hc2
  have HO3 := Aside0.mk (show Kd.V (Kd.int .u8) 5 w w.heap.size (fun k_ => ((P1_ k_ ∨ P3_ k_) ∨ w.heap.size ≤ k_)) (.slice A3 l3.length c3) l3 from Kd.V_mono hs3 (fun k_ hk => .inl (.inr hk)))
  have HB := Aside0.mk (Below.refl w.heap.size w)
  have H : ((seal_ready.f l0 l1 l2).bind fun bt138 => (if bt138.2.2.2 = 0 then (if (wrap64 ((l3.length : Int) - 32)) < 0 then (some (([] : List Int), 3)) else (if 0 ≤ (wrap64 ((l3.length : Int) - 32)) then (if (wrap64 ((l3.length : Int) - 32)) ≤ (l3.length : Int) then ((seal_tag.f bt138.2.1 (([bt138.2.2.1, l1, (l3.take ((wrap64 ((l3.length : Int) - 32)) : Int).toNat)] : List (List Int)))).bind fun t156 => ((mac_Same.f t156 (l3.drop ((wrap64 ((l3.length : Int) - 32)) : Int).toNat)).bind fun t164 => (if t164 = true then ((aes_Stream.f bt138.1 l1 (l3.take ((wrap64 ((l3.length : Int) - 32)) : Int).toNat)).bind fun bt170 => (some (bt170.1, bt170.2))) else (some (([] : List Int), 5))))) else (none)) else (none))) else (some (([] : List Int), bt138.2.2.2)))) = some (r1, r2) := h
  clear h
  replace H := Option.bind_eq_some_iff.mp H
  obtain ⟨⟨t138, t139, t140, t141⟩, A50, H⟩ := H
  replace H : (if t141 = 0 then (if (wrap64 ((l3.length : Int) - 32)) < 0 then (some (([] : List Int), 3)) else (if 0 ≤ (wrap64 ((l3.length : Int) - 32)) then (if (wrap64 ((l3.length : Int) - 32)) ≤ (l3.length : Int) then ((seal_tag.f t139 (([t140, l1, (l3.take ((wrap64 ((l3.length : Int) - 32)) : Int).toNat)] : List (List Int)))).bind fun t156 => ((mac_Same.f t156 (l3.drop ((wrap64 ((l3.length : Int) - 32)) : Int).toNat)).bind fun t164 => (if t164 = true then ((aes_Stream.f t138 l1 (l3.take ((wrap64 ((l3.length : Int) - 32)) : Int).toNat)).bind fun bt170 => (some (bt170.1, bt170.2))) else (some (([] : List Int), 5))))) else (none)) else (none))) else (some (([] : List Int), t141))) = some (r1, r2) := H
  have A5 := Aside0.mk A50
  clear A50
  by_cases c6 : t141 = 0
  · rw [if_pos c6] at H
    have c6b0 : (t141 == 0) = true := beq_iff_eq.mpr c6
    have c6b1 : (t141 != 0) = false := bne_eq_false_iff_eq.mpr c6
    clear c6
    by_cases c7 : (wrap64 ((l3.length : Int) - 32)) < 0
    · rw [if_pos c7] at H
      have c7b0 : decide ((wrap64 ((l3.length : Int) - 32)) < 0) = true := decide_eq_true c7
      clear c7
      simp only [Option.some.injEq, Prod.mk.injEq] at H
      obtain ⟨rfl, rfl⟩ := H
      go_enter Try.func19, Try.ntmps19
      go_wp2_with (first | ((with_reducible refine gate_callee (f := 42) rfl ?_); refine goesL_ (some 19) rfl rfl Try.func42 (by kernel_rfl) rfl #[.slice A0 l0.length c0, .slice A1 l1.length c1, .slice A2 l2.length c2] rfl (by (try simp only [List.map_toArray, List.map_cons, List.map_nil]); first | done | rfl | (simp only [List.length_drop, List.length_take]; rfl)) ?_; (with_reducible refine (seal_ready.calls _ _ l0 _ _ l1 _ _ l2 t138 t139 t140 t141 _ ?side1 ?side2 ?side3 ?side4 ?side5 ?side6 A5.out).mono ?_); (case side1 => repeat (first | exact HR0.out | (with_reducible refine Kd.C_alloc ?_ _) | (with_reducible refine Kd.C_drewN ?_ _) | (with_reducible refine Kd.C_drew ?_))); (case side2 => exact HC0.out); (case side3 => repeat (first | exact (Kd.V_reads' HO1.out).2.2 | (with_reducible refine Kd.C_alloc ?_ _) | (with_reducible refine Kd.C_drewN ?_ _) | (with_reducible refine Kd.C_drew ?_))); (case side4 => exact (Kd.V_reads' HO1.out).2.1); (case side5 => repeat (first | exact HR2.out | (with_reducible refine Kd.C_alloc ?_ _) | (with_reducible refine Kd.C_drewN ?_ _) | (with_reducible refine Kd.C_drew ?_))); (case side6 => exact HC2.out); rintro e w8 ⟨v142, v144, v146, rfl, ho0, ho1, ho2, hb⟩; refine ⟨_, rfl, ?_⟩; have n0_ := Aside0.mk (Kd.V_mono (Kd.V_told (Kd.V_told (Kd.V_told (Kd.V_old (by (with_reducible repeat (first | apply Kd.V_alloc | apply Kd.V_drewN | apply Kd.V_drew)); exact HO1.out) hb) (Kd.R_base ho0)) (Kd.R_base ho1)) (Kd.R_base ho2)) (fun _ h_ => h_.1)); have n1_ := Aside0.mk (Kd.V_mono (Kd.V_told (Kd.V_told (Kd.V_told (Kd.V_old (by (with_reducible repeat (first | apply Kd.V_alloc | apply Kd.V_drewN | apply Kd.V_drew)); exact HO3.out) hb) (Kd.R_base ho0)) (Kd.R_base ho1)) (Kd.R_base ho2)) (fun _ h_ => h_.1)); have n2_ := Aside0.mk (Kd.R_lower (Kd.R_newM (M := fun k_ => (w.heap.size ≤ k_)) ho0 (below_size (by repeat (first | (with_reducible first | exact HB.out | apply below_alloc | apply pw_below_drewN | apply below_drew1) | exact HB.out))) (fun k_ h_ => h_)) (below_size (by repeat (first | (with_reducible first | exact HB.out | apply below_alloc | apply pw_below_drewN | apply below_drew1) | exact HB.out)))); have n3_ := Aside0.mk (Kd.R_lower (Kd.R_newM (M := fun k_ => (w.heap.size ≤ k_)) ho1 (below_size (by repeat (first | (with_reducible first | exact HB.out | apply below_alloc | apply pw_below_drewN | apply below_drew1) | exact HB.out))) (fun k_ h_ => h_)) (below_size (by repeat (first | (with_reducible first | exact HB.out | apply below_alloc | apply pw_below_drewN | apply below_drew1) | exact HB.out)))); have n4_ := Aside0.mk (Kd.R_lower (Kd.R_newM (M := fun k_ => (w.heap.size ≤ k_)) ho2 (below_size (by repeat (first | (with_reducible first | exact HB.out | apply below_alloc | apply pw_below_drewN | apply below_drew1) | exact HB.out))) (fun k_ h_ => h_)) (below_size (by repeat (first | (with_reducible first | exact HB.out | apply below_alloc | apply pw_below_drewN | apply below_drew1) | exact HB.out)))); have n5_ := Aside0.mk (below_step (by repeat (first | (with_reducible first | exact HB.out | apply below_alloc | apply pw_below_drewN | apply below_drew1) | exact HB.out)) hb); clear HO1; clear HO3; clear HB; have HO1 := n0_; have HO3 := n1_; have HO143 := n2_; have HO145 := n3_; have HO147 := n4_; have HB := n5_; clear n0_ n1_ n2_ n3_ n4_ n5_; (try clear hb); (try clear hb2); (try clear hk); (try clear hi); (try clear ho0); (try clear ho1); (try clear ho2)))
      go_ret2
      exact ⟨_, by first | rfl | (simp [errW_none, errW_some] <;> rfl) | (simp [*, errW_none, errW_some] <;> rfl), by first | exact Kd.R_nil _ _ _ _ _ | exact Kd.N_nil _ _ _ _ _ | exact Kd.V_nil _ _ _ _ _ | exact Kd.Q_nil _ _ _ _ _ | exact Kd.S_nil _ _ _ _ _, by repeat (first | (with_reducible first | exact HB.out | apply below_alloc | apply pw_below_drewN | apply below_drew1) | exact HB.out)⟩
    · rw [if_neg c7] at H
      have c7b0 : decide ((wrap64 ((l3.length : Int) - 32)) < 0) = false := decide_eq_false c7
      clear c7
      obtain ⟨ji9, hji9⟩ : ∃ j_ : Int, (wrap64 ((l3.length : Int) - 32)) = j_ := ⟨_, rfl⟩
      replace H : (if 0 ≤ (ji9) then (if (ji9) ≤ (l3.length : Int) then ((seal_tag.f t139 (([t140, l1, (l3.take ((ji9) : Int).toNat)] : List (List Int)))).bind fun t156 => ((mac_Same.f t156 (l3.drop ((ji9) : Int).toNat)).bind fun t164 => (if t164 = true then ((aes_Stream.f t138 l1 (l3.take ((ji9) : Int).toNat)).bind fun bt170 => (some (bt170.1, bt170.2))) else (some (([] : List Int), 5))))) else (none)) else (none)) = some (r1, r2) := by first | (rw [hji9] at H; exact H) | (simp only [hji9] at H ⊢; exact H)
      (try rw [hji9] at c7b0)
      (try rw [hji9] at A5)
      have hji9w : (IntKind.i64.wrap ((l3.length : Int) - 32)) = ji9 := (i64_w _).trans hji9
      by_cases c10 : 0 ≤ (ji9)
      · rw [if_pos c10] at H
        have c10b0 := eq_true c10
        have c10b1 : decide (0 ≤ (ji9)) = true := decide_eq_true c10
        clear c10
        by_cases c11 : (ji9) ≤ (l3.length : Int)
        · rw [if_pos c11] at H
          have c11b0 := eq_true c11
          have c11b1 : decide ((ji9) ≤ (l3.length : Int)) = true := decide_eq_true c11
          clear c11
          obtain ⟨y148, hy148⟩ : ∃ y_ : List Int, y_ = (l3.take ((ji9) : Int).toNat) := ⟨_, rfl⟩
          replace H : ((seal_tag.f t139 (([t140, l1, y148] : List (List Int)))).bind fun t156 => ((mac_Same.f t156 (l3.drop ((ji9) : Int).toNat)).bind fun t164 => (if t164 = true then ((aes_Stream.f t138 l1 (l3.take ((ji9) : Int).toNat)).bind fun bt170 => (some (bt170.1, bt170.2))) else (some (([] : List Int), 5))))) = some (r1, r2) := by first | (rw [hy148]; with_reducible exact H) | (have H2_ := (Option.bind_some _ _).symm.trans H; rw [hy148]; with_reducible exact H2_) | (have H2_ := (Option.bind_some _ _).symm.trans H; with_reducible exact H2_) | with_reducible exact H | (rw [hy148]; exact H) | exact H
          have Ny148 := Aside0.mk hy148
          clear hy148
          obtain ⟨y153, hy153⟩ : ∃ y_ : List (List Int), y_ = (([t140, l1, y148] : List (List Int))) := ⟨_, rfl⟩
          replace H : ((seal_tag.f t139 y153).bind fun t156 => ((mac_Same.f t156 (l3.drop ((ji9) : Int).toNat)).bind fun t164 => (if t164 = true then ((aes_Stream.f t138 l1 (l3.take ((ji9) : Int).toNat)).bind fun bt170 => (some (bt170.1, bt170.2))) else (some (([] : List Int), 5))))) = some (r1, r2) := by first | (rw [hy153]; with_reducible exact H) | (have H2_ := (Option.bind_some _ _).symm.trans H; rw [hy153]; with_reducible exact H2_) | (have H2_ := (Option.bind_some _ _).symm.trans H; with_reducible exact H2_) | with_reducible exact H | (rw [hy153]; exact H) | exact H
          have Ny153 := Aside0.mk hy153
          clear hy153
          replace H := Option.bind_eq_some_iff.mp H
          obtain ⟨t156, A120, H⟩ := H
          replace H : ((mac_Same.f t156 (l3.drop ((ji9) : Int).toNat)).bind fun t164 => (if t164 = true then ((aes_Stream.f t138 l1 (l3.take ((ji9) : Int).toNat)).bind fun bt170 => (some (bt170.1, bt170.2))) else (some (([] : List Int), 5)))) = some (r1, r2) := H
          have A12 := Aside0.mk A120
          clear A120
          have c13b0 := eq_true (of_decide_eq_true (by first | (with_reducible assumption) | assumption) : 0 ≤ (ji9))
          have c14b0 := eq_true (of_decide_eq_true (by first | (with_reducible assumption) | assumption) : (ji9) ≤ (l3.length : Int))
          obtain ⟨y159, hy159⟩ : ∃ y_ : List Int, y_ = (l3.drop ((ji9) : Int).toNat) := ⟨_, rfl⟩
          replace H : ((mac_Same.f t156 y159).bind fun t164 => (if t164 = true then ((aes_Stream.f t138 l1 (l3.take ((ji9) : Int).toNat)).bind fun bt170 => (some (bt170.1, bt170.2))) else (some (([] : List Int), 5)))) = some (r1, r2) := by first | (rw [hy159]; with_reducible exact H) | (have H2_ := (Option.bind_some _ _).symm.trans H; rw [hy159]; with_reducible exact H2_) | (have H2_ := (Option.bind_some _ _).symm.trans H; with_reducible exact H2_) | with_reducible exact H | (rw [hy159]; exact H) | exact H
          have Ny159 := Aside0.mk hy159
          clear hy159
          replace H := Option.bind_eq_some_iff.mp H
          obtain ⟨t164, A150, H⟩ := H
          replace H : (if t164 = true then ((aes_Stream.f t138 l1 (l3.take ((ji9) : Int).toNat)).bind fun bt170 => (some (bt170.1, bt170.2))) else (some (([] : List Int), 5))) = some (r1, r2) := H
          have A15 := Aside0.mk A150
          clear A150
          by_cases c16 : t164 = true
          · subst c16
            have H1 : ((aes_Stream.f t138 l1 (l3.take ((ji9) : Int).toNat)).bind fun bt170 => (some (bt170.1, bt170.2))) = some (r1, r2) := by rw [if_pos rfl] at H; exact H
            clear H
            have H := H1
            clear H1
            have c17b0 := eq_true (of_decide_eq_true (by first | (with_reducible assumption) | assumption) : 0 ≤ (ji9))
            have c18b0 := eq_true (of_decide_eq_true (by first | (with_reducible assumption) | assumption) : (ji9) ≤ (l3.length : Int))
            obtain ⟨y165, hy165⟩ : ∃ y_ : List Int, y_ = (l3.take ((ji9) : Int).toNat) := ⟨_, rfl⟩
            replace H : ((aes_Stream.f t138 l1 y165).bind fun bt170 => (some (bt170.1, bt170.2))) = some (r1, r2) := by first | (rw [hy165]; with_reducible exact H) | (have H2_ := (Option.bind_some _ _).symm.trans H; rw [hy165]; with_reducible exact H2_) | (have H2_ := (Option.bind_some _ _).symm.trans H; with_reducible exact H2_) | with_reducible exact H | (rw [hy165]; exact H) | exact H
            have Ny165 := Aside0.mk hy165
            clear hy165
            replace H := Option.bind_eq_some_iff.mp H
            obtain ⟨⟨t170, t171⟩, A190, H⟩ := H
            replace H : (some (t170, t171)) = some (r1, r2) := H
            have A19 := Aside0.mk A190
            clear A190
            simp only [Option.some.injEq, Prod.mk.injEq] at H
            obtain ⟨rfl, rfl⟩ := H
            go_enter Try.func19, Try.ntmps19
            try go_wp2_with (first | ((with_reducible refine gate_callee (f := 42) rfl ?_); refine goesL_ (some 19) rfl rfl Try.func42 (by kernel_rfl) rfl #[.slice A0 l0.length c0, .slice A1 l1.length c1, .slice A2 l2.length c2] rfl (by (try simp only [List.map_toArray, List.map_cons, List.map_nil]); first | done | rfl | (simp only [List.length_drop, List.length_take]; rfl)) ?_; (with_reducible refine (seal_ready.calls _ _ l0 _ _ l1 _ _ l2 t138 t139 t140 t141 _ ?side1 ?side2 ?side3 ?side4 ?side5 ?side6 A5.out).mono ?_); (case side1 => repeat (first | exact HR0.out | (with_reducible refine Kd.C_alloc ?_ _) | (with_reducible refine Kd.C_drewN ?_ _) | (with_reducible refine Kd.C_drew ?_))); (case side2 => exact HC0.out); (case side3 => repeat (first | exact (Kd.V_reads' HO1.out).2.2 | (with_reducible refine Kd.C_alloc ?_ _) | (with_reducible refine Kd.C_drewN ?_ _) | (with_reducible refine Kd.C_drew ?_))); (case side4 => exact (Kd.V_reads' HO1.out).2.1); (case side5 => repeat (first | exact HR2.out | (with_reducible refine Kd.C_alloc ?_ _) | (with_reducible refine Kd.C_drewN ?_ _) | (with_reducible refine Kd.C_drew ?_))); (case side6 => exact HC2.out); rintro e w20 ⟨v142, v144, v146, rfl, ho0, ho1, ho2, hb⟩; refine ⟨_, rfl, ?_⟩; have n0_ := Aside0.mk (Kd.V_mono (Kd.V_told (Kd.V_told (Kd.V_told (Kd.V_old (by (with_reducible repeat (first | apply Kd.V_alloc | apply Kd.V_drewN | apply Kd.V_drew)); exact HO1.out) hb) (Kd.R_base ho0)) (Kd.R_base ho1)) (Kd.R_base ho2)) (fun _ h_ => h_.1)); have n1_ := Aside0.mk (Kd.V_mono (Kd.V_told (Kd.V_told (Kd.V_told (Kd.V_old (by (with_reducible repeat (first | apply Kd.V_alloc | apply Kd.V_drewN | apply Kd.V_drew)); exact HO3.out) hb) (Kd.R_base ho0)) (Kd.R_base ho1)) (Kd.R_base ho2)) (fun _ h_ => h_.1)); have n2_ := Aside0.mk (Kd.R_lower (Kd.R_newM (M := fun k_ => (w.heap.size ≤ k_)) ho0 (below_size (by repeat (first | (with_reducible first | exact HB.out | apply below_alloc | apply pw_below_drewN | apply below_drew1) | exact HB.out))) (fun k_ h_ => h_)) (below_size (by repeat (first | (with_reducible first | exact HB.out | apply below_alloc | apply pw_below_drewN | apply below_drew1) | exact HB.out)))); have n3_ := Aside0.mk (Kd.R_lower (Kd.R_newM (M := fun k_ => (w.heap.size ≤ k_)) ho1 (below_size (by repeat (first | (with_reducible first | exact HB.out | apply below_alloc | apply pw_below_drewN | apply below_drew1) | exact HB.out))) (fun k_ h_ => h_)) (below_size (by repeat (first | (with_reducible first | exact HB.out | apply below_alloc | apply pw_below_drewN | apply below_drew1) | exact HB.out)))); have n4_ := Aside0.mk (Kd.R_lower (Kd.R_newM (M := fun k_ => (w.heap.size ≤ k_)) ho2 (below_size (by repeat (first | (with_reducible first | exact HB.out | apply below_alloc | apply pw_below_drewN | apply below_drew1) | exact HB.out))) (fun k_ h_ => h_)) (below_size (by repeat (first | (with_reducible first | exact HB.out | apply below_alloc | apply pw_below_drewN | apply below_drew1) | exact HB.out)))); have n5_ := Aside0.mk (below_step (by repeat (first | (with_reducible first | exact HB.out | apply below_alloc | apply pw_below_drewN | apply below_drew1) | exact HB.out)) hb); clear HO1; clear HO3; clear HB; have HO1 := n0_; have HO3 := n1_; have HO143 := n2_; have HO145 := n3_; have HO147 := n4_; have HB := n5_; clear n0_ n1_ n2_ n3_ n4_ n5_; (try clear hb); (try clear hb2); (try clear hk); (try clear hi); (try clear ho0); (try clear ho1); (try clear ho2)))
            have n0_ := Aside0.mk (Kd.V_drew HO1.out)
            have n1_ := Aside0.mk (Kd.V_drew HO3.out)
            have n2_ := Aside0.mk (Kd.R_drew HO143.out)
            have n3_ := Aside0.mk (Kd.R_drew HO145.out)
            have n4_ := Aside0.mk (Kd.R_drew HO147.out)
            have n5_ := Aside0.mk (below_drew1 HB.out)
            clear HO1
            clear HO3
            clear HO143
            clear HO145
            clear HO147
            clear HB
            have HO1 := n0_
            have HO3 := n1_
            have HO143 := n2_
            have HO145 := n3_
            have HO147 := n4_
            have HB := n5_
            clear n0_ n1_ n2_ n3_ n4_ n5_
            have q22 : ((ji9) : Int) ≤ ((l3.length : Int) : Int) := of_decide_eq_true (by first | (with_reducible assumption) | assumption)
            obtain ⟨i022, hi022, _, hsz22, _⟩ := info_parts info5
            have hroom22 : l3.length ≤ c3 := (Kd.V_reads' HO3.out).2.1
            have hC22 : Kd.F (Kd.int .u8) _ _ A3 l3.length l3 := (Kd.V_at (base := w.heap.size) HO3.out).2.2
            have hcut22 := cut_to (P := Try.prog) 22 5 .i64 Try.underlying22 hi022 A3 l3.length c3 (ji9) (of_decide_eq_true (by first | (with_reducible assumption) | assumption)) q22 hroom22
            have hr22 := Kd.F_take (m := ((ji9) : Int).toNat) hC22 (by omega)
            have hy22 : y148.length = ((ji9) : Int).toNat := (by rw [Ny148.out, List.length_take]; omega)
            rw [← Ny148.out] at hr22
            rw [← hy22] at hcut22
            have HO152 := Aside0.mk (show Kd.V (Kd.int .u8) 5 _ w.heap.size _ (.slice A3 y148.length c3) y148 from Kd.V_mk (by omega) hr22)
            have HC152 := Aside0.mk (show y148.length ≤ c3 from by omega)
            clear hr22 hC22 hroom22 hi022 hsz22
            have KY22 := Aside0.mk hy22
            clear hy22
            replace q22 := eq_true q22
            have q23 : ((ji9) : Int) ≤ ((l3.length : Int) : Int) := of_decide_eq_true (by first | (with_reducible assumption) | assumption)
            obtain ⟨i023, hi023, _, hsz23, _⟩ := info_parts info5
            have hroom23 : l3.length ≤ c3 := (Kd.V_reads' HO3.out).2.1
            have hC23 : Kd.F (Kd.int .u8) _ _ A3 l3.length l3 := (Kd.V_at (base := w.heap.size) HO3.out).2.2
            have q023 : (0 : Int) ≤ ((ji9) : Int) := of_decide_eq_true (by first | (with_reducible assumption) | assumption)
            have hcut23 := cut_from (P := Try.prog) 22 5 .i64 Try.underlying22 hi023 1 hsz23 A3 l3.length c3 (ji9) q023 q23
            have hr23 := Kd.F_cut (m := ((ji9) : Int).toNat) (c := c3) hC23 (by omega) hroom23
            obtain ⟨A23, hA23⟩ : ∃ A1, A1 = (if c3 = ((ji9) : Int).toNat then A3 else (A3 : Option Addr).map (·.add (((ji9) : Int).toNat * 1))) := ⟨_, rfl⟩
            obtain ⟨c23, hc23⟩ : ∃ c1, c1 = c3 - ((ji9) : Int).toNat := ⟨_, rfl⟩
            have hy23 : y159.length = l3.length - ((ji9) : Int).toNat := (by rw [Ny159.out, List.length_drop] <;> omega)
            rw [show (l3).drop ((ji9) : Int).toNat = y159 from Ny159.out.symm] at hr23
            replace hr23 : Kd.F (Kd.int .u8) _ _ A23 y159.length y159 := (by rw [hA23]; exact hr23)
            rw [← hy23, ← hA23, ← hc23] at hcut23
            have HO163 := Aside0.mk (show Kd.V (Kd.int .u8) 5 _ w.heap.size _ (.slice A23 y159.length c23) y159 from Kd.V_mk (by rw [hy23, hc23]; exact Nat.sub_le_sub_right hroom23 _) hr23)
            have HC163 := Aside0.mk (show y159.length ≤ c23 from by rw [hy23, hc23]; exact Nat.sub_le_sub_right hroom23 _)
            clear hr23 hC23 hroom23 hi023 hsz23 hc23
            have KY23 := Aside0.mk hy23
            have KA23 := Aside0.mk hA23
            clear hy23 hA23
            replace q23 := eq_true q23
            obtain ⟨Ao24, co24, eo24⟩ := Kd.R_slice HO147.out
            (first | subst eo24 | (injection eo24 with f1_ f2_ f3_; have f4_ := f1_.symm; have f5_ := f3_.symm; clear f1_ f2_ f3_; subst f4_; subst f5_))
            refine start_ (n := 14) (S := fun w' => True) (ds := []) #[false, false, false, false, false, false, false, false, false, false, false, false, false, false] (by kernel_rfl) rfl rfl trivial (fun hHeld => ?_); refine with_tabW seal_Open.tab7 seal_Open.bits7 (fun HT_ HW_ => ?_)
            generalize w20.drew = w21 at HO1 HO3 HO143 HO145 HO147 HB HO152 HO163 hHeld ⊢
            refine pure_ (i := 0) (N := some 34) (v := ?_) (a' := ?_) #[true, false, false, false, false, false, false, false, false, false, false, false, false, false] rfl rfl (any_of HT_.out (by kernel_rfl)) (fun _ _ _ h => h) (Or.inl ⟨by rfl, ?_⟩) ?_ ?_
            rotate_left
            · intro w'
              go_simp
              with_reducible rfl
            rotate_left
            · simp only [Act.put, List.setIfInBounds_toArray, List.set_cons_zero, List.set_cons_succ, i64_w, i32_w]
              rfl
            refine pure_ (i := 1) (N := some 35) (v := ?_) (a' := ?_) #[true, true, false, false, false, false, false, false, false, false, false, false, false, false] rfl rfl (any_of HT_.out (by kernel_rfl)) (fun _ _ _ h => h) (Or.inl ⟨by rfl, ?_⟩) ?_ ?_
            rotate_left
            · intro w'
              go_simp
              with_reducible rfl
            rotate_left
            · simp only [Act.put, List.setIfInBounds_toArray, List.set_cons_zero, List.set_cons_succ, i64_w, i32_w]
              rfl
            refine pure_ (i := 2) (N := some 36) (v := ?_) (a' := ?_) #[true, true, true, false, false, false, false, false, false, false, false, false, false, false] rfl rfl (any_of HT_.out (by kernel_rfl)) (fun _ _ _ h => h) (Or.inl ⟨by rfl, ?_⟩) ?_ ?_
            rotate_left
            · intro w'
              go_simp
              with_reducible rfl
            rotate_left
            · simp only [Act.put, List.setIfInBounds_toArray, List.set_cons_zero, List.set_cons_succ, i64_w, i32_w]
              rfl
            refine pure_ (i := 3) (N := some 37) (v := ?_) (a' := ?_) #[true, true, true, true, false, false, false, false, false, false, false, false, false, false] rfl rfl (any_of HT_.out (by kernel_rfl)) (fun _ _ _ h => h) (Or.inl ⟨by rfl, ?_⟩) ?_ ?_
            rotate_left
            · intro w'
              go_simp
              with_reducible rfl
            rotate_left
            · simp only [Act.put, List.setIfInBounds_toArray, List.set_cons_zero, List.set_cons_succ, i64_w, i32_w]
              rfl
            refine pure_ (i := 4) (N := some 38) (v := ?_) (a' := ?_) #[true, true, true, true, true, false, false, false, false, false, false, false, false, false] rfl rfl (any_of HT_.out (by kernel_rfl)) (fun _ _ _ h => h) (Or.inl ⟨by rfl, ?_⟩) ?_ ?_
            rotate_left
            · intro w'
              go_simp
              with_reducible rfl
            rotate_left
            · simp only [Act.put, List.setIfInBounds_toArray, List.set_cons_zero, List.set_cons_succ, i64_w, i32_w]
              rfl
            refine pure_ (i := 5) (N := some 39) (v := ?_) (a' := ?_) #[true, true, true, true, true, true, false, false, false, false, false, false, false, false] rfl rfl (any_of HT_.out (by kernel_rfl)) (fun _ _ _ h => h) (Or.inl ⟨by rfl, ?_⟩) ?_ ?_
            rotate_left
            · intro w'
              go_simp
              with_reducible rfl
            rotate_left
            · simp only [Act.put, List.setIfInBounds_toArray, List.set_cons_zero, List.set_cons_succ, i64_w, i32_w]
              rfl
            refine pure_ (i := 8) (N := some 42) (v := ?_) (a' := ?_) #[true, true, true, true, true, true, false, false, true, false, false, false, false, false] rfl rfl (any_of HT_.out (by kernel_rfl)) (fun _ _ _ h => h) (Or.inl ⟨by rfl, ?_⟩) ?_ ?_
            rotate_left
            · intro w'
              go_simp
              with_reducible rfl
            rotate_left
            · simp only [Act.put, List.setIfInBounds_toArray, List.set_cons_zero, List.set_cons_succ, i64_w, i32_w]
              rfl
            refine pure_ (i := 9) (N := some 43) (v := ?_) (a' := ?_) #[true, true, true, true, true, true, false, false, true, true, false, false, false, false] rfl rfl (any_of HT_.out (by kernel_rfl)) (fun _ _ _ h => h) (Or.inl ⟨by rfl, ?_⟩) ?_ ?_
            rotate_left
            · intro w'
              go_simp
              with_reducible rfl
            rotate_left
            · simp only [Act.put, List.setIfInBounds_toArray, List.set_cons_zero, List.set_cons_succ, i64_w, i32_w]
              rfl
            refine pure_ (i := 10) (N := some 44) (v := ?_) (a' := ?_) #[true, true, true, true, true, true, false, false, true, true, true, false, false, false] rfl rfl (any_of HT_.out (by kernel_rfl)) (fun _ _ _ h => h) (Or.inl ⟨by rfl, ?_⟩) ?_ ?_
            rotate_left
            · intro w'
              go_simp
              with_reducible rfl
            rotate_left
            · simp only [Act.put, List.setIfInBounds_toArray, List.set_cons_zero, List.set_cons_succ, i64_w, i32_w]
              rfl
            refine one_ (i := 6) (N := some 40) #[true, true, true, true, true, true, true, false, true, true, true, false, false, false] rfl rfl (one_of HT_.out (by kernel_rfl)) (by decide) (fun K hK => ?_)
            refine Kd.N_lit_step (Kd.slice 5 (Kd.int .u8)) _ 22 ?hg (N' := 40) ?hd (xs := ([t140, l1, y148] : List (List Int))) (inner := [.slice Ao24 t140.length co24, .slice A1 l1.length c1, .slice A3 y148.length c3]) (ok := (fun k_ => ((P1_ k_ ∨ P3_ k_) ∨ w.heap.size ≤ k_) ∧ some k_ ≠ (v142 : Value).ownBlock ∧ some k_ ≠ (v144 : Value).ownBlock)) (okp := (fun k_ => ((P1_ k_ ∨ P3_ k_) ∨ w.heap.size ≤ k_) ∧ some k_ ≠ (v142 : Value).ownBlock ∧ some k_ ≠ (v144 : Value).ownBlock)) ?hr ?hp (fun _ hk => hk) ((show ∀ k_, w21.heap.size ≤ k_ → (fun k_ => ((P1_ k_ ∨ P3_ k_) ∨ w.heap.size ≤ k_) ∧ some k_ ≠ (v142 : Value).ownBlock ∧ some k_ ≠ (v144 : Value).ownBlock) k_ from fun k_ hk => ⟨(.inr (Nat.le_trans (below_size (by repeat (first | (with_reducible first | exact HB.out | apply below_alloc | apply pw_below_drewN | apply below_drew1) | exact HB.out))) hk)), Kd.fresh' (Kd.R_lt (by (with_reducible repeat (first | apply Kd.R_alloc | apply Kd.R_drewN | apply Kd.R_drew)); exact HO143.out)) k_ hk, Kd.fresh' (Kd.R_lt (by (with_reducible repeat (first | apply Kd.R_alloc | apply Kd.R_drewN | apply Kd.R_drew)); exact HO145.out)) k_ hk⟩) _ (Nat.le_refl _)) (Below.refl _ _) (Nat.le_refl _) (by simp) ?_; (case hd => rfl); (case hg => rfl); (case hr => first | (go_simp; done) | (go_simp; rfl)); (case hp => exact (Reps.one (show Kd.FK (Kd.slice 5 (Kd.int .u8)) _ _ t140 [.slice Ao24 t140.length co24] from (Kd.FK_slice_mk (Kd.R_reads' (Kd.R_mono (ok' := (fun k_ => ((P1_ k_ ∨ P3_ k_) ∨ w.heap.size ≤ k_) ∧ some k_ ≠ (v142 : Value).ownBlock ∧ some k_ ≠ (v144 : Value).ownBlock)) (HO147.out) (fun k_ hk => ⟨(.inr (hk.1)), ⟨hk.2.1, hk.2.2⟩⟩))).2.1 (Kd.R_F (Kd.R_mono (ok' := (fun k_ => ((P1_ k_ ∨ P3_ k_) ∨ w.heap.size ≤ k_) ∧ some k_ ≠ (v142 : Value).ownBlock ∧ some k_ ≠ (v144 : Value).ownBlock)) (HO147.out) (fun k_ hk => ⟨(.inr (hk.1)), ⟨hk.2.1, hk.2.2⟩⟩))))) (Reps.one (show Kd.FK (Kd.slice 5 (Kd.int .u8)) _ _ l1 [.slice A1 l1.length c1] from (Kd.FK_slice_mk (Kd.V_reads' (Kd.V_mono (ok' := (fun k_ => ((P1_ k_ ∨ P3_ k_) ∨ w.heap.size ≤ k_) ∧ some k_ ≠ (v142 : Value).ownBlock ∧ some k_ ≠ (v144 : Value).ownBlock)) (HO1.out) (fun k_ hk => ⟨hk.1.1.1, ⟨hk.1.1.2, hk.1.2⟩⟩))).2.1 (Kd.V_F (Kd.V_mono (ok' := (fun k_ => ((P1_ k_ ∨ P3_ k_) ∨ w.heap.size ≤ k_) ∧ some k_ ≠ (v142 : Value).ownBlock ∧ some k_ ≠ (v144 : Value).ownBlock)) (HO1.out) (fun k_ hk => ⟨hk.1.1.1, ⟨hk.1.1.2, hk.1.2⟩⟩))))) (Reps.one (show Kd.FK (Kd.slice 5 (Kd.int .u8)) _ _ y148 [.slice A3 y148.length c3] from (Kd.FK_slice_mk (Kd.V_reads' (Kd.V_mono (ok' := (fun k_ => ((P1_ k_ ∨ P3_ k_) ∨ w.heap.size ≤ k_) ∧ some k_ ≠ (v142 : Value).ownBlock ∧ some k_ ≠ (v144 : Value).ownBlock)) (HO152.out) (fun k_ hk => ⟨hk.1.1.1, ⟨hk.1.1.2, hk.1.2⟩⟩))).2.1 (Kd.V_F (Kd.V_mono (ok' := (fun k_ => ((P1_ k_ ∨ P3_ k_) ∨ w.heap.size ≤ k_) ∧ some k_ ≠ (v142 : Value).ownBlock ∧ some k_ ≠ (v144 : Value).ownBlock)) (HO152.out) (fun k_ hk => ⟨hk.1.1.1, ⟨hk.1.1.2, hk.1.2⟩⟩))))) (Reps.none _ _)))))
            intro v154 w25 ho26 hb hg_ hnew_
            clear hg_ hnew_
            (first | rw [← Ny153.out] at ho26 | (simp only [Int.reduceToNat] at ho26; rw [← Ny153.out] at ho26))
            have n0_ := Aside0.mk (Kd.V_elder' (by (with_reducible repeat (first | apply Kd.V_alloc | apply Kd.V_drewN | apply Kd.V_drew)); exact HO1.out) (Kd.N_base ho26) hb)
            have n1_ := Aside0.mk (Kd.V_elder' (by (with_reducible repeat (first | apply Kd.V_alloc | apply Kd.V_drewN | apply Kd.V_drew)); exact HO3.out) (Kd.N_base ho26) hb)
            have n2_ := Aside0.mk (Kd.R_below (by (with_reducible repeat (first | apply Kd.R_alloc | apply Kd.R_drewN | apply Kd.R_drew)); exact HO143.out) hb)
            have n3_ := Aside0.mk (Kd.R_below (by (with_reducible repeat (first | apply Kd.R_alloc | apply Kd.R_drewN | apply Kd.R_drew)); exact HO145.out) hb)
            have n4_ := Aside0.mk (Kd.V_elder' (by (with_reducible repeat (first | apply Kd.V_alloc | apply Kd.V_drewN | apply Kd.V_drew)); exact HO152.out) (Kd.N_base ho26) hb)
            have n5_ := Aside0.mk (Kd.V_elder' (by (with_reducible repeat (first | apply Kd.V_alloc | apply Kd.V_drewN | apply Kd.V_drew)); exact HO163.out) (Kd.N_base ho26) hb)
            have n6_ := Aside0.mk (Kd.N_lower ho26 (below_size (by repeat (first | (with_reducible first | exact HB.out | apply below_alloc | apply pw_below_drewN | apply below_drew1) | exact HB.out))))
            have n7_ := Aside0.mk (below_step (by repeat (first | (with_reducible first | exact HB.out | apply below_alloc | apply pw_below_drewN | apply below_drew1) | exact HB.out)) hb)
            clear HO1
            clear HO3
            clear HO143
            clear HO145
            clear HO152
            clear HO163
            clear HB
            clear HO147
            have HO1 := n0_
            have HO3 := n1_
            have HO143 := n2_
            have HO145 := n3_
            have HO152 := n4_
            have HO163 := n5_
            have HO155 := n6_
            have HB := n7_
            clear n0_ n1_ n2_ n3_ n4_ n5_ n6_ n7_
            clear hb ho26
            obtain ⟨Ao27, co27, eo27⟩ := Kd.R_slice HO145.out
            (first | subst eo27 | (injection eo27 with f1_ f2_ f3_; have f4_ := f1_.symm; have f5_ := f3_.symm; clear f1_ f2_ f3_; subst f4_; subst f5_))
            obtain ⟨Ao28, co28, eo28⟩ := Kd.N_slice HO155.out
            (first | subst eo28 | (injection eo28 with f1_ f2_ f3_; have f4_ := f1_.symm; have f5_ := f3_.symm; clear f1_ f2_ f3_; subst f4_; subst f5_))
            refine hK.out _ _ trivial (fun hHeld => ?_)
            clear hK K
            refine norm_ (a' := ?_) ?_ ?_
            rotate_left
            · show Act.put _ (some 40) _ = _
              simp only [Act.put, List.setIfInBounds_toArray, List.set_cons_zero, List.set_cons_succ, i64_w, i32_w]
              rfl
            refine one_ (i := 7) (N := some 41) #[true, true, true, true, true, true, true, true, true, true, true, false, false, false] rfl rfl (one_of HT_.out (by kernel_rfl)) (by decide) (fun K hK => ?_)
            refine goes_ Try.func44 (by kernel_rfl) rfl #[.slice Ao27 t139.length co27, .slice Ao28 y153.length co28] (by rfl) rfl rfl (by (try simp only [List.map_toArray, List.map_cons, List.map_nil]); first | done | rfl | (simp only [List.length_drop, List.length_take]; rfl)) ?_
            with_reducible refine (seal_tag.calls _ _ t139 _ _ y153 t156 _ ?side1 ?side2 ?side3 ?side4 A12.out).mono ?_
            (case side1 => repeat (first | exact (Kd.R_reads' HO145.out).2.2 | (with_reducible refine Kd.C_alloc ?_ _) | (with_reducible refine Kd.C_drewN ?_ _) | (with_reducible refine Kd.C_drew ?_)))
            (case side2 => exact (Kd.R_reads' HO145.out).2.1)
            (case side3 => repeat (first | exact (Kd.N_reads' HO155.out).2.2 | (with_reducible refine Kd.C_alloc ?_ _) | (with_reducible refine Kd.C_drewN ?_ _) | (with_reducible refine Kd.C_drew ?_)))
            (case side4 => exact (Kd.N_reads' HO155.out).2.1)
            rintro e w29 ⟨v157, rfl, ho0, hb⟩
            refine ⟨_, rfl, ?_⟩
            have n0_ := Aside0.mk (Kd.V_elder' (by (with_reducible repeat (first | apply Kd.V_alloc | apply Kd.V_drewN | apply Kd.V_drew)); exact HO1.out) (Kd.R_base ho0) hb)
            have n1_ := Aside0.mk (Kd.V_elder' (by (with_reducible repeat (first | apply Kd.V_alloc | apply Kd.V_drewN | apply Kd.V_drew)); exact HO3.out) (Kd.R_base ho0) hb)
            have n2_ := Aside0.mk (Kd.R_elder' (by (with_reducible repeat (first | apply Kd.R_alloc | apply Kd.R_drewN | apply Kd.R_drew)); exact HO143.out) (Kd.R_base ho0) hb)
            have n3_ := Aside0.mk (Kd.R_elder' (by (with_reducible repeat (first | apply Kd.R_alloc | apply Kd.R_drewN | apply Kd.R_drew)); exact HO145.out) (Kd.R_base ho0) hb)
            have n4_ := Aside0.mk (Kd.V_elder' (by (with_reducible repeat (first | apply Kd.V_alloc | apply Kd.V_drewN | apply Kd.V_drew)); exact HO152.out) (Kd.R_base ho0) hb)
            have n5_ := Aside0.mk (Kd.V_elder' (by (with_reducible repeat (first | apply Kd.V_alloc | apply Kd.V_drewN | apply Kd.V_drew)); exact HO163.out) (Kd.R_base ho0) hb)
            have n6_ := Aside0.mk (Kd.N_elder' (by (with_reducible repeat (first | apply Kd.N_alloc | apply Kd.N_drewN | apply Kd.N_drew)); exact HO155.out) (Kd.R_base ho0) hb)
            have n7_ := Aside0.mk (Kd.R_lower (Kd.R_new' (Kd.R_new' (Kd.R_newM (M := fun k_ => (w.heap.size ≤ k_)) ho0 (below_size (by repeat (first | (with_reducible first | exact HB.out | apply below_alloc | apply pw_below_drewN | apply below_drew1) | exact HB.out))) (fun k_ h_ => h_)) (Kd.R_lt (by (with_reducible repeat (first | apply Kd.R_alloc | apply Kd.R_drewN | apply Kd.R_drew)); exact HO143.out))) (Kd.R_lt (by (with_reducible repeat (first | apply Kd.R_alloc | apply Kd.R_drewN | apply Kd.R_drew)); exact HO145.out))) (below_size (by repeat (first | (with_reducible first | exact HB.out | apply below_alloc | apply pw_below_drewN | apply below_drew1) | exact HB.out))))
            have n8_ := Aside0.mk (below_step (by repeat (first | (with_reducible first | exact HB.out | apply below_alloc | apply pw_below_drewN | apply below_drew1) | exact HB.out)) hb)
            clear HO1
            clear HO3
            clear HO143
            clear HO145
            clear HO152
            clear HO163
            clear HO155
            clear HB
            have HO1 := n0_
            have HO3 := n1_
            have HO143 := n2_
            have HO145 := n3_
            have HO152 := n4_
            have HO163 := n5_
            have HO155 := n6_
            have HO158 := n7_
            have HB := n8_
            clear n0_ n1_ n2_ n3_ n4_ n5_ n6_ n7_ n8_
            (try clear hb)
            (try clear hb2)
            (try clear hk)
            (try clear hi)
            (try clear ho0)
            obtain ⟨Ao30, co30, eo30⟩ := Kd.R_slice HO158.out
            (first | subst eo30 | (injection eo30 with f1_ f2_ f3_; have f4_ := f1_.symm; have f5_ := f3_.symm; clear f1_ f2_ f3_; subst f4_; subst f5_))
            refine hK.out _ _ trivial (fun hHeld => ?_)
            clear hK K
            refine norm_ (a' := ?_) ?_ ?_
            rotate_left
            · show Act.put _ (some 41) _ = _
              simp only [Act.put, List.setIfInBounds_toArray, List.set_cons_zero, List.set_cons_succ, i64_w, i32_w]
              rfl
            refine one_ (i := 11) (N := some 45) #[true, true, true, true, true, true, true, true, true, true, true, true, false, false] rfl rfl (one_of HT_.out (by kernel_rfl)) (by decide) (fun K hK => ?_)
            refine goes_ Try.func46 (by kernel_rfl) rfl #[.slice Ao30 t156.length co30, .slice A23 y159.length c23] (by rfl) rfl rfl (by (try simp only [List.map_toArray, List.map_cons, List.map_nil]); first | done | rfl | (simp only [List.length_drop, List.length_take]; rfl)) ?_
            with_reducible refine (mac_Same.calls _ _ t156 _ _ y159 true _ ?side1 ?side2 ?side3 ?side4 A15.out).mono ?_
            (case side1 => repeat (first | exact (Kd.R_reads' HO158.out).2.2 | (with_reducible refine Kd.C_alloc ?_ _) | (with_reducible refine Kd.C_drewN ?_ _) | (with_reducible refine Kd.C_drew ?_)))
            (case side2 => exact (Kd.R_reads' HO158.out).2.1)
            (case side3 => repeat (first | exact (Kd.V_reads' HO163.out).2.2 | (with_reducible refine Kd.C_alloc ?_ _) | (with_reducible refine Kd.C_drewN ?_ _) | (with_reducible refine Kd.C_drew ?_)))
            (case side4 => exact (Kd.V_reads' HO163.out).2.1)
            rintro e w' ⟨rfl, ⟨nd, rfl⟩⟩
            refine ⟨_, rfl, ?_⟩
            refine hK.out _ _ trivial (fun hHeld => ?_)
            clear hK K
            refine norm_ (a' := ?_) ?_ ?_
            rotate_left
            · show Act.put _ (some 45) _ = _
              simp only [Act.put, List.setIfInBounds_toArray, List.set_cons_zero, List.set_cons_succ, i64_w, i32_w]
              rfl
            refine pure_ (i := 12) (N := some 46) (v := ?_) (a' := ?_) #[true, true, true, true, true, true, true, true, true, true, true, true, true, false] rfl rfl (any_of HT_.out (by kernel_rfl)) (fun _ _ _ h => h) (Or.inl ⟨by rfl, ?_⟩) ?_ ?_
            rotate_left
            · intro w'
              go_simp
              with_reducible rfl
            rotate_left
            · simp only [Act.put, List.setIfInBounds_toArray, List.set_cons_zero, List.set_cons_succ, i64_w, i32_w]
              rfl
            refine pure_ (i := 13) (N := some 33) (v := ?_) (a' := ?_) #[true, true, true, true, true, true, true, true, true, true, true, true, true, true] rfl rfl (any_of HT_.out (by kernel_rfl)) (fun _ _ _ h => h) (Or.inl ⟨by rfl, ?_⟩) ?_ ?_
            rotate_left
            · intro w'
              go_simp
              with_reducible rfl
            rotate_left
            · simp only [Act.put, List.setIfInBounds_toArray, List.set_cons_zero, List.set_cons_succ, i64_w, i32_w]
              rfl
            refine done_ (done_of HT_.out (by kernel_rfl)) ?_
            have q31 : ((ji9) : Int) ≤ ((l3.length : Int) : Int) := of_decide_eq_true (by first | (with_reducible assumption) | assumption)
            obtain ⟨i031, hi031, _, hsz31, _⟩ := info_parts info5
            have hroom31 : l3.length ≤ c3 := (Kd.V_reads' HO3.out).2.1
            have hC31 : Kd.F (Kd.int .u8) _ _ A3 l3.length l3 := (Kd.V_at (base := w.heap.size) HO3.out).2.2
            try clear hcut22
            try clear hcut23
            have hcut31 := cut_to (P := Try.prog) 22 5 .i64 Try.underlying22 hi031 A3 l3.length c3 (ji9) (of_decide_eq_true (by first | (with_reducible assumption) | assumption)) q31 hroom31
            have hr31 := Kd.F_take (m := ((ji9) : Int).toNat) hC31 (by omega)
            have hy31 : y165.length = ((ji9) : Int).toNat := (by rw [Ny165.out, List.length_take]; omega)
            rw [← Ny165.out] at hr31
            rw [← hy31] at hcut31
            have HO169 := Aside0.mk (show Kd.V (Kd.int .u8) 5 _ w.heap.size _ (.slice A3 y165.length c3) y165 from Kd.V_mk (by omega) hr31)
            have HC169 := Aside0.mk (show y165.length ≤ c3 from by omega)
            clear hr31 hC31 hroom31 hi031 hsz31
            have KY31 := Aside0.mk hy31
            clear hy31
            replace q31 := eq_true q31
            obtain ⟨Ao32, co32, eo32⟩ := Kd.R_slice HO143.out
            subst eo32
            try go_wp2_with (first | ((with_reducible refine gate_callee (f := 43) rfl ?_); refine goesL_ (some 52) rfl rfl Try.func43 (by kernel_rfl) rfl #[.slice Ao32 t138.length co32, .slice A1 l1.length c1, .slice A3 y165.length c3] rfl (by (try simp only [List.map_toArray, List.map_cons, List.map_nil]); first | done | rfl | (simp only [List.length_drop, List.length_take]; rfl)) ?_; (with_reducible refine (aes_Stream.calls _ _ t138 _ _ l1 _ _ y165 t170 t171 _ ?side1 ?side2 ?side3 ?side4 ?side5 ?side6 A19.out).mono ?_); (case side1 => repeat (first | exact (Kd.R_reads' HO143.out).2.2 | (with_reducible refine Kd.C_alloc ?_ _) | (with_reducible refine Kd.C_drewN ?_ _) | (with_reducible refine Kd.C_drew ?_))); (case side2 => exact (Kd.R_reads' HO143.out).2.1); (case side3 => repeat (first | exact (Kd.V_reads' HO1.out).2.2 | (with_reducible refine Kd.C_alloc ?_ _) | (with_reducible refine Kd.C_drewN ?_ _) | (with_reducible refine Kd.C_drew ?_))); (case side4 => exact (Kd.V_reads' HO1.out).2.1); (case side5 => repeat (first | exact (Kd.V_reads' HO169.out).2.2 | (with_reducible refine Kd.C_alloc ?_ _) | (with_reducible refine Kd.C_drewN ?_ _) | (with_reducible refine Kd.C_drew ?_))); (case side6 => exact (Kd.V_reads' HO169.out).2.1); rintro e w33 ⟨v172, rfl, ho0, hb⟩; refine ⟨_, rfl, ?_⟩; have n0_ := Aside0.mk (Kd.V_elder' (by (with_reducible repeat (first | apply Kd.V_alloc | apply Kd.V_drewN | apply Kd.V_drew)); exact HO1.out) (Kd.R_base ho0) hb); have n1_ := Aside0.mk (Kd.V_elder' (by (with_reducible repeat (first | apply Kd.V_alloc | apply Kd.V_drewN | apply Kd.V_drew)); exact HO3.out) (Kd.R_base ho0) hb); have n2_ := Aside0.mk (Kd.R_elder' (by (with_reducible repeat (first | apply Kd.R_alloc | apply Kd.R_drewN | apply Kd.R_drew)); exact HO143.out) (Kd.R_base ho0) hb); have n3_ := Aside0.mk (Kd.R_elder' (by (with_reducible repeat (first | apply Kd.R_alloc | apply Kd.R_drewN | apply Kd.R_drew)); exact HO145.out) (Kd.R_base ho0) hb); have n4_ := Aside0.mk (Kd.V_elder' (by (with_reducible repeat (first | apply Kd.V_alloc | apply Kd.V_drewN | apply Kd.V_drew)); exact HO152.out) (Kd.R_base ho0) hb); have n5_ := Aside0.mk (Kd.V_elder' (by (with_reducible repeat (first | apply Kd.V_alloc | apply Kd.V_drewN | apply Kd.V_drew)); exact HO163.out) (Kd.R_base ho0) hb); have n6_ := Aside0.mk (Kd.N_elder' (by (with_reducible repeat (first | apply Kd.N_alloc | apply Kd.N_drewN | apply Kd.N_drew)); exact HO155.out) (Kd.R_base ho0) hb); have n7_ := Aside0.mk (Kd.R_elder' (by (with_reducible repeat (first | apply Kd.R_alloc | apply Kd.R_drewN | apply Kd.R_drew)); exact HO158.out) (Kd.R_base ho0) hb); have n8_ := Aside0.mk (Kd.V_elder' (by (with_reducible repeat (first | apply Kd.V_alloc | apply Kd.V_drewN | apply Kd.V_drew)); exact HO169.out) (Kd.R_base ho0) hb); have n9_ := Aside0.mk (Kd.R_lower (Kd.R_new' (Kd.R_new' (Kd.R_new' (Kd.R_newM (M := fun k_ => (w.heap.size ≤ k_)) ho0 (below_size (by repeat (first | (with_reducible first | exact HB.out | apply below_alloc | apply pw_below_drewN | apply below_drew1) | exact HB.out))) (fun k_ h_ => h_)) (Kd.R_lt (by (with_reducible repeat (first | apply Kd.R_alloc | apply Kd.R_drewN | apply Kd.R_drew)); exact HO143.out))) (Kd.R_lt (by (with_reducible repeat (first | apply Kd.R_alloc | apply Kd.R_drewN | apply Kd.R_drew)); exact HO145.out))) (Kd.R_lt (by (with_reducible repeat (first | apply Kd.R_alloc | apply Kd.R_drewN | apply Kd.R_drew)); exact HO158.out))) (below_size (by repeat (first | (with_reducible first | exact HB.out | apply below_alloc | apply pw_below_drewN | apply below_drew1) | exact HB.out)))); have n10_ := Aside0.mk (below_step (by repeat (first | (with_reducible first | exact HB.out | apply below_alloc | apply pw_below_drewN | apply below_drew1) | exact HB.out)) hb); clear HO1; clear HO3; clear HO143; clear HO145; clear HO152; clear HO163; clear HO155; clear HO158; clear HO169; clear HB; have HO1 := n0_; have HO3 := n1_; have HO143 := n2_; have HO145 := n3_; have HO152 := n4_; have HO163 := n5_; have HO155 := n6_; have HO158 := n7_; have HO169 := n8_; have HO173 := n9_; have HB := n10_; clear n0_ n1_ n2_ n3_ n4_ n5_ n6_ n7_ n8_ n9_ n10_; (try clear hb); (try clear hb2); (try clear hk); (try clear hi); (try clear ho0)))
            go_ret2
            exact ⟨_, by first | rfl | (simp [errW_none, errW_some] <;> rfl) | (simp only [← hji9]; first | rfl | (simp [errW_none, errW_some] <;> rfl)) | (simp [*, errW_none, errW_some] <;> rfl), by (with_reducible repeat (first | apply Kd.R_alloc | apply Kd.R_drewN | apply Kd.R_drew)); exact Kd.R_mono HO173.out (fun _ hk => hk.1.1.1.1), by repeat (first | (with_reducible first | exact HB.out | apply below_alloc | apply pw_below_drewN | apply below_drew1) | exact HB.out)⟩
          · replace c16 := Bool.eq_false_iff.mpr c16
            subst c16
            have H1 : (some (([] : List Int), 5)) = some (r1, r2) := by rw [if_neg (show ¬ (false = true) by decide)] at H; exact H
            clear H
            have H := H1
            clear H1
            simp only [Option.some.injEq, Prod.mk.injEq] at H
            obtain ⟨rfl, rfl⟩ := H
            go_enter Try.func19, Try.ntmps19
            try go_wp2_with (first | ((with_reducible refine gate_callee (f := 42) rfl ?_); refine goesL_ (some 19) rfl rfl Try.func42 (by kernel_rfl) rfl #[.slice A0 l0.length c0, .slice A1 l1.length c1, .slice A2 l2.length c2] rfl (by (try simp only [List.map_toArray, List.map_cons, List.map_nil]); first | done | rfl | (simp only [List.length_drop, List.length_take]; rfl)) ?_; (with_reducible refine (seal_ready.calls _ _ l0 _ _ l1 _ _ l2 t138 t139 t140 t141 _ ?side1 ?side2 ?side3 ?side4 ?side5 ?side6 A5.out).mono ?_); (case side1 => repeat (first | exact HR0.out | (with_reducible refine Kd.C_alloc ?_ _) | (with_reducible refine Kd.C_drewN ?_ _) | (with_reducible refine Kd.C_drew ?_))); (case side2 => exact HC0.out); (case side3 => repeat (first | exact (Kd.V_reads' HO1.out).2.2 | (with_reducible refine Kd.C_alloc ?_ _) | (with_reducible refine Kd.C_drewN ?_ _) | (with_reducible refine Kd.C_drew ?_))); (case side4 => exact (Kd.V_reads' HO1.out).2.1); (case side5 => repeat (first | exact HR2.out | (with_reducible refine Kd.C_alloc ?_ _) | (with_reducible refine Kd.C_drewN ?_ _) | (with_reducible refine Kd.C_drew ?_))); (case side6 => exact HC2.out); rintro e w34 ⟨v142, v144, v146, rfl, ho0, ho1, ho2, hb⟩; refine ⟨_, rfl, ?_⟩; have n0_ := Aside0.mk (Kd.V_mono (Kd.V_told (Kd.V_told (Kd.V_told (Kd.V_old (by (with_reducible repeat (first | apply Kd.V_alloc | apply Kd.V_drewN | apply Kd.V_drew)); exact HO1.out) hb) (Kd.R_base ho0)) (Kd.R_base ho1)) (Kd.R_base ho2)) (fun _ h_ => h_.1)); have n1_ := Aside0.mk (Kd.V_mono (Kd.V_told (Kd.V_told (Kd.V_told (Kd.V_old (by (with_reducible repeat (first | apply Kd.V_alloc | apply Kd.V_drewN | apply Kd.V_drew)); exact HO3.out) hb) (Kd.R_base ho0)) (Kd.R_base ho1)) (Kd.R_base ho2)) (fun _ h_ => h_.1)); have n2_ := Aside0.mk (Kd.R_lower (Kd.R_newM (M := fun k_ => (w.heap.size ≤ k_)) ho0 (below_size (by repeat (first | (with_reducible first | exact HB.out | apply below_alloc | apply pw_below_drewN | apply below_drew1) | exact HB.out))) (fun k_ h_ => h_)) (below_size (by repeat (first | (with_reducible first | exact HB.out | apply below_alloc | apply pw_below_drewN | apply below_drew1) | exact HB.out)))); have n3_ := Aside0.mk (Kd.R_lower (Kd.R_newM (M := fun k_ => (w.heap.size ≤ k_)) ho1 (below_size (by repeat (first | (with_reducible first | exact HB.out | apply below_alloc | apply pw_below_drewN | apply below_drew1) | exact HB.out))) (fun k_ h_ => h_)) (below_size (by repeat (first | (with_reducible first | exact HB.out | apply below_alloc | apply pw_below_drewN | apply below_drew1) | exact HB.out)))); have n4_ := Aside0.mk (Kd.R_lower (Kd.R_newM (M := fun k_ => (w.heap.size ≤ k_)) ho2 (below_size (by repeat (first | (with_reducible first | exact HB.out | apply below_alloc | apply pw_below_drewN | apply below_drew1) | exact HB.out))) (fun k_ h_ => h_)) (below_size (by repeat (first | (with_reducible first | exact HB.out | apply below_alloc | apply pw_below_drewN | apply below_drew1) | exact HB.out)))); have n5_ := Aside0.mk (below_step (by repeat (first | (with_reducible first | exact HB.out | apply below_alloc | apply pw_below_drewN | apply below_drew1) | exact HB.out)) hb); clear HO1; clear HO3; clear HB; have HO1 := n0_; have HO3 := n1_; have HO143 := n2_; have HO145 := n3_; have HO147 := n4_; have HB := n5_; clear n0_ n1_ n2_ n3_ n4_ n5_; (try clear hb); (try clear hb2); (try clear hk); (try clear hi); (try clear ho0); (try clear ho1); (try clear ho2)))
            have n0_ := Aside0.mk (Kd.V_drew HO1.out)
            have n1_ := Aside0.mk (Kd.V_drew HO3.out)
            have n2_ := Aside0.mk (Kd.R_drew HO143.out)
            have n3_ := Aside0.mk (Kd.R_drew HO145.out)
            have n4_ := Aside0.mk (Kd.R_drew HO147.out)
            have n5_ := Aside0.mk (below_drew1 HB.out)
            clear HO1
            clear HO3
            clear HO143
            clear HO145
            clear HO147
            clear HB
            have HO1 := n0_
            have HO3 := n1_
            have HO143 := n2_
            have HO145 := n3_
            have HO147 := n4_
            have HB := n5_
            clear n0_ n1_ n2_ n3_ n4_ n5_
            have q36 : ((ji9) : Int) ≤ ((l3.length : Int) : Int) := of_decide_eq_true (by first | (with_reducible assumption) | assumption)
            obtain ⟨i036, hi036, _, hsz36, _⟩ := info_parts info5
            have hroom36 : l3.length ≤ c3 := (Kd.V_reads' HO3.out).2.1
            have hC36 : Kd.F (Kd.int .u8) _ _ A3 l3.length l3 := (Kd.V_at (base := w.heap.size) HO3.out).2.2
            try clear hcut22
            try clear hcut23
            try clear hcut31
            have hcut36 := cut_to (P := Try.prog) 22 5 .i64 Try.underlying22 hi036 A3 l3.length c3 (ji9) (of_decide_eq_true (by first | (with_reducible assumption) | assumption)) q36 hroom36
            have hr36 := Kd.F_take (m := ((ji9) : Int).toNat) hC36 (by omega)
            have hy36 : y148.length = ((ji9) : Int).toNat := (by rw [Ny148.out, List.length_take]; omega)
            rw [← Ny148.out] at hr36
            rw [← hy36] at hcut36
            have HO152 := Aside0.mk (show Kd.V (Kd.int .u8) 5 _ w.heap.size _ (.slice A3 y148.length c3) y148 from Kd.V_mk (by omega) hr36)
            have HC152 := Aside0.mk (show y148.length ≤ c3 from by omega)
            clear hr36 hC36 hroom36 hi036 hsz36
            have KY36 := Aside0.mk hy36
            clear hy36
            replace q36 := eq_true q36
            have q37 : ((ji9) : Int) ≤ ((l3.length : Int) : Int) := of_decide_eq_true (by first | (with_reducible assumption) | assumption)
            obtain ⟨i037, hi037, _, hsz37, _⟩ := info_parts info5
            have hroom37 : l3.length ≤ c3 := (Kd.V_reads' HO3.out).2.1
            have hC37 : Kd.F (Kd.int .u8) _ _ A3 l3.length l3 := (Kd.V_at (base := w.heap.size) HO3.out).2.2
            have q037 : (0 : Int) ≤ ((ji9) : Int) := of_decide_eq_true (by first | (with_reducible assumption) | assumption)
            try clear hcut22
            try clear hcut23
            try clear hcut31
            have hcut37 := cut_from (P := Try.prog) 22 5 .i64 Try.underlying22 hi037 1 hsz37 A3 l3.length c3 (ji9) q037 q37
            have hr37 := Kd.F_cut (m := ((ji9) : Int).toNat) (c := c3) hC37 (by omega) hroom37
            obtain ⟨A37, hA37⟩ : ∃ A1, A1 = (if c3 = ((ji9) : Int).toNat then A3 else (A3 : Option Addr).map (·.add (((ji9) : Int).toNat * 1))) := ⟨_, rfl⟩
            obtain ⟨c37, hc37⟩ : ∃ c1, c1 = c3 - ((ji9) : Int).toNat := ⟨_, rfl⟩
            have hy37 : y159.length = l3.length - ((ji9) : Int).toNat := (by rw [Ny159.out, List.length_drop] <;> omega)
            rw [show (l3).drop ((ji9) : Int).toNat = y159 from Ny159.out.symm] at hr37
            replace hr37 : Kd.F (Kd.int .u8) _ _ A37 y159.length y159 := (by rw [hA37]; exact hr37)
            rw [← hy37, ← hA37, ← hc37] at hcut37
            have HO163 := Aside0.mk (show Kd.V (Kd.int .u8) 5 _ w.heap.size _ (.slice A37 y159.length c37) y159 from Kd.V_mk (by rw [hy37, hc37]; exact Nat.sub_le_sub_right hroom37 _) hr37)
            have HC163 := Aside0.mk (show y159.length ≤ c37 from by rw [hy37, hc37]; exact Nat.sub_le_sub_right hroom37 _)
            clear hr37 hC37 hroom37 hi037 hsz37 hc37
            have KY37 := Aside0.mk hy37
            have KA37 := Aside0.mk hA37
            clear hy37 hA37
            replace q37 := eq_true q37
            obtain ⟨Ao38, co38, eo38⟩ := Kd.R_slice HO147.out
            (first | subst eo38 | (injection eo38 with f1_ f2_ f3_; have f4_ := f1_.symm; have f5_ := f3_.symm; clear f1_ f2_ f3_; subst f4_; subst f5_))
            refine start_ (n := 14) (S := fun w' => True) (ds := []) #[false, false, false, false, false, false, false, false, false, false, false, false, false, false] (by kernel_rfl) rfl rfl trivial (fun hHeld => ?_); refine with_tabW seal_Open.tab7 seal_Open.bits7 (fun HT_ HW_ => ?_)
            generalize w34.drew = w35 at HO1 HO3 HO143 HO145 HO147 HB HO152 HO163 hHeld ⊢
            refine pure_ (i := 0) (N := some 34) (v := ?_) (a' := ?_) #[true, false, false, false, false, false, false, false, false, false, false, false, false, false] rfl rfl (any_of HT_.out (by kernel_rfl)) (fun _ _ _ h => h) (Or.inl ⟨by rfl, ?_⟩) ?_ ?_
            rotate_left
            · intro w'
              go_simp
              with_reducible rfl
            rotate_left
            · simp only [Act.put, List.setIfInBounds_toArray, List.set_cons_zero, List.set_cons_succ, i64_w, i32_w]
              rfl
            refine pure_ (i := 1) (N := some 35) (v := ?_) (a' := ?_) #[true, true, false, false, false, false, false, false, false, false, false, false, false, false] rfl rfl (any_of HT_.out (by kernel_rfl)) (fun _ _ _ h => h) (Or.inl ⟨by rfl, ?_⟩) ?_ ?_
            rotate_left
            · intro w'
              go_simp
              with_reducible rfl
            rotate_left
            · simp only [Act.put, List.setIfInBounds_toArray, List.set_cons_zero, List.set_cons_succ, i64_w, i32_w]
              rfl
            refine pure_ (i := 2) (N := some 36) (v := ?_) (a' := ?_) #[true, true, true, false, false, false, false, false, false, false, false, false, false, false] rfl rfl (any_of HT_.out (by kernel_rfl)) (fun _ _ _ h => h) (Or.inl ⟨by rfl, ?_⟩) ?_ ?_
            rotate_left
            · intro w'
              go_simp
              with_reducible rfl
            rotate_left
            · simp only [Act.put, List.setIfInBounds_toArray, List.set_cons_zero, List.set_cons_succ, i64_w, i32_w]
              rfl
            refine pure_ (i := 3) (N := some 37) (v := ?_) (a' := ?_) #[true, true, true, true, false, false, false, false, false, false, false, false, false, false] rfl rfl (any_of HT_.out (by kernel_rfl)) (fun _ _ _ h => h) (Or.inl ⟨by rfl, ?_⟩) ?_ ?_
            rotate_left
            · intro w'
              go_simp
              with_reducible rfl
            rotate_left
            · simp only [Act.put, List.setIfInBounds_toArray, List.set_cons_zero, List.set_cons_succ, i64_w, i32_w]
              rfl
            refine pure_ (i := 4) (N := some 38) (v := ?_) (a' := ?_) #[true, true, true, true, true, false, false, false, false, false, false, false, false, false] rfl rfl (any_of HT_.out (by kernel_rfl)) (fun _ _ _ h => h) (Or.inl ⟨by rfl, ?_⟩) ?_ ?_
            rotate_left
            · intro w'
              go_simp
              with_reducible rfl
            rotate_left
            · simp only [Act.put, List.setIfInBounds_toArray, List.set_cons_zero, List.set_cons_succ, i64_w, i32_w]
              rfl
            refine pure_ (i := 5) (N := some 39) (v := ?_) (a' := ?_) #[true, true, true, true, true, true, false, false, false, false, false, false, false, false] rfl rfl (any_of HT_.out (by kernel_rfl)) (fun _ _ _ h => h) (Or.inl ⟨by rfl, ?_⟩) ?_ ?_
            rotate_left
            · intro w'
              go_simp
              with_reducible rfl
            rotate_left
            · simp only [Act.put, List.setIfInBounds_toArray, List.set_cons_zero, List.set_cons_succ, i64_w, i32_w]
              rfl
            refine pure_ (i := 8) (N := some 42) (v := ?_) (a' := ?_) #[true, true, true, true, true, true, false, false, true, false, false, false, false, false] rfl rfl (any_of HT_.out (by kernel_rfl)) (fun _ _ _ h => h) (Or.inl ⟨by rfl, ?_⟩) ?_ ?_
            rotate_left
            · intro w'
              go_simp
              with_reducible rfl
            rotate_left
            · simp only [Act.put, List.setIfInBounds_toArray, List.set_cons_zero, List.set_cons_succ, i64_w, i32_w]
              rfl
            refine pure_ (i := 9) (N := some 43) (v := ?_) (a' := ?_) #[true, true, true, true, true, true, false, false, true, true, false, false, false, false] rfl rfl (any_of HT_.out (by kernel_rfl)) (fun _ _ _ h => h) (Or.inl ⟨by rfl, ?_⟩) ?_ ?_
            rotate_left
            · intro w'
              go_simp
              with_reducible rfl
            rotate_left
            · simp only [Act.put, List.setIfInBounds_toArray, List.set_cons_zero, List.set_cons_succ, i64_w, i32_w]
              rfl
            refine pure_ (i := 10) (N := some 44) (v := ?_) (a' := ?_) #[true, true, true, true, true, true, false, false, true, true, true, false, false, false] rfl rfl (any_of HT_.out (by kernel_rfl)) (fun _ _ _ h => h) (Or.inl ⟨by rfl, ?_⟩) ?_ ?_
            rotate_left
            · intro w'
              go_simp
              with_reducible rfl
            rotate_left
            · simp only [Act.put, List.setIfInBounds_toArray, List.set_cons_zero, List.set_cons_succ, i64_w, i32_w]
              rfl
            refine one_ (i := 6) (N := some 40) #[true, true, true, true, true, true, true, false, true, true, true, false, false, false] rfl rfl (one_of HT_.out (by kernel_rfl)) (by decide) (fun K hK => ?_)
            refine Kd.N_lit_step (Kd.slice 5 (Kd.int .u8)) _ 22 ?hg (N' := 40) ?hd (xs := ([t140, l1, y148] : List (List Int))) (inner := [.slice Ao38 t140.length co38, .slice A1 l1.length c1, .slice A3 y148.length c3]) (ok := (fun k_ => ((P1_ k_ ∨ P3_ k_) ∨ w.heap.size ≤ k_) ∧ some k_ ≠ (v142 : Value).ownBlock ∧ some k_ ≠ (v144 : Value).ownBlock)) (okp := (fun k_ => ((P1_ k_ ∨ P3_ k_) ∨ w.heap.size ≤ k_) ∧ some k_ ≠ (v142 : Value).ownBlock ∧ some k_ ≠ (v144 : Value).ownBlock)) ?hr ?hp (fun _ hk => hk) ((show ∀ k_, w35.heap.size ≤ k_ → (fun k_ => ((P1_ k_ ∨ P3_ k_) ∨ w.heap.size ≤ k_) ∧ some k_ ≠ (v142 : Value).ownBlock ∧ some k_ ≠ (v144 : Value).ownBlock) k_ from fun k_ hk => ⟨(.inr (Nat.le_trans (below_size (by repeat (first | (with_reducible first | exact HB.out | apply below_alloc | apply pw_below_drewN | apply below_drew1) | exact HB.out))) hk)), Kd.fresh' (Kd.R_lt (by (with_reducible repeat (first | apply Kd.R_alloc | apply Kd.R_drewN | apply Kd.R_drew)); exact HO143.out)) k_ hk, Kd.fresh' (Kd.R_lt (by (with_reducible repeat (first | apply Kd.R_alloc | apply Kd.R_drewN | apply Kd.R_drew)); exact HO145.out)) k_ hk⟩) _ (Nat.le_refl _)) (Below.refl _ _) (Nat.le_refl _) (by simp) ?_; (case hd => rfl); (case hg => rfl); (case hr => first | (go_simp; done) | (go_simp; rfl)); (case hp => exact (Reps.one (show Kd.FK (Kd.slice 5 (Kd.int .u8)) _ _ t140 [.slice Ao38 t140.length co38] from (Kd.FK_slice_mk (Kd.R_reads' (Kd.R_mono (ok' := (fun k_ => ((P1_ k_ ∨ P3_ k_) ∨ w.heap.size ≤ k_) ∧ some k_ ≠ (v142 : Value).ownBlock ∧ some k_ ≠ (v144 : Value).ownBlock)) (HO147.out) (fun k_ hk => ⟨(.inr (hk.1)), ⟨hk.2.1, hk.2.2⟩⟩))).2.1 (Kd.R_F (Kd.R_mono (ok' := (fun k_ => ((P1_ k_ ∨ P3_ k_) ∨ w.heap.size ≤ k_) ∧ some k_ ≠ (v142 : Value).ownBlock ∧ some k_ ≠ (v144 : Value).ownBlock)) (HO147.out) (fun k_ hk => ⟨(.inr (hk.1)), ⟨hk.2.1, hk.2.2⟩⟩))))) (Reps.one (show Kd.FK (Kd.slice 5 (Kd.int .u8)) _ _ l1 [.slice A1 l1.length c1] from (Kd.FK_slice_mk (Kd.V_reads' (Kd.V_mono (ok' := (fun k_ => ((P1_ k_ ∨ P3_ k_) ∨ w.heap.size ≤ k_) ∧ some k_ ≠ (v142 : Value).ownBlock ∧ some k_ ≠ (v144 : Value).ownBlock)) (HO1.out) (fun k_ hk => ⟨hk.1.1.1, ⟨hk.1.1.2, hk.1.2⟩⟩))).2.1 (Kd.V_F (Kd.V_mono (ok' := (fun k_ => ((P1_ k_ ∨ P3_ k_) ∨ w.heap.size ≤ k_) ∧ some k_ ≠ (v142 : Value).ownBlock ∧ some k_ ≠ (v144 : Value).ownBlock)) (HO1.out) (fun k_ hk => ⟨hk.1.1.1, ⟨hk.1.1.2, hk.1.2⟩⟩))))) (Reps.one (show Kd.FK (Kd.slice 5 (Kd.int .u8)) _ _ y148 [.slice A3 y148.length c3] from (Kd.FK_slice_mk (Kd.V_reads' (Kd.V_mono (ok' := (fun k_ => ((P1_ k_ ∨ P3_ k_) ∨ w.heap.size ≤ k_) ∧ some k_ ≠ (v142 : Value).ownBlock ∧ some k_ ≠ (v144 : Value).ownBlock)) (HO152.out) (fun k_ hk => ⟨hk.1.1.1, ⟨hk.1.1.2, hk.1.2⟩⟩))).2.1 (Kd.V_F (Kd.V_mono (ok' := (fun k_ => ((P1_ k_ ∨ P3_ k_) ∨ w.heap.size ≤ k_) ∧ some k_ ≠ (v142 : Value).ownBlock ∧ some k_ ≠ (v144 : Value).ownBlock)) (HO152.out) (fun k_ hk => ⟨hk.1.1.1, ⟨hk.1.1.2, hk.1.2⟩⟩))))) (Reps.none _ _)))))
            intro v154 w39 ho40 hb hg_ hnew_
            clear hg_ hnew_
            (first | rw [← Ny153.out] at ho40 | (simp only [Int.reduceToNat] at ho40; rw [← Ny153.out] at ho40))
            have n0_ := Aside0.mk (Kd.V_elder' (by (with_reducible repeat (first | apply Kd.V_alloc | apply Kd.V_drewN | apply Kd.V_drew)); exact HO1.out) (Kd.N_base ho40) hb)
            have n1_ := Aside0.mk (Kd.V_elder' (by (with_reducible repeat (first | apply Kd.V_alloc | apply Kd.V_drewN | apply Kd.V_drew)); exact HO3.out) (Kd.N_base ho40) hb)
            have n2_ := Aside0.mk (Kd.R_below (by (with_reducible repeat (first | apply Kd.R_alloc | apply Kd.R_drewN | apply Kd.R_drew)); exact HO143.out) hb)
            have n3_ := Aside0.mk (Kd.R_below (by (with_reducible repeat (first | apply Kd.R_alloc | apply Kd.R_drewN | apply Kd.R_drew)); exact HO145.out) hb)
            have n4_ := Aside0.mk (Kd.V_elder' (by (with_reducible repeat (first | apply Kd.V_alloc | apply Kd.V_drewN | apply Kd.V_drew)); exact HO152.out) (Kd.N_base ho40) hb)
            have n5_ := Aside0.mk (Kd.V_elder' (by (with_reducible repeat (first | apply Kd.V_alloc | apply Kd.V_drewN | apply Kd.V_drew)); exact HO163.out) (Kd.N_base ho40) hb)
            have n6_ := Aside0.mk (Kd.N_lower ho40 (below_size (by repeat (first | (with_reducible first | exact HB.out | apply below_alloc | apply pw_below_drewN | apply below_drew1) | exact HB.out))))
            have n7_ := Aside0.mk (below_step (by repeat (first | (with_reducible first | exact HB.out | apply below_alloc | apply pw_below_drewN | apply below_drew1) | exact HB.out)) hb)
            clear HO1
            clear HO3
            clear HO143
            clear HO145
            clear HO152
            clear HO163
            clear HB
            clear HO147
            have HO1 := n0_
            have HO3 := n1_
            have HO143 := n2_
            have HO145 := n3_
            have HO152 := n4_
            have HO163 := n5_
            have HO155 := n6_
            have HB := n7_
            clear n0_ n1_ n2_ n3_ n4_ n5_ n6_ n7_
            clear hb ho40
            obtain ⟨Ao41, co41, eo41⟩ := Kd.R_slice HO145.out
            (first | subst eo41 | (injection eo41 with f1_ f2_ f3_; have f4_ := f1_.symm; have f5_ := f3_.symm; clear f1_ f2_ f3_; subst f4_; subst f5_))
            obtain ⟨Ao42, co42, eo42⟩ := Kd.N_slice HO155.out
            (first | subst eo42 | (injection eo42 with f1_ f2_ f3_; have f4_ := f1_.symm; have f5_ := f3_.symm; clear f1_ f2_ f3_; subst f4_; subst f5_))
            refine hK.out _ _ trivial (fun hHeld => ?_)
            clear hK K
            refine norm_ (a' := ?_) ?_ ?_
            rotate_left
            · show Act.put _ (some 40) _ = _
              simp only [Act.put, List.setIfInBounds_toArray, List.set_cons_zero, List.set_cons_succ, i64_w, i32_w]
              rfl
            refine one_ (i := 7) (N := some 41) #[true, true, true, true, true, true, true, true, true, true, true, false, false, false] rfl rfl (one_of HT_.out (by kernel_rfl)) (by decide) (fun K hK => ?_)
            refine goes_ Try.func44 (by kernel_rfl) rfl #[.slice Ao41 t139.length co41, .slice Ao42 y153.length co42] (by rfl) rfl rfl (by (try simp only [List.map_toArray, List.map_cons, List.map_nil]); first | done | rfl | (simp only [List.length_drop, List.length_take]; rfl)) ?_
            with_reducible refine (seal_tag.calls _ _ t139 _ _ y153 t156 _ ?side1 ?side2 ?side3 ?side4 A12.out).mono ?_
            (case side1 => repeat (first | exact (Kd.R_reads' HO145.out).2.2 | (with_reducible refine Kd.C_alloc ?_ _) | (with_reducible refine Kd.C_drewN ?_ _) | (with_reducible refine Kd.C_drew ?_)))
            (case side2 => exact (Kd.R_reads' HO145.out).2.1)
            (case side3 => repeat (first | exact (Kd.N_reads' HO155.out).2.2 | (with_reducible refine Kd.C_alloc ?_ _) | (with_reducible refine Kd.C_drewN ?_ _) | (with_reducible refine Kd.C_drew ?_)))
            (case side4 => exact (Kd.N_reads' HO155.out).2.1)
            rintro e w43 ⟨v157, rfl, ho0, hb⟩
            refine ⟨_, rfl, ?_⟩
            have n0_ := Aside0.mk (Kd.V_elder' (by (with_reducible repeat (first | apply Kd.V_alloc | apply Kd.V_drewN | apply Kd.V_drew)); exact HO1.out) (Kd.R_base ho0) hb)
            have n1_ := Aside0.mk (Kd.V_elder' (by (with_reducible repeat (first | apply Kd.V_alloc | apply Kd.V_drewN | apply Kd.V_drew)); exact HO3.out) (Kd.R_base ho0) hb)
            have n2_ := Aside0.mk (Kd.R_elder' (by (with_reducible repeat (first | apply Kd.R_alloc | apply Kd.R_drewN | apply Kd.R_drew)); exact HO143.out) (Kd.R_base ho0) hb)
            have n3_ := Aside0.mk (Kd.R_elder' (by (with_reducible repeat (first | apply Kd.R_alloc | apply Kd.R_drewN | apply Kd.R_drew)); exact HO145.out) (Kd.R_base ho0) hb)
            have n4_ := Aside0.mk (Kd.V_elder' (by (with_reducible repeat (first | apply Kd.V_alloc | apply Kd.V_drewN | apply Kd.V_drew)); exact HO152.out) (Kd.R_base ho0) hb)
            have n5_ := Aside0.mk (Kd.V_elder' (by (with_reducible repeat (first | apply Kd.V_alloc | apply Kd.V_drewN | apply Kd.V_drew)); exact HO163.out) (Kd.R_base ho0) hb)
            have n6_ := Aside0.mk (Kd.N_elder' (by (with_reducible repeat (first | apply Kd.N_alloc | apply Kd.N_drewN | apply Kd.N_drew)); exact HO155.out) (Kd.R_base ho0) hb)
            have n7_ := Aside0.mk (Kd.R_lower (Kd.R_new' (Kd.R_new' (Kd.R_newM (M := fun k_ => (w.heap.size ≤ k_)) ho0 (below_size (by repeat (first | (with_reducible first | exact HB.out | apply below_alloc | apply pw_below_drewN | apply below_drew1) | exact HB.out))) (fun k_ h_ => h_)) (Kd.R_lt (by (with_reducible repeat (first | apply Kd.R_alloc | apply Kd.R_drewN | apply Kd.R_drew)); exact HO143.out))) (Kd.R_lt (by (with_reducible repeat (first | apply Kd.R_alloc | apply Kd.R_drewN | apply Kd.R_drew)); exact HO145.out))) (below_size (by repeat (first | (with_reducible first | exact HB.out | apply below_alloc | apply pw_below_drewN | apply below_drew1) | exact HB.out))))
            have n8_ := Aside0.mk (below_step (by repeat (first | (with_reducible first | exact HB.out | apply below_alloc | apply pw_below_drewN | apply below_drew1) | exact HB.out)) hb)
            clear HO1
            clear HO3
            clear HO143
            clear HO145
            clear HO152
            clear HO163
            clear HO155
            clear HB
            have HO1 := n0_
            have HO3 := n1_
            have HO143 := n2_
            have HO145 := n3_
            have HO152 := n4_
            have HO163 := n5_
            have HO155 := n6_
            have HO158 := n7_
            have HB := n8_
            clear n0_ n1_ n2_ n3_ n4_ n5_ n6_ n7_ n8_
            (try clear hb)
            (try clear hb2)
            (try clear hk)
            (try clear hi)
            (try clear ho0)
            obtain ⟨Ao44, co44, eo44⟩ := Kd.R_slice HO158.out
            (first | subst eo44 | (injection eo44 with f1_ f2_ f3_; have f4_ := f1_.symm; have f5_ := f3_.symm; clear f1_ f2_ f3_; subst f4_; subst f5_))
            refine hK.out _ _ trivial (fun hHeld => ?_)
            clear hK K
            refine norm_ (a' := ?_) ?_ ?_
            rotate_left
            · show Act.put _ (some 41) _ = _
              simp only [Act.put, List.setIfInBounds_toArray, List.set_cons_zero, List.set_cons_succ, i64_w, i32_w]
              rfl
            refine one_ (i := 11) (N := some 45) #[true, true, true, true, true, true, true, true, true, true, true, true, false, false] rfl rfl (one_of HT_.out (by kernel_rfl)) (by decide) (fun K hK => ?_)
            refine goes_ Try.func46 (by kernel_rfl) rfl #[.slice Ao44 t156.length co44, .slice A37 y159.length c37] (by rfl) rfl rfl (by (try simp only [List.map_toArray, List.map_cons, List.map_nil]); first | done | rfl | (simp only [List.length_drop, List.length_take]; rfl)) ?_
            with_reducible refine (mac_Same.calls _ _ t156 _ _ y159 false _ ?side1 ?side2 ?side3 ?side4 A15.out).mono ?_
            (case side1 => repeat (first | exact (Kd.R_reads' HO158.out).2.2 | (with_reducible refine Kd.C_alloc ?_ _) | (with_reducible refine Kd.C_drewN ?_ _) | (with_reducible refine Kd.C_drew ?_)))
            (case side2 => exact (Kd.R_reads' HO158.out).2.1)
            (case side3 => repeat (first | exact (Kd.V_reads' HO163.out).2.2 | (with_reducible refine Kd.C_alloc ?_ _) | (with_reducible refine Kd.C_drewN ?_ _) | (with_reducible refine Kd.C_drew ?_)))
            (case side4 => exact (Kd.V_reads' HO163.out).2.1)
            rintro e w' ⟨rfl, ⟨nd, rfl⟩⟩
            refine ⟨_, rfl, ?_⟩
            refine hK.out _ _ trivial (fun hHeld => ?_)
            clear hK K
            refine norm_ (a' := ?_) ?_ ?_
            rotate_left
            · show Act.put _ (some 45) _ = _
              simp only [Act.put, List.setIfInBounds_toArray, List.set_cons_zero, List.set_cons_succ, i64_w, i32_w]
              rfl
            refine pure_ (i := 12) (N := some 46) (v := ?_) (a' := ?_) #[true, true, true, true, true, true, true, true, true, true, true, true, true, false] rfl rfl (any_of HT_.out (by kernel_rfl)) (fun _ _ _ h => h) (Or.inl ⟨by rfl, ?_⟩) ?_ ?_
            rotate_left
            · intro w'
              go_simp
              with_reducible rfl
            rotate_left
            · simp only [Act.put, List.setIfInBounds_toArray, List.set_cons_zero, List.set_cons_succ, i64_w, i32_w]
              rfl
            refine pure_ (i := 13) (N := some 33) (v := ?_) (a' := ?_) #[true, true, true, true, true, true, true, true, true, true, true, true, true, true] rfl rfl (any_of HT_.out (by kernel_rfl)) (fun _ _ _ h => h) (Or.inl ⟨by rfl, ?_⟩) ?_ ?_
            rotate_left
            · intro w'
              go_simp
              with_reducible rfl
            rotate_left
            · simp only [Act.put, List.setIfInBounds_toArray, List.set_cons_zero, List.set_cons_succ, i64_w, i32_w]
              rfl
            refine done_ (done_of HT_.out (by kernel_rfl)) ?_
            try go_wp2
            go_ret2
            exact ⟨_, by first | rfl | (simp [errW_none, errW_some] <;> rfl) | (simp only [← hji9]; first | rfl | (simp [errW_none, errW_some] <;> rfl)) | (simp [*, errW_none, errW_some] <;> rfl), by first | exact Kd.R_nil _ _ _ _ _ | exact Kd.N_nil _ _ _ _ _ | exact Kd.V_nil _ _ _ _ _ | exact Kd.Q_nil _ _ _ _ _ | exact Kd.S_nil _ _ _ _ _, by repeat (first | (with_reducible first | exact HB.out | apply below_alloc | apply pw_below_drewN | apply below_drew1) | exact HB.out)⟩
        · rw [if_neg c11] at H
          exact absurd H (by simp)
      · rw [if_neg c10] at H
        exact absurd H (by simp)
  · rw [if_neg c6] at H
    have c6b0 : (t141 == 0) = false := beq_eq_false_iff_ne.mpr c6
    have c6b1 : (t141 != 0) = true := bne_iff_ne.mpr c6
    simp only [Option.some.injEq, Prod.mk.injEq] at H
    obtain ⟨rfl, rfl⟩ := H
    go_enter Try.func19, Try.ntmps19
    go_wp2_with (first | ((with_reducible refine gate_callee (f := 42) rfl ?_); refine goesL_ (some 19) rfl rfl Try.func42 (by kernel_rfl) rfl #[.slice A0 l0.length c0, .slice A1 l1.length c1, .slice A2 l2.length c2] rfl (by (try simp only [List.map_toArray, List.map_cons, List.map_nil]); first | done | rfl | (simp only [List.length_drop, List.length_take]; rfl)) ?_; (with_reducible refine (seal_ready.calls _ _ l0 _ _ l1 _ _ l2 t138 t139 t140 t141 _ ?side1 ?side2 ?side3 ?side4 ?side5 ?side6 A5.out).mono ?_); (case side1 => repeat (first | exact HR0.out | (with_reducible refine Kd.C_alloc ?_ _) | (with_reducible refine Kd.C_drewN ?_ _) | (with_reducible refine Kd.C_drew ?_))); (case side2 => exact HC0.out); (case side3 => repeat (first | exact (Kd.V_reads' HO1.out).2.2 | (with_reducible refine Kd.C_alloc ?_ _) | (with_reducible refine Kd.C_drewN ?_ _) | (with_reducible refine Kd.C_drew ?_))); (case side4 => exact (Kd.V_reads' HO1.out).2.1); (case side5 => repeat (first | exact HR2.out | (with_reducible refine Kd.C_alloc ?_ _) | (with_reducible refine Kd.C_drewN ?_ _) | (with_reducible refine Kd.C_drew ?_))); (case side6 => exact HC2.out); rintro e w45 ⟨v142, v144, v146, rfl, ho0, ho1, ho2, hb⟩; refine ⟨_, rfl, ?_⟩; have n0_ := Aside0.mk (Kd.V_mono (Kd.V_told (Kd.V_told (Kd.V_told (Kd.V_old (by (with_reducible repeat (first | apply Kd.V_alloc | apply Kd.V_drewN | apply Kd.V_drew)); exact HO1.out) hb) (Kd.R_base ho0)) (Kd.R_base ho1)) (Kd.R_base ho2)) (fun _ h_ => h_.1)); have n1_ := Aside0.mk (Kd.V_mono (Kd.V_told (Kd.V_told (Kd.V_told (Kd.V_old (by (with_reducible repeat (first | apply Kd.V_alloc | apply Kd.V_drewN | apply Kd.V_drew)); exact HO3.out) hb) (Kd.R_base ho0)) (Kd.R_base ho1)) (Kd.R_base ho2)) (fun _ h_ => h_.1)); have n2_ := Aside0.mk (Kd.R_lower (Kd.R_newM (M := fun k_ => (w.heap.size ≤ k_)) ho0 (below_size (by repeat (first | (with_reducible first | exact HB.out | apply below_alloc | apply pw_below_drewN | apply below_drew1) | exact HB.out))) (fun k_ h_ => h_)) (below_size (by repeat (first | (with_reducible first | exact HB.out | apply below_alloc | apply pw_below_drewN | apply below_drew1) | exact HB.out)))); have n3_ := Aside0.mk (Kd.R_lower (Kd.R_newM (M := fun k_ => (w.heap.size ≤ k_)) ho1 (below_size (by repeat (first | (with_reducible first | exact HB.out | apply below_alloc | apply pw_below_drewN | apply below_drew1) | exact HB.out))) (fun k_ h_ => h_)) (below_size (by repeat (first | (with_reducible first | exact HB.out | apply below_alloc | apply pw_below_drewN | apply below_drew1) | exact HB.out)))); have n4_ := Aside0.mk (Kd.R_lower (Kd.R_newM (M := fun k_ => (w.heap.size ≤ k_)) ho2 (below_size (by repeat (first | (with_reducible first | exact HB.out | apply below_alloc | apply pw_below_drewN | apply below_drew1) | exact HB.out))) (fun k_ h_ => h_)) (below_size (by repeat (first | (with_reducible first | exact HB.out | apply below_alloc | apply pw_below_drewN | apply below_drew1) | exact HB.out)))); have n5_ := Aside0.mk (below_step (by repeat (first | (with_reducible first | exact HB.out | apply below_alloc | apply pw_below_drewN | apply below_drew1) | exact HB.out)) hb); clear HO1; clear HO3; clear HB; have HO1 := n0_; have HO3 := n1_; have HO143 := n2_; have HO145 := n3_; have HO147 := n4_; have HB := n5_; clear n0_ n1_ n2_ n3_ n4_ n5_; (try clear hb); (try clear hb2); (try clear hk); (try clear hi); (try clear ho0); (try clear ho1); (try clear ho2)))
    go_ret2
    exact ⟨_, by first | rfl | (simp [errW_none, errW_some] <;> rfl) | (simp [*, errW_none, errW_some] <;> rfl), by first | exact Kd.R_nil _ _ _ _ _ | exact Kd.N_nil _ _ _ _ _ | exact Kd.V_nil _ _ _ _ _ | exact Kd.Q_nil _ _ _ _ _ | exact Kd.S_nil _ _ _ _ _, by repeat (first | (with_reducible first | exact HB.out | apply below_alloc | apply pw_below_drewN | apply below_drew1) | exact HB.out)⟩
end Go.Proofs.Ytifpdpfjhjoieaa.H

/-! SealB -/
namespace Go.Proofs.Ytifpdpfjhjoieaa
set_option linter.unusedVariables false
set_option linter.unusedSimpArgs false
open Go.RowKit Go.Shelf Iter Go.Proofs.YtifpdpfjhjoieaaW.PrintWords Go.Proofs.YtifpdpfjhjoieaaW.PrintLast
attribute [local go_sem] Oper.semAt_some
/-- What is sealed: the stream, and the tag. -/
def lockOf (key : List Int) : List Int := labelOf key labLock [] 16
def tagOf (key : List Int) : List Int := labelOf key labTag [] 32
def sealTag (key nonce aad s : List Int) : List Int := macSum (tagOf key) (rowB aad ++ (nonce ++ s))
def sealOf (key nonce aad b : List Int) : List Int := streamOf (lockOf key) nonce b ++ sealTag key nonce aad (streamOf (lockOf key) nonce b)
theorem sealTag_length (key nonce aad s : List Int) : (sealTag key nonce aad s).length = 32 := macSum_length _ _
theorem sealOf_length (key nonce aad b : List Int) : (sealOf key nonce aad b).length = b.length + 32 := by
  unfold sealOf
  rw [List.length_append, streamOf_length, sealTag_length]
theorem byteOk_sealTag (key nonce aad s : List Int) : byteOk (sealTag key nonce aad s) = true := byteOk_macSum _ _
theorem byteOk_sealOf (key nonce aad b : List Int) : byteOk (sealOf key nonce aad b) = true := (byteOk_append _ _).2 ⟨byteOk_streamOf _ _ _, byteOk_macSum _ _⟩
theorem lockOf_length (key : List Int) : (lockOf key).length = 16 := labelOf_length _ _ _ _
theorem tagOf_length (key : List Int) : (tagOf key).length = 32 := labelOf_length _ _ _ _
theorem ready_bad (l0 l1 l2 : List Int) (h0 : byteOk l0 = true) (h : ¬ (l0.length = 32 ∧ l1.length = 12)) : H.seal_ready.f l0 l1 l2 = some ([], [], [], 1) := by
  unfold H.seal_ready.f P.seal_Halves.f
  by_cases h32 : l0.length = 32
  · rw [if_pos h32, if_pos h0, Option.bind_some, if_pos rfl, if_neg (by omega)]
  · rw [if_neg h32, Option.bind_some, if_neg (by decide)]
theorem ready_good (l0 l1 l2 : List Int) (h0 : byteOk l0 = true) (h32 : l0.length = 32) (h12 : l1.length = 12) (h2 : l2.length ≤ 1000000) : H.seal_ready.f l0 l1 l2 = some (lockOf l0, tagOf l0, rowB l2, 0) := by
  unfold H.seal_ready.f P.seal_Halves.f P.byt_Row.f
  rw [if_pos h32, if_pos h0, Option.bind_some, if_pos rfl, if_pos (by omega), rowOf_small _ (by omega), Option.bind_some]
  rfl
theorem tag_good (key nonce aad s : List Int) (h1 : byteOk nonce = true) (h2 : byteOk aad = true) (h3 : byteOk s = true) (l1 : nonce.length = 12) (l2 : aad.length ≤ 300000) (l3 : s.length ≤ 300000) : H.seal_tag.f (tagOf key) [rowB aad, nonce, s] = some (sealTag key nonce aad s) := by
  have hl := rowB_length aad
  have e : ([rowB aad, nonce, s] : List (List Int)).flatten = rowB aad ++ (nonce ++ s) := by simp
  unfold H.seal_tag.f P.mac_All.f
  rw [e, if_pos ⟨byteOk_labelOf _ _ _ _, (byteOk_append _ _).2 ⟨byteOk_rowB _ h2, (byteOk_append _ _).2 ⟨h1, h3⟩⟩, by rw [tagOf_length]; decide, by rw [List.length_append, List.length_append]; omega⟩, Option.bind_some]
  rfl
namespace P
def seal_Seal.f (key nonce aad b : List Int) : Option (List Int × Int) :=
  if byteOk key = true ∧ byteOk nonce = true ∧ byteOk aad = true ∧ byteOk b = true ∧ aad.length ≤ 300000 ∧ b.length ≤ 300000 then (if key.length = 32 ∧ nonce.length = 12 then some (sealOf key nonce aad b, 0) else some ([], 1)) else none
set_option maxRecDepth 100000 in
set_option maxHeartbeats 1000000 in
theorem seal_Seal.calls (A0 : Option Addr) (c0 : Nat) (l0 : List Int) (A1 : Option Addr) (c1 : Nat) (l1 : List Int) (A2 : Option Addr) (c2 : Nat) (l2 : List Int) (A3 : Option Addr) (c3 : Nat) (l3 : List Int) (r1 : List Int) (r2 : Int) (w : World) (hr0 : Kd.C (Kd.int .u8) w A0 l0.length l0) (hc0 : l0.length ≤ c0) (hr1 : Kd.C (Kd.int .u8) w A1 l1.length l1) (hc1 : l1.length ≤ c1) (hr2 : Kd.C (Kd.int .u8) w A2 l2.length l2) (hc2 : l2.length ≤ c2) (hr3 : Kd.C (Kd.int .u8) w A3 l3.length l3) (hc3 : l3.length ≤ c3) (h : seal_Seal.f l0 l1 l2 l3 = some (r1, r2)) :
    Calls Try.prog 16 #[.slice A0 l0.length c0, .slice A1 l1.length c1, .slice A2 l2.length c2, .slice A3 l3.length c3] w fun e w' => ∃ v0_ : Value, e = .returned (.tuple #[v0_, .int .i64 r2]) ∧ Kd.R (Kd.int .u8) 5 w' w.heap.size (fun _ => True) v0_ r1 ∧ Below w.heap.size w w' := by
  unfold seal_Seal.f at h
  split at h
  case isFalse => cases h
  case isTrue hok =>
  obtain ⟨o0, o1, o2, o3, o4, o5⟩ := hok
  by_cases hk : l0.length = 32 ∧ l1.length = 12
  case neg =>
    rw [if_neg hk] at h
    injection h with h
    injection h with h1 h2
    subst h1 h2
    have hb := Lib.hid (ready_bad l0 l1 l2 o0 hk)
    clear hk
    have HK := Lib.hid (And.intro hr0 (And.intro hr1 hr2))
    go_enter Try.func16, Try.ntmps16
    go_wp2_with fail
    refine (H.seal_ready.calls A0 c0 l0 A1 c1 l1 A2 c2 l2 [] [] [] 1 w HK.out.1 hc0 HK.out.2.1 hc1 HK.out.2.2 hc2 hb.out).mono ?_
    rintro e W1 ⟨v0, v1, v2, rfl, -, -, -, hb1⟩
    go_wp2
    go_ret2
    exact ⟨_, rfl, Kd.R_nil _ _ _ _ _, hb1⟩
  rw [if_pos hk] at h
  obtain ⟨h32, h12⟩ := hk
  injection h with h
  injection h with h1 h2
  subst h1 h2
  have hb := Lib.hid (ready_good l0 l1 l2 o0 h32 h12 (by omega))
  have hs := Lib.hid (show P.aes_Stream.f (lockOf l0) l1 l3 = some (streamOf (lockOf l0) l1 l3, 0) by
    unfold P.aes_Stream.f
    rw [if_pos (lockOf_length l0), if_pos h12, if_pos ⟨byteOk_labelOf _ _ _ _, o1, o3, by omega⟩])
  have ht := Lib.hid (tag_good l0 l1 l2 (streamOf (lockOf l0) l1 l3) o1 o2 (byteOk_streamOf _ _ _) h12 o4 (by rw [streamOf_length]; exact o5))
  have HK := Lib.hid (And.intro hr0 (And.intro hr1 (And.intro hr2 (And.intro hr3 (And.intro h32 (And.intro h12 (And.intro o4 o5)))))))
  clear hr0 hr1 hr2 hr3 h32 h12 o0 o1 o2 o3 o4 o5
  go_enter Try.func16, Try.ntmps16
  go_wp2_with fail
  refine (H.seal_ready.calls A0 c0 l0 A1 c1 l1 A2 c2 l2 _ _ _ 0 w HK.out.1 hc0 HK.out.2.1 hc1 HK.out.2.2.1 hc2 hb.out).mono ?_
  rintro e W1 ⟨v0, v1, v2, rfl, hR0, hR1, hR2, hb1⟩
  obtain ⟨Al, cl, rfl, hcl, hCl⟩ := Kd.R_reads hR0
  obtain ⟨At, ct, rfl, hct, hCt⟩ := Kd.R_reads hR1
  obtain ⟨Ar, cr, rfl, hcr, hCr⟩ := Kd.R_reads hR2
  have H1 := Lib.hid (And.intro hCl (And.intro hCt (And.intro hCr (And.intro (Kd.C_below HK.out.2.1 hb1) (And.intro (Kd.C_below HK.out.2.2.2.1 hb1) hb1)))))
  clear hR0 hR1 hR2 hCl hCt hCr hb1
  go_wp2_with fail
  refine (P.aes_Stream.calls Al cl (lockOf l0) A1 c1 l1 A3 c3 l3 _ 0 W1 H1.out.1 hcl H1.out.2.2.2.1 hc1 H1.out.2.2.2.2.1 hc3 hs.out).mono ?_
  rintro e W2 ⟨v3, rfl, hR3, hb2⟩
  obtain ⟨As, cs, rfl, hcs, hCs⟩ := Kd.R_reads hR3
  have hw2 := H1.out.2.2.2.2.2.trans (hb2.mono H1.out.2.2.2.2.2.size)
  have H2 := Lib.hid (And.intro hR3 (And.intro hCs (And.intro (Kd.C_below H1.out.2.1 hb2) (And.intro (Kd.C_below H1.out.2.2.1 hb2) (And.intro (Kd.C_below H1.out.2.2.2.1 hb2) (And.intro hw2 H1.out.2.2.2.2.2.size))))))
  clear H1 hR3 hCs hb2 hw2
  go_wp2_with fail
  have c3' := c_three W2 22 Ar A1 As cr c1 cs _ _ _ H2.out.2.2.2.1 hcr H2.out.2.2.2.2.1 hc1 H2.out.2.1 hcs
  refine (H.seal_tag.calls At ct (tagOf l0) (some ⟨W2.heap.size, 0, none⟩) 3 [rowB l2, l1, streamOf (lockOf l0) l1 l3] (sealTag l0 l1 l2 (streamOf (lockOf l0) l1 l3)) _ (Kd.C_alloc H2.out.2.2.1 _) hct c3' (Nat.le_refl 3) ht.out).mono ?_
  rintro e W3 ⟨v4, rfl, hR4, hb3⟩
  obtain ⟨A4, c4, rfl, hc4, hC4⟩ := Kd.R_reads hR4
  have hOut := Kd.R_lower (Kd.R_below (Kd.R_alloc H2.out.1 (Obj.cells #[Value.slice Ar (rowB l2).length cr, Value.slice A1 l1.length c1, Value.slice As (streamOf (lockOf l0) l1 l3).length cs] 22)) hb3) H2.out.2.2.2.2.2.2
  have hw3 := (H2.out.2.2.2.2.2.1.alloc H2.out.2.2.2.2.2.1.size (Obj.cells #[Value.slice Ar (rowB l2).length cr, Value.slice A1 l1.length c1, Value.slice As (streamOf (lockOf l0) l1 l3).length cs] 22)).trans (hb3.mono (by have := H2.out.2.2.2.2.2.1.size; simp; omega))
  have hlen : ((streamOf (lockOf l0) l1 l3).length + (sealTag l0 l1 l2 (streamOf (lockOf l0) l1 l3)).length) * 1 ≤ 140737488355328 := by
    rw [streamOf_length, sealTag_length]
    have := HK.out.2.2.2.2.2.2.2
    omega
  have H3 := Lib.hid (And.intro hOut (And.intro hC4 (And.intro hw3 hlen)))
  have HE := Lib.hid (show sealOf l0 l1 l2 l3 = streamOf (lockOf l0) l1 l3 ++ sealTag l0 l1 l2 (streamOf (lockOf l0) l1 l3) from rfl)
  clear H2 hR4 hb3 hC4 hOut hw3 hlen c3'
  generalize sealTag l0 l1 l2 (streamOf (lockOf l0) l1 l3) = T at *
  generalize streamOf (lockOf l0) l1 l3 = X at *
  go_wp2_with (((with_reducible refine gate_builtin (b := .append) (xs := #[.tmp 37, .tmp 43]) rfl ?_); at_builtin; refine Kd.R_append_rows (Kd.int .u8) (w0 := w) w.heap.size rfl (.tmp 37) (.tmp 43) 22 5 (.int .u8 0) 1 rfl Try.underlying22 B.info5 rfl (by decide) (by omega) _ X T _ _ _ (fun _ => True) (fun _ => False) rfl rfl H3.out.1 H3.out.2.1 (fun _ _ h => h) (fun _ h => h.elim) (fun _ _ => trivial) H3.out.2.2.1 H3.out.2.2.1.size H3.out.2.2.2 ?_; intro v6 W6 hv6 hb6 hgr6 hat6; rw [← HE.out] at hv6; clear hgr6 hat6))
  go_ret2
  exact ⟨_, rfl, hv6, hb6⟩
end P
end Go.Proofs.Ytifpdpfjhjoieaa

/-! H3 -/
namespace Go.Proofs.Ytifpdpfjhjoieaa.H
open Go.Proofs.Ytifpdpfjhjoieaa.P
open Go.RowKit Go.Proofs.YtifpdpfjhjoieaaW.PrintWords Go.Proofs.YtifpdpfjhjoieaaW.PrintLast Go.Proofs.YtifpdpfjhjoieaaW.PrintMore
attribute [local go_sem] max2_int min2_int max_two min_two max_three min_three max_four min_four   -- for this text's walks alone
set_option linter.unusedVariables false
set_option linter.unusedSimpArgs false
def pyxref06_Open.T7 : Bool × List (List Nat × List Nat) := (true, [([], []), ([], []), ([], []), ([], []), ([], []), ([3, 4], [3, 4]), ([0, 1, 2, 5], [0, 1, 2, 5]), ([], []), ([], []), ([7, 8], [7, 8]), ([6, 9, 6], [6, 9]), ([10], [10])])
def pyxref06_Open.B7 : List Nat := [0, 0, 0, 0, 0, 24, 63, 0, 0, 384, 1023, 2047]
theorem pyxref06_Open.tab7 : rtab .any (opsOf Try.f20 7) = pyxref06_Open.T7 := by kernel_rfl
theorem pyxref06_Open.bits7 : waitsOk pyxref06_Open.T7.2 pyxref06_Open.B7 = true := by kernel_rfl
end Go.Proofs.Ytifpdpfjhjoieaa.H

/-! Vof -/
namespace Go.Proofs.Ytifpdpfjhjoieaa
set_option linter.unusedVariables false
open Go.RowKit Go.Proofs.YtifpdpfjhjoieaaW.PrintWords Go.Proofs.YtifpdpfjhjoieaaW.PrintLast Go.Proofs.YtifpdpfjhjoieaaW.PrintMore Iter
theorem F_of_C {W : World} {A : Option Addr} {n : Nat} {xs : List Int} (h : Kd.C (Kd.int .u8) W A n xs) : Kd.F (Kd.int .u8) W (fun _ => True) A n xs := fun W' hW' => by
  rcases Nat.eq_zero_or_pos n with h0 | h0
  · exact ⟨h.1, h.2.1, fun hn => by omega⟩
  · obtain ⟨ad, rfl, hlt⟩ := C_some h h0
    exact C_same h (hW' ad.block trivial hlt)
theorem V_of_C {W : World} {A : Option Addr} {c : Nat} {xs : List Int} (b : Nat) (h : Kd.C (Kd.int .u8) W A xs.length xs) (hc : xs.length ≤ c) : Kd.V (Kd.int .u8) 5 W b (fun _ => True) (.slice A xs.length c) xs := Kd.V_mk hc (F_of_C h)
end Go.Proofs.Ytifpdpfjhjoieaa

/-! SealC -/
namespace Go.Proofs.Ytifpdpfjhjoieaa
set_option linter.unusedVariables false
set_option linter.unusedSimpArgs false
open Go.RowKit Go.Proofs.YtifpdpfjhjoieaaW.PrintWords Go.Proofs.YtifpdpfjhjoieaaW.PrintLast
theorem byteOk_drop (l : List Int) (n : Nat) (h : byteOk l = true) : byteOk (l.drop n) = true := by
  rw [byteOk_iff] at h ⊢
  exact fun x hx => h x (List.mem_of_mem_drop hx)
/-- What is opened. -/
def openR (key nonce aad b : List Int) : List Int × Int :=
  if key.length = 32 ∧ nonce.length = 12 then (if b.length < 32 then ([], 3) else if sealTag key nonce aad (b.take (b.length - 32)) = b.drop (b.length - 32) then (streamOf (lockOf key) nonce (b.take (b.length - 32)), 0) else ([], 5)) else ([], 1)
def smallB (key nonce aad b : List Int) : Prop := byteOk key = true ∧ byteOk nonce = true ∧ byteOk aad = true ∧ byteOk b = true ∧ aad.length ≤ 300000 ∧ b.length ≤ 300000
instance (key nonce aad b : List Int) : Decidable (smallB key nonce aad b) := by unfold smallB; infer_instance
theorem cut32 (n : Nat) (h : 32 ≤ n) (h2 : n ≤ 300000) : wrap64 ((n : Int) - 32) = ((n - 32 : Nat) : Int) := by unfold wrap64; omega
theorem cut32' (n : Nat) (h : n < 32) : wrap64 ((n : Int) - 32) < 0 := by unfold wrap64; omega
theorem stream_some (key nonce b : List Int) (h12 : nonce.length = 12) (o1 : byteOk nonce = true) (o3 : byteOk b = true) (l : b.length ≤ 300000) : P.aes_Stream.f (lockOf key) nonce b = some (streamOf (lockOf key) nonce b, 0) := by
  unfold P.aes_Stream.f
  rw [if_pos (lockOf_length key), if_pos h12, if_pos ⟨byteOk_labelOf _ _ _ _, o1, o3, by omega⟩]
theorem open_eq (l0 l1 l2 l3 : List Int) (h : smallB l0 l1 l2 l3) : H.seal_Open.f l0 l1 l2 l3 = some (openR l0 l1 l2 l3) := by
  obtain ⟨o0, o1, o2, o3, o4, o5⟩ := h
  unfold H.seal_Open.f openR
  by_cases hk : l0.length = 32 ∧ l1.length = 12
  case neg => rw [ready_bad _ _ _ o0 hk, if_neg hk, Option.bind_some, if_neg (by decide)]
  rw [ready_good _ _ _ o0 hk.1 hk.2 (by omega), if_pos hk, Option.bind_some, if_pos rfl]
  by_cases h32 : l3.length < 32
  · rw [if_pos (cut32' _ h32), if_pos h32]
  · have e := cut32 l3.length (by omega) o5
    have hs := byteOk_take l3 (l3.length - 32) o3
    have hd := byteOk_drop l3 (l3.length - 32) o3
    have hl : (l3.take (l3.length - 32)).length ≤ 300000 := by rw [List.length_take]; omega
    rw [e, if_neg (by omega), if_neg h32, if_pos (by omega), if_pos (by omega), Int.toNat_natCast, tag_good _ _ _ _ o1 o2 hs hk.2 o4 hl, Option.bind_some]
    unfold P.mac_Same.f
    rw [if_pos ⟨byteOk_sealTag _ _ _ _, hd, by rw [sealTag_length]; decide⟩, Option.bind_some]
    by_cases ht : sealTag l0 l1 l2 (l3.take (l3.length - 32)) = l3.drop (l3.length - 32)
    · rw [if_pos ht, if_pos (beq_iff_eq.2 ht), stream_some _ _ _ hk.2 o1 hs hl, Option.bind_some]
    · rw [if_neg ht, if_neg (by rw [beq_iff_eq]; exact ht)]
end Go.Proofs.Ytifpdpfjhjoieaa

/-! SealD -/
namespace Go.Proofs.Ytifpdpfjhjoieaa
set_option linter.unusedVariables false
set_option linter.unusedSimpArgs false
open Go.RowKit Go.Proofs.YtifpdpfjhjoieaaW.PrintWords Go.Proofs.YtifpdpfjhjoieaaW.PrintLast
namespace P
def seal_Open.f (key nonce aad b : List Int) : Option (List Int × Int) := if smallB key nonce aad b then some (openR key nonce aad b) else none
theorem seal_Open.calls (A0 : Option Addr) (c0 : Nat) (l0 : List Int) (A1 : Option Addr) (c1 : Nat) (l1 : List Int) (A2 : Option Addr) (c2 : Nat) (l2 : List Int) (A3 : Option Addr) (c3 : Nat) (l3 : List Int) (r1 : List Int) (r2 : Int) (w : World) (hr0 : Kd.C (Kd.int .u8) w A0 l0.length l0) (hc0 : l0.length ≤ c0) (hr1 : Kd.C (Kd.int .u8) w A1 l1.length l1) (hc1 : l1.length ≤ c1) (hr2 : Kd.C (Kd.int .u8) w A2 l2.length l2) (hc2 : l2.length ≤ c2) (hr3 : Kd.C (Kd.int .u8) w A3 l3.length l3) (hc3 : l3.length ≤ c3) (h : seal_Open.f l0 l1 l2 l3 = some (r1, r2)) :
    Calls Try.prog 19 #[.slice A0 l0.length c0, .slice A1 l1.length c1, .slice A2 l2.length c2, .slice A3 l3.length c3] w fun e w' => ∃ v0_ : Value, e = .returned (.tuple #[v0_, .int .i64 r2]) ∧ Kd.R (Kd.int .u8) 5 w' w.heap.size (fun _ => True) v0_ r1 ∧ Below w.heap.size w w' := by
  unfold seal_Open.f at h
  split at h
  case isFalse => cases h
  case isTrue hok =>
  refine (H.seal_Open.calls A0 c0 l0 (fun _ => True) A1 c1 l1 A2 c2 l2 (fun _ => True) A3 c3 l3 r1 r2 w hr0 hc0 (V_of_C _ hr1 hc1) hr2 hc2 (V_of_C _ hr3 hc3) ((open_eq _ _ _ _ hok).trans h)).mono ?_
  rintro e w' ⟨v, rfl, hR, hb⟩
  exact ⟨v, rfl, Kd.R_mono hR (fun _ _ => trivial), hb⟩
end P
end Go.Proofs.Ytifpdpfjhjoieaa

/-! SigA -/
namespace Go.Proofs.Ytifpdpfjhjoieaa
set_option linter.unusedVariables false
set_option linter.unusedSimpArgs false
open Go.RowKit Go.Shelf Iter Go.Proofs.YtifpdpfjhjoieaaW.PrintWords Go.Proofs.YtifpdpfjhjoieaaW.PrintLast
attribute [local go_sem] Oper.semAt_some
def labKey : ByteArray := ⟨#[107, 101, 121]⟩
def labNonce : ByteArray := ⟨#[110, 111, 110, 99, 101]⟩
set_option maxRecDepth 100000 in
set_option maxHeartbeats 1000000 in
theorem sigLabel_calls (lab : ByteArray) (n : Nat) (m : Int) (hm : m = (n : Int)) (hn : n ≤ 8160) (hl : lab.size ≤ 100000) (A0 : Option Addr) (c0 : Nat) (key : List Int) (A1 : Option Addr) (c1 : Nat) (info : List Int) (w : World) (ho : byteOk key = true) (hk : key.length ≤ 900000) (oi : byteOk info = true) (li : info.length ≤ 100000)
    (hr : Kd.C (Kd.int .u8) w A0 key.length key) (hc : key.length ≤ c0) (hr1 : Kd.C (Kd.int .u8) w A1 info.length info) (hc1 : info.length ≤ c1) :
    Calls Try.prog 57 #[.slice A0 key.length c0, .string lab, .slice A1 info.length c1, .int .i64 m] w fun e w' => ∃ v, e = .returned v ∧ Kd.R (Kd.int .u8) 5 w' w.heap.size (fun _ => True) v (labelOf key lab info n) ∧ Below w.heap.size w w' := by
  have hL := Lib.hid (show P.kdf_Label.f key lab info m = some (labelOf key lab info n, 0) by rw [hm]; exact label_some key lab info n hn ho oi hk hl li)
  have HK := Lib.hid (And.intro hr hr1)
  clear hm ho oi hr hr1
  go_enter Try.func57, Try.ntmps57
  go_wp2_with fail
  refine (P.kdf_Label.calls A0 c0 key lab A1 c1 info m (labelOf key lab info n) 0 w HK.out.1 hc HK.out.2 hc1 hL.out).mono ?_
  rintro e w' ⟨v, rfl, hR, hb⟩
  have HR := Lib.hid (And.intro hR hb)
  clear hR hb
  go_wp2
  go_ret
  exact ⟨_, rfl, HR.out⟩
namespace P
def sig_shared.f (pub half info : List Int) : Option (List Int × List Int) :=
  if byteOk pub = true ∧ byteOk half = true ∧ byteOk info = true ∧ pub.length ≤ 900000 ∧ half.length ≤ 800000 ∧ info.length ≤ 100000 then some (labelOf (macSum pub half) labKey info 32, labelOf (macSum pub half) labNonce info 12) else none
set_option maxRecDepth 100000 in
set_option maxHeartbeats 1000000 in
theorem sig_shared.calls (A0 : Option Addr) (c0 : Nat) (l0 : List Int) (A1 : Option Addr) (c1 : Nat) (l1 : List Int) (A2 : Option Addr) (c2 : Nat) (l2 : List Int) (r1 : List Int) (r2 : List Int) (w : World) (hr0 : Kd.C (Kd.int .u8) w A0 l0.length l0) (hc0 : l0.length ≤ c0) (hr1 : Kd.C (Kd.int .u8) w A1 l1.length l1) (hc1 : l1.length ≤ c1) (hr2 : Kd.C (Kd.int .u8) w A2 l2.length l2) (hc2 : l2.length ≤ c2) (h : sig_shared.f l0 l1 l2 = some (r1, r2)) :
    Calls Try.prog 60 #[.slice A0 l0.length c0, .slice A1 l1.length c1, .slice A2 l2.length c2] w fun e w' => ∃ v0_ v1_ : Value, e = .returned (.tuple #[v0_, v1_]) ∧ Kd.R (Kd.int .u8) 5 w' w.heap.size (fun k_ => some k_ ≠ (v1_ : Value).ownBlock) v0_ r1 ∧ Kd.R (Kd.int .u8) 5 w' w.heap.size (fun k_ => some k_ ≠ (v0_ : Value).ownBlock) v1_ r2 ∧ Below w.heap.size w w' := by
  unfold sig_shared.f at h
  split at h
  case isFalse => cases h
  case isTrue hok =>
  obtain ⟨o0, o1, o2, k0, k1, k2⟩ := hok
  injection h with h
  injection h with h1 h2
  subst h1 h2
  have hM := Lib.hid (show P.mac_Sum.f l0 l1 = some (macSum l0 l1) by unfold P.mac_Sum.f; rw [if_pos ⟨o0, o1, k0, k1⟩])
  have HK := Lib.hid (And.intro hr0 (And.intro hr1 (And.intro hr2 (And.intro o2 (And.intro k2 (And.intro (byteOk_macSum l0 l1) (show (macSum l0 l1).length ≤ 900000 by rw [macSum_length]; decide)))))))
  clear hr0 hr1 hr2 o0 o1 o2 k0 k1 k2
  generalize macSum l0 l1 = S at hM HK ⊢
  go_enter Try.func60, Try.ntmps60
  go_wp2_with fail
  refine (P.mac_Sum.calls A0 c0 l0 A1 c1 l1 S w HK.out.1 hc0 HK.out.2.1 hc1 hM.out).mono ?_
  rintro e W0 ⟨v, rfl, hR0, hb0⟩
  obtain ⟨As, cs, rfl, hcs, hCs⟩ := Kd.R_reads hR0
  have H0 := Lib.hid (And.intro hCs (And.intro (Kd.C_below HK.out.2.2.1 hb0) hb0))
  clear hR0 hCs hb0
  go_wp2_with fail
  refine (sigLabel_calls labKey 32 32 rfl (by decide) (by decide) As cs S A2 c2 l2 W0 HK.out.2.2.2.2.2.1 HK.out.2.2.2.2.2.2 HK.out.2.2.2.1 HK.out.2.2.2.2.1 H0.out.1 hcs H0.out.2.1 hc2).mono ?_
  rintro e W1 ⟨v1, rfl, hR1, hb1⟩
  have H1 := Lib.hid (And.intro (Kd.C_below H0.out.1 hb1) (And.intro (Kd.C_below H0.out.2.1 hb1) (And.intro hR1 (And.intro (H0.out.2.2.trans (hb1.mono H0.out.2.2.size)) H0.out.2.2.size))))
  clear H0 hR1 hb1
  go_wp2_with fail
  refine (sigLabel_calls labNonce 12 12 rfl (by decide) (by decide) As cs S A2 c2 l2 W1 HK.out.2.2.2.2.2.1 HK.out.2.2.2.2.2.2 HK.out.2.2.2.1 HK.out.2.2.2.2.1 H1.out.1 hcs H1.out.2.1 hc2).mono ?_
  rintro e W2 ⟨v2, rfl, hR2, hb2⟩
  have hlt := Kd.R_lt H1.out.2.2.1
  have hR1' := Kd.R_elder' H1.out.2.2.1 (v := v2) (fun k hk => own_base (Kd.own_of_R (enc := Value.int .u8) (h1 := fun _ => rfl) hR2) k hk) hb2
  have hR2' := Kd.R_new' hR2 (u := v1) hlt
  have H2 := Lib.hid (And.intro hR1' (And.intro hR2' (And.intro (H1.out.2.2.2.1.trans (hb2.mono H1.out.2.2.2.1.size)) (And.intro H1.out.2.2.2.1.size H1.out.2.2.2.2))))
  clear hlt hR1' hR2' H1 hR2 hb2
  go_wp2
  go_ret2
  exact ⟨v1, v2, rfl, Kd.R_mono (Kd.R_lower H2.out.1 H2.out.2.2.2.2) (fun _ hk => hk.2), Kd.R_mono (Kd.R_lower H2.out.2.1 H2.out.2.2.2.1) (fun _ hk => hk.2), H2.out.2.2.1⟩
end P
end Go.Proofs.Ytifpdpfjhjoieaa

/-! SigB -/
namespace Go.Proofs.Ytifpdpfjhjoieaa
set_option linter.unusedVariables false
set_option linter.unusedSimpArgs false
open Go.RowKit Go.Shelf Iter Go.Proofs.YtifpdpfjhjoieaaW.PrintWords Go.Proofs.YtifpdpfjhjoieaaW.PrintLast Go.Proofs.YtifpdpfjhjoieaaW.PrintMore
attribute [local go_sem] Oper.semAt_some
/-- What is signed, and its tag. -/
def sigTold (lab : ByteArray) (b : List Int) : List Int := rowB (mls ++ bytesOf lab) ++ rowB b
def sigTag (pub : List Int) (lab : ByteArray) (b : List Int) : List Int := macSum pub (sigTold lab b)
theorem byteOk_sigTold (lab : ByteArray) (b : List Int) (h : byteOk b = true) : byteOk (sigTold lab b) = true := (byteOk_append _ _).2 ⟨byteOk_rowB _ (byteOk_mls lab), byteOk_rowB _ h⟩
theorem sigTold_length (lab : ByteArray) (b : List Int) : (sigTold lab b).length ≤ lab.size + b.length + 16 := by
  have h1 := rowB_length (mls ++ bytesOf lab)
  have h2 := rowB_length b
  have h4 : (mls ++ bytesOf lab).length = lab.size + 8 := by rw [List.length_append, bytesOf_length]; exact Nat.add_comm _ _
  unfold sigTold
  rw [List.length_append]
  omega
theorem sigTag_length (pub : List Int) (lab : ByteArray) (b : List Int) : (sigTag pub lab b).length = 32 := macSum_length _ _
theorem byteOk_sigTag (pub : List Int) (lab : ByteArray) (b : List Int) : byteOk (sigTag pub lab b) = true := byteOk_macSum _ _
def smallT (pub : List Int) (lab : ByteArray) (b : List Int) : Prop := byteOk pub = true ∧ byteOk b = true ∧ pub.length ≤ 900000 ∧ lab.size ≤ 100000 ∧ b.length ≤ 300000
instance (pub : List Int) (lab : ByteArray) (b : List Int) : Decidable (smallT pub lab b) := by unfold smallT; infer_instance
namespace P
def sig_tag.f (pub : List Int) (lab : ByteArray) (b : List Int) : Option (List Int × Int) := if smallT pub lab b then some (sigTag pub lab b, 0) else none
set_option maxRecDepth 100000 in
set_option maxHeartbeats 1000000 in
theorem sig_tag.calls (A0 : Option Addr) (c0 : Nat) (l0 : List Int) (a1 : ByteArray) (A2 : Option Addr) (c2 : Nat) (l2 : List Int) (r1 : List Int) (r2 : Int) (w : World) (hr0 : Kd.C (Kd.int .u8) w A0 l0.length l0) (hc0 : l0.length ≤ c0) (hr2 : Kd.C (Kd.int .u8) w A2 l2.length l2) (hc2 : l2.length ≤ c2) (h : sig_tag.f l0 a1 l2 = some (r1, r2)) :
    Calls Try.prog 58 #[.slice A0 l0.length c0, .string a1, .slice A2 l2.length c2] w fun e w' => ∃ v0_ : Value, e = .returned (.tuple #[v0_, .int .i64 r2]) ∧ Kd.R (Kd.int .u8) 5 w' w.heap.size (fun _ => True) v0_ r1 ∧ Below w.heap.size w w' := by
  unfold sig_tag.f at h
  split at h
  case isFalse => cases h
  case isTrue hok =>
  obtain ⟨o0, o2, k0, k1, k2⟩ := hok
  injection h with h
  injection h with h1 h2
  subst h1 h2
  obtain ⟨t, ht⟩ : ∃ t : ByteArray, t = mlsS ++ a1 := ⟨_, rfl⟩
  have htb : bytesOf t = mls ++ bytesOf a1 := by rw [ht, bytesOf_append, mls_bytes]
  have htl : (bytesOf t).length = a1.size + 8 := by rw [htb, List.length_append, bytesOf_length]; exact Nat.add_comm _ _
  have hts : t.size = a1.size + 8 := by rw [← bytesOf_length, htl]
  have hrow1 : P.byt_Row.f (bytesOf t) = some (rowB (bytesOf t), 0) := by unfold P.byt_Row.f; rw [rowOf_small _ (by omega)]
  have hrow2 : P.byt_Row.f l2 = some (rowB l2, 0) := by unfold P.byt_Row.f; rw [rowOf_small _ (by omega)]
  have kb : ∀ W : World, (convert 9 22 (.string ({ data := #[77, 76, 83, 32, 49, 46, 48, 32] } ++ a1))).run Try.prog W = .ok (.slice (some ⟨W.heap.size, 0, none⟩) t.size (grownCap W t.size 0 5)) (Lib.bytesWorld W 5 t) := fun W => by
    rw [ht]
    exact print_bytes (P := Try.prog) 9 22 5 Try.underlying9 Try.underlying22 Try.underlying5 (mlsS ++ a1) W
  have hall : P.mac_All.f l0 [rowB (bytesOf t), rowB l2] = some (sigTag l0 a1 l2) := by
    have hl := sigTold_length a1 l2
    have e : ([rowB (bytesOf t), rowB l2] : List (List Int)).flatten = sigTold a1 l2 := by rw [htb]; simp [sigTold]
    unfold P.mac_All.f
    rw [e, if_pos ⟨o0, byteOk_sigTold _ _ o2, k0, by omega⟩]
    rfl
  have HR := Lib.hid (And.intro hrow1 (And.intro hrow2 hall))
  have HT := Lib.hid (And.intro hts (And.intro (bytesOf_length t) k1))
  have KB := Lib.hid kb
  have HK := Lib.hid (And.intro hr0 hr2)
  clear hrow1 hrow2 hall kb hr0 hr2 o0 o2 ht htb htl hts k1 k2 k0
  generalize sigTag l0 a1 l2 = G at *
  have hkb := KB.out w
  have hcp := grownCap_ge w t.size 0 5
  have hC2 := bytes_C w t (by have := HT.out.1; have := HT.out.2.2; omega)
  have hb2 := bytes_below (Below.refl w.heap.size w) (Nat.le_refl _) 5 t
  rw [← HT.out.2.1] at hkb hcp
  generalize grownCap w (bytesOf t).length 0 5 = cp at *
  generalize Lib.bytesWorld w 5 t = W2 at *
  have H0 := Lib.hid (And.intro hC2 (And.intro (Kd.C_below HK.out.1 hb2) (And.intro (Kd.C_below HK.out.2 hb2) hb2)))
  have Hcp := Lib.hid hcp
  clear hcp hC2 hb2 KB
  go_enter Try.func58, Try.ntmps58
  go_wp2_with fail
  · rename_i hx
    exfalso
    have := HT.out.2.2
    omega
  refine (P.byt_Row.calls (some ⟨w.heap.size, 0, none⟩) cp (bytesOf t) (rowB (bytesOf t)) 0 W2 H0.out.1 Hcp.out HR.out.1).mono ?_
  rintro e W3 ⟨v3, rfl, hR3, hb3⟩
  obtain ⟨A3, c3, rfl, hl3, hC3⟩ := Kd.R_reads hR3
  have H3 := Lib.hid (And.intro hC3 (And.intro (Kd.C_below H0.out.2.1 hb3) (And.intro (Kd.C_below H0.out.2.2.1 hb3) (H0.out.2.2.2.trans (hb3.mono H0.out.2.2.2.size)))))
  clear hR3 hC3 hb3 H0
  generalize rowB (bytesOf t) = d1 at *
  go_wp2_with fail
  refine (P.byt_Row.calls A2 c2 l2 (rowB l2) 0 W3 H3.out.2.2.1 hc2 HR.out.2.1).mono ?_
  rintro e W4 ⟨v4, rfl, hR4, hb4⟩
  obtain ⟨A4, c4, rfl, hl4, hC4⟩ := Kd.R_reads hR4
  have H4 := Lib.hid (And.intro hC4 (And.intro (Kd.C_below H3.out.1 hb4) (And.intro (Kd.C_below H3.out.2.1 hb4) (H3.out.2.2.2.trans (hb4.mono H3.out.2.2.2.size)))))
  clear hR4 hC4 hb4 H3
  generalize rowB l2 = d2 at *
  have hc5 := c_two W4 22 A3 A4 c3 c4 d1 d2 H4.out.2.1 hl3 H4.out.1 hl4
  have hb5 := H4.out.2.2.2.alloc H4.out.2.2.2.size (Obj.cells #[.slice A3 d1.length c3, .slice A4 d2.length c4] 22)
  have H5 := Lib.hid (And.intro hc5 (And.intro (Kd.C_alloc H4.out.2.2.1 (Obj.cells #[.slice A3 d1.length c3, .slice A4 d2.length c4] 22)) hb5))
  clear hc5 hb5
  go_wp2_with fail
  refine (P.mac_All.calls A0 c0 l0 (some ⟨W4.heap.size, 0, none⟩) 2 [d1, d2] G _ H5.out.2.1 hc0 H5.out.1 (Nat.le_refl _) HR.out.2.2).mono ?_
  rintro e W6 ⟨v6, rfl, hR6, hb6⟩
  have H6 := Lib.hid (And.intro hR6 (And.intro (H5.out.2.2.trans (hb6.mono H5.out.2.2.size)) H5.out.2.2.size))
  clear hR6 hb6 H5 H4
  go_wp2
  go_ret2
  exact ⟨v6, rfl, Kd.R_lower H6.out.1 H6.out.2.2, H6.out.2.1⟩
end P
end Go.Proofs.Ytifpdpfjhjoieaa

/-! SigC -/
namespace Go.Proofs.Ytifpdpfjhjoieaa
set_option linter.unusedVariables false
set_option linter.unusedSimpArgs false
open Go.RowKit Go.Shelf Iter Go.Proofs.YtifpdpfjhjoieaaW.PrintWords Go.Proofs.YtifpdpfjhjoieaaW.PrintLast
attribute [local go_sem] Oper.semAt_some
namespace P
def pyxlaw07_told.f (lab : ByteArray) (b : List Int) : Option (List Int) := if byteOk b = true ∧ lab.size ≤ 100000 ∧ b.length ≤ 300000 then some (sigTold lab b) else none
set_option maxRecDepth 100000 in
set_option maxHeartbeats 1000000 in
theorem pyxlaw07_told.calls (a1 : ByteArray) (A2 : Option Addr) (c2 : Nat) (l2 : List Int) (r1 : List Int) (w : World) (hr2 : Kd.C (Kd.int .u8) w A2 l2.length l2) (hc2 : l2.length ≤ c2) (h : pyxlaw07_told.f a1 l2 = some r1) :
    Calls Try.prog 37 #[.string a1, .slice A2 l2.length c2] w fun e w' => ∃ v0_ : Value, e = .returned v0_ ∧ Kd.R (Kd.int .u8) 5 w' w.heap.size (fun _ => True) v0_ r1 ∧ Below w.heap.size w w' := by
  unfold pyxlaw07_told.f at h
  split at h
  case isFalse => cases h
  case isTrue hok =>
  obtain ⟨o2, k1, k2⟩ := hok
  injection h with h
  subst h
  obtain ⟨t, ht⟩ : ∃ t : ByteArray, t = mlsS ++ a1 := ⟨_, rfl⟩
  have htb : bytesOf t = mls ++ bytesOf a1 := by rw [ht, bytesOf_append, mls_bytes]
  have htl : (bytesOf t).length = a1.size + 8 := by rw [htb, List.length_append, bytesOf_length]; exact Nat.add_comm _ _
  have hts : t.size = a1.size + 8 := by rw [← bytesOf_length, htl]
  have hrow1 : P.pyxref01_Row.f (bytesOf t) = some (rowB (bytesOf t), 0) := by unfold P.pyxref01_Row.f; rw [rowOf_small _ (by omega)]
  have hrow2 : P.pyxref01_Row.f l2 = some (rowB l2, 0) := by unfold P.pyxref01_Row.f; rw [rowOf_small _ (by omega)]
  have kb : ∀ W : World, (convert 9 22 (.string ({ data := #[77, 76, 83, 32, 49, 46, 48, 32] } ++ a1))).run Try.prog W = .ok (.slice (some ⟨W.heap.size, 0, none⟩) t.size (grownCap W t.size 0 5)) (Lib.bytesWorld W 5 t) := fun W => by
    rw [ht]
    exact print_bytes (P := Try.prog) 9 22 5 Try.underlying9 Try.underlying22 Try.underlying5 (mlsS ++ a1) W
  have hrow : sigTold a1 l2 = rowB (bytesOf t) ++ rowB l2 := by rw [htb]; rfl
  rw [hrow]
  have HL := Lib.hid (show (rowB (bytesOf t)).length ≤ 200000 ∧ (rowB l2).length ≤ 400000 by have e1 := rowB_length (bytesOf t); have e2 := rowB_length l2; omega)
  have HR := Lib.hid (And.intro hrow1 hrow2)
  have HT := Lib.hid (And.intro hts (And.intro (bytesOf_length t) k1))
  have KB := Lib.hid kb
  have HK := Lib.hid hr2
  clear hrow1 hrow2 hrow kb hr2 o2 ht htb htl hts k1 k2
  have hkb := KB.out w
  have hcp := grownCap_ge w t.size 0 5
  have hC2 := bytes_C w t (by have := HT.out.1; have := HT.out.2.2; omega)
  have hb2 := bytes_below (Below.refl w.heap.size w) (Nat.le_refl _) 5 t
  rw [← HT.out.2.1] at hkb hcp
  generalize grownCap w (bytesOf t).length 0 5 = cp at *
  generalize Lib.bytesWorld w 5 t = W2 at *
  have H0 := Lib.hid (And.intro hC2 (And.intro (Kd.C_below HK.out hb2) hb2))
  have Hcp := Lib.hid hcp
  clear hcp hC2 hb2 KB
  go_enter Try.func37, Try.ntmps37
  go_wp2_with fail
  · rename_i hx
    exfalso
    have := HT.out.2.2
    omega
  refine (P.pyxref01_Row.calls (some ⟨w.heap.size, 0, none⟩) cp (bytesOf t) (rowB (bytesOf t)) 0 W2 H0.out.1 Hcp.out HR.out.1).mono ?_
  rintro e W3 ⟨v3, rfl, hR3, hb3⟩
  obtain ⟨A3, c3, rfl, hl3, hC3⟩ := Kd.R_reads hR3
  have H3 := Lib.hid (And.intro hC3 (And.intro (Kd.C_below H0.out.2.1 hb3) (H0.out.2.2.trans (hb3.mono H0.out.2.2.size))))
  clear hR3 hC3 hb3 H0
  generalize hd1 : rowB (bytesOf t) = d1 at *
  go_wp2_with fail
  refine (P.pyxref01_Row.calls A2 c2 l2 (rowB l2) 0 W3 H3.out.2.1 hc2 HR.out.2).mono ?_
  rintro e W4 ⟨v4, rfl, hR4, hb4⟩
  have hR4b := Kd.R_bound hR4
  have hR4a := Kd.R_below hR4 ((Below.refl W4.heap.size W4).alloc (Nat.le_refl _) (Obj.cells #[] 5))
  obtain ⟨A4, c4, rfl, hl4, hC4⟩ := Kd.R_reads hR4
  have ho4 : ∀ b, (Value.slice A4 (rowB l2).length c4).ownBlock = some b → b < W4.heap.size := fun b hb => by have := hR4b.1 b hb; omega
  have HO := Lib.hid (And.intro hR4a ho4)
  clear hR4a ho4 hR4b
  have H4 := Lib.hid (And.intro hC4 (And.intro (Kd.C_below H3.out.1 hb4) (H3.out.2.2.trans (hb4.mono H3.out.2.2.size))))
  clear hR4 hC4 hb4 H3
  generalize hd2 : rowB l2 = d2 at *
  have H5 := Lib.hid (And.intro (Kd.C_alloc H4.out.2.1 (Obj.cells #[] 5)) (And.intro (Kd.C_alloc H4.out.1 (Obj.cells #[] 5)) (And.intro (H4.out.2.2.alloc H4.out.2.2.size (Obj.cells #[] 5)) (show Kd.R (Kd.int .u8) 5 (W4.alloc (Obj.cells #[] 5)) w.heap.size (fun _ => True) (.slice (some ⟨W4.heap.size, 0, none⟩) 0 0) [] from Kd.R_of_own (enc := Value.int .u8) (h1 := fun _ => rfl) (own_lit W4 w.heap.size 5 .u8 [] H4.out.2.2.size (by simp)) (fun _ _ => trivial)))))
  clear H4
  go_wp2_with (first
    | ((with_reducible refine gate_builtin (b := .append) (xs := #[.tmp 21, .tmp 22]) rfl ?_); at_builtin; refine Kd.R_append_rows (Kd.int .u8) (w0 := w) w.heap.size rfl (.tmp 21) (.tmp 22) 22 5 (.int .u8 0) 1 rfl Try.underlying22 B.info5 rfl (by decide) (by omega) (.slice (some ⟨W4.heap.size, 0, none⟩) 0 0) [] d1 _ _ _ (fun _ => True) (fun _ => False) rfl rfl ?aO ?aR (fun _ _ h => h) (fun _ h => h.elim) ?aF ?aB ?aS ?aL ?_; (case aR => exact H5.out.1); (case aB => exact H5.out.2.2.1); (case aF => exact (fun _ _ => trivial)); (case aO => exact H5.out.2.2.2); (case aS => exact H5.out.2.2.1.size); (case aL => (have := HL.out.1; simp; omega)); intro v7 W7 ho7 hb7 hg7 hat7)
    | ((with_reducible refine gate_builtin (b := .append) (xs := #[.tmp 23, .tmp 24]) rfl ?_); at_builtin; (have hR5 := Kd.R_grown2 HO.out.1 rfl hg7 (fun k hk e => by have h2 := HO.out.2 k e.symm; have h3 : W4.heap.size = k := (by injection hk); omega)); (have hC5 := (Kd.R_reads' hR5).2.2); refine Kd.R_append_rows (Kd.int .u8) (w0 := w) w.heap.size rfl (.tmp 23) (.tmp 24) 22 5 (.int .u8 0) 1 rfl Try.underlying22 B.info5 rfl (by decide) (by omega) v7 d1 d2 _ _ _ (fun _ => True) (fun _ => False) rfl rfl ho7 hC5 (fun _ _ h => h) (fun _ h => h.elim) (fun _ _ => trivial) hb7 hb7.size (by have h1 := HL.out.1; have h2 := HL.out.2; omega) ?_; intro v8 W8 hv8 hb8 hgr8 hat8; clear hgr8 hat8))
  go_ret
  exact ⟨v8, rfl, by rw [hd1, hd2]; exact hv8, hb8⟩
end P
namespace P
def pyxref07_tag.f (pub : List Int) (lab : ByteArray) (b : List Int) : Option (List Int) := if smallT pub lab b then some (sigTag pub lab b) else none
set_option maxRecDepth 100000 in
set_option maxHeartbeats 1000000 in
theorem pyxref07_tag.calls (A0 : Option Addr) (c0 : Nat) (l0 : List Int) (a1 : ByteArray) (A2 : Option Addr) (c2 : Nat) (l2 : List Int) (r1 : List Int) (w : World) (hr0 : Kd.C (Kd.int .u8) w A0 l0.length l0) (hc0 : l0.length ≤ c0) (hr2 : Kd.C (Kd.int .u8) w A2 l2.length l2) (hc2 : l2.length ≤ c2) (h : pyxref07_tag.f l0 a1 l2 = some r1) :
    Calls Try.prog 59 #[.slice A0 l0.length c0, .string a1, .slice A2 l2.length c2] w fun e w' => ∃ v0_ : Value, e = .returned v0_ ∧ Kd.R (Kd.int .u8) 5 w' w.heap.size (fun _ => True) v0_ r1 ∧ Below w.heap.size w w' := by
  unfold pyxref07_tag.f at h
  split at h
  case isFalse => cases h
  case isTrue hok =>
  obtain ⟨o0, o2, k0, k1, k2⟩ := hok
  injection h with h
  subst h
  obtain ⟨t, ht⟩ : ∃ t : ByteArray, t = mlsS ++ a1 := ⟨_, rfl⟩
  have htb : bytesOf t = mls ++ bytesOf a1 := by rw [ht, bytesOf_append, mls_bytes]
  have htl : (bytesOf t).length = a1.size + 8 := by rw [htb, List.length_append, bytesOf_length]; exact Nat.add_comm _ _
  have hts : t.size = a1.size + 8 := by rw [← bytesOf_length, htl]
  have hrow1 : P.pyxref01_Row.f (bytesOf t) = some (rowB (bytesOf t), 0) := by unfold P.pyxref01_Row.f; rw [rowOf_small _ (by omega)]
  have hrow2 : P.pyxref01_Row.f l2 = some (rowB l2, 0) := by unfold P.pyxref01_Row.f; rw [rowOf_small _ (by omega)]
  have kb : ∀ W : World, (convert 9 22 (.string ({ data := #[77, 76, 83, 32, 49, 46, 48, 32] } ++ a1))).run Try.prog W = .ok (.slice (some ⟨W.heap.size, 0, none⟩) t.size (grownCap W t.size 0 5)) (Lib.bytesWorld W 5 t) := fun W => by
    rw [ht]
    exact print_bytes (P := Try.prog) 9 22 5 Try.underlying9 Try.underlying22 Try.underlying5 (mlsS ++ a1) W
  have hrow : sigTold a1 l2 = rowB (bytesOf t) ++ rowB l2 := by rw [htb]; rfl
  have hsum : P.pyxref03_Sum.f l0 (sigTold a1 l2) = some (sigTag l0 a1 l2) := by
    have hl := sigTold_length a1 l2
    unfold P.pyxref03_Sum.f
    rw [if_pos ⟨o0, byteOk_sigTold _ _ o2, k0, by omega⟩]
    rfl
  rw [hrow] at hsum
  have HS := Lib.hid hsum
  clear hsum
  generalize sigTag l0 a1 l2 = G at *
  have HL := Lib.hid (show (rowB (bytesOf t)).length ≤ 200000 ∧ (rowB l2).length ≤ 400000 by have e1 := rowB_length (bytesOf t); have e2 := rowB_length l2; omega)
  have HR := Lib.hid (And.intro hrow1 hrow2)
  have HT := Lib.hid (And.intro hts (And.intro (bytesOf_length t) k1))
  have KB := Lib.hid kb
  have HK := Lib.hid hr2
  have HK0 := Lib.hid hr0
  clear hr0 o0 k0
  clear hrow1 hrow2 hrow kb hr2 o2 ht htb htl hts k1 k2
  have hkb := KB.out w
  have hcp := grownCap_ge w t.size 0 5
  have hC2 := bytes_C w t (by have := HT.out.1; have := HT.out.2.2; omega)
  have hb2 := bytes_below (Below.refl w.heap.size w) (Nat.le_refl _) 5 t
  rw [← HT.out.2.1] at hkb hcp
  generalize grownCap w (bytesOf t).length 0 5 = cp at *
  generalize Lib.bytesWorld w 5 t = W2 at *
  have H0 := Lib.hid (And.intro hC2 (And.intro (Kd.C_below HK.out hb2) hb2))
  have Hcp := Lib.hid hcp
  clear hcp hC2 hb2 KB
  go_enter Try.func59, Try.ntmps59
  go_wp2_with fail
  · rename_i hx
    exfalso
    have := HT.out.2.2
    omega
  refine (P.pyxref01_Row.calls (some ⟨w.heap.size, 0, none⟩) cp (bytesOf t) (rowB (bytesOf t)) 0 W2 H0.out.1 Hcp.out HR.out.1).mono ?_
  rintro e W3 ⟨v3, rfl, hR3, hb3⟩
  obtain ⟨A3, c3, rfl, hl3, hC3⟩ := Kd.R_reads hR3
  have H3 := Lib.hid (And.intro hC3 (And.intro (Kd.C_below H0.out.2.1 hb3) (H0.out.2.2.trans (hb3.mono H0.out.2.2.size))))
  clear hR3 hC3 hb3 H0
  generalize hd1 : rowB (bytesOf t) = d1 at *
  go_wp2_with fail
  refine (P.pyxref01_Row.calls A2 c2 l2 (rowB l2) 0 W3 H3.out.2.1 hc2 HR.out.2).mono ?_
  rintro e W4 ⟨v4, rfl, hR4, hb4⟩
  have hR4b := Kd.R_bound hR4
  have hR4a := Kd.R_below hR4 ((Below.refl W4.heap.size W4).alloc (Nat.le_refl _) (Obj.cells #[] 5))
  obtain ⟨A4, c4, rfl, hl4, hC4⟩ := Kd.R_reads hR4
  have ho4 : ∀ b, (Value.slice A4 (rowB l2).length c4).ownBlock = some b → b < W4.heap.size := fun b hb => by have := hR4b.1 b hb; omega
  have HO := Lib.hid (And.intro hR4a ho4)
  clear hR4a ho4 hR4b
  have H4 := Lib.hid (And.intro hC4 (And.intro (Kd.C_below H3.out.1 hb4) (H3.out.2.2.trans (hb4.mono H3.out.2.2.size))))
  clear hR4 hC4 hb4 H3
  generalize hd2 : rowB l2 = d2 at *
  have H5 := Lib.hid (And.intro (Kd.C_alloc H4.out.2.1 (Obj.cells #[] 5)) (And.intro (Kd.C_alloc H4.out.1 (Obj.cells #[] 5)) (And.intro (H4.out.2.2.alloc H4.out.2.2.size (Obj.cells #[] 5)) (show Kd.R (Kd.int .u8) 5 (W4.alloc (Obj.cells #[] 5)) w.heap.size (fun _ => True) (.slice (some ⟨W4.heap.size, 0, none⟩) 0 0) [] from Kd.R_of_own (enc := Value.int .u8) (h1 := fun _ => rfl) (own_lit W4 w.heap.size 5 .u8 [] H4.out.2.2.size (by simp)) (fun _ _ => trivial)))))
  clear H4
  go_wp2_with (first
    | ((with_reducible refine gate_builtin (b := .append) (xs := #[.tmp 24, .tmp 25]) rfl ?_); at_builtin; refine Kd.R_append_rows (Kd.int .u8) (w0 := w) w.heap.size rfl (.tmp 24) (.tmp 25) 22 5 (.int .u8 0) 1 rfl Try.underlying22 B.info5 rfl (by decide) (by omega) (.slice (some ⟨W4.heap.size, 0, none⟩) 0 0) [] d1 _ _ _ (fun _ => True) (fun _ => False) rfl rfl ?aO ?aR (fun _ _ h => h) (fun _ h => h.elim) ?aF ?aB ?aS ?aL ?_; (case aR => exact H5.out.1); (case aB => exact H5.out.2.2.1); (case aF => exact (fun _ _ => trivial)); (case aO => exact H5.out.2.2.2); (case aS => exact H5.out.2.2.1.size); (case aL => (have := HL.out.1; simp; omega)); intro v7 W7 ho7 hb7 hg7 hat7)
    | ((with_reducible refine gate_builtin (b := .append) (xs := #[.tmp 26, .tmp 27]) rfl ?_); at_builtin; (have hR5 := Kd.R_grown2 HO.out.1 rfl hg7 (fun k hk e => by have h2 := HO.out.2 k e.symm; have h3 : W4.heap.size = k := (by injection hk); omega)); (have hC5 := (Kd.R_reads' hR5).2.2); refine Kd.R_append_rows (Kd.int .u8) (w0 := w) w.heap.size rfl (.tmp 26) (.tmp 27) 22 5 (.int .u8 0) 1 rfl Try.underlying22 B.info5 rfl (by decide) (by omega) v7 d1 d2 _ _ _ (fun _ => True) (fun _ => False) rfl rfl ho7 hC5 (fun _ _ h => h) (fun _ h => h.elim) (fun _ _ => trivial) hb7 hb7.size (by have h1 := HL.out.1; have h2 := HL.out.2; omega) ?_; intro v8 W8 hv8 hb8 hgr8 hat8; clear hgr8 hat8))
  obtain ⟨A8, c8, rfl, hl8, hC8⟩ := Kd.R_reads hv8
  have hs := HS.out
  refine (P.pyxref03_Sum.calls A0 c0 l0 A8 c8 (d1 ++ d2) G _ (Kd.C_below HK0.out hb8) hc0 hC8 hl8 hs).mono ?_
  rintro e W9 ⟨v9, rfl, hR9, hb9⟩
  have H9 := Lib.hid (And.intro hR9 (And.intro (hb8.trans (hb9.mono hb8.size)) hb8.size))
  clear hR9 hb9 hb8
  go_wp2
  go_ret
  exact ⟨v9, rfl, Kd.R_lower H9.out.1 H9.out.2.2, H9.out.2.1⟩
end P
end Go.Proofs.Ytifpdpfjhjoieaa

/-! J0 -/
namespace Go.Proofs.Ytifpdpfjhjoieaa.J
open Go.Proofs.Ytifpdpfjhjoieaa.P
open Go.RowKit Go.Proofs.YtifpdpfjhjoieaaW.PrintWords Go.Proofs.YtifpdpfjhjoieaaW.PrintLast Go.Proofs.YtifpdpfjhjoieaaW.PrintMore
attribute [local go_sem] max2_int min2_int max_two min_two max_three min_three max_four min_four   -- for this text's walks alone
set_option linter.unusedVariables false
set_option linter.unusedSimpArgs false
def errW : Option Int → Value
  | none => .nilIface
  | some c => .iface 0 (.int .i64 c)
theorem errW_none : errW none = .nilIface := rfl
theorem errW_some (c : Int) : errW (some c) = .iface 0 (.int .i64 c) := rfl
-- the values' own types
def rd_L1 (xs : List (List Int)) (i : Int) : (List Int) := xs.getD i.toNat ([] : List Int)
theorem at_L1 {w : World} {A : Option Addr} {n : Nat} {xs : List (List Int)} (h : Kd.C (Kd.slice 5 (Kd.int .u8)) w A n xs) (i : Int) (h0 : 0 ≤ i) (h1 : i < n) : ∃ ad A0 c0, A = some ad ∧ w.cell? (ad.add i.toNat) = some (.slice A0 (rd_L1 xs i).length c0) ∧ (rd_L1 xs i).length ≤ c0 ∧ (Kd.int .u8).C w A0 (rd_L1 xs i).length (rd_L1 xs i) := by
  obtain ⟨ad, c, e, _, hK, hc0⟩ := Kd.C_get h ([] : List Int) i h0 h1
  have hc : ∀ j u, c[j]? = some u → w.cell? (ad.add (i.toNat * 1 + j)) = some u := hc0
  obtain ⟨A0, c0, rfl, l0, g0⟩ := hK
  exact ⟨ad, A0, c0, e, by have hq := hc 0 _ rfl; rwa [Nat.mul_one, Nat.add_zero] at hq, l0, g0⟩
end Go.Proofs.Ytifpdpfjhjoieaa.J

/-! J1 -/
namespace Go.Proofs.Ytifpdpfjhjoieaa.J
open Go.Proofs.Ytifpdpfjhjoieaa.P
open Go.RowKit Go.Proofs.YtifpdpfjhjoieaaW.PrintWords Go.Proofs.YtifpdpfjhjoieaaW.PrintLast Go.Proofs.YtifpdpfjhjoieaaW.PrintMore
attribute [local go_sem] max2_int min2_int max_two min_two max_three min_three max_four min_four   -- for this text's walks alone
set_option linter.unusedVariables false
set_option linter.unusedSimpArgs false
/-! ### sig_right: function 56 -/
def sig_right.l0 : Nat → List (List Int) → Int → Int → Option (Bool)
  | 0, _, _, _ => none
  | k + 1, x5, x6, x7 => if x7 < x6 then (if 0 ≤ x7 then (if x7 < (x5.length : Int) then (if ((rd_L1 x5 x7).length : Int) = 32 then (sig_right.l0 k x5 x6 (wrap64 (x7 + 1))) else (some false)) else (none)) else (none)) else (some true)
def sig_right.f (k : Nat) (l0 : List (List Int)) : Option (Bool) := sig_right.l0 k l0 (l0.length : Int) 0
set_option maxHeartbeats 8000000 in
set_option maxRecDepth 100000 in
theorem sig_right.calls (k : Nat) (A0 : Option Addr) (c0 : Nat) (l0 : List (List Int)) (r : Bool) (w : World) (hr0 : Kd.C (Kd.slice 5 (Kd.int .u8)) w A0 l0.length l0) (hc0 : l0.length ≤ c0) (h : sig_right.f k l0 = some r) :
    Calls Try.prog 56 #[.slice A0 l0.length c0] w fun e w' => e = .returned (.bool r) ∧ Drawn0 w w' := by
  have HR0 := Aside0.mk hr0
  have HC0 := Aside0.mk hc0
  clear hr0 hc0
  have H : (sig_right.l0 k l0 (l0.length : Int) 0) = some r := h
  clear h
  have H' := Aside0.mk H
  clear H
  go_enter Try.func56, Try.ntmps56
  go_wp2
  go_loopg [7] k (fun kq v7 w' => ∃ (x7_1 : Int), v7 = .int .i64 x7_1 ∧ Aside0 (sig_right.l0 kq l0 (l0.length : Int) x7_1 = some r) ∧ Aside0 (kq ≤ k) ∧ Drawn0 w w')
  case atStart => exact ⟨(0), (by first | rfl | (simp; done) | (simp [*]; done)), H', ⟨Nat.le_refl _⟩, by repeat (first | exact Drawn0.refl _ | apply Drawn0.step)⟩
  case round =>
    clear H'
    obtain ⟨x7_1, rfl, HA, HK1, ⟨m1, rfl⟩⟩ := hrel
    cases gk with
    | zero => exact absurd HA.out (by simp [sig_right.l0])
    | succ k1 =>
      have H := HA.out
      clear HA
      simp only [sig_right.l0] at H
      by_cases c2 : x7_1 < (l0.length : Int)
      · rw [if_pos c2] at H
        have c2b0 : decide (x7_1 < (l0.length : Int)) = true := decide_eq_true c2
        clear c2
        by_cases c3 : 0 ≤ x7_1
        · rw [if_pos c3] at H
          have c3b0 : decide (0 ≤ x7_1) = true := decide_eq_true c3
          clear c3
          by_cases c4 : x7_1 < (l0.length : Int)
          · rw [if_pos c4] at H
            have c4b0 : decide (x7_1 < (l0.length : Int)) = true := decide_eq_true c4
            clear c4
            by_cases c5 : ((rd_L1 l0 x7_1).length : Int) = 32
            · rw [if_pos c5] at H
              have c5b0 : (((rd_L1 l0 x7_1).length : Int) == 32) = true := beq_iff_eq.mpr c5
              have c5b1 : (((rd_L1 l0 x7_1).length : Int) != 32) = false := bne_eq_false_iff_eq.mpr c5
              clear c5
              have H' := Aside0.mk H
              clear H
              have p101 : 0 ≤ (x7_1 : Int) := of_decide_eq_true (by first | (with_reducible assumption) | assumption)
              have q101 : x7_1 < (l0.length : Int) := of_decide_eq_true (by first | (with_reducible assumption) | assumption)
              obtain ⟨ad101, A101_0, c101_0, e101, hx101_0, hl101_0, hi101_0⟩ := at_L1 HR0.out x7_1 p101 q101
              cases e101
              have HR101_0 := Aside0.mk hi101_0
              have HC101_0 := Aside0.mk hl101_0
              clear hi101_0 hl101_0
              replace p101 := eq_true p101
              replace q101 := eq_true q101
              go_wp2
              go_roundg k1
              case measure => have := HK1.out; omega
              case rel => exact ⟨(wrap64 (x7_1 + 1)), (by first | rfl | (simp; done) | (simp [*]; done)), H', ⟨by have := HK1.out; omega⟩, by repeat (first | exact Drawn0.refl _ | apply Drawn0.step)⟩
            · rw [if_neg c5] at H
              have c5b0 : (((rd_L1 l0 x7_1).length : Int) == 32) = false := beq_eq_false_iff_ne.mpr c5
              have c5b1 : (((rd_L1 l0 x7_1).length : Int) != 32) = true := bne_iff_ne.mpr c5
              obtain rfl := Option.some.inj H
              have p101 : 0 ≤ (x7_1 : Int) := of_decide_eq_true (by first | (with_reducible assumption) | assumption)
              have q101 : x7_1 < (l0.length : Int) := of_decide_eq_true (by first | (with_reducible assumption) | assumption)
              obtain ⟨ad101, A101_0, c101_0, e101, hx101_0, hl101_0, hi101_0⟩ := at_L1 HR0.out x7_1 p101 q101
              cases e101
              have HR101_0 := Aside0.mk hi101_0
              have HC101_0 := Aside0.mk hl101_0
              clear hi101_0 hl101_0
              replace p101 := eq_true p101
              replace q101 := eq_true q101
              go_wp2
              go_ret
              exact ⟨by first | rfl | (simp; done) | (simp [*]; done), by repeat (first | exact Drawn0.refl _ | apply Drawn0.step)⟩
          · rw [if_neg c4] at H
            exact absurd H (by simp)
        · rw [if_neg c3] at H
          exact absurd H (by simp)
      · rw [if_neg c2] at H
        have c2b0 : decide (x7_1 < (l0.length : Int)) = false := decide_eq_false c2
        clear c2
        obtain rfl := Option.some.inj H
        go_wp2
        go_ret
        exact ⟨by first | rfl | (simp; done) | (simp [*]; done), by repeat (first | exact Drawn0.refl _ | apply Drawn0.step)⟩
-- NOT PRINTED: function 47 (byt_Num)
-- NOT PRINTED: function 95 (byt_wide)
-- NOT PRINTED: function 79 (byt_Len)
-- NOT PRINTED: function 80 (kdf_first)
-- NOT PRINTED: function 63 (kdf_Expand)
-- NOT PRINTED: function 27 (sig_Public)
-- NOT PRINTED: function 104 (slices_Grow_byte_byte)
-- NOT PRINTED: function 99 (slices_Concat_byte_byte)
-- NOT PRINTED: function 87 (mac_joined)
-- NOT PRINTED: function 105 (sha_primes)
-- NOT PRINTED: function 112 (bits_Mul64)
-- NOT PRINTED: function 113 (bits_Add64)
-- NOT PRINTED: function 110 (sha_above)
-- NOT PRINTED: function 106 (sha_root)
-- NOT PRINTED: function 100 (sha_keys)
-- NOT PRINTED: function 101 (sha_Start)
-- NOT PRINTED: function 111 (bits_RotateLeft32)
-- NOT PRINTED: function 108 (sha_turned)
-- NOT PRINTED: function 107 (sha_words)
-- NOT PRINTED: function 102 (sha_mixed)
-- NOT PRINTED: function 103 (sha_Pad)
-- NOT PRINTED: function 94 (sha_Sum)
-- NOT PRINTED: function 91 (mac_Key)
-- NOT PRINTED: function 29 (sig_Sign)
-- NOT PRINTED: function 31 (sig_Verify)
-- NOT PRINTED: function 14 (seal_Halves)
-- NOT PRINTED: function 42 (seal_ready)
-- NOT PRINTED: function 83 (aes_Mul)
-- NOT PRINTED: function 96 (aes_inverse)
-- NOT PRINTED: function 97 (bits_RotateLeft8)
-- NOT PRINTED: function 82 (aes_Box)
-- NOT PRINTED: function 65 (aes_boxes)
-- NOT PRINTED: function 66 (aes_keys)
-- NOT PRINTED: function 84 (aes_state_with)
-- NOT PRINTED: function 85 (aes_state_shifted)
-- NOT PRINTED: function 86 (aes_state_mixed)
-- NOT PRINTED: function 67 (aes_locked)
-- NOT PRINTED: function 43 (aes_Stream)
-- NOT PRINTED: function 44 (seal_tag)
-- NOT PRINTED: function 33 (sig_Wrap)
-- NOT PRINTED: function 35 (sig_Unwrap)
-- NOT PRINTED: function 77 (pyxref01_power)
-- NOT PRINTED: function 54 (pyxref01_Num)
-- NOT PRINTED: function 70 (pyxref01_Len)
-- NOT PRINTED: function 71 (pyxref02_Pad)
-- NOT PRINTED: function 72 (pyxref02_keys)
-- NOT PRINTED: function 73 (pyxref02_Start)
-- NOT PRINTED: function 88 (pyxref02_word)
-- NOT PRINTED: function 89 (pyxref02_turn)
-- NOT PRINTED: function 74 (pyxref02_step)
-- NOT PRINTED: function 50 (pyxref02_Sum)
-- NOT PRINTED: function 49 (pyxref03_Key)
-- NOT PRINTED: function 51 (pyxref03_with)
-- NOT PRINTED: function 64 (pyxref04_Expand)
/-! ### pyxref07_Public: function 28 -/
def pyxref07_Public.f (l0 : List Int) : Option (List Int × Int) := if (l0.length : Int) = 32 then ((pyxref04_Label.f l0 (⟨#[112, 117, 98, 108, 105, 99]⟩ : ByteArray) ([] : List Int) 32).bind fun bt106 => (some (bt106.1, bt106.2))) else (some (([] : List Int), 1))
set_option maxHeartbeats 8000000 in
set_option maxRecDepth 100000 in
theorem pyxref07_Public.calls (A0 : Option Addr) (c0 : Nat) (l0 : List Int) (r1 : List Int) (r2 : Int) (w : World) (hr0 : Kd.C (Kd.int .u8) w A0 l0.length l0) (hc0 : l0.length ≤ c0) (h : pyxref07_Public.f l0 = some (r1, r2)) :
    Calls Try.prog 28 #[.slice A0 l0.length c0] w fun e w' => ∃ v0_ : Value, e = .returned (.tuple #[v0_, .int .i64 r2]) ∧ Kd.R (Kd.int .u8) 5 w' w.heap.size (fun _ => True) v0_ r1 ∧ Below w.heap.size w w' := by
  have HR0 := Aside0.mk hr0
  have HC0 := Aside0.mk hc0
  clear hr0 hc0
  have HB := Aside0.mk (Below.refl w.heap.size w)
  have H : (if (l0.length : Int) = 32 then ((pyxref04_Label.f l0 (⟨#[112, 117, 98, 108, 105, 99]⟩ : ByteArray) ([] : List Int) 32).bind fun bt106 => (some (bt106.1, bt106.2))) else (some (([] : List Int), 1))) = some (r1, r2) := h
  clear h
  by_cases c2 : (l0.length : Int) = 32
  · rw [if_pos c2] at H
    have c2b0 : ((l0.length : Int) == 32) = true := beq_iff_eq.mpr c2
    have c2b1 : ((l0.length : Int) != 32) = false := bne_eq_false_iff_eq.mpr c2
    clear c2
    replace H := Option.bind_eq_some_iff.mp H
    obtain ⟨⟨t106, t107⟩, A30, H⟩ := H
    replace H : (some (t106, t107)) = some (r1, r2) := H
    have A3 := Aside0.mk A30
    clear A30
    simp only [Option.some.injEq, Prod.mk.injEq] at H
    obtain ⟨rfl, rfl⟩ := H
    go_enter Try.func28, Try.ntmps28
    go_wp2_with (first | ((with_reducible refine gate_callee (f := 41) rfl ?_); refine goesL_ (some 8) rfl rfl Try.func41 (by kernel_rfl) rfl #[.slice A0 l0.length c0, .string (⟨#[112, 117, 98, 108, 105, 99]⟩ : ByteArray), .slice none 0 0, .int .i64 32] rfl (by (try simp only [List.map_toArray, List.map_cons, List.map_nil]); first | done | rfl | (simp only [List.length_drop, List.length_take]; rfl)) ?_; (refine (pyxref04_Label.calls _ _ l0 (⟨#[112, 117, 98, 108, 105, 99]⟩ : ByteArray) _ _ ([] : List Int) 32 t106 t107 _ ?side1 ?side2 ?side3 ?side4 A3.out).mono ?_); (case side1 => repeat (first | exact HR0.out | (with_reducible refine Kd.C_alloc ?_ _) | (with_reducible refine Kd.C_drewN ?_ _) | (with_reducible refine Kd.C_drew ?_))); (case side2 => exact HC0.out); (case side3 => exact Kd.C_nil _ _); (case side4 => exact Nat.le_refl _); rintro e w4 ⟨v108, rfl, ho0, hb⟩; refine ⟨_, rfl, ?_⟩; have n0_ := Aside0.mk (Kd.R_lower ho0 (below_size (by repeat (first | (with_reducible first | exact HB.out | apply below_alloc | apply pw_below_drewN | apply below_drew1) | exact HB.out)))); have n1_ := Aside0.mk (below_step (by repeat (first | (with_reducible first | exact HB.out | apply below_alloc | apply pw_below_drewN | apply below_drew1) | exact HB.out)) hb); clear HB; have HO109 := n0_; have HB := n1_; clear n0_ n1_; (try clear hb); (try clear hb2); (try clear hk); (try clear hi); (try clear ho0)))
    go_ret2
    exact ⟨_, by first | rfl | (simp [errW_none, errW_some] <;> rfl) | (simp [*, errW_none, errW_some] <;> rfl), by (with_reducible repeat (first | apply Kd.R_alloc | apply Kd.R_drewN | apply Kd.R_drew)); exact HO109.out, by repeat (first | (with_reducible first | exact HB.out | apply below_alloc | apply pw_below_drewN | apply below_drew1) | exact HB.out)⟩
  · rw [if_neg c2] at H
    have c2b0 : ((l0.length : Int) == 32) = false := beq_eq_false_iff_ne.mpr c2
    have c2b1 : ((l0.length : Int) != 32) = true := bne_iff_ne.mpr c2
    simp only [Option.some.injEq, Prod.mk.injEq] at H
    obtain ⟨rfl, rfl⟩ := H
    go_enter Try.func28, Try.ntmps28
    go_wp2
    go_ret2
    exact ⟨_, by first | rfl | (simp [errW_none, errW_some] <;> rfl) | (simp [*, errW_none, errW_some] <;> rfl), by first | exact Kd.R_nil _ _ _ _ _ | exact Kd.N_nil _ _ _ _ _ | exact Kd.V_nil _ _ _ _ _ | exact Kd.Q_nil _ _ _ _ _ | exact Kd.S_nil _ _ _ _ _, by repeat (first | (with_reducible first | exact HB.out | apply below_alloc | apply pw_below_drewN | apply below_drew1) | exact HB.out)⟩
/-! ### pyxref07_Sign: function 30 -/
def pyxref07_Sign.f (l0 : List Int) (a1 : ByteArray) (l2 : List Int) : Option (List Int × Int) := (pyxref07_Public.f l0).bind fun bt110 => (if bt110.2 = 0 then ((pyxref07_tag.f bt110.1 a1 l2).bind fun t114 => (some (t114, 0))) else (some (([] : List Int), bt110.2)))
set_option maxHeartbeats 8000000 in
set_option maxRecDepth 100000 in
theorem pyxref07_Sign.calls (A0 : Option Addr) (c0 : Nat) (l0 : List Int) (a1 : ByteArray) (A2 : Option Addr) (c2 : Nat) (l2 : List Int) (r1 : List Int) (r2 : Int) (w : World) (hr0 : Kd.C (Kd.int .u8) w A0 l0.length l0) (hc0 : l0.length ≤ c0) (hr2 : Kd.C (Kd.int .u8) w A2 l2.length l2) (hc2 : l2.length ≤ c2) (h : pyxref07_Sign.f l0 a1 l2 = some (r1, r2)) :
    Calls Try.prog 30 #[.slice A0 l0.length c0, .string a1, .slice A2 l2.length c2] w fun e w' => ∃ v0_ : Value, e = .returned (.tuple #[v0_, .int .i64 r2]) ∧ Kd.R (Kd.int .u8) 5 w' w.heap.size (fun _ => True) v0_ r1 ∧ Below w.heap.size w w' := by
  have HR0 := Aside0.mk hr0
  have HC0 := Aside0.mk hc0
  clear hr0 hc0
  have HR2 := Aside0.mk hr2
  have HC2 := Aside0.mk hc2
  clear hr2 hc2
  have HB := Aside0.mk (Below.refl w.heap.size w)
  have H : ((pyxref07_Public.f l0).bind fun bt110 => (if bt110.2 = 0 then ((pyxref07_tag.f bt110.1 a1 l2).bind fun t114 => (some (t114, 0))) else (some (([] : List Int), bt110.2)))) = some (r1, r2) := h
  clear h
  replace H := Option.bind_eq_some_iff.mp H
  obtain ⟨⟨t110, t111⟩, A40, H⟩ := H
  replace H : (if t111 = 0 then ((pyxref07_tag.f t110 a1 l2).bind fun t114 => (some (t114, 0))) else (some (([] : List Int), t111))) = some (r1, r2) := H
  have A4 := Aside0.mk A40
  clear A40
  by_cases c5 : t111 = 0
  · rw [if_pos c5] at H
    have c5b0 : (t111 == 0) = true := beq_iff_eq.mpr c5
    have c5b1 : (t111 != 0) = false := bne_eq_false_iff_eq.mpr c5
    clear c5
    replace H := Option.bind_eq_some_iff.mp H
    obtain ⟨t114, A60, H⟩ := H
    replace H : (some (t114, 0)) = some (r1, r2) := H
    have A6 := Aside0.mk A60
    clear A60
    simp only [Option.some.injEq, Prod.mk.injEq] at H
    obtain ⟨rfl, rfl⟩ := H
    go_enter Try.func30, Try.ntmps30
    go_wp2_with (first | ((with_reducible refine gate_callee (f := 28) rfl ?_); refine goesL_ (some 12) rfl rfl Try.func28 (by kernel_rfl) rfl #[.slice A0 l0.length c0] rfl (by (try simp only [List.map_toArray, List.map_cons, List.map_nil]); first | done | rfl | (simp only [List.length_drop, List.length_take]; rfl)) ?_; (with_reducible refine (pyxref07_Public.calls _ _ l0 t110 t111 _ ?side1 ?side2 A4.out).mono ?_); (case side1 => repeat (first | exact HR0.out | (with_reducible refine Kd.C_alloc ?_ _) | (with_reducible refine Kd.C_drewN ?_ _) | (with_reducible refine Kd.C_drew ?_))); (case side2 => exact HC0.out); rintro e w7 ⟨v112, rfl, ho0, hb⟩; refine ⟨_, rfl, ?_⟩; have n0_ := Aside0.mk (Kd.R_lower ho0 (below_size (by repeat (first | (with_reducible first | exact HB.out | apply below_alloc | apply pw_below_drewN | apply below_drew1) | exact HB.out)))); have n1_ := Aside0.mk (below_step (by repeat (first | (with_reducible first | exact HB.out | apply below_alloc | apply pw_below_drewN | apply below_drew1) | exact HB.out)) hb); clear HB; have HO113 := n0_; have HB := n1_; clear n0_ n1_; (try clear hb); (try clear hb2); (try clear hk); (try clear hi); (try clear ho0); obtain ⟨Ao8, co8, eo8⟩ := Kd.R_slice HO113.out; subst eo8) | ((with_reducible refine gate_callee (f := 59) rfl ?_); refine goesL_ (some 21) rfl rfl Try.func59 (by kernel_rfl) rfl #[.slice Ao8 t110.length co8, .string a1, .slice A2 l2.length c2] rfl (by (try simp only [List.map_toArray, List.map_cons, List.map_nil]); first | done | rfl | (simp only [List.length_drop, List.length_take]; rfl)) ?_; (with_reducible refine (pyxref07_tag.calls _ _ t110 a1 _ _ l2 t114 _ ?side1 ?side2 ?side3 ?side4 A6.out).mono ?_); (case side1 => repeat (first | exact (Kd.R_reads' HO113.out).2.2 | (with_reducible refine Kd.C_alloc ?_ _) | (with_reducible refine Kd.C_drewN ?_ _) | (with_reducible refine Kd.C_drew ?_))); (case side2 => exact (Kd.R_reads' HO113.out).2.1); (case side3 => repeat (first | exact (Kd.C_below HR2.out HB.out) | (with_reducible refine Kd.C_alloc ?_ _) | (with_reducible refine Kd.C_drewN ?_ _) | (with_reducible refine Kd.C_drew ?_))); (case side4 => exact HC2.out); rintro e w9 ⟨v115, rfl, ho0, hb⟩; refine ⟨_, rfl, ?_⟩; have n0_ := Aside0.mk (Kd.R_elder' (by (with_reducible repeat (first | apply Kd.R_alloc | apply Kd.R_drewN | apply Kd.R_drew)); exact HO113.out) (Kd.R_base ho0) hb); have n1_ := Aside0.mk (Kd.R_lower (Kd.R_new' ho0 (Kd.R_lt (by (with_reducible repeat (first | apply Kd.R_alloc | apply Kd.R_drewN | apply Kd.R_drew)); exact HO113.out))) (below_size (by repeat (first | (with_reducible first | exact HB.out | apply below_alloc | apply pw_below_drewN | apply below_drew1) | exact HB.out)))); have n2_ := Aside0.mk (below_step (by repeat (first | (with_reducible first | exact HB.out | apply below_alloc | apply pw_below_drewN | apply below_drew1) | exact HB.out)) hb); clear HO113; clear HB; have HO113 := n0_; have HO116 := n1_; have HB := n2_; clear n0_ n1_ n2_; (try clear hb); (try clear hb2); (try clear hk); (try clear hi); (try clear ho0)))
    go_ret2
    exact ⟨_, by first | rfl | (simp [errW_none, errW_some] <;> rfl) | (simp [*, errW_none, errW_some] <;> rfl), by (with_reducible repeat (first | apply Kd.R_alloc | apply Kd.R_drewN | apply Kd.R_drew)); exact Kd.R_mono HO116.out (fun _ hk => trivial), by repeat (first | (with_reducible first | exact HB.out | apply below_alloc | apply pw_below_drewN | apply below_drew1) | exact HB.out)⟩
  · rw [if_neg c5] at H
    have c5b0 : (t111 == 0) = false := beq_eq_false_iff_ne.mpr c5
    have c5b1 : (t111 != 0) = true := bne_iff_ne.mpr c5
    simp only [Option.some.injEq, Prod.mk.injEq] at H
    obtain ⟨rfl, rfl⟩ := H
    go_enter Try.func30, Try.ntmps30
    go_wp2_with (first | ((with_reducible refine gate_callee (f := 28) rfl ?_); refine goesL_ (some 12) rfl rfl Try.func28 (by kernel_rfl) rfl #[.slice A0 l0.length c0] rfl (by (try simp only [List.map_toArray, List.map_cons, List.map_nil]); first | done | rfl | (simp only [List.length_drop, List.length_take]; rfl)) ?_; (with_reducible refine (pyxref07_Public.calls _ _ l0 t110 t111 _ ?side1 ?side2 A4.out).mono ?_); (case side1 => repeat (first | exact HR0.out | (with_reducible refine Kd.C_alloc ?_ _) | (with_reducible refine Kd.C_drewN ?_ _) | (with_reducible refine Kd.C_drew ?_))); (case side2 => exact HC0.out); rintro e w10 ⟨v112, rfl, ho0, hb⟩; refine ⟨_, rfl, ?_⟩; have n0_ := Aside0.mk (Kd.R_lower ho0 (below_size (by repeat (first | (with_reducible first | exact HB.out | apply below_alloc | apply pw_below_drewN | apply below_drew1) | exact HB.out)))); have n1_ := Aside0.mk (below_step (by repeat (first | (with_reducible first | exact HB.out | apply below_alloc | apply pw_below_drewN | apply below_drew1) | exact HB.out)) hb); clear HB; have HO113 := n0_; have HB := n1_; clear n0_ n1_; (try clear hb); (try clear hb2); (try clear hk); (try clear hi); (try clear ho0)))
    go_ret2
    exact ⟨_, by first | rfl | (simp [errW_none, errW_some] <;> rfl) | (simp [*, errW_none, errW_some] <;> rfl), by first | exact Kd.R_nil _ _ _ _ _ | exact Kd.N_nil _ _ _ _ _ | exact Kd.V_nil _ _ _ _ _ | exact Kd.Q_nil _ _ _ _ _ | exact Kd.S_nil _ _ _ _ _, by repeat (first | (with_reducible first | exact HB.out | apply below_alloc | apply pw_below_drewN | apply below_drew1) | exact HB.out)⟩
/-! ### pyxref07_Verify: function 32 -/
def pyxref07_Verify.f (l0 : List Int) (a1 : ByteArray) (l2 : List Int) (l3 : List Int) : Option (Int) := if (l0.length : Int) = 32 then ((pyxref07_tag.f l0 a1 l2).bind fun t117 => ((pyxref01_Same.f t117 l3).bind fun t120 => (if t120 = true then (some 0) else (some 5)))) else (some 1)
set_option maxHeartbeats 8000000 in
set_option maxRecDepth 100000 in
theorem pyxref07_Verify.calls (A0 : Option Addr) (c0 : Nat) (l0 : List Int) (a1 : ByteArray) (A2 : Option Addr) (c2 : Nat) (l2 : List Int) (A3 : Option Addr) (c3 : Nat) (l3 : List Int) (r : Int) (w : World) (hr0 : Kd.C (Kd.int .u8) w A0 l0.length l0) (hc0 : l0.length ≤ c0) (hr2 : Kd.C (Kd.int .u8) w A2 l2.length l2) (hc2 : l2.length ≤ c2) (hr3 : Kd.C (Kd.int .u8) w A3 l3.length l3) (hc3 : l3.length ≤ c3) (h : pyxref07_Verify.f l0 a1 l2 l3 = some r) :
    Calls Try.prog 32 #[.slice A0 l0.length c0, .string a1, .slice A2 l2.length c2, .slice A3 l3.length c3] w fun e w' => e = .returned (.int .i64 r) ∧ Below w.heap.size w w' := by
  have HR0 := Aside0.mk hr0
  have HC0 := Aside0.mk hc0
  clear hr0 hc0
  have HR2 := Aside0.mk hr2
  have HC2 := Aside0.mk hc2
  clear hr2 hc2
  have HR3 := Aside0.mk hr3
  have HC3 := Aside0.mk hc3
  clear hr3 hc3
  have HB := Aside0.mk (Below.refl w.heap.size w)
  have H : (if (l0.length : Int) = 32 then ((pyxref07_tag.f l0 a1 l2).bind fun t117 => ((pyxref01_Same.f t117 l3).bind fun t120 => (if t120 = true then (some 0) else (some 5)))) else (some 1)) = some r := h
  clear h
  by_cases c5 : (l0.length : Int) = 32
  · rw [if_pos c5] at H
    have c5b0 : ((l0.length : Int) == 32) = true := beq_iff_eq.mpr c5
    have c5b1 : ((l0.length : Int) != 32) = false := bne_eq_false_iff_eq.mpr c5
    clear c5
    replace H := Option.bind_eq_some_iff.mp H
    obtain ⟨t117, A60, H⟩ := H
    replace H : ((pyxref01_Same.f t117 l3).bind fun t120 => (if t120 = true then (some 0) else (some 5))) = some r := H
    have A6 := Aside0.mk A60
    clear A60
    replace H := Option.bind_eq_some_iff.mp H
    obtain ⟨t120, A70, H⟩ := H
    replace H : (if t120 = true then (some 0) else (some 5)) = some r := H
    have A7 := Aside0.mk A70
    clear A70
    by_cases c8 : t120 = true
    · subst c8
      have H1 : (some 0) = some r := by rw [if_pos rfl] at H; exact H
      clear H
      have H := H1
      clear H1
      obtain rfl := Option.some.inj H
      go_enter Try.func32, Try.ntmps32
      go_wp2_with (first | ((with_reducible refine gate_callee (f := 59) rfl ?_); refine goesL_ (some 15) rfl rfl Try.func59 (by kernel_rfl) rfl #[.slice A0 l0.length c0, .string a1, .slice A2 l2.length c2] rfl (by (try simp only [List.map_toArray, List.map_cons, List.map_nil]); first | done | rfl | (simp only [List.length_drop, List.length_take]; rfl)) ?_; (with_reducible refine (pyxref07_tag.calls _ _ l0 a1 _ _ l2 t117 _ ?side1 ?side2 ?side3 ?side4 A6.out).mono ?_); (case side1 => repeat (first | exact HR0.out | (with_reducible refine Kd.C_alloc ?_ _) | (with_reducible refine Kd.C_drewN ?_ _) | (with_reducible refine Kd.C_drew ?_))); (case side2 => exact HC0.out); (case side3 => repeat (first | exact HR2.out | (with_reducible refine Kd.C_alloc ?_ _) | (with_reducible refine Kd.C_drewN ?_ _) | (with_reducible refine Kd.C_drew ?_))); (case side4 => exact HC2.out); rintro e w9 ⟨v118, rfl, ho0, hb⟩; refine ⟨_, rfl, ?_⟩; have n0_ := Aside0.mk (Kd.R_lower ho0 (below_size (by repeat (first | (with_reducible first | exact HB.out | apply below_alloc | apply pw_below_drewN | apply below_drew1) | exact HB.out)))); have n1_ := Aside0.mk (below_step (by repeat (first | (with_reducible first | exact HB.out | apply below_alloc | apply pw_below_drewN | apply below_drew1) | exact HB.out)) hb); clear HB; have HO119 := n0_; have HB := n1_; clear n0_ n1_; (try clear hb); (try clear hb2); (try clear hk); (try clear hi); (try clear ho0); obtain ⟨Ao10, co10, eo10⟩ := Kd.R_slice HO119.out; subst eo10) | ((with_reducible refine gate_callee (f := 18) rfl ?_); refine goesL_ (some 17) rfl rfl Try.func18 (by kernel_rfl) rfl #[.slice Ao10 t117.length co10, .slice A3 l3.length c3] rfl (by (try simp only [List.map_toArray, List.map_cons, List.map_nil]); first | done | rfl | (simp only [List.length_drop, List.length_take]; rfl)) ?_; (with_reducible refine (pyxref01_Same.calls _ _ t117 _ _ l3 true _ ?side1 ?side2 ?side3 ?side4 A7.out).mono ?_); (case side1 => repeat (first | exact (Kd.R_reads' HO119.out).2.2 | (with_reducible refine Kd.C_alloc ?_ _) | (with_reducible refine Kd.C_drewN ?_ _) | (with_reducible refine Kd.C_drew ?_))); (case side2 => exact (Kd.R_reads' HO119.out).2.1); (case side3 => repeat (first | exact (Kd.C_below HR3.out HB.out) | (with_reducible refine Kd.C_alloc ?_ _) | (with_reducible refine Kd.C_drewN ?_ _) | (with_reducible refine Kd.C_drew ?_))); (case side4 => exact HC3.out); rintro e w' ⟨rfl, ⟨nd, rfl⟩⟩; refine ⟨_, rfl, ?_⟩))
      go_ret
      exact ⟨by first | rfl | (simp [errW_none, errW_some] <;> rfl) | (simp [*, errW_none, errW_some] <;> rfl), by repeat (first | (with_reducible first | exact HB.out | apply below_alloc | apply pw_below_drewN | apply below_drew1) | exact HB.out)⟩
    · replace c8 := Bool.eq_false_iff.mpr c8
      subst c8
      have H1 : (some 5) = some r := by rw [if_neg (show ¬ (false = true) by decide)] at H; exact H
      clear H
      have H := H1
      clear H1
      obtain rfl := Option.some.inj H
      go_enter Try.func32, Try.ntmps32
      go_wp2_with (first | ((with_reducible refine gate_callee (f := 59) rfl ?_); refine goesL_ (some 15) rfl rfl Try.func59 (by kernel_rfl) rfl #[.slice A0 l0.length c0, .string a1, .slice A2 l2.length c2] rfl (by (try simp only [List.map_toArray, List.map_cons, List.map_nil]); first | done | rfl | (simp only [List.length_drop, List.length_take]; rfl)) ?_; (with_reducible refine (pyxref07_tag.calls _ _ l0 a1 _ _ l2 t117 _ ?side1 ?side2 ?side3 ?side4 A6.out).mono ?_); (case side1 => repeat (first | exact HR0.out | (with_reducible refine Kd.C_alloc ?_ _) | (with_reducible refine Kd.C_drewN ?_ _) | (with_reducible refine Kd.C_drew ?_))); (case side2 => exact HC0.out); (case side3 => repeat (first | exact HR2.out | (with_reducible refine Kd.C_alloc ?_ _) | (with_reducible refine Kd.C_drewN ?_ _) | (with_reducible refine Kd.C_drew ?_))); (case side4 => exact HC2.out); rintro e w11 ⟨v118, rfl, ho0, hb⟩; refine ⟨_, rfl, ?_⟩; have n0_ := Aside0.mk (Kd.R_lower ho0 (below_size (by repeat (first | (with_reducible first | exact HB.out | apply below_alloc | apply pw_below_drewN | apply below_drew1) | exact HB.out)))); have n1_ := Aside0.mk (below_step (by repeat (first | (with_reducible first | exact HB.out | apply below_alloc | apply pw_below_drewN | apply below_drew1) | exact HB.out)) hb); clear HB; have HO119 := n0_; have HB := n1_; clear n0_ n1_; (try clear hb); (try clear hb2); (try clear hk); (try clear hi); (try clear ho0); obtain ⟨Ao12, co12, eo12⟩ := Kd.R_slice HO119.out; subst eo12) | ((with_reducible refine gate_callee (f := 18) rfl ?_); refine goesL_ (some 17) rfl rfl Try.func18 (by kernel_rfl) rfl #[.slice Ao12 t117.length co12, .slice A3 l3.length c3] rfl (by (try simp only [List.map_toArray, List.map_cons, List.map_nil]); first | done | rfl | (simp only [List.length_drop, List.length_take]; rfl)) ?_; (with_reducible refine (pyxref01_Same.calls _ _ t117 _ _ l3 false _ ?side1 ?side2 ?side3 ?side4 A7.out).mono ?_); (case side1 => repeat (first | exact (Kd.R_reads' HO119.out).2.2 | (with_reducible refine Kd.C_alloc ?_ _) | (with_reducible refine Kd.C_drewN ?_ _) | (with_reducible refine Kd.C_drew ?_))); (case side2 => exact (Kd.R_reads' HO119.out).2.1); (case side3 => repeat (first | exact (Kd.C_below HR3.out HB.out) | (with_reducible refine Kd.C_alloc ?_ _) | (with_reducible refine Kd.C_drewN ?_ _) | (with_reducible refine Kd.C_drew ?_))); (case side4 => exact HC3.out); rintro e w' ⟨rfl, ⟨nd, rfl⟩⟩; refine ⟨_, rfl, ?_⟩))
      go_ret
      exact ⟨by first | rfl | (simp [errW_none, errW_some] <;> rfl) | (simp [*, errW_none, errW_some] <;> rfl), by repeat (first | (with_reducible first | exact HB.out | apply below_alloc | apply pw_below_drewN | apply below_drew1) | exact HB.out)⟩
  · rw [if_neg c5] at H
    have c5b0 : ((l0.length : Int) == 32) = false := beq_eq_false_iff_ne.mpr c5
    have c5b1 : ((l0.length : Int) != 32) = true := bne_iff_ne.mpr c5
    obtain rfl := Option.some.inj H
    go_enter Try.func32, Try.ntmps32
    go_wp2
    go_ret
    exact ⟨by first | rfl | (simp [errW_none, errW_some] <;> rfl) | (simp [*, errW_none, errW_some] <;> rfl), by repeat (first | (with_reducible first | exact HB.out | apply below_alloc | apply pw_below_drewN | apply below_drew1) | exact HB.out)⟩
-- NOT PRINTED: function 15 (pyxref06_Halves)
-- NOT PRINTED: function 90 (pyxref05_left)
-- NOT PRINTED: function 75 (pyxref05_turned)
-- NOT PRINTED: function 76 (pyxref05_Mul)
-- NOT PRINTED: function 52 (pyxref05_boxes)
-- NOT PRINTED: function 53 (pyxref05_keys)
-- NOT PRINTED: function 55 (pyxref05_lock)
-- NOT PRINTED: function 25 (pyxref05_Stream)
-- NOT PRINTED: function 69 (pyxref03_All)
-- NOT PRINTED: function 45 (pyxref06_tag)
/-! ### pyxref07_Half: function 38 -/
def pyxref07_Half.f (l0 : List Int) : Option (List Int) := (pyxref07_Public.f l0).bind fun bt160 => (some bt160.1)
set_option maxHeartbeats 8000000 in
set_option maxRecDepth 100000 in
theorem pyxref07_Half.calls (A0 : Option Addr) (c0 : Nat) (l0 : List Int) (r : List Int) (w : World) (hr0 : Kd.C (Kd.int .u8) w A0 l0.length l0) (hc0 : l0.length ≤ c0) (h : pyxref07_Half.f l0 = some r) :
    Calls Try.prog 38 #[.slice A0 l0.length c0] w fun e w' => ∃ v0_ : Value, e = .returned (v0_) ∧ Kd.R (Kd.int .u8) 5 w' w.heap.size (fun _ => True) v0_ r ∧ Below w.heap.size w w' := by
  have HR0 := Aside0.mk hr0
  have HC0 := Aside0.mk hc0
  clear hr0 hc0
  have HB := Aside0.mk (Below.refl w.heap.size w)
  have H : ((pyxref07_Public.f l0).bind fun bt160 => (some bt160.1)) = some r := h
  clear h
  replace H := Option.bind_eq_some_iff.mp H
  obtain ⟨⟨t160, t161⟩, A20, H⟩ := H
  replace H : (some t160) = some r := H
  have A2 := Aside0.mk A20
  clear A20
  obtain rfl := Option.some.inj H
  go_enter Try.func38, Try.ntmps38
  go_wp2_with (first | ((with_reducible refine gate_callee (f := 28) rfl ?_); refine goesL_ (some 7) rfl rfl Try.func28 (by kernel_rfl) rfl #[.slice A0 l0.length c0] rfl (by (try simp only [List.map_toArray, List.map_cons, List.map_nil]); first | done | rfl | (simp only [List.length_drop, List.length_take]; rfl)) ?_; (with_reducible refine (pyxref07_Public.calls _ _ l0 t160 t161 _ ?side1 ?side2 A2.out).mono ?_); (case side1 => repeat (first | exact HR0.out | (with_reducible refine Kd.C_alloc ?_ _) | (with_reducible refine Kd.C_drewN ?_ _) | (with_reducible refine Kd.C_drew ?_))); (case side2 => exact HC0.out); rintro e w3 ⟨v162, rfl, ho0, hb⟩; refine ⟨_, rfl, ?_⟩; have n0_ := Aside0.mk (Kd.R_lower ho0 (below_size (by repeat (first | (with_reducible first | exact HB.out | apply below_alloc | apply pw_below_drewN | apply below_drew1) | exact HB.out)))); have n1_ := Aside0.mk (below_step (by repeat (first | (with_reducible first | exact HB.out | apply below_alloc | apply pw_below_drewN | apply below_drew1) | exact HB.out)) hb); clear HB; have HO163 := n0_; have HB := n1_; clear n0_ n1_; (try clear hb); (try clear hb2); (try clear hk); (try clear hi); (try clear ho0)))
  go_ret
  exact ⟨_, by first | rfl | (simp [errW_none, errW_some] <;> rfl) | (simp [*, errW_none, errW_some] <;> rfl), by (with_reducible repeat (first | apply Kd.R_alloc | apply Kd.R_drewN | apply Kd.R_drew)); exact HO163.out, by repeat (first | (with_reducible first | exact HB.out | apply below_alloc | apply pw_below_drewN | apply below_drew1) | exact HB.out)⟩
end Go.Proofs.Ytifpdpfjhjoieaa.J

/-! SigD -/
namespace Go.Proofs.Ytifpdpfjhjoieaa
set_option linter.unusedVariables false
set_option linter.unusedSimpArgs false
open Go.RowKit Go.Shelf Iter Go.Proofs.YtifpdpfjhjoieaaW.PrintWords Go.Proofs.YtifpdpfjhjoieaaW.PrintLast
attribute [local go_sem] Oper.semAt_some
/-- One row, laid as a row of rows. -/
theorem c_one (W : World) (T : Nat) (A : Option Addr) (c : Nat) (x : List Int) (hx : Kd.C (Kd.int .u8) W A x.length x) (hcx : x.length ≤ c) :
    Kd.C (Kd.slice 5 (Kd.int .u8)) (W.alloc (.cells #[.slice A x.length c] T)) (some ⟨W.heap.size, 0, none⟩) 1 [x] := by
  refine ⟨rfl, by omega, fun _ => ⟨_, rfl, fun j p hj => ?_⟩⟩
  have hcell : ∀ j, (W.alloc (.cells #[.slice A x.length c] T)).cell? ((⟨W.heap.size, 0, none⟩ : Addr).add j) = (#[Value.slice A x.length c] : Array Value)[j]? := fun j => by
    rw [add_plain]
    exact cell_of_row _ _ _ _ _ _ (heap_alloc_new W _)
  rcases j with _ | j
  · injection hj with hj
    subst hj
    refine ⟨[.slice A x.length c], rfl, ⟨A, c, rfl, hcx, Kd.C_alloc hx _⟩, fun i u hu => ?_⟩
    rcases i with _ | i
    · exact (hcell 0).trans hu
    · cases hu
  · cases hj
theorem right_one (x : List Int) : J.sig_right.f 3 [x] = some (decide (x.length = 32)) := by
  have h1 : wrap64 1 = 1 := by first | rfl | (simp [wrap64]; done) | (unfold wrap64; decide) | go_num
  have h0 : J.rd_L1 [x] 0 = x := rfl
  unfold J.sig_right.f
  by_cases h : x.length = 32
  · have h' : ((x.length : Nat) : Int) = 32 := by omega
    simp [J.sig_right.l0, h0, h1, h]
  · have h' : ¬ ((x.length : Nat) : Int) = 32 := by omega
    simp [J.sig_right.l0, h0, h1, h, h']
def labPublic : ByteArray := ⟨#[112, 117, 98, 108, 105, 99]⟩
set_option maxRecDepth 100000 in
set_option maxHeartbeats 1000000 in
theorem sigPublic_calls (A0 : Option Addr) (c0 : Nat) (l0 : List Int) (w : World) (hr0 : Kd.C (Kd.int .u8) w A0 l0.length l0) (hc0 : l0.length ≤ c0) (h32 : l0.length = 32) (ho : byteOk l0 = true) :
    Calls Try.prog 27 #[.slice A0 l0.length c0] w fun e w' => ∃ v, e = .returned (.tuple #[v, .int .i64 0]) ∧ Kd.R (Kd.int .u8) 5 w' w.heap.size (fun _ => True) v (labelOf l0 labPublic [] 32) ∧ Below w.heap.size w w' := by
  have H32 := Lib.hid h32
  have HK := Lib.hid (And.intro hr0 ho)
  have hc1 := c_one w 22 A0 c0 l0 hr0 hc0
  have H1 := Lib.hid hc1
  clear hr0 ho hc1 h32
  go_enter Try.func27, Try.ntmps27
  go_wp2_with fail
  refine (J.sig_right.calls 3 (some ⟨w.heap.size, 0, none⟩) 1 [l0] true _ H1.out (Nat.le_refl _) (by rw [right_one, H32.out]; rfl)).mono ?_
  rintro e W1 ⟨rfl, hb1⟩
  go_wp2_with fail
  have hb0 := (Below.refl w.heap.size w).alloc (Nat.le_refl _) (Obj.cells #[.slice A0 l0.length c0] 22)
  have hbw : Below w.heap.size w W1 := hb0.trans ((Drawn0.below hb1).mono hb0.size)
  have HW := Lib.hid (And.intro (Kd.C_below HK.out.1 hbw) hbw)
  clear hb0 hbw hb1 H1
  have hnil : Kd.C (Kd.int .u8) W1 none ([] : List Int).length [] := ⟨rfl, by decide, fun h => absurd h (by decide)⟩
  refine (sigLabel_calls labPublic 32 32 rfl (by decide) (by decide) A0 c0 l0 none 0 [] W1 HK.out.2 (by rw [H32.out]; decide) rfl (by decide) HW.out.1 hc0 hnil (Nat.le_refl _)).mono ?_
  rintro e W2 ⟨v2, rfl, hR2, hb2⟩
  have H2 := Lib.hid (And.intro (Kd.R_lower hR2 HW.out.2.size) (HW.out.2.trans (hb2.mono HW.out.2.size)))
  clear hR2 hb2
  go_wp2
  go_ret2
  exact ⟨v2, rfl, H2.out⟩
set_option maxRecDepth 100000 in
set_option maxHeartbeats 1000000 in
theorem sigPublic_bad (A0 : Option Addr) (c0 : Nat) (l0 : List Int) (w : World) (hr0 : Kd.C (Kd.int .u8) w A0 l0.length l0) (hc0 : l0.length ≤ c0) (h32 : l0.length ≠ 32) :
    Calls Try.prog 27 #[.slice A0 l0.length c0] w fun e w' => ∃ v, e = .returned (.tuple #[v, .int .i64 1]) ∧ Kd.R (Kd.int .u8) 5 w' w.heap.size (fun _ => True) v [] ∧ Below w.heap.size w w' := by
  have H32 := Lib.hid h32
  have hc1 := c_one w 22 A0 c0 l0 hr0 hc0
  have H1 := Lib.hid hc1
  clear hr0 hc1 h32
  go_enter Try.func27, Try.ntmps27
  go_wp2_with fail
  refine (J.sig_right.calls 3 (some ⟨w.heap.size, 0, none⟩) 1 [l0] false _ H1.out (Nat.le_refl _) (by rw [right_one]; simp [H32.out])).mono ?_
  rintro e W1 ⟨rfl, hb1⟩
  have hb0 := (Below.refl w.heap.size w).alloc (Nat.le_refl _) (Obj.cells #[.slice A0 l0.length c0] 22)
  have HW := Lib.hid (hb0.trans ((Drawn0.below hb1).mono hb0.size))
  clear hb0 hb1 H1
  go_wp2
  go_ret2
  exact ⟨_, rfl, Kd.R_nil _ _ _ _ _, HW.out⟩
namespace P
def sig_Public.f (l0 : List Int) : Option (List Int × Int) := if l0.length = 32 then (if byteOk l0 = true then some (labelOf l0 labPublic [] 32, 0) else none) else some ([], 1)
theorem sig_Public.calls (A0 : Option Addr) (c0 : Nat) (l0 : List Int) (r1 : List Int) (r2 : Int) (w : World) (hr0 : Kd.C (Kd.int .u8) w A0 l0.length l0) (hc0 : l0.length ≤ c0) (h : sig_Public.f l0 = some (r1, r2)) :
    Calls Try.prog 27 #[.slice A0 l0.length c0] w fun e w' => ∃ v0_ : Value, e = .returned (.tuple #[v0_, .int .i64 r2]) ∧ Kd.R (Kd.int .u8) 5 w' w.heap.size (fun _ => True) v0_ r1 ∧ Below w.heap.size w w' := by
  unfold sig_Public.f at h
  split at h
  case isTrue h32 =>
    split at h
    case isFalse => cases h
    case isTrue ho =>
    injection h with h
    injection h with h1 h2
    subst h1 h2
    exact sigPublic_calls A0 c0 l0 w hr0 hc0 h32 ho
  case isFalse h32 =>
    injection h with h
    injection h with h1 h2
    subst h1 h2
    exact sigPublic_bad A0 c0 l0 w hr0 hc0 h32
end P
end Go.Proofs.Ytifpdpfjhjoieaa

/-! SigE -/
namespace Go.Proofs.Ytifpdpfjhjoieaa
set_option linter.unusedVariables false
set_option linter.unusedSimpArgs false
open Go.RowKit Go.Shelf Iter Go.Proofs.YtifpdpfjhjoieaaW.PrintWords Go.Proofs.YtifpdpfjhjoieaaW.PrintLast
attribute [local go_sem] Oper.semAt_some
set_option maxRecDepth 100000 in
set_option maxHeartbeats 1000000 in
theorem sigVerify_calls (A0 : Option Addr) (c0 : Nat) (l0 : List Int) (a1 : ByteArray) (A2 : Option Addr) (c2 : Nat) (l2 : List Int) (A3 : Option Addr) (c3 : Nat) (l3 : List Int) (w : World) (hr0 : Kd.C (Kd.int .u8) w A0 l0.length l0) (hc0 : l0.length ≤ c0) (hr2 : Kd.C (Kd.int .u8) w A2 l2.length l2) (hc2 : l2.length ≤ c2) (hr3 : Kd.C (Kd.int .u8) w A3 l3.length l3) (hc3 : l3.length ≤ c3) (h32 : l0.length = 32) (hs : smallT l0 a1 l2) (o3 : byteOk l3 = true) :
    Calls Try.prog 31 #[.slice A0 l0.length c0, .string a1, .slice A2 l2.length c2, .slice A3 l3.length c3] w fun e w' => e = .returned (.int .i64 (if (sigTag l0 a1 l2 == l3) = true then 0 else 5)) ∧ Below w.heap.size w w' := by
  have H32 := Lib.hid h32
  have hc1 := c_one w 22 A0 c0 l0 hr0 hc0
  have H1 := Lib.hid hc1
  have HT := Lib.hid (show P.sig_tag.f l0 a1 l2 = some (sigTag l0 a1 l2, 0) by unfold P.sig_tag.f; rw [if_pos hs])
  have HM := Lib.hid (show P.mac_Same.f (sigTag l0 a1 l2) l3 = some (sigTag l0 a1 l2 == l3) by unfold P.mac_Same.f; rw [if_pos ⟨byteOk_sigTag _ _ _, o3, by rw [sigTag_length]; decide⟩])
  have HK := Lib.hid (And.intro hr0 (And.intro hr2 hr3))
  clear hr0 hr2 hr3 hc1 h32 hs o3
  generalize sigTag l0 a1 l2 = G at *
  generalize (G == l3) = B at *
  go_enter Try.func31, Try.ntmps31
  go_wp2_with fail
  refine (J.sig_right.calls 3 (some ⟨w.heap.size, 0, none⟩) 1 [l0] true _ H1.out (Nat.le_refl _) (by rw [right_one, H32.out]; rfl)).mono ?_
  rintro e W1 ⟨rfl, hb1⟩
  have hb0 := (Below.refl w.heap.size w).alloc (Nat.le_refl _) (Obj.cells #[.slice A0 l0.length c0] 22)
  have HW := Lib.hid (hb0.trans ((Drawn0.below hb1).mono hb0.size))
  clear hb0 hb1 H1
  go_wp2_with fail
  refine (P.sig_tag.calls A0 c0 l0 a1 A2 c2 l2 G 0 W1 (Kd.C_below HK.out.1 HW.out) hc0 (Kd.C_below HK.out.2.1 HW.out) hc2 HT.out).mono ?_
  rintro e W2 ⟨v2, rfl, hR2, hb2⟩
  obtain ⟨A4, c4, rfl, hl4, hC4⟩ := Kd.R_reads hR2
  have hbw := HW.out.trans (hb2.mono HW.out.size)
  have H2 := Lib.hid (And.intro hC4 (And.intro (Kd.C_below HK.out.2.2 hbw) hbw))
  clear hR2 hb2 hC4 hbw HW
  go_wp2_with fail
  refine (P.mac_Same.calls A4 c4 G A3 c3 l3 B W2 H2.out.1 hl4 H2.out.2.1 hc3 HM.out).mono ?_
  rintro e W3 ⟨rfl, hb3⟩
  have H3 := Lib.hid (H2.out.2.2.trans ((Drawn0.below hb3).mono H2.out.2.2.size))
  clear hb3 H2
  cases B
  · go_wp2
    go_ret
    exact ⟨rfl, H3.out⟩
  · go_wp2
    go_ret
    exact ⟨rfl, H3.out⟩
set_option maxRecDepth 100000 in
set_option maxHeartbeats 1000000 in
theorem sigVerify_bad (A0 : Option Addr) (c0 : Nat) (l0 : List Int) (a1 : ByteArray) (v2 v3 : Value) (w : World) (hr0 : Kd.C (Kd.int .u8) w A0 l0.length l0) (hc0 : l0.length ≤ c0) (h32 : l0.length ≠ 32) :
    Calls Try.prog 31 #[.slice A0 l0.length c0, .string a1, v2, v3] w fun e w' => e = .returned (.int .i64 1) ∧ Below w.heap.size w w' := by
  have H32 := Lib.hid h32
  have hc1 := c_one w 22 A0 c0 l0 hr0 hc0
  have H1 := Lib.hid hc1
  clear hr0 hc1 h32
  go_enter Try.func31, Try.ntmps31
  go_wp2_with fail
  refine (J.sig_right.calls 3 (some ⟨w.heap.size, 0, none⟩) 1 [l0] false _ H1.out (Nat.le_refl _) (by rw [right_one]; simp [H32.out])).mono ?_
  rintro e W1 ⟨rfl, hb1⟩
  have hb0 := (Below.refl w.heap.size w).alloc (Nat.le_refl _) (Obj.cells #[.slice A0 l0.length c0] 22)
  have HW := Lib.hid (hb0.trans ((Drawn0.below hb1).mono hb0.size))
  clear hb0 hb1 H1
  go_wp2
  go_ret
  exact ⟨rfl, HW.out⟩
namespace P
def sig_Verify.f (pub : List Int) (lab : ByteArray) (b s : List Int) : Option Int := if pub.length = 32 then (if smallT pub lab b ∧ byteOk s = true then some (if (sigTag pub lab b == s) = true then 0 else 5) else none) else some 1
theorem sig_Verify.calls (A0 : Option Addr) (c0 : Nat) (l0 : List Int) (a1 : ByteArray) (A2 : Option Addr) (c2 : Nat) (l2 : List Int) (A3 : Option Addr) (c3 : Nat) (l3 : List Int) (r : Int) (w : World) (hr0 : Kd.C (Kd.int .u8) w A0 l0.length l0) (hc0 : l0.length ≤ c0) (hr2 : Kd.C (Kd.int .u8) w A2 l2.length l2) (hc2 : l2.length ≤ c2) (hr3 : Kd.C (Kd.int .u8) w A3 l3.length l3) (hc3 : l3.length ≤ c3) (h : sig_Verify.f l0 a1 l2 l3 = some r) :
    Calls Try.prog 31 #[.slice A0 l0.length c0, .string a1, .slice A2 l2.length c2, .slice A3 l3.length c3] w fun e w' => e = .returned (.int .i64 r) ∧ Below w.heap.size w w' := by
  unfold sig_Verify.f at h
  split at h
  case isTrue h32 =>
    split at h
    case isFalse => cases h
    case isTrue ho =>
    injection h with h
    subst h
    exact sigVerify_calls A0 c0 l0 a1 A2 c2 l2 A3 c3 l3 w hr0 hc0 hr2 hc2 hr3 hc3 h32 ho.1 ho.2
  case isFalse h32 =>
    injection h with h
    subst h
    exact sigVerify_bad A0 c0 l0 a1 _ _ w hr0 hc0 h32
end P
end Go.Proofs.Ytifpdpfjhjoieaa
