/-
  The lower layers, walked and in closed forms, part 5: H1, SealB, H2, H3, Vof, SealC, SealD, SealE, SealF, SealP, RowsIn, StructIn, BytInj.
-/
import Derived.Test.YtifpdpfjhjoieaaZ0
import Derived.Test.YtifpdpfjhjoieaaZ1
import Derived.Test.YtifpdpfjhjoieaaZ4
import Derived.Test.YtifpdpfjhjoieaaVWords
import Derived.Test.YtifpdpfjhjoieaaVLast
import Derived.Test.YtifpdpfjhjoieaaVMore
import Derived.Test.YtifpdpfjhjoieaaVRepsOne
import Derived.Test.YtifpdpfjhjoieaaVTab
import Derived.Test.YtifpdpfjhjoieaaVSized
import Derived.Deep.Matrix
import Derived.SizedLaws
/-! H1 -/
namespace Go.Proofs.Ytifpdpfjhjoieaa.H
open Go.Proofs.Ytifpdpfjhjoieaa.P
open Go.RowKit Go.Proofs.YtifpdpfjhjoieaaW.PrintWords Go.Proofs.YtifpdpfjhjoieaaW.PrintLast Go.Proofs.YtifpdpfjhjoieaaW.PrintMore
attribute [local go_sem] max2_int min2_int max_two min_two max_three min_three max_four min_four   -- for this text's walks alone
set_option linter.unusedVariables false
set_option linter.unusedSimpArgs false
-- NOT PRINTED: function 95 (byt_wide)
-- NOT PRINTED: function 79 (byt_Len)
/-! ### seal_ready: function 42 -/
def seal_ready.f (l0 : List Int) (l1 : List Int) (l2 : List Int) : Option (List Int × List Int × List Int × Int) := (seal_Halves.f l0).bind fun bt101 => (if bt101.2.2 = 0 then (if (l1.length : Int) = 12 then ((byt_Row.f l2).bind fun bt108 => (some (bt101.1, bt101.2.1, bt108.1, bt108.2))) else (some (([] : List Int), ([] : List Int), ([] : List Int), 1))) else (some (([] : List Int), ([] : List Int), ([] : List Int), 1)))
set_option maxHeartbeats 8000000 in
set_option maxRecDepth 100000 in
theorem seal_ready.calls (A0 : Option Addr) (c0 : Nat) (l0 : List Int) (A1 : Option Addr) (c1 : Nat) (l1 : List Int) (A2 : Option Addr) (c2 : Nat) (l2 : List Int) (r1 : List Int) (r2 : List Int) (r3 : List Int) (r4 : Int) (w : World) (hr0 : Kd.C (Kd.int .u8) w A0 l0.length l0) (hc0 : l0.length ≤ c0) (hr1 : Kd.C (Kd.int .u8) w A1 l1.length l1) (hc1 : l1.length ≤ c1) (hr2 : Kd.C (Kd.int .u8) w A2 l2.length l2) (hc2 : l2.length ≤ c2) (h : seal_ready.f l0 l1 l2 = some (r1, r2, r3, r4)) :
    Calls Try.prog 42 #[.slice A0 l0.length c0, .slice A1 l1.length c1, .slice A2 l2.length c2] w fun e w' => ∃ v0_ v1_ v2_ : Value, e = .returned (.tuple #[v0_, v1_, v2_, .int .i64 r4]) ∧ Kd.R (Kd.int .u8) 5 w' w.heap.size (fun k_ => some k_ ≠ (v1_ : Value).ownBlock ∧ some k_ ≠ (v2_ : Value).ownBlock) v0_ r1 ∧ Kd.R (Kd.int .u8) 5 w' w.heap.size (fun k_ => some k_ ≠ (v0_ : Value).ownBlock ∧ some k_ ≠ (v2_ : Value).ownBlock) v1_ r2 ∧ Kd.R (Kd.int .u8) 5 w' w.heap.size (fun k_ => some k_ ≠ (v0_ : Value).ownBlock ∧ some k_ ≠ (v1_ : Value).ownBlock) v2_ r3 ∧ Below w.heap.size w w' := by
  have HR0 := Aside0.mk hr0
  have HC0 := Aside0.mk hc0
  clear hr0 hc0
  have HR1 := Aside0.mk hr1
  have HC1 := Aside0.mk hc1
  clear hr1 hc1
  have HR2 := Aside0.mk hr2
  have HC2 := Aside0.mk hc2
  clear hr2 hc2
  have HB := Aside0.mk (Below.refl w.heap.size w)
  have H : ((seal_Halves.f l0).bind fun bt101 => (if bt101.2.2 = 0 then (if (l1.length : Int) = 12 then ((byt_Row.f l2).bind fun bt108 => (some (bt101.1, bt101.2.1, bt108.1, bt108.2))) else (some (([] : List Int), ([] : List Int), ([] : List Int), 1))) else (some (([] : List Int), ([] : List Int), ([] : List Int), 1)))) = some (r1, r2, r3, r4) := h
  clear h
  replace H := Option.bind_eq_some_iff.mp H
  obtain ⟨⟨t101, t102, t103⟩, A40, H⟩ := H
  replace H : (if t103 = 0 then (if (l1.length : Int) = 12 then ((byt_Row.f l2).bind fun bt108 => (some (t101, t102, bt108.1, bt108.2))) else (some (([] : List Int), ([] : List Int), ([] : List Int), 1))) else (some (([] : List Int), ([] : List Int), ([] : List Int), 1))) = some (r1, r2, r3, r4) := H
  have A4 := Aside0.mk A40
  clear A40
  by_cases c5 : t103 = 0
  · rw [if_pos c5] at H
    have c5b0 : (t103 == 0) = true := beq_iff_eq.mpr c5
    have c5b1 : (t103 != 0) = false := bne_eq_false_iff_eq.mpr c5
    clear c5
    by_cases c6 : (l1.length : Int) = 12
    · rw [if_pos c6] at H
      have c6b0 : ((l1.length : Int) == 12) = true := beq_iff_eq.mpr c6
      have c6b1 : ((l1.length : Int) != 12) = false := bne_eq_false_iff_eq.mpr c6
      clear c6
      replace H := Option.bind_eq_some_iff.mp H
      obtain ⟨⟨t108, t109⟩, A70, H⟩ := H
      replace H : (some (t101, t102, t108, t109)) = some (r1, r2, r3, r4) := H
      have A7 := Aside0.mk A70
      clear A70
      simp only [Option.some.injEq, Prod.mk.injEq] at H
      obtain ⟨rfl, rfl, rfl, rfl⟩ := H
      go_enter Try.func42, Try.ntmps42
      go_wp2_with (first | ((with_reducible refine gate_callee (f := 14) rfl ?_); refine goesL_ (some 16) rfl rfl Try.func14 (by kernel_rfl) rfl #[.slice A0 l0.length c0] rfl (by (try simp only [List.map_toArray, List.map_cons, List.map_nil]); first | done | rfl | (simp only [List.length_drop, List.length_take]; rfl)) ?_; (with_reducible refine (seal_Halves.calls _ _ l0 t101 t102 t103 _ ?side1 ?side2 A4.out).mono ?_); (case side1 => repeat (first | exact HR0.out | (with_reducible refine Kd.C_alloc ?_ _) | (with_reducible refine Kd.C_drewN ?_ _) | (with_reducible refine Kd.C_drew ?_))); (case side2 => exact HC0.out); rintro e w8 ⟨v104, v106, rfl, ho0, ho1, hb⟩; refine ⟨_, rfl, ?_⟩; have n0_ := Aside0.mk (Kd.R_lower ho0 (below_size (by repeat (first | (with_reducible first | exact HB.out | apply below_alloc | apply pw_below_drewN | apply below_drew1) | exact HB.out)))); have n1_ := Aside0.mk (Kd.R_lower ho1 (below_size (by repeat (first | (with_reducible first | exact HB.out | apply below_alloc | apply pw_below_drewN | apply below_drew1) | exact HB.out)))); have n2_ := Aside0.mk (below_step (by repeat (first | (with_reducible first | exact HB.out | apply below_alloc | apply pw_below_drewN | apply below_drew1) | exact HB.out)) hb); clear HB; have HO105 := n0_; have HO107 := n1_; have HB := n2_; clear n0_ n1_ n2_; (try clear hb); (try clear hb2); (try clear hk); (try clear hi); (try clear ho0); (try clear ho1)) | ((with_reducible refine gate_callee (f := 62) rfl ?_); refine goesL_ (some 29) rfl rfl Try.func62 (by kernel_rfl) rfl #[.slice A2 l2.length c2] rfl (by (try simp only [List.map_toArray, List.map_cons, List.map_nil]); first | done | rfl | (simp only [List.length_drop, List.length_take]; rfl)) ?_; (with_reducible refine (byt_Row.calls _ _ l2 t108 t109 _ ?side1 ?side2 A7.out).mono ?_); (case side1 => repeat (first | exact (Kd.C_below HR2.out HB.out) | (with_reducible refine Kd.C_alloc ?_ _) | (with_reducible refine Kd.C_drewN ?_ _) | (with_reducible refine Kd.C_drew ?_))); (case side2 => exact HC2.out); rintro e w9 ⟨v110, rfl, ho0, hb⟩; refine ⟨_, rfl, ?_⟩; have n0_ := Aside0.mk (Kd.R_elder' (by (with_reducible repeat (first | apply Kd.R_alloc | apply Kd.R_drewN | apply Kd.R_drew)); exact HO105.out) (Kd.R_base ho0) hb); have n1_ := Aside0.mk (Kd.R_elder' (by (with_reducible repeat (first | apply Kd.R_alloc | apply Kd.R_drewN | apply Kd.R_drew)); exact HO107.out) (Kd.R_base ho0) hb); have n2_ := Aside0.mk (Kd.R_lower (Kd.R_new' (Kd.R_new' ho0 (Kd.R_lt (by (with_reducible repeat (first | apply Kd.R_alloc | apply Kd.R_drewN | apply Kd.R_drew)); exact HO105.out))) (Kd.R_lt (by (with_reducible repeat (first | apply Kd.R_alloc | apply Kd.R_drewN | apply Kd.R_drew)); exact HO107.out))) (below_size (by repeat (first | (with_reducible first | exact HB.out | apply below_alloc | apply pw_below_drewN | apply below_drew1) | exact HB.out)))); have n3_ := Aside0.mk (below_step (by repeat (first | (with_reducible first | exact HB.out | apply below_alloc | apply pw_below_drewN | apply below_drew1) | exact HB.out)) hb); clear HO105; clear HO107; clear HB; have HO105 := n0_; have HO107 := n1_; have HO111 := n2_; have HB := n3_; clear n0_ n1_ n2_ n3_; (try clear hb); (try clear hb2); (try clear hk); (try clear hi); (try clear ho0)))
      refine bodyPost_ret (results_list (rs := [.tmp 6, .tmp 7, .tmp 8, .tmp 9]) rfl (by simp) (.tmp (.tmp (.tmp (.tmp .nil))))) rfl ?_
      exact ⟨_, _, _, by first | rfl | (simp [errW_none, errW_some] <;> rfl) | (simp [*, errW_none, errW_some] <;> rfl), by (with_reducible repeat (first | apply Kd.R_alloc | apply Kd.R_drewN | apply Kd.R_drew)); exact HO105.out, by (with_reducible repeat (first | apply Kd.R_alloc | apply Kd.R_drewN | apply Kd.R_drew)); exact HO107.out, by (with_reducible repeat (first | apply Kd.R_alloc | apply Kd.R_drewN | apply Kd.R_drew)); exact Kd.R_mono HO111.out (fun _ hk => ⟨hk.1.2, hk.2⟩), by repeat (first | (with_reducible first | exact HB.out | apply below_alloc | apply pw_below_drewN | apply below_drew1) | exact HB.out)⟩
    · rw [if_neg c6] at H
      have c6b0 : ((l1.length : Int) == 12) = false := beq_eq_false_iff_ne.mpr c6
      have c6b1 : ((l1.length : Int) != 12) = true := bne_iff_ne.mpr c6
      simp only [Option.some.injEq, Prod.mk.injEq] at H
      obtain ⟨rfl, rfl, rfl, rfl⟩ := H
      go_enter Try.func42, Try.ntmps42
      go_wp2_with (first | ((with_reducible refine gate_callee (f := 14) rfl ?_); refine goesL_ (some 16) rfl rfl Try.func14 (by kernel_rfl) rfl #[.slice A0 l0.length c0] rfl (by (try simp only [List.map_toArray, List.map_cons, List.map_nil]); first | done | rfl | (simp only [List.length_drop, List.length_take]; rfl)) ?_; (with_reducible refine (seal_Halves.calls _ _ l0 t101 t102 t103 _ ?side1 ?side2 A4.out).mono ?_); (case side1 => repeat (first | exact HR0.out | (with_reducible refine Kd.C_alloc ?_ _) | (with_reducible refine Kd.C_drewN ?_ _) | (with_reducible refine Kd.C_drew ?_))); (case side2 => exact HC0.out); rintro e w10 ⟨v104, v106, rfl, ho0, ho1, hb⟩; refine ⟨_, rfl, ?_⟩; have n0_ := Aside0.mk (Kd.R_lower ho0 (below_size (by repeat (first | (with_reducible first | exact HB.out | apply below_alloc | apply pw_below_drewN | apply below_drew1) | exact HB.out)))); have n1_ := Aside0.mk (Kd.R_lower ho1 (below_size (by repeat (first | (with_reducible first | exact HB.out | apply below_alloc | apply pw_below_drewN | apply below_drew1) | exact HB.out)))); have n2_ := Aside0.mk (below_step (by repeat (first | (with_reducible first | exact HB.out | apply below_alloc | apply pw_below_drewN | apply below_drew1) | exact HB.out)) hb); clear HB; have HO105 := n0_; have HO107 := n1_; have HB := n2_; clear n0_ n1_ n2_; (try clear hb); (try clear hb2); (try clear hk); (try clear hi); (try clear ho0); (try clear ho1)))
      refine bodyPost_ret (results_list (rs := [.tmp 6, .tmp 7, .tmp 8, .tmp 9]) rfl (by simp) (.tmp (.tmp (.tmp (.tmp .nil))))) rfl ?_
      exact ⟨_, _, _, by first | rfl | (simp [errW_none, errW_some] <;> rfl) | (simp [*, errW_none, errW_some] <;> rfl), by first | exact Kd.R_nil _ _ _ _ _ | exact Kd.N_nil _ _ _ _ _ | exact Kd.V_nil _ _ _ _ _ | exact Kd.Q_nil _ _ _ _ _ | exact Kd.S_nil _ _ _ _ _, by first | exact Kd.R_nil _ _ _ _ _ | exact Kd.N_nil _ _ _ _ _ | exact Kd.V_nil _ _ _ _ _ | exact Kd.Q_nil _ _ _ _ _ | exact Kd.S_nil _ _ _ _ _, by first | exact Kd.R_nil _ _ _ _ _ | exact Kd.N_nil _ _ _ _ _ | exact Kd.V_nil _ _ _ _ _ | exact Kd.Q_nil _ _ _ _ _ | exact Kd.S_nil _ _ _ _ _, by repeat (first | (with_reducible first | exact HB.out | apply below_alloc | apply pw_below_drewN | apply below_drew1) | exact HB.out)⟩
  · rw [if_neg c5] at H
    have c5b0 : (t103 == 0) = false := beq_eq_false_iff_ne.mpr c5
    have c5b1 : (t103 != 0) = true := bne_iff_ne.mpr c5
    simp only [Option.some.injEq, Prod.mk.injEq] at H
    obtain ⟨rfl, rfl, rfl, rfl⟩ := H
    go_enter Try.func42, Try.ntmps42
    go_wp2_with (first | ((with_reducible refine gate_callee (f := 14) rfl ?_); refine goesL_ (some 16) rfl rfl Try.func14 (by kernel_rfl) rfl #[.slice A0 l0.length c0] rfl (by (try simp only [List.map_toArray, List.map_cons, List.map_nil]); first | done | rfl | (simp only [List.length_drop, List.length_take]; rfl)) ?_; (with_reducible refine (seal_Halves.calls _ _ l0 t101 t102 t103 _ ?side1 ?side2 A4.out).mono ?_); (case side1 => repeat (first | exact HR0.out | (with_reducible refine Kd.C_alloc ?_ _) | (with_reducible refine Kd.C_drewN ?_ _) | (with_reducible refine Kd.C_drew ?_))); (case side2 => exact HC0.out); rintro e w11 ⟨v104, v106, rfl, ho0, ho1, hb⟩; refine ⟨_, rfl, ?_⟩; have n0_ := Aside0.mk (Kd.R_lower ho0 (below_size (by repeat (first | (with_reducible first | exact HB.out | apply below_alloc | apply pw_below_drewN | apply below_drew1) | exact HB.out)))); have n1_ := Aside0.mk (Kd.R_lower ho1 (below_size (by repeat (first | (with_reducible first | exact HB.out | apply below_alloc | apply pw_below_drewN | apply below_drew1) | exact HB.out)))); have n2_ := Aside0.mk (below_step (by repeat (first | (with_reducible first | exact HB.out | apply below_alloc | apply pw_below_drewN | apply below_drew1) | exact HB.out)) hb); clear HB; have HO105 := n0_; have HO107 := n1_; have HB := n2_; clear n0_ n1_ n2_; (try clear hb); (try clear hb2); (try clear hk); (try clear hi); (try clear ho0); (try clear ho1)))
    refine bodyPost_ret (results_list (rs := [.tmp 6, .tmp 7, .tmp 8, .tmp 9]) rfl (by simp) (.tmp (.tmp (.tmp (.tmp .nil))))) rfl ?_
    exact ⟨_, _, _, by first | rfl | (simp [errW_none, errW_some] <;> rfl) | (simp [*, errW_none, errW_some] <;> rfl), by first | exact Kd.R_nil _ _ _ _ _ | exact Kd.N_nil _ _ _ _ _ | exact Kd.V_nil _ _ _ _ _ | exact Kd.Q_nil _ _ _ _ _ | exact Kd.S_nil _ _ _ _ _, by first | exact Kd.R_nil _ _ _ _ _ | exact Kd.N_nil _ _ _ _ _ | exact Kd.V_nil _ _ _ _ _ | exact Kd.Q_nil _ _ _ _ _ | exact Kd.S_nil _ _ _ _ _, by first | exact Kd.R_nil _ _ _ _ _ | exact Kd.N_nil _ _ _ _ _ | exact Kd.V_nil _ _ _ _ _ | exact Kd.Q_nil _ _ _ _ _ | exact Kd.S_nil _ _ _ _ _, by repeat (first | (with_reducible first | exact HB.out | apply below_alloc | apply pw_below_drewN | apply below_drew1) | exact HB.out)⟩
-- NOT PRINTED: function 104 (slices_Grow_byte_byte)
-- NOT PRINTED: function 99 (slices_Concat_byte_byte)
-- NOT PRINTED: function 87 (mac_joined)
-- NOT PRINTED: function 105 (sha_primes)
-- NOT PRINTED: function 112 (bits_Mul64)
-- NOT PRINTED: function 113 (bits_Add64)
-- NOT PRINTED: function 110 (sha_above)
-- NOT PRINTED: function 106 (sha_root)
-- NOT PRINTED: function 100 (sha_keys)
-- NOT PRINTED: function 101 (sha_Start)
-- NOT PRINTED: function 111 (bits_RotateLeft32)
-- NOT PRINTED: function 108 (sha_turned)
-- NOT PRINTED: function 107 (sha_words)
-- NOT PRINTED: function 102 (sha_mixed)
-- NOT PRINTED: function 103 (sha_Pad)
-- NOT PRINTED: function 94 (sha_Sum)
-- NOT PRINTED: function 91 (mac_Key)
/-! ### seal_tag: function 44 -/
def seal_tag.f (l0 : List Int) (l1 : List (List Int)) : Option (List Int) := (mac_All.f l0 l1).bind fun t112 => (some t112)
set_option maxHeartbeats 8000000 in
set_option maxRecDepth 100000 in
theorem seal_tag.calls (A0 : Option Addr) (c0 : Nat) (l0 : List Int) (A1 : Option Addr) (c1 : Nat) (l1 : List (List Int)) (r : List Int) (w : World) (hr0 : Kd.C (Kd.int .u8) w A0 l0.length l0) (hc0 : l0.length ≤ c0) (hr1 : Kd.C (Kd.slice 5 (Kd.int .u8)) w A1 l1.length l1) (hc1 : l1.length ≤ c1) (h : seal_tag.f l0 l1 = some r) :
    Calls Try.prog 44 #[.slice A0 l0.length c0, .slice A1 l1.length c1] w fun e w' => ∃ v0_ : Value, e = .returned (v0_) ∧ Kd.R (Kd.int .u8) 5 w' w.heap.size (fun _ => True) v0_ r ∧ Below w.heap.size w w' := by
  have HR0 := Aside0.mk hr0
  have HC0 := Aside0.mk hc0
  clear hr0 hc0
  have HR1 := Aside0.mk hr1
  have HC1 := Aside0.mk hc1
  clear hr1 hc1
  have HB := Aside0.mk (Below.refl w.heap.size w)
  have H : ((mac_All.f l0 l1).bind fun t112 => (some t112)) = some r := h
  clear h
  replace H := Option.bind_eq_some_iff.mp H
  obtain ⟨t112, A30, H⟩ := H
  replace H : (some t112) = some r := H
  have A3 := Aside0.mk A30
  clear A30
  obtain rfl := Option.some.inj H
  go_enter Try.func44, Try.ntmps44
  go_wp2_with (first | ((with_reducible refine gate_callee (f := 68) rfl ?_); refine goesL_ (some 7) rfl rfl Try.func68 (by kernel_rfl) rfl #[.slice A0 l0.length c0, .slice A1 l1.length c1] rfl (by (try simp only [List.map_toArray, List.map_cons, List.map_nil]); first | done | rfl | (simp only [List.length_drop, List.length_take]; rfl)) ?_; (with_reducible refine (mac_All.calls _ _ l0 _ _ l1 t112 _ ?side1 ?side2 ?side3 ?side4 A3.out).mono ?_); (case side1 => repeat (first | exact HR0.out | (with_reducible refine Kd.C_alloc ?_ _) | (with_reducible refine Kd.C_drewN ?_ _) | (with_reducible refine Kd.C_drew ?_))); (case side2 => exact HC0.out); (case side3 => repeat (first | exact HR1.out | (with_reducible refine Kd.C_alloc ?_ _) | (with_reducible refine Kd.C_drewN ?_ _) | (with_reducible refine Kd.C_drew ?_))); (case side4 => exact HC1.out); rintro e w4 ⟨v113, rfl, ho0, hb⟩; refine ⟨_, rfl, ?_⟩; have n0_ := Aside0.mk (Kd.R_lower ho0 (below_size (by repeat (first | (with_reducible first | exact HB.out | apply below_alloc | apply pw_below_drewN | apply below_drew1) | exact HB.out)))); have n1_ := Aside0.mk (below_step (by repeat (first | (with_reducible first | exact HB.out | apply below_alloc | apply pw_below_drewN | apply below_drew1) | exact HB.out)) hb); clear HB; have HO114 := n0_; have HB := n1_; clear n0_ n1_; (try clear hb); (try clear hb2); (try clear hk); (try clear hi); (try clear ho0)))
  go_ret
  exact ⟨_, by first | rfl | (simp [errW_none, errW_some] <;> rfl) | (simp [*, errW_none, errW_some] <;> rfl), by (with_reducible repeat (first | apply Kd.R_alloc | apply Kd.R_drewN | apply Kd.R_drew)); exact HO114.out, by repeat (first | (with_reducible first | exact HB.out | apply below_alloc | apply pw_below_drewN | apply below_drew1) | exact HB.out)⟩
-- NOT PRINTED: function 83 (aes_Mul)
-- NOT PRINTED: function 96 (aes_inverse)
-- NOT PRINTED: function 97 (bits_RotateLeft8)
-- NOT PRINTED: function 82 (aes_Box)
-- NOT PRINTED: function 65 (aes_boxes)
-- NOT PRINTED: function 66 (aes_keys)
-- NOT PRINTED: function 84 (aes_state_with)
-- NOT PRINTED: function 85 (aes_state_shifted)
-- NOT PRINTED: function 86 (aes_state_mixed)
-- NOT PRINTED: function 67 (aes_locked)
-- NOT PRINTED: function 16 (seal_Seal)
/-! ### seal_Open: function 19 -/
def seal_Open.f (l0 : List Int) (l1 : List Int) (l2 : List Int) (l3 : List Int) : Option (List Int × Int) := (seal_ready.f l0 l1 l2).bind fun bt138 => (if bt138.2.2.2 = 0 then (if (wrap64 ((l3.length : Int) - 32)) < 0 then (some (([] : List Int), 3)) else (if 0 ≤ (wrap64 ((l3.length : Int) - 32)) then (if (wrap64 ((l3.length : Int) - 32)) ≤ (l3.length : Int) then ((seal_tag.f bt138.2.1 (([bt138.2.2.1, l1, (l3.take ((wrap64 ((l3.length : Int) - 32)) : Int).toNat)] : List (List Int)))).bind fun t156 => ((mac_Same.f t156 (l3.drop ((wrap64 ((l3.length : Int) - 32)) : Int).toNat)).bind fun t164 => (if t164 = true then ((aes_Stream.f bt138.1 l1 (l3.take ((wrap64 ((l3.length : Int) - 32)) : Int).toNat)).bind fun bt170 => (some (bt170.1, bt170.2))) else (some (([] : List Int), 5))))) else (none)) else (none))) else (some (([] : List Int), bt138.2.2.2)))
def seal_Open.T7 : Bool × List (List Nat × List Nat) := (true, [([], []), ([], []), ([], []), ([], []), ([], []), ([3, 4], [3, 4]), ([1, 2, 5], [1, 2, 5]), ([0, 6], [0, 6]), ([], []), ([], []), ([8, 9], [8, 9]), ([7, 10, 7], [7, 10]), ([11], [11]), ([12, 11], [12])])
def seal_Open.B7 : List Nat := [0, 0, 0, 0, 0, 24, 62, 127, 0, 0, 768, 2047, 4095, 8191]
theorem seal_Open.tab7 : rtab .any (opsOf Try.f19 7) = seal_Open.T7 := by kernel_rfl
theorem seal_Open.bits7 : waitsOk seal_Open.T7.2 seal_Open.B7 = true := by kernel_rfl
set_option maxHeartbeats 8000000 in
set_option maxRecDepth 100000 in
theorem seal_Open.calls (A0 : Option Addr) (c0 : Nat) (l0 : List Int) (P1_ : Nat → Prop) (A1 : Option Addr) (c1 : Nat) (l1 : List Int) (A2 : Option Addr) (c2 : Nat) (l2 : List Int) (P3_ : Nat → Prop) (A3 : Option Addr) (c3 : Nat) (l3 : List Int) (r1 : List Int) (r2 : Int) (w : World) (hr0 : Kd.C (Kd.int .u8) w A0 l0.length l0) (hc0 : l0.length ≤ c0) (hs1 : Kd.V (Kd.int .u8) 5 w w.heap.size (fun k_ => P1_ k_) (.slice A1 l1.length c1) l1) (hr2 : Kd.C (Kd.int .u8) w A2 l2.length l2) (hc2 : l2.length ≤ c2) (hs3 : Kd.V (Kd.int .u8) 5 w w.heap.size (fun k_ => P3_ k_) (.slice A3 l3.length c3) l3) (h : seal_Open.f l0 l1 l2 l3 = some (r1, r2)) :
    Calls Try.prog 19 #[.slice A0 l0.length c0, .slice A1 l1.length c1, .slice A2 l2.length c2, .slice A3 l3.length c3] w fun e w' => ∃ v0_ : Value, e = .returned (.tuple #[v0_, .int .i64 r2]) ∧ Kd.R (Kd.int .u8) 5 w' w.heap.size (fun k_ => (w.heap.size ≤ k_)) v0_ r1 ∧ Below w.heap.size w w' := by
  have HR0 := Aside0.mk hr0
  have HC0 := Aside0.mk hc0
  clear hr0 hc0
  have HO1 := Aside0.mk (show Kd.V (Kd.int .u8) 5 w w.heap.size (fun k_ => ((P1_ k_ ∨ P3_ k_) ∨ w.heap.size ≤ k_)) (.slice A1 l1.length c1) l1 from Kd.V_mono hs1 (fun k_ hk => .inl (.inl hk)))
  have HR2 := Aside0.mk hr2
  have HC2 := Aside0.mk hc2
  clear hr2 hc2
  have HO3 := Aside0.mk (show Kd.V (Kd.int .u8) 5 w w.heap.size (fun k_ => ((P1_ k_ ∨ P3_ k_) ∨ w.heap.size ≤ k_)) (.slice A3 l3.length c3) l3 from Kd.V_mono hs3 (fun k_ hk => .inl (.inr hk)))
  have HB := Aside0.mk (Below.refl w.heap.size w)
  have H : ((seal_ready.f l0 l1 l2).bind fun bt138 => (if bt138.2.2.2 = 0 then (if (wrap64 ((l3.length : Int) - 32)) < 0 then (some (([] : List Int), 3)) else (if 0 ≤ (wrap64 ((l3.length : Int) - 32)) then (if (wrap64 ((l3.length : Int) - 32)) ≤ (l3.length : Int) then ((seal_tag.f bt138.2.1 (([bt138.2.2.1, l1, (l3.take ((wrap64 ((l3.length : Int) - 32)) : Int).toNat)] : List (List Int)))).bind fun t156 => ((mac_Same.f t156 (l3.drop ((wrap64 ((l3.length : Int) - 32)) : Int).toNat)).bind fun t164 => (if t164 = true then ((aes_Stream.f bt138.1 l1 (l3.take ((wrap64 ((l3.length : Int) - 32)) : Int).toNat)).bind fun bt170 => (some (bt170.1, bt170.2))) else (some (([] : List Int), 5))))) else (none)) else (none))) else (some (([] : List Int), bt138.2.2.2)))) = some (r1, r2) := h
  clear h
  replace H := Option.bind_eq_some_iff.mp H
  obtain ⟨⟨t138, t139, t140, t141⟩, A50, H⟩ := H
  replace H : (if t141 = 0 then (if (wrap64 ((l3.length : Int) - 32)) < 0 then (some (([] : List Int), 3)) else (if 0 ≤ (wrap64 ((l3.length : Int) - 32)) then (if (wrap64 ((l3.length : Int) - 32)) ≤ (l3.length : Int) then ((seal_tag.f t139 (([t140, l1, (l3.take ((wrap64 ((l3.length : Int) - 32)) : Int).toNat)] : List (List Int)))).bind fun t156 => ((mac_Same.f t156 (l3.drop ((wrap64 ((l3.length : Int) - 32)) : Int).toNat)).bind fun t164 => (if t164 = true then ((aes_Stream.f t138 l1 (l3.take ((wrap64 ((l3.length : Int) - 32)) : Int).toNat)).bind fun bt170 => (some (bt170.1, bt170.2))) else (some (([] : List Int), 5))))) else (none)) else (none))) else (some (([] : List Int), t141))) = some (r1, r2) := H
  have A5 := Aside0.mk A50
  clear A50
  by_cases c6 : t141 = 0
  · rw [if_pos c6] at H
    have c6b0 : (t141 == 0) = true := beq_iff_eq.mpr c6
    have c6b1 : (t141 != 0) = false := bne_eq_false_iff_eq.mpr c6
    clear c6
    by_cases c7 : (wrap64 ((l3.length : Int) - 32)) < 0
    · rw [if_pos c7] at H
      have c7b0 : decide ((wrap64 ((l3.length : Int) - 32)) < 0) = true := decide_eq_true c7
      clear c7
      simp only [Option.some.injEq, Prod.mk.injEq] at H
      obtain ⟨rfl, rfl⟩ := H
      go_enter Try.func19, Try.ntmps19
      go_wp2_with (first | ((with_reducible refine gate_callee (f := 42) rfl ?_); refine goesL_ (some 19) rfl rfl Try.func42 (by kernel_rfl) rfl #[.slice A0 l0.length c0, .slice A1 l1.length c1, .slice A2 l2.length c2] rfl (by (try simp only [List.map_toArray, List.map_cons, List.map_nil]); first | done | rfl | (simp only [List.length_drop, List.length_take]; rfl)) ?_; (with_reducible refine (seal_ready.calls _ _ l0 _ _ l1 _ _ l2 t138 t139 t140 t141 _ ?side1 ?side2 ?side3 ?side4 ?side5 ?side6 A5.out).mono ?_); (case side1 => repeat (first | exact HR0.out | (with_reducible refine Kd.C_alloc ?_ _) | (with_reducible refine Kd.C_drewN ?_ _) | (with_reducible refine Kd.C_drew ?_))); (case side2 => exact HC0.out); (case side3 => repeat (first | exact (Kd.V_reads' HO1.out).2.2 | (with_reducible refine Kd.C_alloc ?_ _) | (with_reducible refine Kd.C_drewN ?_ _) | (with_reducible refine Kd.C_drew ?_))); (case side4 => exact (Kd.V_reads' HO1.out).2.1); (case side5 => repeat (first | exact HR2.out | (with_reducible refine Kd.C_alloc ?_ _) | (with_reducible refine Kd.C_drewN ?_ _) | (with_reducible refine Kd.C_drew ?_))); (case side6 => exact HC2.out); rintro e w8 ⟨v142, v144, v146, rfl, ho0, ho1, ho2, hb⟩; refine ⟨_, rfl, ?_⟩; have n0_ := Aside0.mk (Kd.V_mono (Kd.V_told (Kd.V_told (Kd.V_told (Kd.V_old (by (with_reducible repeat (first | apply Kd.V_alloc | apply Kd.V_drewN | apply Kd.V_drew)); exact HO1.out) hb) (Kd.R_base ho0)) (Kd.R_base ho1)) (Kd.R_base ho2)) (fun _ h_ => h_.1)); have n1_ := Aside0.mk (Kd.V_mono (Kd.V_told (Kd.V_told (Kd.V_told (Kd.V_old (by (with_reducible repeat (first | apply Kd.V_alloc | apply Kd.V_drewN | apply Kd.V_drew)); exact HO3.out) hb) (Kd.R_base ho0)) (Kd.R_base ho1)) (Kd.R_base ho2)) (fun _ h_ => h_.1)); have n2_ := Aside0.mk (Kd.R_lower (Kd.R_newM (M := fun k_ => (w.heap.size ≤ k_)) ho0 (below_size (by repeat (first | (with_reducible first | exact HB.out | apply below_alloc | apply pw_below_drewN | apply below_drew1) | exact HB.out))) (fun k_ h_ => h_)) (below_size (by repeat (first | (with_reducible first | exact HB.out | apply below_alloc | apply pw_below_drewN | apply below_drew1) | exact HB.out)))); have n3_ := Aside0.mk (Kd.R_lower (Kd.R_newM (M := fun k_ => (w.heap.size ≤ k_)) ho1 (below_size (by repeat (first | (with_reducible first | exact HB.out | apply below_alloc | apply pw_below_drewN | apply below_drew1) | exact HB.out))) (fun k_ h_ => h_)) (below_size (by repeat (first | (with_reducible first | exact HB.out | apply below_alloc | apply pw_below_drewN | apply below_drew1) | exact HB.out)))); have n4_ := Aside0.mk (Kd.R_lower (Kd.R_newM (M := fun k_ => (w.heap.size ≤ k_)) ho2 (below_size (by repeat (first | (with_reducible first | exact HB.out | apply below_alloc | apply pw_below_drewN | apply below_drew1) | exact HB.out))) (fun k_ h_ => h_)) (below_size (by repeat (first | (with_reducible first | exact HB.out | apply below_alloc | apply pw_below_drewN | apply below_drew1) | exact HB.out)))); have n5_ := Aside0.mk (below_step (by repeat (first | (with_reducible first | exact HB.out | apply below_alloc | apply pw_below_drewN | apply below_drew1) | exact HB.out)) hb); clear HO1; clear HO3; clear HB; have HO1 := n0_; have HO3 := n1_; have HO143 := n2_; have HO145 := n3_; have HO147 := n4_; have HB := n5_; clear n0_ n1_ n2_ n3_ n4_ n5_; (try clear hb); (try clear hb2); (try clear hk); (try clear hi); (try clear ho0); (try clear ho1); (try clear ho2)))
      go_ret2
      exact ⟨_, by first | rfl | (simp [errW_none, errW_some] <;> rfl) | (simp [*, errW_none, errW_some] <;> rfl), by first | exact Kd.R_nil _ _ _ _ _ | exact Kd.N_nil _ _ _ _ _ | exact Kd.V_nil _ _ _ _ _ | exact Kd.Q_nil _ _ _ _ _ | exact Kd.S_nil _ _ _ _ _, by repeat (first | (with_reducible first | exact HB.out | apply below_alloc | apply pw_below_drewN | apply below_drew1) | exact HB.out)⟩
    · rw [if_neg c7] at H
      have c7b0 : decide ((wrap64 ((l3.length : Int) - 32)) < 0) = false := decide_eq_false c7
      clear c7
      obtain ⟨ji9, hji9⟩ : ∃ j_ : Int, (wrap64 ((l3.length : Int) - 32)) = j_ := ⟨_, rfl⟩
      replace H : (if 0 ≤ (ji9) then (if (ji9) ≤ (l3.length : Int) then ((seal_tag.f t139 (([t140, l1, (l3.take ((ji9) : Int).toNat)] : List (List Int)))).bind fun t156 => ((mac_Same.f t156 (l3.drop ((ji9) : Int).toNat)).bind fun t164 => (if t164 = true then ((aes_Stream.f t138 l1 (l3.take ((ji9) : Int).toNat)).bind fun bt170 => (some (bt170.1, bt170.2))) else (some (([] : List Int), 5))))) else (none)) else (none)) = some (r1, r2) := by first | (rw [hji9] at H; exact H) | (simp only [hji9] at H ⊢; exact H)
      (try rw [hji9] at c7b0)
      (try rw [hji9] at A5)
      have hji9w : (IntKind.i64.wrap ((l3.length : Int) - 32)) = ji9 := (i64_w _).trans hji9
      by_cases c10 : 0 ≤ (ji9)
      · rw [if_pos c10] at H
        have c10b0 := eq_true c10
        have c10b1 : decide (0 ≤ (ji9)) = true := decide_eq_true c10
        clear c10
        by_cases c11 : (ji9) ≤ (l3.length : Int)
        · rw [if_pos c11] at H
          have c11b0 := eq_true c11
          have c11b1 : decide ((ji9) ≤ (l3.length : Int)) = true := decide_eq_true c11
          clear c11
          obtain ⟨y148, hy148⟩ : ∃ y_ : List Int, y_ = (l3.take ((ji9) : Int).toNat) := ⟨_, rfl⟩
          replace H : ((seal_tag.f t139 (([t140, l1, y148] : List (List Int)))).bind fun t156 => ((mac_Same.f t156 (l3.drop ((ji9) : Int).toNat)).bind fun t164 => (if t164 = true then ((aes_Stream.f t138 l1 (l3.take ((ji9) : Int).toNat)).bind fun bt170 => (some (bt170.1, bt170.2))) else (some (([] : List Int), 5))))) = some (r1, r2) := by first | (rw [hy148]; with_reducible exact H) | (have H2_ := (Option.bind_some _ _).symm.trans H; rw [hy148]; with_reducible exact H2_) | (have H2_ := (Option.bind_some _ _).symm.trans H; with_reducible exact H2_) | with_reducible exact H | (rw [hy148]; exact H) | exact H
          have Ny148 := Aside0.mk hy148
          clear hy148
          obtain ⟨y153, hy153⟩ : ∃ y_ : List (List Int), y_ = (([t140, l1, y148] : List (List Int))) := ⟨_, rfl⟩
          replace H : ((seal_tag.f t139 y153).bind fun t156 => ((mac_Same.f t156 (l3.drop ((ji9) : Int).toNat)).bind fun t164 => (if t164 = true then ((aes_Stream.f t138 l1 (l3.take ((ji9) : Int).toNat)).bind fun bt170 => (some (bt170.1, bt170.2))) else (some (([] : List Int), 5))))) = some (r1, r2) := by first | (rw [hy153]; with_reducible exact H) | (have H2_ := (Option.bind_some _ _).symm.trans H; rw [hy153]; with_reducible exact H2_) | (have H2_ := (Option.bind_some _ _).symm.trans H; with_reducible exact H2_) | with_reducible exact H | (rw [hy153]; exact H) | exact H
          have Ny153 := Aside0.mk hy153
          clear hy153
          replace H := Option.bind_eq_some_iff.mp H
          obtain ⟨t156, A120, H⟩ := H
          replace H : ((mac_Same.f t156 (l3.drop ((ji9) : Int).toNat)).bind fun t164 => (if t164 = true then ((aes_Stream.f t138 l1 (l3.take ((ji9) : Int).toNat)).bind fun bt170 => (some (bt170.1, bt170.2))) else (some (([] : List Int), 5)))) = some (r1, r2) := H
          have A12 := Aside0.mk A120
          clear A120
          have c13b0 := eq_true (of_decide_eq_true (by first | (with_reducible assumption) | assumption) : 0 ≤ (ji9))
          have c14b0 := eq_true (of_decide_eq_true (by first | (with_reducible assumption) | assumption) : (ji9) ≤ (l3.length : Int))
          obtain ⟨y159, hy159⟩ : ∃ y_ : List Int, y_ = (l3.drop ((ji9) : Int).toNat) := ⟨_, rfl⟩
          replace H : ((mac_Same.f t156 y159).bind fun t164 => (if t164 = true then ((aes_Stream.f t138 l1 (l3.take ((ji9) : Int).toNat)).bind fun bt170 => (some (bt170.1, bt170.2))) else (some (([] : List Int), 5)))) = some (r1, r2) := by first | (rw [hy159]; with_reducible exact H) | (have H2_ := (Option.bind_some _ _).symm.trans H; rw [hy159]; with_reducible exact H2_) | (have H2_ := (Option.bind_some _ _).symm.trans H; with_reducible exact H2_) | with_reducible exact H | (rw [hy159]; exact H) | exact H
          have Ny159 := Aside0.mk hy159
          clear hy159
          replace H := Option.bind_eq_some_iff.mp H
          obtain ⟨t164, A150, H⟩ := H
          replace H : (if t164 = true then ((aes_Stream.f t138 l1 (l3.take ((ji9) : Int).toNat)).bind fun bt170 => (some (bt170.1, bt170.2))) else (some (([] : List Int), 5))) = some (r1, r2) := H
          have A15 := Aside0.mk A150
          clear A150
          by_cases c16 : t164 = true
          · subst c16
            have H1 : ((aes_Stream.f t138 l1 (l3.take ((ji9) : Int).toNat)).bind fun bt170 => (some (bt170.1, bt170.2))) = some (r1, r2) := by rw [if_pos rfl] at H; exact H
            clear H
            have H := H1
            clear H1
            have c17b0 := eq_true (of_decide_eq_true (by first | (with_reducible assumption) | assumption) : 0 ≤ (ji9))
            have c18b0 := eq_true (of_decide_eq_true (by first | (with_reducible assumption) | assumption) : (ji9) ≤ (l3.length : Int))
            obtain ⟨y165, hy165⟩ : ∃ y_ : List Int, y_ = (l3.take ((ji9) : Int).toNat) := ⟨_, rfl⟩
            replace H : ((aes_Stream.f t138 l1 y165).bind fun bt170 => (some (bt170.1, bt170.2))) = some (r1, r2) := by first | (rw [hy165]; with_reducible exact H) | (have H2_ := (Option.bind_some _ _).symm.trans H; rw [hy165]; with_reducible exact H2_) | (have H2_ := (Option.bind_some _ _).symm.trans H; with_reducible exact H2_) | with_reducible exact H | (rw [hy165]; exact H) | exact H
            have Ny165 := Aside0.mk hy165
            clear hy165
            replace H := Option.bind_eq_some_iff.mp H
            obtain ⟨⟨t170, t171⟩, A190, H⟩ := H
            replace H : (some (t170, t171)) = some (r1, r2) := H
            have A19 := Aside0.mk A190
            clear A190
            simp only [Option.some.injEq, Prod.mk.injEq] at H
            obtain ⟨rfl, rfl⟩ := H
            go_enter Try.func19, Try.ntmps19
            try go_wp2_with (first | ((with_reducible refine gate_callee (f := 42) rfl ?_); refine goesL_ (some 19) rfl rfl Try.func42 (by kernel_rfl) rfl #[.slice A0 l0.length c0, .slice A1 l1.length c1, .slice A2 l2.length c2] rfl (by (try simp only [List.map_toArray, List.map_cons, List.map_nil]); first | done | rfl | (simp only [List.length_drop, List.length_take]; rfl)) ?_; (with_reducible refine (seal_ready.calls _ _ l0 _ _ l1 _ _ l2 t138 t139 t140 t141 _ ?side1 ?side2 ?side3 ?side4 ?side5 ?side6 A5.out).mono ?_); (case side1 => repeat (first | exact HR0.out | (with_reducible refine Kd.C_alloc ?_ _) | (with_reducible refine Kd.C_drewN ?_ _) | (with_reducible refine Kd.C_drew ?_))); (case side2 => exact HC0.out); (case side3 => repeat (first | exact (Kd.V_reads' HO1.out).2.2 | (with_reducible refine Kd.C_alloc ?_ _) | (with_reducible refine Kd.C_drewN ?_ _) | (with_reducible refine Kd.C_drew ?_))); (case side4 => exact (Kd.V_reads' HO1.out).2.1); (case side5 => repeat (first | exact HR2.out | (with_reducible refine Kd.C_alloc ?_ _) | (with_reducible refine Kd.C_drewN ?_ _) | (with_reducible refine Kd.C_drew ?_))); (case side6 => exact HC2.out); rintro e w20 ⟨v142, v144, v146, rfl, ho0, ho1, ho2, hb⟩; refine ⟨_, rfl, ?_⟩; have n0_ := Aside0.mk (Kd.V_mono (Kd.V_told (Kd.V_told (Kd.V_told (Kd.V_old (by (with_reducible repeat (first | apply Kd.V_alloc | apply Kd.V_drewN | apply Kd.V_drew)); exact HO1.out) hb) (Kd.R_base ho0)) (Kd.R_base ho1)) (Kd.R_base ho2)) (fun _ h_ => h_.1)); have n1_ := Aside0.mk (Kd.V_mono (Kd.V_told (Kd.V_told (Kd.V_told (Kd.V_old (by (with_reducible repeat (first | apply Kd.V_alloc | apply Kd.V_drewN | apply Kd.V_drew)); exact HO3.out) hb) (Kd.R_base ho0)) (Kd.R_base ho1)) (Kd.R_base ho2)) (fun _ h_ => h_.1)); have n2_ := Aside0.mk (Kd.R_lower (Kd.R_newM (M := fun k_ => (w.heap.size ≤ k_)) ho0 (below_size (by repeat (first | (with_reducible first | exact HB.out | apply below_alloc | apply pw_below_drewN | apply below_drew1) | exact HB.out))) (fun k_ h_ => h_)) (below_size (by repeat (first | (with_reducible first | exact HB.out | apply below_alloc | apply pw_below_drewN | apply below_drew1) | exact HB.out)))); have n3_ := Aside0.mk (Kd.R_lower (Kd.R_newM (M := fun k_ => (w.heap.size ≤ k_)) ho1 (below_size (by repeat (first | (with_reducible first | exact HB.out | apply below_alloc | apply pw_below_drewN | apply below_drew1) | exact HB.out))) (fun k_ h_ => h_)) (below_size (by repeat (first | (with_reducible first | exact HB.out | apply below_alloc | apply pw_below_drewN | apply below_drew1) | exact HB.out)))); have n4_ := Aside0.mk (Kd.R_lower (Kd.R_newM (M := fun k_ => (w.heap.size ≤ k_)) ho2 (below_size (by repeat (first | (with_reducible first | exact HB.out | apply below_alloc | apply pw_below_drewN | apply below_drew1) | exact HB.out))) (fun k_ h_ => h_)) (below_size (by repeat (first | (with_reducible first | exact HB.out | apply below_alloc | apply pw_below_drewN | apply below_drew1) | exact HB.out)))); have n5_ := Aside0.mk (below_step (by repeat (first | (with_reducible first | exact HB.out | apply below_alloc | apply pw_below_drewN | apply below_drew1) | exact HB.out)) hb); clear HO1; clear HO3; clear HB; have HO1 := n0_; have HO3 := n1_; have HO143 := n2_; have HO145 := n3_; have HO147 := n4_; have HB := n5_; clear n0_ n1_ n2_ n3_ n4_ n5_; (try clear hb); (try clear hb2); (try clear hk); (try clear hi); (try clear ho0); (try clear ho1); (try clear ho2)))
            have n0_ := Aside0.mk (Kd.V_drew HO1.out)
            have n1_ := Aside0.mk (Kd.V_drew HO3.out)
            have n2_ := Aside0.mk (Kd.R_drew HO143.out)
            have n3_ := Aside0.mk (Kd.R_drew HO145.out)
            have n4_ := Aside0.mk (Kd.R_drew HO147.out)
            have n5_ := Aside0.mk (below_drew1 HB.out)
            clear HO1
            clear HO3
            clear HO143
            clear HO145
            clear HO147
            clear HB
            have HO1 := n0_
            have HO3 := n1_
            have HO143 := n2_
            have HO145 := n3_
            have HO147 := n4_
            have HB := n5_
            clear n0_ n1_ n2_ n3_ n4_ n5_
            have q22 : ((ji9) : Int) ≤ ((l3.length : Int) : Int) := of_decide_eq_true (by first | (with_reducible assumption) | assumption)
            obtain ⟨i022, hi022, _, hsz22, _⟩ := info_parts info5
            have hroom22 : l3.length ≤ c3 := (Kd.V_reads' HO3.out).2.1
            have hC22 : Kd.F (Kd.int .u8) _ _ A3 l3.length l3 := (Kd.V_at (base := w.heap.size) HO3.out).2.2
            have hcut22 := cut_to (P := Try.prog) 22 5 .i64 Try.underlying22 hi022 A3 l3.length c3 (ji9) (of_decide_eq_true (by first | (with_reducible assumption) | assumption)) q22 hroom22
            have hr22 := Kd.F_take (m := ((ji9) : Int).toNat) hC22 (by omega)
            have hy22 : y148.length = ((ji9) : Int).toNat := (by rw [Ny148.out, List.length_take]; omega)
            rw [← Ny148.out] at hr22
            rw [← hy22] at hcut22
            have HO152 := Aside0.mk (show Kd.V (Kd.int .u8) 5 _ w.heap.size _ (.slice A3 y148.length c3) y148 from Kd.V_mk (by omega) hr22)
            have HC152 := Aside0.mk (show y148.length ≤ c3 from by omega)
            clear hr22 hC22 hroom22 hi022 hsz22
            have KY22 := Aside0.mk hy22
            clear hy22
            replace q22 := eq_true q22
            have q23 : ((ji9) : Int) ≤ ((l3.length : Int) : Int) := of_decide_eq_true (by first | (with_reducible assumption) | assumption)
            obtain ⟨i023, hi023, _, hsz23, _⟩ := info_parts info5
            have hroom23 : l3.length ≤ c3 := (Kd.V_reads' HO3.out).2.1
            have hC23 : Kd.F (Kd.int .u8) _ _ A3 l3.length l3 := (Kd.V_at (base := w.heap.size) HO3.out).2.2
            have q023 : (0 : Int) ≤ ((ji9) : Int) := of_decide_eq_true (by first | (with_reducible assumption) | assumption)
            have hcut23 := cut_from (P := Try.prog) 22 5 .i64 Try.underlying22 hi023 1 hsz23 A3 l3.length c3 (ji9) q023 q23
            have hr23 := Kd.F_cut (m := ((ji9) : Int).toNat) (c := c3) hC23 (by omega) hroom23
            obtain ⟨A23, hA23⟩ : ∃ A1, A1 = (if c3 = ((ji9) : Int).toNat then A3 else (A3 : Option Addr).map (·.add (((ji9) : Int).toNat * 1))) := ⟨_, rfl⟩
            obtain ⟨c23, hc23⟩ : ∃ c1, c1 = c3 - ((ji9) : Int).toNat := ⟨_, rfl⟩
            have hy23 : y159.length = l3.length - ((ji9) : Int).toNat := (by rw [Ny159.out, List.length_drop] <;> omega)
            rw [show (l3).drop ((ji9) : Int).toNat = y159 from Ny159.out.symm] at hr23
            replace hr23 : Kd.F (Kd.int .u8) _ _ A23 y159.length y159 := (by rw [hA23]; exact hr23)
            rw [← hy23, ← hA23, ← hc23] at hcut23
            have HO163 := Aside0.mk (show Kd.V (Kd.int .u8) 5 _ w.heap.size _ (.slice A23 y159.length c23) y159 from Kd.V_mk (by rw [hy23, hc23]; exact Nat.sub_le_sub_right hroom23 _) hr23)
            have HC163 := Aside0.mk (show y159.length ≤ c23 from by rw [hy23, hc23]; exact Nat.sub_le_sub_right hroom23 _)
            clear hr23 hC23 hroom23 hi023 hsz23 hc23
            have KY23 := Aside0.mk hy23
            have KA23 := Aside0.mk hA23
            clear hy23 hA23
            replace q23 := eq_true q23
            obtain ⟨Ao24, co24, eo24⟩ := Kd.R_slice HO147.out
            (first | subst eo24 | (injection eo24 with f1_ f2_ f3_; have f4_ := f1_.symm; have f5_ := f3_.symm; clear f1_ f2_ f3_; subst f4_; subst f5_))
            refine start_ (n := 14) (S := fun w' => True) (ds := []) #[false, false, false, false, false, false, false, false, false, false, false, false, false, false] (by kernel_rfl) rfl rfl trivial (fun hHeld => ?_); refine with_tabW seal_Open.tab7 seal_Open.bits7 (fun HT_ HW_ => ?_)
            generalize w20.drew = w21 at HO1 HO3 HO143 HO145 HO147 HB HO152 HO163 hHeld ⊢
            refine pure_ (i := 0) (N := some 34) (v := ?_) (a' := ?_) #[true, false, false, false, false, false, false, false, false, false, false, false, false, false] rfl rfl (any_of HT_.out (by kernel_rfl)) (fun _ _ _ h => h) (Or.inl ⟨by rfl, ?_⟩) ?_ ?_
            rotate_left
            · intro w'
              go_simp
              with_reducible rfl
            rotate_left
            · simp only [Act.put, List.setIfInBounds_toArray, List.set_cons_zero, List.set_cons_succ, i64_w, i32_w]
              rfl
            refine pure_ (i := 1) (N := some 35) (v := ?_) (a' := ?_) #[true, true, false, false, false, false, false, false, false, false, false, false, false, false] rfl rfl (any_of HT_.out (by kernel_rfl)) (fun _ _ _ h => h) (Or.inl ⟨by rfl, ?_⟩) ?_ ?_
            rotate_left
            · intro w'
              go_simp
              with_reducible rfl
            rotate_left
            · simp only [Act.put, List.setIfInBounds_toArray, List.set_cons_zero, List.set_cons_succ, i64_w, i32_w]
              rfl
            refine pure_ (i := 2) (N := some 36) (v := ?_) (a' := ?_) #[true, true, true, false, false, false, false, false, false, false, false, false, false, false] rfl rfl (any_of HT_.out (by kernel_rfl)) (fun _ _ _ h => h) (Or.inl ⟨by rfl, ?_⟩) ?_ ?_
            rotate_left
            · intro w'
              go_simp
              with_reducible rfl
            rotate_left
            · simp only [Act.put, List.setIfInBounds_toArray, List.set_cons_zero, List.set_cons_succ, i64_w, i32_w]
              rfl
            refine pure_ (i := 3) (N := some 37) (v := ?_) (a' := ?_) #[true, true, true, true, false, false, false, false, false, false, false, false, false, false] rfl rfl (any_of HT_.out (by kernel_rfl)) (fun _ _ _ h => h) (Or.inl ⟨by rfl, ?_⟩) ?_ ?_
            rotate_left
            · intro w'
              go_simp
              with_reducible rfl
            rotate_left
            · simp only [Act.put, List.setIfInBounds_toArray, List.set_cons_zero, List.set_cons_succ, i64_w, i32_w]
              rfl
            refine pure_ (i := 4) (N := some 38) (v := ?_) (a' := ?_) #[true, true, true, true, true, false, false, false, false, false, false, false, false, false] rfl rfl (any_of HT_.out (by kernel_rfl)) (fun _ _ _ h => h) (Or.inl ⟨by rfl, ?_⟩) ?_ ?_
            rotate_left
            · intro w'
              go_simp
              with_reducible rfl
            rotate_left
            · simp only [Act.put, List.setIfInBounds_toArray, List.set_cons_zero, List.set_cons_succ, i64_w, i32_w]
              rfl
            refine pure_ (i := 5) (N := some 39) (v := ?_) (a' := ?_) #[true, true, true, true, true, true, false, false, false, false, false, false, false, false] rfl rfl (any_of HT_.out (by kernel_rfl)) (fun _ _ _ h => h) (Or.inl ⟨by rfl, ?_⟩) ?_ ?_
            rotate_left
            · intro w'
              go_simp
              with_reducible rfl
            rotate_left
            · simp only [Act.put, List.setIfInBounds_toArray, List.set_cons_zero, List.set_cons_succ, i64_w, i32_w]
              rfl
            refine pure_ (i := 8) (N := some 42) (v := ?_) (a' := ?_) #[true, true, true, true, true, true, false, false, true, false, false, false, false, false] rfl rfl (any_of HT_.out (by kernel_rfl)) (fun _ _ _ h => h) (Or.inl ⟨by rfl, ?_⟩) ?_ ?_
            rotate_left
            · intro w'
              go_simp
              with_reducible rfl
            rotate_left
            · simp only [Act.put, List.setIfInBounds_toArray, List.set_cons_zero, List.set_cons_succ, i64_w, i32_w]
              rfl
            refine pure_ (i := 9) (N := some 43) (v := ?_) (a' := ?_) #[true, true, true, true, true, true, false, false, true, true, false, false, false, false] rfl rfl (any_of HT_.out (by kernel_rfl)) (fun _ _ _ h => h) (Or.inl ⟨by rfl, ?_⟩) ?_ ?_
            rotate_left
            · intro w'
              go_simp
              with_reducible rfl
            rotate_left
            · simp only [Act.put, List.setIfInBounds_toArray, List.set_cons_zero, List.set_cons_succ, i64_w, i32_w]
              rfl
            refine pure_ (i := 10) (N := some 44) (v := ?_) (a' := ?_) #[true, true, true, true, true, true, false, false, true, true, true, false, false, false] rfl rfl (any_of HT_.out (by kernel_rfl)) (fun _ _ _ h => h) (Or.inl ⟨by rfl, ?_⟩) ?_ ?_
            rotate_left
            · intro w'
              go_simp
              with_reducible rfl
            rotate_left
            · simp only [Act.put, List.setIfInBounds_toArray, List.set_cons_zero, List.set_cons_succ, i64_w, i32_w]
              rfl
            refine one_ (i := 6) (N := some 40) #[true, true, true, true, true, true, true, false, true, true, true, false, false, false] rfl rfl (one_of HT_.out (by kernel_rfl)) (by decide) (fun K hK => ?_)
            refine Kd.N_lit_step (Kd.slice 5 (Kd.int .u8)) _ 22 ?hg (N' := 40) ?hd (xs := ([t140, l1, y148] : List (List Int))) (inner := [.slice Ao24 t140.length co24, .slice A1 l1.length c1, .slice A3 y148.length c3]) (ok := (fun k_ => ((P1_ k_ ∨ P3_ k_) ∨ w.heap.size ≤ k_) ∧ some k_ ≠ (v142 : Value).ownBlock ∧ some k_ ≠ (v144 : Value).ownBlock)) (okp := (fun k_ => ((P1_ k_ ∨ P3_ k_) ∨ w.heap.size ≤ k_) ∧ some k_ ≠ (v142 : Value).ownBlock ∧ some k_ ≠ (v144 : Value).ownBlock)) ?hr ?hp (fun _ hk => hk) ((show ∀ k_, w21.heap.size ≤ k_ → (fun k_ => ((P1_ k_ ∨ P3_ k_) ∨ w.heap.size ≤ k_) ∧ some k_ ≠ (v142 : Value).ownBlock ∧ some k_ ≠ (v144 : Value).ownBlock) k_ from fun k_ hk => ⟨(.inr (Nat.le_trans (below_size (by repeat (first | (with_reducible first | exact HB.out | apply below_alloc | apply pw_below_drewN | apply below_drew1) | exact HB.out))) hk)), Kd.fresh' (Kd.R_lt (by (with_reducible repeat (first | apply Kd.R_alloc | apply Kd.R_drewN | apply Kd.R_drew)); exact HO143.out)) k_ hk, Kd.fresh' (Kd.R_lt (by (with_reducible repeat (first | apply Kd.R_alloc | apply Kd.R_drewN | apply Kd.R_drew)); exact HO145.out)) k_ hk⟩) _ (Nat.le_refl _)) (Below.refl _ _) (Nat.le_refl _) (by simp) ?_; (case hd => rfl); (case hg => rfl); (case hr => first | (go_simp; done) | (go_simp; rfl)); (case hp => exact (Reps.one (show Kd.FK (Kd.slice 5 (Kd.int .u8)) _ _ t140 [.slice Ao24 t140.length co24] from (Kd.FK_slice_mk (Kd.R_reads' (Kd.R_mono (ok' := (fun k_ => ((P1_ k_ ∨ P3_ k_) ∨ w.heap.size ≤ k_) ∧ some k_ ≠ (v142 : Value).ownBlock ∧ some k_ ≠ (v144 : Value).ownBlock)) (HO147.out) (fun k_ hk => ⟨(.inr (hk.1)), ⟨hk.2.1, hk.2.2⟩⟩))).2.1 (Kd.R_F (Kd.R_mono (ok' := (fun k_ => ((P1_ k_ ∨ P3_ k_) ∨ w.heap.size ≤ k_) ∧ some k_ ≠ (v142 : Value).ownBlock ∧ some k_ ≠ (v144 : Value).ownBlock)) (HO147.out) (fun k_ hk => ⟨(.inr (hk.1)), ⟨hk.2.1, hk.2.2⟩⟩))))) (Reps.one (show Kd.FK (Kd.slice 5 (Kd.int .u8)) _ _ l1 [.slice A1 l1.length c1] from (Kd.FK_slice_mk (Kd.V_reads' (Kd.V_mono (ok' := (fun k_ => ((P1_ k_ ∨ P3_ k_) ∨ w.heap.size ≤ k_) ∧ some k_ ≠ (v142 : Value).ownBlock ∧ some k_ ≠ (v144 : Value).ownBlock)) (HO1.out) (fun k_ hk => ⟨hk.1.1.1, ⟨hk.1.1.2, hk.1.2⟩⟩))).2.1 (Kd.V_F (Kd.V_mono (ok' := (fun k_ => ((P1_ k_ ∨ P3_ k_) ∨ w.heap.size ≤ k_) ∧ some k_ ≠ (v142 : Value).ownBlock ∧ some k_ ≠ (v144 : Value).ownBlock)) (HO1.out) (fun k_ hk => ⟨hk.1.1.1, ⟨hk.1.1.2, hk.1.2⟩⟩))))) (Reps.one (show Kd.FK (Kd.slice 5 (Kd.int .u8)) _ _ y148 [.slice A3 y148.length c3] from (Kd.FK_slice_mk (Kd.V_reads' (Kd.V_mono (ok' := (fun k_ => ((P1_ k_ ∨ P3_ k_) ∨ w.heap.size ≤ k_) ∧ some k_ ≠ (v142 : Value).ownBlock ∧ some k_ ≠ (v144 : Value).ownBlock)) (HO152.out) (fun k_ hk => ⟨hk.1.1.1, ⟨hk.1.1.2, hk.1.2⟩⟩))).2.1 (Kd.V_F (Kd.V_mono (ok' := (fun k_ => ((P1_ k_ ∨ P3_ k_) ∨ w.heap.size ≤ k_) ∧ some k_ ≠ (v142 : Value).ownBlock ∧ some k_ ≠ (v144 : Value).ownBlock)) (HO152.out) (fun k_ hk => ⟨hk.1.1.1, ⟨hk.1.1.2, hk.1.2⟩⟩))))) (Reps.none _ _)))))
            intro v154 w25 ho26 hb hg_ hnew_
            clear hg_ hnew_
            (first | rw [← Ny153.out] at ho26 | (simp only [Int.reduceToNat] at ho26; rw [← Ny153.out] at ho26))
            have n0_ := Aside0.mk (Kd.V_elder' (by (with_reducible repeat (first | apply Kd.V_alloc | apply Kd.V_drewN | apply Kd.V_drew)); exact HO1.out) (Kd.N_base ho26) hb)
            have n1_ := Aside0.mk (Kd.V_elder' (by (with_reducible repeat (first | apply Kd.V_alloc | apply Kd.V_drewN | apply Kd.V_drew)); exact HO3.out) (Kd.N_base ho26) hb)
            have n2_ := Aside0.mk (Kd.R_below (by (with_reducible repeat (first | apply Kd.R_alloc | apply Kd.R_drewN | apply Kd.R_drew)); exact HO143.out) hb)
            have n3_ := Aside0.mk (Kd.R_below (by (with_reducible repeat (first | apply Kd.R_alloc | apply Kd.R_drewN | apply Kd.R_drew)); exact HO145.out) hb)
            have n4_ := Aside0.mk (Kd.V_elder' (by (with_reducible repeat (first | apply Kd.V_alloc | apply Kd.V_drewN | apply Kd.V_drew)); exact HO152.out) (Kd.N_base ho26) hb)
            have n5_ := Aside0.mk (Kd.V_elder' (by (with_reducible repeat (first | apply Kd.V_alloc | apply Kd.V_drewN | apply Kd.V_drew)); exact HO163.out) (Kd.N_base ho26) hb)
            have n6_ := Aside0.mk (Kd.N_lower ho26 (below_size (by repeat (first | (with_reducible first | exact HB.out | apply below_alloc | apply pw_below_drewN | apply below_drew1) | exact HB.out))))
            have n7_ := Aside0.mk (below_step (by repeat (first | (with_reducible first | exact HB.out | apply below_alloc | apply pw_below_drewN | apply below_drew1) | exact HB.out)) hb)
            clear HO1
            clear HO3
            clear HO143
            clear HO145
            clear HO152
            clear HO163
            clear HB
            clear HO147
            have HO1 := n0_
            have HO3 := n1_
            have HO143 := n2_
            have HO145 := n3_
            have HO152 := n4_
            have HO163 := n5_
            have HO155 := n6_
            have HB := n7_
            clear n0_ n1_ n2_ n3_ n4_ n5_ n6_ n7_
            clear hb ho26
            obtain ⟨Ao27, co27, eo27⟩ := Kd.R_slice HO145.out
            (first | subst eo27 | (injection eo27 with f1_ f2_ f3_; have f4_ := f1_.symm; have f5_ := f3_.symm; clear f1_ f2_ f3_; subst f4_; subst f5_))
            obtain ⟨Ao28, co28, eo28⟩ := Kd.N_slice HO155.out
            (first | subst eo28 | (injection eo28 with f1_ f2_ f3_; have f4_ := f1_.symm; have f5_ := f3_.symm; clear f1_ f2_ f3_; subst f4_; subst f5_))
            refine hK.out _ _ trivial (fun hHeld => ?_)
            clear hK K
            refine norm_ (a' := ?_) ?_ ?_
            rotate_left
            · show Act.put _ (some 40) _ = _
              simp only [Act.put, List.setIfInBounds_toArray, List.set_cons_zero, List.set_cons_succ, i64_w, i32_w]
              rfl
            refine one_ (i := 7) (N := some 41) #[true, true, true, true, true, true, true, true, true, true, true, false, false, false] rfl rfl (one_of HT_.out (by kernel_rfl)) (by decide) (fun K hK => ?_)
            refine goes_ Try.func44 (by kernel_rfl) rfl #[.slice Ao27 t139.length co27, .slice Ao28 y153.length co28] (by rfl) rfl rfl (by (try simp only [List.map_toArray, List.map_cons, List.map_nil]); first | done | rfl | (simp only [List.length_drop, List.length_take]; rfl)) ?_
            with_reducible refine (seal_tag.calls _ _ t139 _ _ y153 t156 _ ?side1 ?side2 ?side3 ?side4 A12.out).mono ?_
            (case side1 => repeat (first | exact (Kd.R_reads' HO145.out).2.2 | (with_reducible refine Kd.C_alloc ?_ _) | (with_reducible refine Kd.C_drewN ?_ _) | (with_reducible refine Kd.C_drew ?_)))
            (case side2 => exact (Kd.R_reads' HO145.out).2.1)
            (case side3 => repeat (first | exact (Kd.N_reads' HO155.out).2.2 | (with_reducible refine Kd.C_alloc ?_ _) | (with_reducible refine Kd.C_drewN ?_ _) | (with_reducible refine Kd.C_drew ?_)))
            (case side4 => exact (Kd.N_reads' HO155.out).2.1)
            rintro e w29 ⟨v157, rfl, ho0, hb⟩
            refine ⟨_, rfl, ?_⟩
            have n0_ := Aside0.mk (Kd.V_elder' (by (with_reducible repeat (first | apply Kd.V_alloc | apply Kd.V_drewN | apply Kd.V_drew)); exact HO1.out) (Kd.R_base ho0) hb)
            have n1_ := Aside0.mk (Kd.V_elder' (by (with_reducible repeat (first | apply Kd.V_alloc | apply Kd.V_drewN | apply Kd.V_drew)); exact HO3.out) (Kd.R_base ho0) hb)
            have n2_ := Aside0.mk (Kd.R_elder' (by (with_reducible repeat (first | apply Kd.R_alloc | apply Kd.R_drewN | apply Kd.R_drew)); exact HO143.out) (Kd.R_base ho0) hb)
            have n3_ := Aside0.mk (Kd.R_elder' (by (with_reducible repeat (first | apply Kd.R_alloc | apply Kd.R_drewN | apply Kd.R_drew)); exact HO145.out) (Kd.R_base ho0) hb)
            have n4_ := Aside0.mk (Kd.V_elder' (by (with_reducible repeat (first | apply Kd.V_alloc | apply Kd.V_drewN | apply Kd.V_drew)); exact HO152.out) (Kd.R_base ho0) hb)
            have n5_ := Aside0.mk (Kd.V_elder' (by (with_reducible repeat (first | apply Kd.V_alloc | apply Kd.V_drewN | apply Kd.V_drew)); exact HO163.out) (Kd.R_base ho0) hb)
            have n6_ := Aside0.mk (Kd.N_elder' (by (with_reducible repeat (first | apply Kd.N_alloc | apply Kd.N_drewN | apply Kd.N_drew)); exact HO155.out) (Kd.R_base ho0) hb)
            have n7_ := Aside0.mk (Kd.R_lower (Kd.R_new' (Kd.R_new' (Kd.R_newM (M := fun k_ => (w.heap.size ≤ k_)) ho0 (below_size (by repeat (first | (with_reducible first | exact HB.out | apply below_alloc | apply pw_below_drewN | apply below_drew1) | exact HB.out))) (fun k_ h_ => h_)) (Kd.R_lt (by (with_reducible repeat (first | apply Kd.R_alloc | apply Kd.R_drewN | apply Kd.R_drew)); exact HO143.out))) (Kd.R_lt (by (with_reducible repeat (first | apply Kd.R_alloc | apply Kd.R_drewN | apply Kd.R_drew)); exact HO145.out))) (below_size (by repeat (first | (with_reducible first | exact HB.out | apply below_alloc | apply pw_below_drewN | apply below_drew1) | exact HB.out))))
            have n8_ := Aside0.mk (below_step (by repeat (first | (with_reducible first | exact HB.out | apply below_alloc | apply pw_below_drewN | apply below_drew1) | exact HB.out)) hb)
            clear HO1
            clear HO3
            clear HO143
            clear HO145
            clear HO152
            clear HO163
            clear HO155
            clear HB
            have HO1 := n0_
            have HO3 := n1_
            have HO143 := n2_
            have HO145 := n3_
            have HO152 := n4_
            have HO163 := n5_
            have HO155 := n6_
            have HO158 := n7_
            have HB := n8_
            clear n0_ n1_ n2_ n3_ n4_ n5_ n6_ n7_ n8_
            (try clear hb)
            (try clear hb2)
            (try clear hk)
            (try clear hi)
            (try clear ho0)
            obtain ⟨Ao30, co30, eo30⟩ := Kd.R_slice HO158.out
            (first | subst eo30 | (injection eo30 with f1_ f2_ f3_; have f4_ := f1_.symm; have f5_ := f3_.symm; clear f1_ f2_ f3_; subst f4_; subst f5_))
            refine hK.out _ _ trivial (fun hHeld => ?_)
            clear hK K
            refine norm_ (a' := ?_) ?_ ?_
            rotate_left
            · show Act.put _ (some 41) _ = _
              simp only [Act.put, List.setIfInBounds_toArray, List.set_cons_zero, List.set_cons_succ, i64_w, i32_w]
              rfl
            refine one_ (i := 11) (N := some 45) #[true, true, true, true, true, true, true, true, true, true, true, true, false, false] rfl rfl (one_of HT_.out (by kernel_rfl)) (by decide) (fun K hK => ?_)
            refine goes_ Try.func46 (by kernel_rfl) rfl #[.slice Ao30 t156.length co30, .slice A23 y159.length c23] (by rfl) rfl rfl (by (try simp only [List.map_toArray, List.map_cons, List.map_nil]); first | done | rfl | (simp only [List.length_drop, List.length_take]; rfl)) ?_
            with_reducible refine (mac_Same.calls _ _ t156 _ _ y159 true _ ?side1 ?side2 ?side3 ?side4 A15.out).mono ?_
            (case side1 => repeat (first | exact (Kd.R_reads' HO158.out).2.2 | (with_reducible refine Kd.C_alloc ?_ _) | (with_reducible refine Kd.C_drewN ?_ _) | (with_reducible refine Kd.C_drew ?_)))
            (case side2 => exact (Kd.R_reads' HO158.out).2.1)
            (case side3 => repeat (first | exact (Kd.V_reads' HO163.out).2.2 | (with_reducible refine Kd.C_alloc ?_ _) | (with_reducible refine Kd.C_drewN ?_ _) | (with_reducible refine Kd.C_drew ?_)))
            (case side4 => exact (Kd.V_reads' HO163.out).2.1)
            rintro e w' ⟨rfl, ⟨nd, rfl⟩⟩
            refine ⟨_, rfl, ?_⟩
            refine hK.out _ _ trivial (fun hHeld => ?_)
            clear hK K
            refine norm_ (a' := ?_) ?_ ?_
            rotate_left
            · show Act.put _ (some 45) _ = _
              simp only [Act.put, List.setIfInBounds_toArray, List.set_cons_zero, List.set_cons_succ, i64_w, i32_w]
              rfl
            refine pure_ (i := 12) (N := some 46) (v := ?_) (a' := ?_) #[true, true, true, true, true, true, true, true, true, true, true, true, true, false] rfl rfl (any_of HT_.out (by kernel_rfl)) (fun _ _ _ h => h) (Or.inl ⟨by rfl, ?_⟩) ?_ ?_
            rotate_left
            · intro w'
              go_simp
              with_reducible rfl
            rotate_left
            · simp only [Act.put, List.setIfInBounds_toArray, List.set_cons_zero, List.set_cons_succ, i64_w, i32_w]
              rfl
            refine pure_ (i := 13) (N := some 33) (v := ?_) (a' := ?_) #[true, true, true, true, true, true, true, true, true, true, true, true, true, true] rfl rfl (any_of HT_.out (by kernel_rfl)) (fun _ _ _ h => h) (Or.inl ⟨by rfl, ?_⟩) ?_ ?_
            rotate_left
            · intro w'
              go_simp
              with_reducible rfl
            rotate_left
            · simp only [Act.put, List.setIfInBounds_toArray, List.set_cons_zero, List.set_cons_succ, i64_w, i32_w]
              rfl
            refine done_ (done_of HT_.out (by kernel_rfl)) ?_
            have q31 : ((ji9) : Int) ≤ ((l3.length : Int) : Int) := of_decide_eq_true (by first | (with_reducible assumption) | assumption)
            obtain ⟨i031, hi031, _, hsz31, _⟩ := info_parts info5
            have hroom31 : l3.length ≤ c3 := (Kd.V_reads' HO3.out).2.1
            have hC31 : Kd.F (Kd.int .u8) _ _ A3 l3.length l3 := (Kd.V_at (base := w.heap.size) HO3.out).2.2
            try clear hcut22
            try clear hcut23
            have hcut31 := cut_to (P := Try.prog) 22 5 .i64 Try.underlying22 hi031 A3 l3.length c3 (ji9) (of_decide_eq_true (by first | (with_reducible assumption) | assumption)) q31 hroom31
            have hr31 := Kd.F_take (m := ((ji9) : Int).toNat) hC31 (by omega)
            have hy31 : y165.length = ((ji9) : Int).toNat := (by rw [Ny165.out, List.length_take]; omega)
            rw [← Ny165.out] at hr31
            rw [← hy31] at hcut31
            have HO169 := Aside0.mk (show Kd.V (Kd.int .u8) 5 _ w.heap.size _ (.slice A3 y165.length c3) y165 from Kd.V_mk (by omega) hr31)
            have HC169 := Aside0.mk (show y165.length ≤ c3 from by omega)
            clear hr31 hC31 hroom31 hi031 hsz31
            have KY31 := Aside0.mk hy31
            clear hy31
            replace q31 := eq_true q31
            obtain ⟨Ao32, co32, eo32⟩ := Kd.R_slice HO143.out
            subst eo32
            try go_wp2_with (first | ((with_reducible refine gate_callee (f := 43) rfl ?_); refine goesL_ (some 52) rfl rfl Try.func43 (by kernel_rfl) rfl #[.slice Ao32 t138.length co32, .slice A1 l1.length c1, .slice A3 y165.length c3] rfl (by (try simp only [List.map_toArray, List.map_cons, List.map_nil]); first | done | rfl | (simp only [List.length_drop, List.length_take]; rfl)) ?_; (with_reducible refine (aes_Stream.calls _ _ t138 _ _ l1 _ _ y165 t170 t171 _ ?side1 ?side2 ?side3 ?side4 ?side5 ?side6 A19.out).mono ?_); (case side1 => repeat (first | exact (Kd.R_reads' HO143.out).2.2 | (with_reducible refine Kd.C_alloc ?_ _) | (with_reducible refine Kd.C_drewN ?_ _) | (with_reducible refine Kd.C_drew ?_))); (case side2 => exact (Kd.R_reads' HO143.out).2.1); (case side3 => repeat (first | exact (Kd.V_reads' HO1.out).2.2 | (with_reducible refine Kd.C_alloc ?_ _) | (with_reducible refine Kd.C_drewN ?_ _) | (with_reducible refine Kd.C_drew ?_))); (case side4 => exact (Kd.V_reads' HO1.out).2.1); (case side5 => repeat (first | exact (Kd.V_reads' HO169.out).2.2 | (with_reducible refine Kd.C_alloc ?_ _) | (with_reducible refine Kd.C_drewN ?_ _) | (with_reducible refine Kd.C_drew ?_))); (case side6 => exact (Kd.V_reads' HO169.out).2.1); rintro e w33 ⟨v172, rfl, ho0, hb⟩; refine ⟨_, rfl, ?_⟩; have n0_ := Aside0.mk (Kd.V_elder' (by (with_reducible repeat (first | apply Kd.V_alloc | apply Kd.V_drewN | apply Kd.V_drew)); exact HO1.out) (Kd.R_base ho0) hb); have n1_ := Aside0.mk (Kd.V_elder' (by (with_reducible repeat (first | apply Kd.V_alloc | apply Kd.V_drewN | apply Kd.V_drew)); exact HO3.out) (Kd.R_base ho0) hb); have n2_ := Aside0.mk (Kd.R_elder' (by (with_reducible repeat (first | apply Kd.R_alloc | apply Kd.R_drewN | apply Kd.R_drew)); exact HO143.out) (Kd.R_base ho0) hb); have n3_ := Aside0.mk (Kd.R_elder' (by (with_reducible repeat (first | apply Kd.R_alloc | apply Kd.R_drewN | apply Kd.R_drew)); exact HO145.out) (Kd.R_base ho0) hb); have n4_ := Aside0.mk (Kd.V_elder' (by (with_reducible repeat (first | apply Kd.V_alloc | apply Kd.V_drewN | apply Kd.V_drew)); exact HO152.out) (Kd.R_base ho0) hb); have n5_ := Aside0.mk (Kd.V_elder' (by (with_reducible repeat (first | apply Kd.V_alloc | apply Kd.V_drewN | apply Kd.V_drew)); exact HO163.out) (Kd.R_base ho0) hb); have n6_ := Aside0.mk (Kd.N_elder' (by (with_reducible repeat (first | apply Kd.N_alloc | apply Kd.N_drewN | apply Kd.N_drew)); exact HO155.out) (Kd.R_base ho0) hb); have n7_ := Aside0.mk (Kd.R_elder' (by (with_reducible repeat (first | apply Kd.R_alloc | apply Kd.R_drewN | apply Kd.R_drew)); exact HO158.out) (Kd.R_base ho0) hb); have n8_ := Aside0.mk (Kd.V_elder' (by (with_reducible repeat (first | apply Kd.V_alloc | apply Kd.V_drewN | apply Kd.V_drew)); exact HO169.out) (Kd.R_base ho0) hb); have n9_ := Aside0.mk (Kd.R_lower (Kd.R_new' (Kd.R_new' (Kd.R_new' (Kd.R_newM (M := fun k_ => (w.heap.size ≤ k_)) ho0 (below_size (by repeat (first | (with_reducible first | exact HB.out | apply below_alloc | apply pw_below_drewN | apply below_drew1) | exact HB.out))) (fun k_ h_ => h_)) (Kd.R_lt (by (with_reducible repeat (first | apply Kd.R_alloc | apply Kd.R_drewN | apply Kd.R_drew)); exact HO143.out))) (Kd.R_lt (by (with_reducible repeat (first | apply Kd.R_alloc | apply Kd.R_drewN | apply Kd.R_drew)); exact HO145.out))) (Kd.R_lt (by (with_reducible repeat (first | apply Kd.R_alloc | apply Kd.R_drewN | apply Kd.R_drew)); exact HO158.out))) (below_size (by repeat (first | (with_reducible first | exact HB.out | apply below_alloc | apply pw_below_drewN | apply below_drew1) | exact HB.out)))); have n10_ := Aside0.mk (below_step (by repeat (first | (with_reducible first | exact HB.out | apply below_alloc | apply pw_below_drewN | apply below_drew1) | exact HB.out)) hb); clear HO1; clear HO3; clear HO143; clear HO145; clear HO152; clear HO163; clear HO155; clear HO158; clear HO169; clear HB; have HO1 := n0_; have HO3 := n1_; have HO143 := n2_; have HO145 := n3_; have HO152 := n4_; have HO163 := n5_; have HO155 := n6_; have HO158 := n7_; have HO169 := n8_; have HO173 := n9_; have HB := n10_; clear n0_ n1_ n2_ n3_ n4_ n5_ n6_ n7_ n8_ n9_ n10_; (try clear hb); (try clear hb2); (try clear hk); (try clear hi); (try clear ho0)))
            go_ret2
            exact ⟨_, by first | rfl | (simp [errW_none, errW_some] <;> rfl) | (simp only [← hji9]; first | rfl | (simp [errW_none, errW_some] <;> rfl)) | (simp [*, errW_none, errW_some] <;> rfl), by (with_reducible repeat (first | apply Kd.R_alloc | apply Kd.R_drewN | apply Kd.R_drew)); exact Kd.R_mono HO173.out (fun _ hk => hk.1.1.1.1), by repeat (first | (with_reducible first | exact HB.out | apply below_alloc | apply pw_below_drewN | apply below_drew1) | exact HB.out)⟩
          · replace c16 := Bool.eq_false_iff.mpr c16
            subst c16
            have H1 : (some (([] : List Int), 5)) = some (r1, r2) := by rw [if_neg (show ¬ (false = true) by decide)] at H; exact H
            clear H
            have H := H1
            clear H1
            simp only [Option.some.injEq, Prod.mk.injEq] at H
            obtain ⟨rfl, rfl⟩ := H
            go_enter Try.func19, Try.ntmps19
            try go_wp2_with (first | ((with_reducible refine gate_callee (f := 42) rfl ?_); refine goesL_ (some 19) rfl rfl Try.func42 (by kernel_rfl) rfl #[.slice A0 l0.length c0, .slice A1 l1.length c1, .slice A2 l2.length c2] rfl (by (try simp only [List.map_toArray, List.map_cons, List.map_nil]); first | done | rfl | (simp only [List.length_drop, List.length_take]; rfl)) ?_; (with_reducible refine (seal_ready.calls _ _ l0 _ _ l1 _ _ l2 t138 t139 t140 t141 _ ?side1 ?side2 ?side3 ?side4 ?side5 ?side6 A5.out).mono ?_); (case side1 => repeat (first | exact HR0.out | (with_reducible refine Kd.C_alloc ?_ _) | (with_reducible refine Kd.C_drewN ?_ _) | (with_reducible refine Kd.C_drew ?_))); (case side2 => exact HC0.out); (case side3 => repeat (first | exact (Kd.V_reads' HO1.out).2.2 | (with_reducible refine Kd.C_alloc ?_ _) | (with_reducible refine Kd.C_drewN ?_ _) | (with_reducible refine Kd.C_drew ?_))); (case side4 => exact (Kd.V_reads' HO1.out).2.1); (case side5 => repeat (first | exact HR2.out | (with_reducible refine Kd.C_alloc ?_ _) | (with_reducible refine Kd.C_drewN ?_ _) | (with_reducible refine Kd.C_drew ?_))); (case side6 => exact HC2.out); rintro e w34 ⟨v142, v144, v146, rfl, ho0, ho1, ho2, hb⟩; refine ⟨_, rfl, ?_⟩; have n0_ := Aside0.mk (Kd.V_mono (Kd.V_told (Kd.V_told (Kd.V_told (Kd.V_old (by (with_reducible repeat (first | apply Kd.V_alloc | apply Kd.V_drewN | apply Kd.V_drew)); exact HO1.out) hb) (Kd.R_base ho0)) (Kd.R_base ho1)) (Kd.R_base ho2)) (fun _ h_ => h_.1)); have n1_ := Aside0.mk (Kd.V_mono (Kd.V_told (Kd.V_told (Kd.V_told (Kd.V_old (by (with_reducible repeat (first | apply Kd.V_alloc | apply Kd.V_drewN | apply Kd.V_drew)); exact HO3.out) hb) (Kd.R_base ho0)) (Kd.R_base ho1)) (Kd.R_base ho2)) (fun _ h_ => h_.1)); have n2_ := Aside0.mk (Kd.R_lower (Kd.R_newM (M := fun k_ => (w.heap.size ≤ k_)) ho0 (below_size (by repeat (first | (with_reducible first | exact HB.out | apply below_alloc | apply pw_below_drewN | apply below_drew1) | exact HB.out))) (fun k_ h_ => h_)) (below_size (by repeat (first | (with_reducible first | exact HB.out | apply below_alloc | apply pw_below_drewN | apply below_drew1) | exact HB.out)))); have n3_ := Aside0.mk (Kd.R_lower (Kd.R_newM (M := fun k_ => (w.heap.size ≤ k_)) ho1 (below_size (by repeat (first | (with_reducible first | exact HB.out | apply below_alloc | apply pw_below_drewN | apply below_drew1) | exact HB.out))) (fun k_ h_ => h_)) (below_size (by repeat (first | (with_reducible first | exact HB.out | apply below_alloc | apply pw_below_drewN | apply below_drew1) | exact HB.out)))); have n4_ := Aside0.mk (Kd.R_lower (Kd.R_newM (M := fun k_ => (w.heap.size ≤ k_)) ho2 (below_size (by repeat (first | (with_reducible first | exact HB.out | apply below_alloc | apply pw_below_drewN | apply below_drew1) | exact HB.out))) (fun k_ h_ => h_)) (below_size (by repeat (first | (with_reducible first | exact HB.out | apply below_alloc | apply pw_below_drewN | apply below_drew1) | exact HB.out)))); have n5_ := Aside0.mk (below_step (by repeat (first | (with_reducible first | exact HB.out | apply below_alloc | apply pw_below_drewN | apply below_drew1) | exact HB.out)) hb); clear HO1; clear HO3; clear HB; have HO1 := n0_; have HO3 := n1_; have HO143 := n2_; have HO145 := n3_; have HO147 := n4_; have HB := n5_; clear n0_ n1_ n2_ n3_ n4_ n5_; (try clear hb); (try clear hb2); (try clear hk); (try clear hi); (try clear ho0); (try clear ho1); (try clear ho2)))
            have n0_ := Aside0.mk (Kd.V_drew HO1.out)
            have n1_ := Aside0.mk (Kd.V_drew HO3.out)
            have n2_ := Aside0.mk (Kd.R_drew HO143.out)
            have n3_ := Aside0.mk (Kd.R_drew HO145.out)
            have n4_ := Aside0.mk (Kd.R_drew HO147.out)
            have n5_ := Aside0.mk (below_drew1 HB.out)
            clear HO1
            clear HO3
            clear HO143
            clear HO145
            clear HO147
            clear HB
            have HO1 := n0_
            have HO3 := n1_
            have HO143 := n2_
            have HO145 := n3_
            have HO147 := n4_
            have HB := n5_
            clear n0_ n1_ n2_ n3_ n4_ n5_
            have q36 : ((ji9) : Int) ≤ ((l3.length : Int) : Int) := of_decide_eq_true (by first | (with_reducible assumption) | assumption)
            obtain ⟨i036, hi036, _, hsz36, _⟩ := info_parts info5
            have hroom36 : l3.length ≤ c3 := (Kd.V_reads' HO3.out).2.1
            have hC36 : Kd.F (Kd.int .u8) _ _ A3 l3.length l3 := (Kd.V_at (base := w.heap.size) HO3.out).2.2
            try clear hcut22
            try clear hcut23
            try clear hcut31
            have hcut36 := cut_to (P := Try.prog) 22 5 .i64 Try.underlying22 hi036 A3 l3.length c3 (ji9) (of_decide_eq_true (by first | (with_reducible assumption) | assumption)) q36 hroom36
            have hr36 := Kd.F_take (m := ((ji9) : Int).toNat) hC36 (by omega)
            have hy36 : y148.length = ((ji9) : Int).toNat := (by rw [Ny148.out, List.length_take]; omega)
            rw [← Ny148.out] at hr36
            rw [← hy36] at hcut36
            have HO152 := Aside0.mk (show Kd.V (Kd.int .u8) 5 _ w.heap.size _ (.slice A3 y148.length c3) y148 from Kd.V_mk (by omega) hr36)
            have HC152 := Aside0.mk (show y148.length ≤ c3 from by omega)
            clear hr36 hC36 hroom36 hi036 hsz36
            have KY36 := Aside0.mk hy36
            clear hy36
            replace q36 := eq_true q36
            have q37 : ((ji9) : Int) ≤ ((l3.length : Int) : Int) := of_decide_eq_true (by first | (with_reducible assumption) | assumption)
            obtain ⟨i037, hi037, _, hsz37, _⟩ := info_parts info5
            have hroom37 : l3.length ≤ c3 := (Kd.V_reads' HO3.out).2.1
            have hC37 : Kd.F (Kd.int .u8) _ _ A3 l3.length l3 := (Kd.V_at (base := w.heap.size) HO3.out).2.2
            have q037 : (0 : Int) ≤ ((ji9) : Int) := of_decide_eq_true (by first | (with_reducible assumption) | assumption)
            try clear hcut22
            try clear hcut23
            try clear hcut31
            have hcut37 := cut_from (P := Try.prog) 22 5 .i64 Try.underlying22 hi037 1 hsz37 A3 l3.length c3 (ji9) q037 q37
            have hr37 := Kd.F_cut (m := ((ji9) : Int).toNat) (c := c3) hC37 (by omega) hroom37
            obtain ⟨A37, hA37⟩ : ∃ A1, A1 = (if c3 = ((ji9) : Int).toNat then A3 else (A3 : Option Addr).map (·.add (((ji9) : Int).toNat * 1))) := ⟨_, rfl⟩
            obtain ⟨c37, hc37⟩ : ∃ c1, c1 = c3 - ((ji9) : Int).toNat := ⟨_, rfl⟩
            have hy37 : y159.length = l3.length - ((ji9) : Int).toNat := (by rw [Ny159.out, List.length_drop] <;> omega)
            rw [show (l3).drop ((ji9) : Int).toNat = y159 from Ny159.out.symm] at hr37
            replace hr37 : Kd.F (Kd.int .u8) _ _ A37 y159.length y159 := (by rw [hA37]; exact hr37)
            rw [← hy37, ← hA37, ← hc37] at hcut37
            have HO163 := Aside0.mk (show Kd.V (Kd.int .u8) 5 _ w.heap.size _ (.slice A37 y159.length c37) y159 from Kd.V_mk (by rw [hy37, hc37]; exact Nat.sub_le_sub_right hroom37 _) hr37)
            have HC163 := Aside0.mk (show y159.length ≤ c37 from by rw [hy37, hc37]; exact Nat.sub_le_sub_right hroom37 _)
            clear hr37 hC37 hroom37 hi037 hsz37 hc37
            have KY37 := Aside0.mk hy37
            have KA37 := Aside0.mk hA37
            clear hy37 hA37
            replace q37 := eq_true q37
            obtain ⟨Ao38, co38, eo38⟩ := Kd.R_slice HO147.out
            (first | subst eo38 | (injection eo38 with f1_ f2_ f3_; have f4_ := f1_.symm; have f5_ := f3_.symm; clear f1_ f2_ f3_; subst f4_; subst f5_))
            refine start_ (n := 14) (S := fun w' => True) (ds := []) #[false, false, false, false, false, false, false, false, false, false, false, false, false, false] (by kernel_rfl) rfl rfl trivial (fun hHeld => ?_); refine with_tabW seal_Open.tab7 seal_Open.bits7 (fun HT_ HW_ => ?_)
            generalize w34.drew = w35 at HO1 HO3 HO143 HO145 HO147 HB HO152 HO163 hHeld ⊢
            refine pure_ (i := 0) (N := some 34) (v := ?_) (a' := ?_) #[true, false, false, false, false, false, false, false, false, false, false, false, false, false] rfl rfl (any_of HT_.out (by kernel_rfl)) (fun _ _ _ h => h) (Or.inl ⟨by rfl, ?_⟩) ?_ ?_
            rotate_left
            · intro w'
              go_simp
              with_reducible rfl
            rotate_left
            · simp only [Act.put, List.setIfInBounds_toArray, List.set_cons_zero, List.set_cons_succ, i64_w, i32_w]
              rfl
            refine pure_ (i := 1) (N := some 35) (v := ?_) (a' := ?_) #[true, true, false, false, false, false, false, false, false, false, false, false, false, false] rfl rfl (any_of HT_.out (by kernel_rfl)) (fun _ _ _ h => h) (Or.inl ⟨by rfl, ?_⟩) ?_ ?_
            rotate_left
            · intro w'
              go_simp
              with_reducible rfl
            rotate_left
            · simp only [Act.put, List.setIfInBounds_toArray, List.set_cons_zero, List.set_cons_succ, i64_w, i32_w]
              rfl
            refine pure_ (i := 2) (N := some 36) (v := ?_) (a' := ?_) #[true, true, true, false, false, false, false, false, false, false, false, false, false, false] rfl rfl (any_of HT_.out (by kernel_rfl)) (fun _ _ _ h => h) (Or.inl ⟨by rfl, ?_⟩) ?_ ?_
            rotate_left
            · intro w'
              go_simp
              with_reducible rfl
            rotate_left
            · simp only [Act.put, List.setIfInBounds_toArray, List.set_cons_zero, List.set_cons_succ, i64_w, i32_w]
              rfl
            refine pure_ (i := 3) (N := some 37) (v := ?_) (a' := ?_) #[true, true, true, true, false, false, false, false, false, false, false, false, false, false] rfl rfl (any_of HT_.out (by kernel_rfl)) (fun _ _ _ h => h) (Or.inl ⟨by rfl, ?_⟩) ?_ ?_
            rotate_left
            · intro w'
              go_simp
              with_reducible rfl
            rotate_left
            · simp only [Act.put, List.setIfInBounds_toArray, List.set_cons_zero, List.set_cons_succ, i64_w, i32_w]
              rfl
            refine pure_ (i := 4) (N := some 38) (v := ?_) (a' := ?_) #[true, true, true, true, true, false, false, false, false, false, false, false, false, false] rfl rfl (any_of HT_.out (by kernel_rfl)) (fun _ _ _ h => h) (Or.inl ⟨by rfl, ?_⟩) ?_ ?_
            rotate_left
            · intro w'
              go_simp
              with_reducible rfl
            rotate_left
            · simp only [Act.put, List.setIfInBounds_toArray, List.set_cons_zero, List.set_cons_succ, i64_w, i32_w]
              rfl
            refine pure_ (i := 5) (N := some 39) (v := ?_) (a' := ?_) #[true, true, true, true, true, true, false, false, false, false, false, false, false, false] rfl rfl (any_of HT_.out (by kernel_rfl)) (fun _ _ _ h => h) (Or.inl ⟨by rfl, ?_⟩) ?_ ?_
            rotate_left
            · intro w'
              go_simp
              with_reducible rfl
            rotate_left
            · simp only [Act.put, List.setIfInBounds_toArray, List.set_cons_zero, List.set_cons_succ, i64_w, i32_w]
              rfl
            refine pure_ (i := 8) (N := some 42) (v := ?_) (a' := ?_) #[true, true, true, true, true, true, false, false, true, false, false, false, false, false] rfl rfl (any_of HT_.out (by kernel_rfl)) (fun _ _ _ h => h) (Or.inl ⟨by rfl, ?_⟩) ?_ ?_
            rotate_left
            · intro w'
              go_simp
              with_reducible rfl
            rotate_left
            · simp only [Act.put, List.setIfInBounds_toArray, List.set_cons_zero, List.set_cons_succ, i64_w, i32_w]
              rfl
            refine pure_ (i := 9) (N := some 43) (v := ?_) (a' := ?_) #[true, true, true, true, true, true, false, false, true, true, false, false, false, false] rfl rfl (any_of HT_.out (by kernel_rfl)) (fun _ _ _ h => h) (Or.inl ⟨by rfl, ?_⟩) ?_ ?_
            rotate_left
            · intro w'
              go_simp
              with_reducible rfl
            rotate_left
            · simp only [Act.put, List.setIfInBounds_toArray, List.set_cons_zero, List.set_cons_succ, i64_w, i32_w]
              rfl
            refine pure_ (i := 10) (N := some 44) (v := ?_) (a' := ?_) #[true, true, true, true, true, true, false, false, true, true, true, false, false, false] rfl rfl (any_of HT_.out (by kernel_rfl)) (fun _ _ _ h => h) (Or.inl ⟨by rfl, ?_⟩) ?_ ?_
            rotate_left
            · intro w'
              go_simp
              with_reducible rfl
            rotate_left
            · simp only [Act.put, List.setIfInBounds_toArray, List.set_cons_zero, List.set_cons_succ, i64_w, i32_w]
              rfl
            refine one_ (i := 6) (N := some 40) #[true, true, true, true, true, true, true, false, true, true, true, false, false, false] rfl rfl (one_of HT_.out (by kernel_rfl)) (by decide) (fun K hK => ?_)
            refine Kd.N_lit_step (Kd.slice 5 (Kd.int .u8)) _ 22 ?hg (N' := 40) ?hd (xs := ([t140, l1, y148] : List (List Int))) (inner := [.slice Ao38 t140.length co38, .slice A1 l1.length c1, .slice A3 y148.length c3]) (ok := (fun k_ => ((P1_ k_ ∨ P3_ k_) ∨ w.heap.size ≤ k_) ∧ some k_ ≠ (v142 : Value).ownBlock ∧ some k_ ≠ (v144 : Value).ownBlock)) (okp := (fun k_ => ((P1_ k_ ∨ P3_ k_) ∨ w.heap.size ≤ k_) ∧ some k_ ≠ (v142 : Value).ownBlock ∧ some k_ ≠ (v144 : Value).ownBlock)) ?hr ?hp (fun _ hk => hk) ((show ∀ k_, w35.heap.size ≤ k_ → (fun k_ => ((P1_ k_ ∨ P3_ k_) ∨ w.heap.size ≤ k_) ∧ some k_ ≠ (v142 : Value).ownBlock ∧ some k_ ≠ (v144 : Value).ownBlock) k_ from fun k_ hk => ⟨(.inr (Nat.le_trans (below_size (by repeat (first | (with_reducible first | exact HB.out | apply below_alloc | apply pw_below_drewN | apply below_drew1) | exact HB.out))) hk)), Kd.fresh' (Kd.R_lt (by (with_reducible repeat (first | apply Kd.R_alloc | apply Kd.R_drewN | apply Kd.R_drew)); exact HO143.out)) k_ hk, Kd.fresh' (Kd.R_lt (by (with_reducible repeat (first | apply Kd.R_alloc | apply Kd.R_drewN | apply Kd.R_drew)); exact HO145.out)) k_ hk⟩) _ (Nat.le_refl _)) (Below.refl _ _) (Nat.le_refl _) (by simp) ?_; (case hd => rfl); (case hg => rfl); (case hr => first | (go_simp; done) | (go_simp; rfl)); (case hp => exact (Reps.one (show Kd.FK (Kd.slice 5 (Kd.int .u8)) _ _ t140 [.slice Ao38 t140.length co38] from (Kd.FK_slice_mk (Kd.R_reads' (Kd.R_mono (ok' := (fun k_ => ((P1_ k_ ∨ P3_ k_) ∨ w.heap.size ≤ k_) ∧ some k_ ≠ (v142 : Value).ownBlock ∧ some k_ ≠ (v144 : Value).ownBlock)) (HO147.out) (fun k_ hk => ⟨(.inr (hk.1)), ⟨hk.2.1, hk.2.2⟩⟩))).2.1 (Kd.R_F (Kd.R_mono (ok' := (fun k_ => ((P1_ k_ ∨ P3_ k_) ∨ w.heap.size ≤ k_) ∧ some k_ ≠ (v142 : Value).ownBlock ∧ some k_ ≠ (v144 : Value).ownBlock)) (HO147.out) (fun k_ hk => ⟨(.inr (hk.1)), ⟨hk.2.1, hk.2.2⟩⟩))))) (Reps.one (show Kd.FK (Kd.slice 5 (Kd.int .u8)) _ _ l1 [.slice A1 l1.length c1] from (Kd.FK_slice_mk (Kd.V_reads' (Kd.V_mono (ok' := (fun k_ => ((P1_ k_ ∨ P3_ k_) ∨ w.heap.size ≤ k_) ∧ some k_ ≠ (v142 : Value).ownBlock ∧ some k_ ≠ (v144 : Value).ownBlock)) (HO1.out) (fun k_ hk => ⟨hk.1.1.1, ⟨hk.1.1.2, hk.1.2⟩⟩))).2.1 (Kd.V_F (Kd.V_mono (ok' := (fun k_ => ((P1_ k_ ∨ P3_ k_) ∨ w.heap.size ≤ k_) ∧ some k_ ≠ (v142 : Value).ownBlock ∧ some k_ ≠ (v144 : Value).ownBlock)) (HO1.out) (fun k_ hk => ⟨hk.1.1.1, ⟨hk.1.1.2, hk.1.2⟩⟩))))) (Reps.one (show Kd.FK (Kd.slice 5 (Kd.int .u8)) _ _ y148 [.slice A3 y148.length c3] from (Kd.FK_slice_mk (Kd.V_reads' (Kd.V_mono (ok' := (fun k_ => ((P1_ k_ ∨ P3_ k_) ∨ w.heap.size ≤ k_) ∧ some k_ ≠ (v142 : Value).ownBlock ∧ some k_ ≠ (v144 : Value).ownBlock)) (HO152.out) (fun k_ hk => ⟨hk.1.1.1, ⟨hk.1.1.2, hk.1.2⟩⟩))).2.1 (Kd.V_F (Kd.V_mono (ok' := (fun k_ => ((P1_ k_ ∨ P3_ k_) ∨ w.heap.size ≤ k_) ∧ some k_ ≠ (v142 : Value).ownBlock ∧ some k_ ≠ (v144 : Value).ownBlock)) (HO152.out) (fun k_ hk => ⟨hk.1.1.1, ⟨hk.1.1.2, hk.1.2⟩⟩))))) (Reps.none _ _)))))
            intro v154 w39 ho40 hb hg_ hnew_
            clear hg_ hnew_
            (first | rw [← Ny153.out] at ho40 | (simp only [Int.reduceToNat] at ho40; rw [← Ny153.out] at ho40))
            have n0_ := Aside0.mk (Kd.V_elder' (by (with_reducible repeat (first | apply Kd.V_alloc | apply Kd.V_drewN | apply Kd.V_drew)); exact HO1.out) (Kd.N_base ho40) hb)
            have n1_ := Aside0.mk (Kd.V_elder' (by (with_reducible repeat (first | apply Kd.V_alloc | apply Kd.V_drewN | apply Kd.V_drew)); exact HO3.out) (Kd.N_base ho40) hb)
            have n2_ := Aside0.mk (Kd.R_below (by (with_reducible repeat (first | apply Kd.R_alloc | apply Kd.R_drewN | apply Kd.R_drew)); exact HO143.out) hb)
            have n3_ := Aside0.mk (Kd.R_below (by (with_reducible repeat (first | apply Kd.R_alloc | apply Kd.R_drewN | apply Kd.R_drew)); exact HO145.out) hb)
            have n4_ := Aside0.mk (Kd.V_elder' (by (with_reducible repeat (first | apply Kd.V_alloc | apply Kd.V_drewN | apply Kd.V_drew)); exact HO152.out) (Kd.N_base ho40) hb)
            have n5_ := Aside0.mk (Kd.V_elder' (by (with_reducible repeat (first | apply Kd.V_alloc | apply Kd.V_drewN | apply Kd.V_drew)); exact HO163.out) (Kd.N_base ho40) hb)
            have n6_ := Aside0.mk (Kd.N_lower ho40 (below_size (by repeat (first | (with_reducible first | exact HB.out | apply below_alloc | apply pw_below_drewN | apply below_drew1) | exact HB.out))))
            have n7_ := Aside0.mk (below_step (by repeat (first | (with_reducible first | exact HB.out | apply below_alloc | apply pw_below_drewN | apply below_drew1) | exact HB.out)) hb)
            clear HO1
            clear HO3
            clear HO143
            clear HO145
            clear HO152
            clear HO163
            clear HB
            clear HO147
            have HO1 := n0_
            have HO3 := n1_
            have HO143 := n2_
            have HO145 := n3_
            have HO152 := n4_
            have HO163 := n5_
            have HO155 := n6_
            have HB := n7_
            clear n0_ n1_ n2_ n3_ n4_ n5_ n6_ n7_
            clear hb ho40
            obtain ⟨Ao41, co41, eo41⟩ := Kd.R_slice HO145.out
            (first | subst eo41 | (injection eo41 with f1_ f2_ f3_; have f4_ := f1_.symm; have f5_ := f3_.symm; clear f1_ f2_ f3_; subst f4_; subst f5_))
            obtain ⟨Ao42, co42, eo42⟩ := Kd.N_slice HO155.out
            (first | subst eo42 | (injection eo42 with f1_ f2_ f3_; have f4_ := f1_.symm; have f5_ := f3_.symm; clear f1_ f2_ f3_; subst f4_; subst f5_))
            refine hK.out _ _ trivial (fun hHeld => ?_)
            clear hK K
            refine norm_ (a' := ?_) ?_ ?_
            rotate_left
            · show Act.put _ (some 40) _ = _
              simp only [Act.put, List.setIfInBounds_toArray, List.set_cons_zero, List.set_cons_succ, i64_w, i32_w]
              rfl
            refine one_ (i := 7) (N := some 41) #[true, true, true, true, true, true, true, true, true, true, true, false, false, false] rfl rfl (one_of HT_.out (by kernel_rfl)) (by decide) (fun K hK => ?_)
            refine goes_ Try.func44 (by kernel_rfl) rfl #[.slice Ao41 t139.length co41, .slice Ao42 y153.length co42] (by rfl) rfl rfl (by (try simp only [List.map_toArray, List.map_cons, List.map_nil]); first | done | rfl | (simp only [List.length_drop, List.length_take]; rfl)) ?_
            with_reducible refine (seal_tag.calls _ _ t139 _ _ y153 t156 _ ?side1 ?side2 ?side3 ?side4 A12.out).mono ?_
            (case side1 => repeat (first | exact (Kd.R_reads' HO145.out).2.2 | (with_reducible refine Kd.C_alloc ?_ _) | (with_reducible refine Kd.C_drewN ?_ _) | (with_reducible refine Kd.C_drew ?_)))
            (case side2 => exact (Kd.R_reads' HO145.out).2.1)
            (case side3 => repeat (first | exact (Kd.N_reads' HO155.out).2.2 | (with_reducible refine Kd.C_alloc ?_ _) | (with_reducible refine Kd.C_drewN ?_ _) | (with_reducible refine Kd.C_drew ?_)))
            (case side4 => exact (Kd.N_reads' HO155.out).2.1)
            rintro e w43 ⟨v157, rfl, ho0, hb⟩
            refine ⟨_, rfl, ?_⟩
            have n0_ := Aside0.mk (Kd.V_elder' (by (with_reducible repeat (first | apply Kd.V_alloc | apply Kd.V_drewN | apply Kd.V_drew)); exact HO1.out) (Kd.R_base ho0) hb)
            have n1_ := Aside0.mk (Kd.V_elder' (by (with_reducible repeat (first | apply Kd.V_alloc | apply Kd.V_drewN | apply Kd.V_drew)); exact HO3.out) (Kd.R_base ho0) hb)
            have n2_ := Aside0.mk (Kd.R_elder' (by (with_reducible repeat (first | apply Kd.R_alloc | apply Kd.R_drewN | apply Kd.R_drew)); exact HO143.out) (Kd.R_base ho0) hb)
            have n3_ := Aside0.mk (Kd.R_elder' (by (with_reducible repeat (first | apply Kd.R_alloc | apply Kd.R_drewN | apply Kd.R_drew)); exact HO145.out) (Kd.R_base ho0) hb)
            have n4_ := Aside0.mk (Kd.V_elder' (by (with_reducible repeat (first | apply Kd.V_alloc | apply Kd.V_drewN | apply Kd.V_drew)); exact HO152.out) (Kd.R_base ho0) hb)
            have n5_ := Aside0.mk (Kd.V_elder' (by (with_reducible repeat (first | apply Kd.V_alloc | apply Kd.V_drewN | apply Kd.V_drew)); exact HO163.out) (Kd.R_base ho0) hb)
            have n6_ := Aside0.mk (Kd.N_elder' (by (with_reducible repeat (first | apply Kd.N_alloc | apply Kd.N_drewN | apply Kd.N_drew)); exact HO155.out) (Kd.R_base ho0) hb)
            have n7_ := Aside0.mk (Kd.R_lower (Kd.R_new' (Kd.R_new' (Kd.R_newM (M := fun k_ => (w.heap.size ≤ k_)) ho0 (below_size (by repeat (first | (with_reducible first | exact HB.out | apply below_alloc | apply pw_below_drewN | apply below_drew1) | exact HB.out))) (fun k_ h_ => h_)) (Kd.R_lt (by (with_reducible repeat (first | apply Kd.R_alloc | apply Kd.R_drewN | apply Kd.R_drew)); exact HO143.out))) (Kd.R_lt (by (with_reducible repeat (first | apply Kd.R_alloc | apply Kd.R_drewN | apply Kd.R_drew)); exact HO145.out))) (below_size (by repeat (first | (with_reducible first | exact HB.out | apply below_alloc | apply pw_below_drewN | apply below_drew1) | exact HB.out))))
            have n8_ := Aside0.mk (below_step (by repeat (first | (with_reducible first | exact HB.out | apply below_alloc | apply pw_below_drewN | apply below_drew1) | exact HB.out)) hb)
            clear HO1
            clear HO3
            clear HO143
            clear HO145
            clear HO152
            clear HO163
            clear HO155
            clear HB
            have HO1 := n0_
            have HO3 := n1_
            have HO143 := n2_
            have HO145 := n3_
            have HO152 := n4_
            have HO163 := n5_
            have HO155 := n6_
            have HO158 := n7_
            have HB := n8_
            clear n0_ n1_ n2_ n3_ n4_ n5_ n6_ n7_ n8_
            (try clear hb)
            (try clear hb2)
            (try clear hk)
            (try clear hi)
            (try clear ho0)
            obtain ⟨Ao44, co44, eo44⟩ := Kd.R_slice HO158.out
            (first | subst eo44 | (injection eo44 with f1_ f2_ f3_; have f4_ := f1_.symm; have f5_ := f3_.symm; clear f1_ f2_ f3_; subst f4_; subst f5_))
            refine hK.out _ _ trivial (fun hHeld => ?_)
            clear hK K
            refine norm_ (a' := ?_) ?_ ?_
            rotate_left
            · show Act.put _ (some 41) _ = _
              simp only [Act.put, List.setIfInBounds_toArray, List.set_cons_zero, List.set_cons_succ, i64_w, i32_w]
              rfl
            refine one_ (i := 11) (N := some 45) #[true, true, true, true, true, true, true, true, true, true, true, true, false, false] rfl rfl (one_of HT_.out (by kernel_rfl)) (by decide) (fun K hK => ?_)
            refine goes_ Try.func46 (by kernel_rfl) rfl #[.slice Ao44 t156.length co44, .slice A37 y159.length c37] (by rfl) rfl rfl (by (try simp only [List.map_toArray, List.map_cons, List.map_nil]); first | done | rfl | (simp only [List.length_drop, List.length_take]; rfl)) ?_
            with_reducible refine (mac_Same.calls _ _ t156 _ _ y159 false _ ?side1 ?side2 ?side3 ?side4 A15.out).mono ?_
            (case side1 => repeat (first | exact (Kd.R_reads' HO158.out).2.2 | (with_reducible refine Kd.C_alloc ?_ _) | (with_reducible refine Kd.C_drewN ?_ _) | (with_reducible refine Kd.C_drew ?_)))
            (case side2 => exact (Kd.R_reads' HO158.out).2.1)
            (case side3 => repeat (first | exact (Kd.V_reads' HO163.out).2.2 | (with_reducible refine Kd.C_alloc ?_ _) | (with_reducible refine Kd.C_drewN ?_ _) | (with_reducible refine Kd.C_drew ?_)))
            (case side4 => exact (Kd.V_reads' HO163.out).2.1)
            rintro e w' ⟨rfl, ⟨nd, rfl⟩⟩
            refine ⟨_, rfl, ?_⟩
            refine hK.out _ _ trivial (fun hHeld => ?_)
            clear hK K
            refine norm_ (a' := ?_) ?_ ?_
            rotate_left
            · show Act.put _ (some 45) _ = _
              simp only [Act.put, List.setIfInBounds_toArray, List.set_cons_zero, List.set_cons_succ, i64_w, i32_w]
              rfl
            refine pure_ (i := 12) (N := some 46) (v := ?_) (a' := ?_) #[true, true, true, true, true, true, true, true, true, true, true, true, true, false] rfl rfl (any_of HT_.out (by kernel_rfl)) (fun _ _ _ h => h) (Or.inl ⟨by rfl, ?_⟩) ?_ ?_
            rotate_left
            · intro w'
              go_simp
              with_reducible rfl
            rotate_left
            · simp only [Act.put, List.setIfInBounds_toArray, List.set_cons_zero, List.set_cons_succ, i64_w, i32_w]
              rfl
            refine pure_ (i := 13) (N := some 33) (v := ?_) (a' := ?_) #[true, true, true, true, true, true, true, true, true, true, true, true, true, true] rfl rfl (any_of HT_.out (by kernel_rfl)) (fun _ _ _ h => h) (Or.inl ⟨by rfl, ?_⟩) ?_ ?_
            rotate_left
            · intro w'
              go_simp
              with_reducible rfl
            rotate_left
            · simp only [Act.put, List.setIfInBounds_toArray, List.set_cons_zero, List.set_cons_succ, i64_w, i32_w]
              rfl
            refine done_ (done_of HT_.out (by kernel_rfl)) ?_
            try go_wp2
            go_ret2
            exact ⟨_, by first | rfl | (simp [errW_none, errW_some] <;> rfl) | (simp only [← hji9]; first | rfl | (simp [errW_none, errW_some] <;> rfl)) | (simp [*, errW_none, errW_some] <;> rfl), by first | exact Kd.R_nil _ _ _ _ _ | exact Kd.N_nil _ _ _ _ _ | exact Kd.V_nil _ _ _ _ _ | exact Kd.Q_nil _ _ _ _ _ | exact Kd.S_nil _ _ _ _ _, by repeat (first | (with_reducible first | exact HB.out | apply below_alloc | apply pw_below_drewN | apply below_drew1) | exact HB.out)⟩
        · rw [if_neg c11] at H
          exact absurd H (by simp)
      · rw [if_neg c10] at H
        exact absurd H (by simp)
  · rw [if_neg c6] at H
    have c6b0 : (t141 == 0) = false := beq_eq_false_iff_ne.mpr c6
    have c6b1 : (t141 != 0) = true := bne_iff_ne.mpr c6
    simp only [Option.some.injEq, Prod.mk.injEq] at H
    obtain ⟨rfl, rfl⟩ := H
    go_enter Try.func19, Try.ntmps19
    go_wp2_with (first | ((with_reducible refine gate_callee (f := 42) rfl ?_); refine goesL_ (some 19) rfl rfl Try.func42 (by kernel_rfl) rfl #[.slice A0 l0.length c0, .slice A1 l1.length c1, .slice A2 l2.length c2] rfl (by (try simp only [List.map_toArray, List.map_cons, List.map_nil]); first | done | rfl | (simp only [List.length_drop, List.length_take]; rfl)) ?_; (with_reducible refine (seal_ready.calls _ _ l0 _ _ l1 _ _ l2 t138 t139 t140 t141 _ ?side1 ?side2 ?side3 ?side4 ?side5 ?side6 A5.out).mono ?_); (case side1 => repeat (first | exact HR0.out | (with_reducible refine Kd.C_alloc ?_ _) | (with_reducible refine Kd.C_drewN ?_ _) | (with_reducible refine Kd.C_drew ?_))); (case side2 => exact HC0.out); (case side3 => repeat (first | exact (Kd.V_reads' HO1.out).2.2 | (with_reducible refine Kd.C_alloc ?_ _) | (with_reducible refine Kd.C_drewN ?_ _) | (with_reducible refine Kd.C_drew ?_))); (case side4 => exact (Kd.V_reads' HO1.out).2.1); (case side5 => repeat (first | exact HR2.out | (with_reducible refine Kd.C_alloc ?_ _) | (with_reducible refine Kd.C_drewN ?_ _) | (with_reducible refine Kd.C_drew ?_))); (case side6 => exact HC2.out); rintro e w45 ⟨v142, v144, v146, rfl, ho0, ho1, ho2, hb⟩; refine ⟨_, rfl, ?_⟩; have n0_ := Aside0.mk (Kd.V_mono (Kd.V_told (Kd.V_told (Kd.V_told (Kd.V_old (by (with_reducible repeat (first | apply Kd.V_alloc | apply Kd.V_drewN | apply Kd.V_drew)); exact HO1.out) hb) (Kd.R_base ho0)) (Kd.R_base ho1)) (Kd.R_base ho2)) (fun _ h_ => h_.1)); have n1_ := Aside0.mk (Kd.V_mono (Kd.V_told (Kd.V_told (Kd.V_told (Kd.V_old (by (with_reducible repeat (first | apply Kd.V_alloc | apply Kd.V_drewN | apply Kd.V_drew)); exact HO3.out) hb) (Kd.R_base ho0)) (Kd.R_base ho1)) (Kd.R_base ho2)) (fun _ h_ => h_.1)); have n2_ := Aside0.mk (Kd.R_lower (Kd.R_newM (M := fun k_ => (w.heap.size ≤ k_)) ho0 (below_size (by repeat (first | (with_reducible first | exact HB.out | apply below_alloc | apply pw_below_drewN | apply below_drew1) | exact HB.out))) (fun k_ h_ => h_)) (below_size (by repeat (first | (with_reducible first | exact HB.out | apply below_alloc | apply pw_below_drewN | apply below_drew1) | exact HB.out)))); have n3_ := Aside0.mk (Kd.R_lower (Kd.R_newM (M := fun k_ => (w.heap.size ≤ k_)) ho1 (below_size (by repeat (first | (with_reducible first | exact HB.out | apply below_alloc | apply pw_below_drewN | apply below_drew1) | exact HB.out))) (fun k_ h_ => h_)) (below_size (by repeat (first | (with_reducible first | exact HB.out | apply below_alloc | apply pw_below_drewN | apply below_drew1) | exact HB.out)))); have n4_ := Aside0.mk (Kd.R_lower (Kd.R_newM (M := fun k_ => (w.heap.size ≤ k_)) ho2 (below_size (by repeat (first | (with_reducible first | exact HB.out | apply below_alloc | apply pw_below_drewN | apply below_drew1) | exact HB.out))) (fun k_ h_ => h_)) (below_size (by repeat (first | (with_reducible first | exact HB.out | apply below_alloc | apply pw_below_drewN | apply below_drew1) | exact HB.out)))); have n5_ := Aside0.mk (below_step (by repeat (first | (with_reducible first | exact HB.out | apply below_alloc | apply pw_below_drewN | apply below_drew1) | exact HB.out)) hb); clear HO1; clear HO3; clear HB; have HO1 := n0_; have HO3 := n1_; have HO143 := n2_; have HO145 := n3_; have HO147 := n4_; have HB := n5_; clear n0_ n1_ n2_ n3_ n4_ n5_; (try clear hb); (try clear hb2); (try clear hk); (try clear hi); (try clear ho0); (try clear ho1); (try clear ho2)))
    go_ret2
    exact ⟨_, by first | rfl | (simp [errW_none, errW_some] <;> rfl) | (simp [*, errW_none, errW_some] <;> rfl), by first | exact Kd.R_nil _ _ _ _ _ | exact Kd.N_nil _ _ _ _ _ | exact Kd.V_nil _ _ _ _ _ | exact Kd.Q_nil _ _ _ _ _ | exact Kd.S_nil _ _ _ _ _, by repeat (first | (with_reducible first | exact HB.out | apply below_alloc | apply pw_below_drewN | apply below_drew1) | exact HB.out)⟩
end Go.Proofs.Ytifpdpfjhjoieaa.H

/-! SealB -/
namespace Go.Proofs.Ytifpdpfjhjoieaa
set_option linter.unusedVariables false
set_option linter.unusedSimpArgs false
open Go.RowKit Go.Shelf Iter Go.Proofs.YtifpdpfjhjoieaaW.PrintWords Go.Proofs.YtifpdpfjhjoieaaW.PrintLast
attribute [local go_sem] Oper.semAt_some
/-- What is sealed: the stream, and the tag. -/
def lockOf (key : List Int) : List Int := labelOf key labLock [] 16
def tagOf (key : List Int) : List Int := labelOf key labTag [] 32
def sealTag (key nonce aad s : List Int) : List Int := macSum (tagOf key) (rowB aad ++ (nonce ++ s))
def sealOf (key nonce aad b : List Int) : List Int := streamOf (lockOf key) nonce b ++ sealTag key nonce aad (streamOf (lockOf key) nonce b)
theorem sealTag_length (key nonce aad s : List Int) : (sealTag key nonce aad s).length = 32 := macSum_length _ _
theorem sealOf_length (key nonce aad b : List Int) : (sealOf key nonce aad b).length = b.length + 32 := by
  unfold sealOf
  rw [List.length_append, streamOf_length, sealTag_length]
theorem byteOk_sealTag (key nonce aad s : List Int) : byteOk (sealTag key nonce aad s) = true := byteOk_macSum _ _
theorem byteOk_sealOf (key nonce aad b : List Int) : byteOk (sealOf key nonce aad b) = true := (byteOk_append _ _).2 ⟨byteOk_streamOf _ _ _, byteOk_macSum _ _⟩
theorem lockOf_length (key : List Int) : (lockOf key).length = 16 := labelOf_length _ _ _ _
theorem tagOf_length (key : List Int) : (tagOf key).length = 32 := labelOf_length _ _ _ _
theorem ready_bad (l0 l1 l2 : List Int) (h0 : byteOk l0 = true) (h : ¬ (l0.length = 32 ∧ l1.length = 12)) : H.seal_ready.f l0 l1 l2 = some ([], [], [], 1) := by
  unfold H.seal_ready.f P.seal_Halves.f
  by_cases h32 : l0.length = 32
  · rw [if_pos h32, if_pos h0, Option.bind_some, if_pos rfl, if_neg (by omega)]
  · rw [if_neg h32, Option.bind_some, if_neg (by decide)]
theorem ready_good (l0 l1 l2 : List Int) (h0 : byteOk l0 = true) (h32 : l0.length = 32) (h12 : l1.length = 12) (h2 : l2.length ≤ 1000000) : H.seal_ready.f l0 l1 l2 = some (lockOf l0, tagOf l0, rowB l2, 0) := by
  unfold H.seal_ready.f P.seal_Halves.f P.byt_Row.f
  rw [if_pos h32, if_pos h0, Option.bind_some, if_pos rfl, if_pos (by omega), rowOf_small _ (by omega), Option.bind_some]
  rfl
theorem tag_good (key nonce aad s : List Int) (h1 : byteOk nonce = true) (h2 : byteOk aad = true) (h3 : byteOk s = true) (l1 : nonce.length = 12) (l2 : aad.length ≤ 300000) (l3 : s.length ≤ 300000) : H.seal_tag.f (tagOf key) [rowB aad, nonce, s] = some (sealTag key nonce aad s) := by
  have hl := rowB_length aad
  have e : ([rowB aad, nonce, s] : List (List Int)).flatten = rowB aad ++ (nonce ++ s) := by simp
  unfold H.seal_tag.f P.mac_All.f
  rw [e, if_pos ⟨byteOk_labelOf _ _ _ _, (byteOk_append _ _).2 ⟨byteOk_rowB _ h2, (byteOk_append _ _).2 ⟨h1, h3⟩⟩, by rw [tagOf_length]; decide, by rw [List.length_append, List.length_append]; omega⟩, Option.bind_some]
  rfl
namespace P
def seal_Seal.f (key nonce aad b : List Int) : Option (List Int × Int) :=
  if byteOk key = true ∧ byteOk nonce = true ∧ byteOk aad = true ∧ byteOk b = true ∧ aad.length ≤ 300000 ∧ b.length ≤ 300000 then (if key.length = 32 ∧ nonce.length = 12 then some (sealOf key nonce aad b, 0) else some ([], 1)) else none
set_option maxRecDepth 100000 in
set_option maxHeartbeats 1000000 in
theorem seal_Seal.calls (A0 : Option Addr) (c0 : Nat) (l0 : List Int) (A1 : Option Addr) (c1 : Nat) (l1 : List Int) (A2 : Option Addr) (c2 : Nat) (l2 : List Int) (A3 : Option Addr) (c3 : Nat) (l3 : List Int) (r1 : List Int) (r2 : Int) (w : World) (hr0 : Kd.C (Kd.int .u8) w A0 l0.length l0) (hc0 : l0.length ≤ c0) (hr1 : Kd.C (Kd.int .u8) w A1 l1.length l1) (hc1 : l1.length ≤ c1) (hr2 : Kd.C (Kd.int .u8) w A2 l2.length l2) (hc2 : l2.length ≤ c2) (hr3 : Kd.C (Kd.int .u8) w A3 l3.length l3) (hc3 : l3.length ≤ c3) (h : seal_Seal.f l0 l1 l2 l3 = some (r1, r2)) :
    Calls Try.prog 16 #[.slice A0 l0.length c0, .slice A1 l1.length c1, .slice A2 l2.length c2, .slice A3 l3.length c3] w fun e w' => ∃ v0_ : Value, e = .returned (.tuple #[v0_, .int .i64 r2]) ∧ Kd.R (Kd.int .u8) 5 w' w.heap.size (fun _ => True) v0_ r1 ∧ Below w.heap.size w w' := by
  unfold seal_Seal.f at h
  split at h
  case isFalse => cases h
  case isTrue hok =>
  obtain ⟨o0, o1, o2, o3, o4, o5⟩ := hok
  by_cases hk : l0.length = 32 ∧ l1.length = 12
  case neg =>
    rw [if_neg hk] at h
    injection h with h
    injection h with h1 h2
    subst h1 h2
    have hb := Lib.hid (ready_bad l0 l1 l2 o0 hk)
    clear hk
    have HK := Lib.hid (And.intro hr0 (And.intro hr1 hr2))
    go_enter Try.func16, Try.ntmps16
    go_wp2_with fail
    refine (H.seal_ready.calls A0 c0 l0 A1 c1 l1 A2 c2 l2 [] [] [] 1 w HK.out.1 hc0 HK.out.2.1 hc1 HK.out.2.2 hc2 hb.out).mono ?_
    rintro e W1 ⟨v0, v1, v2, rfl, -, -, -, hb1⟩
    go_wp2
    go_ret2
    exact ⟨_, rfl, Kd.R_nil _ _ _ _ _, hb1⟩
  rw [if_pos hk] at h
  obtain ⟨h32, h12⟩ := hk
  injection h with h
  injection h with h1 h2
  subst h1 h2
  have hb := Lib.hid (ready_good l0 l1 l2 o0 h32 h12 (by omega))
  have hs := Lib.hid (show P.aes_Stream.f (lockOf l0) l1 l3 = some (streamOf (lockOf l0) l1 l3, 0) by
    unfold P.aes_Stream.f
    rw [if_pos (lockOf_length l0), if_pos h12, if_pos ⟨byteOk_labelOf _ _ _ _, o1, o3, by omega⟩])
  have ht := Lib.hid (tag_good l0 l1 l2 (streamOf (lockOf l0) l1 l3) o1 o2 (byteOk_streamOf _ _ _) h12 o4 (by rw [streamOf_length]; exact o5))
  have HK := Lib.hid (And.intro hr0 (And.intro hr1 (And.intro hr2 (And.intro hr3 (And.intro h32 (And.intro h12 (And.intro o4 o5)))))))
  clear hr0 hr1 hr2 hr3 h32 h12 o0 o1 o2 o3 o4 o5
  go_enter Try.func16, Try.ntmps16
  go_wp2_with fail
  refine (H.seal_ready.calls A0 c0 l0 A1 c1 l1 A2 c2 l2 _ _ _ 0 w HK.out.1 hc0 HK.out.2.1 hc1 HK.out.2.2.1 hc2 hb.out).mono ?_
  rintro e W1 ⟨v0, v1, v2, rfl, hR0, hR1, hR2, hb1⟩
  obtain ⟨Al, cl, rfl, hcl, hCl⟩ := Kd.R_reads hR0
  obtain ⟨At, ct, rfl, hct, hCt⟩ := Kd.R_reads hR1
  obtain ⟨Ar, cr, rfl, hcr, hCr⟩ := Kd.R_reads hR2
  have H1 := Lib.hid (And.intro hCl (And.intro hCt (And.intro hCr (And.intro (Kd.C_below HK.out.2.1 hb1) (And.intro (Kd.C_below HK.out.2.2.2.1 hb1) hb1)))))
  clear hR0 hR1 hR2 hCl hCt hCr hb1
  go_wp2_with fail
  refine (P.aes_Stream.calls Al cl (lockOf l0) A1 c1 l1 A3 c3 l3 _ 0 W1 H1.out.1 hcl H1.out.2.2.2.1 hc1 H1.out.2.2.2.2.1 hc3 hs.out).mono ?_
  rintro e W2 ⟨v3, rfl, hR3, hb2⟩
  obtain ⟨As, cs, rfl, hcs, hCs⟩ := Kd.R_reads hR3
  have hw2 := H1.out.2.2.2.2.2.trans (hb2.mono H1.out.2.2.2.2.2.size)
  have H2 := Lib.hid (And.intro hR3 (And.intro hCs (And.intro (Kd.C_below H1.out.2.1 hb2) (And.intro (Kd.C_below H1.out.2.2.1 hb2) (And.intro (Kd.C_below H1.out.2.2.2.1 hb2) (And.intro hw2 H1.out.2.2.2.2.2.size))))))
  clear H1 hR3 hCs hb2 hw2
  go_wp2_with fail
  have c3' := c_three W2 22 Ar A1 As cr c1 cs _ _ _ H2.out.2.2.2.1 hcr H2.out.2.2.2.2.1 hc1 H2.out.2.1 hcs
  refine (H.seal_tag.calls At ct (tagOf l0) (some ⟨W2.heap.size, 0, none⟩) 3 [rowB l2, l1, streamOf (lockOf l0) l1 l3] (sealTag l0 l1 l2 (streamOf (lockOf l0) l1 l3)) _ (Kd.C_alloc H2.out.2.2.1 _) hct c3' (Nat.le_refl 3) ht.out).mono ?_
  rintro e W3 ⟨v4, rfl, hR4, hb3⟩
  obtain ⟨A4, c4, rfl, hc4, hC4⟩ := Kd.R_reads hR4
  have hOut := Kd.R_lower (Kd.R_below (Kd.R_alloc H2.out.1 (Obj.cells #[Value.slice Ar (rowB l2).length cr, Value.slice A1 l1.length c1, Value.slice As (streamOf (lockOf l0) l1 l3).length cs] 22)) hb3) H2.out.2.2.2.2.2.2
  have hw3 := (H2.out.2.2.2.2.2.1.alloc H2.out.2.2.2.2.2.1.size (Obj.cells #[Value.slice Ar (rowB l2).length cr, Value.slice A1 l1.length c1, Value.slice As (streamOf (lockOf l0) l1 l3).length cs] 22)).trans (hb3.mono (by have := H2.out.2.2.2.2.2.1.size; simp; omega))
  have hlen : ((streamOf (lockOf l0) l1 l3).length + (sealTag l0 l1 l2 (streamOf (lockOf l0) l1 l3)).length) * 1 ≤ 140737488355328 := by
    rw [streamOf_length, sealTag_length]
    have := HK.out.2.2.2.2.2.2.2
    omega
  have H3 := Lib.hid (And.intro hOut (And.intro hC4 (And.intro hw3 hlen)))
  have HE := Lib.hid (show sealOf l0 l1 l2 l3 = streamOf (lockOf l0) l1 l3 ++ sealTag l0 l1 l2 (streamOf (lockOf l0) l1 l3) from rfl)
  clear H2 hR4 hb3 hC4 hOut hw3 hlen c3'
  generalize sealTag l0 l1 l2 (streamOf (lockOf l0) l1 l3) = T at *
  generalize streamOf (lockOf l0) l1 l3 = X at *
  go_wp2_with (((with_reducible refine gate_builtin (b := .append) (xs := #[.tmp 37, .tmp 43]) rfl ?_); at_builtin; refine Kd.R_append_rows (Kd.int .u8) (w0 := w) w.heap.size rfl (.tmp 37) (.tmp 43) 22 5 (.int .u8 0) 1 rfl Try.underlying22 B.info5 rfl (by decide) (by omega) _ X T _ _ _ (fun _ => True) (fun _ => False) rfl rfl H3.out.1 H3.out.2.1 (fun _ _ h => h) (fun _ h => h.elim) (fun _ _ => trivial) H3.out.2.2.1 H3.out.2.2.1.size H3.out.2.2.2 ?_; intro v6 W6 hv6 hb6 hgr6 hat6; rw [← HE.out] at hv6; clear hgr6 hat6))
  go_ret2
  exact ⟨_, rfl, hv6, hb6⟩
end P
end Go.Proofs.Ytifpdpfjhjoieaa

/-! H2 -/
namespace Go.Proofs.Ytifpdpfjhjoieaa.H
open Go.Proofs.Ytifpdpfjhjoieaa.P
open Go.RowKit Go.Proofs.YtifpdpfjhjoieaaW.PrintWords Go.Proofs.YtifpdpfjhjoieaaW.PrintLast Go.Proofs.YtifpdpfjhjoieaaW.PrintMore
attribute [local go_sem] max2_int min2_int max_two min_two max_three min_three max_four min_four   -- for this text's walks alone
set_option linter.unusedVariables false
set_option linter.unusedSimpArgs false
/-! ### seal_At: function 21 -/
mutual
def seal_At.j0 : Nat → List Int → Int → Bool → Option (List Int × Int)
  | 0, _, _, _ => none
  | k + 1, x0, x1, x21 => if x21 = true then (some (([] : List Int), 1)) else ((some (([] : List Int) : List Int)).bind fun y174 => (if y174.length + x0.length < 140737488355328 then ((byt_Num.f x1 4).bind fun bt180 => (seal_At.l0 k (y174 ++ x0) bt180.1 bt180.1 (bt180.1.length : Int) 0)) else (none)))
def seal_At.l0 : Nat → List Int → List Int → List Int → Int → Int → Option (List Int × Int)
  | 0, _, _, _, _, _ => none
  | k + 1, x6, x7, x30, x31, x32 => if x32 < x31 then (if 0 ≤ x32 then (if x32 < (x30.length : Int) then (if 0 ≤ (wrap64 ((wrap64 ((x6.length : Int) - (x7.length : Int))) + x32)) then (if (wrap64 ((wrap64 ((x6.length : Int) - (x7.length : Int))) + x32)) < (x6.length : Int) then (seal_At.l0 k (x6.set ((wrap64 ((wrap64 ((x6.length : Int) - (x7.length : Int))) + x32)) : Int).toNat (Go.bits .xor .u8 (rd x6 (wrap64 ((wrap64 ((x6.length : Int) - (x7.length : Int))) + x32))) (rd x30 x32))) x7 x30 x31 (wrap64 (x32 + 1))) else (none)) else (none)) else (none)) else (none)) else (some (x6, 0))
end
def seal_At.f (k : Nat) (l0 : List Int) (a1 : Int) : Option (List Int × Int) := if (l0.length : Int) = 12 then (if a1 < 0 then (seal_At.j0 k l0 a1 true) else (seal_At.j0 k l0 a1 (decide (a1 > 4294967295)))) else (seal_At.j0 k l0 a1 true)
set_option maxHeartbeats 8000000 in
set_option maxRecDepth 100000 in
theorem seal_At.calls (k : Nat) (A0 : Option Addr) (c0 : Nat) (l0 : List Int) (a1 : Int) (r1 : List Int) (r2 : Int) (w : World) (hr0 : Kd.C (Kd.int .u8) w A0 l0.length l0) (hc0 : l0.length ≤ c0) (h : seal_At.f k l0 a1 = some (r1, r2)) :
    Calls Try.prog 21 #[.slice A0 l0.length c0, .int .i64 a1] w fun e w' => ∃ v0_ : Value, e = .returned (.tuple #[v0_, .int .i64 r2]) ∧ Kd.R (Kd.int .u8) 5 w' w.heap.size (fun _ => True) v0_ r1 ∧ Below w.heap.size w w' := by
  have HR0 := Aside0.mk hr0
  have HC0 := Aside0.mk hc0
  clear hr0 hc0
  have HB := Aside0.mk (Below.refl w.heap.size w)
  have H : (if (l0.length : Int) = 12 then (if a1 < 0 then (seal_At.j0 k l0 a1 true) else (seal_At.j0 k l0 a1 (decide (a1 > 4294967295)))) else (seal_At.j0 k l0 a1 true)) = some (r1, r2) := h
  clear h
  have HC3 := Aside0.mk H
  clear H
  go_enter Try.func21, Try.ntmps21
  go_upto_region 1 with (fail)
  go_cut [21] (fun v21 wc => ∃ (kq : Nat) (x21_2 : Bool), v21 = .bool x21_2 ∧ Aside0 (seal_At.j0 kq l0 a1 x21_2 = some (r1, r2)) ∧ Aside0 (kq ≤ k) ∧ Aside0 (Below w.heap.size w wc))
  case first =>
    have H := HC3.out
    clear HC3
    by_cases c4 : (l0.length : Int) = 12
    · rw [if_pos c4] at H
      have c4b0 : ((l0.length : Int) == 12) = true := beq_iff_eq.mpr c4
      have c4b1 : ((l0.length : Int) != 12) = false := bne_eq_false_iff_eq.mpr c4
      clear c4
      (first | rw [c4b0] | (simp only [i64_w, i32_w]; rw [c4b0]) | skip)
      by_cases c5 : a1 < 0
      · rw [if_pos c5] at H
        have c5b0 : decide (a1 < 0) = true := decide_eq_true c5
        clear c5
        have H' := Aside0.mk H
        clear H
        go_wp2
        go_meet
        case rel => exact ⟨_, (true), (by first | rfl | (simp; done) | (simp [*]; done)), H', ⟨by first | omega | exact Nat.le_refl _⟩, ⟨by repeat (first | (with_reducible first | exact HB.out | apply below_alloc | apply pw_below_drewN | apply below_drew1) | exact HB.out)⟩⟩
      · rw [if_neg c5] at H
        have c5b0 : decide (a1 < 0) = false := decide_eq_false c5
        clear c5
        have H' := Aside0.mk H
        clear H
        go_wp2
        go_meet
        case rel => exact ⟨_, (decide (a1 > 4294967295)), (by first | rfl | (simp; done) | (simp [*]; done)), H', ⟨by first | omega | exact Nat.le_refl _⟩, ⟨by repeat (first | (with_reducible first | exact HB.out | apply below_alloc | apply pw_below_drewN | apply below_drew1) | exact HB.out)⟩⟩
    · rw [if_neg c4] at H
      have c4b0 : ((l0.length : Int) == 12) = false := beq_eq_false_iff_ne.mpr c4
      have c4b1 : ((l0.length : Int) != 12) = true := bne_iff_ne.mpr c4
      (first | rw [c4b0] | (simp only [i64_w, i32_w]; rw [c4b0]) | skip)
      have H' := Aside0.mk H
      clear H
      go_wp2
      go_meet
      case rel => exact ⟨_, (true), (by first | rfl | (simp; done) | (simp [*]; done)), H', ⟨by first | omega | exact Nat.le_refl _⟩, ⟨by repeat (first | (with_reducible first | exact HB.out | apply below_alloc | apply pw_below_drewN | apply below_drew1) | exact HB.out)⟩⟩
  case rest =>
    clear HC3
    try clear c2
    try clear p2
    try clear c4
    try clear c4b0
    try clear c4b1
    try clear c5
    try clear c5b0
    obtain ⟨kq, x21_2, rfl, HA, HJ2, HB⟩ := hcut
    cases kq with
    | zero => exact absurd HA.out (by simp [seal_At.j0])
    | succ kj2 =>
      have H := HA.out
      clear HA
      simp only [seal_At.j0] at H
      by_cases c6 : x21_2 = true
      · subst c6
        have H1 : (some (([] : List Int), 1)) = some (r1, r2) := by rw [if_pos rfl] at H; exact H
        clear H
        have H := H1
        clear H1
        simp only [Option.some.injEq, Prod.mk.injEq] at H
        obtain ⟨rfl, rfl⟩ := H
        go_wp2
        go_ret2
        exact ⟨_, by first | rfl | (simp [errW_none, errW_some] <;> rfl) | (simp [*, errW_none, errW_some] <;> rfl), by first | exact Kd.R_nil _ _ _ _ _ | exact Kd.N_nil _ _ _ _ _ | exact Kd.V_nil _ _ _ _ _ | exact Kd.Q_nil _ _ _ _ _ | exact Kd.S_nil _ _ _ _ _, by repeat (first | (with_reducible first | exact HB.out | apply below_alloc | apply pw_below_drewN | apply below_drew1) | exact HB.out)⟩
      · replace c6 := Bool.eq_false_iff.mpr c6
        subst c6
        have H1 : ((some (([] : List Int) : List Int)).bind fun y174 => (if y174.length + l0.length < 140737488355328 then ((byt_Num.f a1 4).bind fun bt180 => (seal_At.l0 kj2 (y174 ++ l0) bt180.1 bt180.1 (bt180.1.length : Int) 0)) else (none))) = some (r1, r2) := by rw [if_neg (show ¬ (false = true) by decide)] at H; exact H
        clear H
        have H := H1
        clear H1
        obtain ⟨y174, hy174⟩ : ∃ y_ : List Int, y_ = (([] : List Int)) := ⟨_, rfl⟩
        replace H : (if y174.length + l0.length < 140737488355328 then ((byt_Num.f a1 4).bind fun bt180 => (seal_At.l0 kj2 (y174 ++ l0) bt180.1 bt180.1 (bt180.1.length : Int) 0)) else (none)) = some (r1, r2) := by first | (rw [hy174]; with_reducible exact H) | (have H2_ := (Option.bind_some _ _).symm.trans H; rw [hy174]; with_reducible exact H2_) | (have H2_ := (Option.bind_some _ _).symm.trans H; with_reducible exact H2_) | with_reducible exact H | (rw [hy174]; exact H) | exact H
        have Ny174 := Aside0.mk hy174
        clear hy174
        by_cases c7 : y174.length + l0.length < 140737488355328
        · rw [if_pos c7] at H
          have LMc7 := Aside0.mk c7
          clear c7
          obtain ⟨y177, hy177⟩ : ∃ y_ : List Int, y_ = (y174 ++ l0) := ⟨_, rfl⟩
          replace H : ((byt_Num.f a1 4).bind fun bt180 => (seal_At.l0 kj2 y177 bt180.1 bt180.1 (bt180.1.length : Int) 0)) = some (r1, r2) := by first | (rw [hy177]; with_reducible exact H) | (have H2_ := (Option.bind_some _ _).symm.trans H; rw [hy177]; with_reducible exact H2_) | (have H2_ := (Option.bind_some _ _).symm.trans H; with_reducible exact H2_) | with_reducible exact H | (rw [hy177]; exact H) | exact H
          have Ny177 := Aside0.mk hy177
          clear hy177
          replace H := Option.bind_eq_some_iff.mp H
          obtain ⟨⟨t180, t181⟩, A80, H⟩ := H
          replace H : (seal_At.l0 kj2 y177 t180 t180 (t180.length : Int) 0) = some (r1, r2) := H
          have A8 := Aside0.mk A80
          clear A80
          have H' := Aside0.mk H
          clear H
          go_wp2_with (first | ((with_reducible refine gate_dst (N := 22) rfl ?_); refine Kd.R_lit (Kd.int .u8) _ 5 ?hg (N := 22) ?hd (xs := ([] : List Int)) (inner := []) (ok := fun _ => True) (okp := fun _ => True) ?hr ?hp (fun _ hk => hk) trivial (Below.refl _ _) (Nat.le_refl _) (by simp) ?_; (case hd => rfl); (case hg => rfl); (case hr => first | (go_simp; done) | (go_simp; rfl)); (case hp => exact (Reps.none _ _)); intro v175 w9 ho10 hb hg_ hnew_; clear hg_ hnew_; (first | rw [← Ny174.out] at ho10 | (simp only [Int.reduceToNat] at ho10; rw [← Ny174.out] at ho10)); have n0_ := Aside0.mk (Kd.R_lower ho10 (below_size (by repeat (first | (with_reducible first | exact HB.out | apply below_alloc | apply pw_below_drewN | apply below_drew1) | exact HB.out)))); have n1_ := Aside0.mk (below_step (by repeat (first | (with_reducible first | exact HB.out | apply below_alloc | apply pw_below_drewN | apply below_drew1) | exact HB.out)) hb); clear HB; have HO176 := n0_; have HB := n1_; clear n0_ n1_; clear hb ho10) | ((with_reducible refine gate_builtin (b := .append) (xs := #[.tmp 22, .tmp 23]) rfl ?_); at_builtin; refine Kd.R_append_rows (Kd.int .u8) (w0 := w) w.heap.size rfl (.tmp 22) (.tmp 23) 22 5 (.int .u8 0) 1 rfl Try.underlying22 info5 rfl (by decide) (by omega) v175 y174 l0 _ _ _ (fun _ => True) (fun _ => False) rfl rfl ?aO ?aR (fun _ _ h => h) (fun _ h => h.elim) ?aF ?aB ?aS ?aL ?_; (case aR => repeat (first | exact (Kd.C_below HR0.out HB.out) | (with_reducible refine Kd.C_alloc ?_ _) | (with_reducible refine Kd.C_drewN ?_ _) | (with_reducible refine Kd.C_drew ?_))); (case aB => exact (by repeat (first | (with_reducible first | exact HB.out | apply below_alloc | apply pw_below_drewN | apply below_drew1) | exact HB.out))); (case aF => exact (fun _ _ => trivial)); (case aO => exact (by (with_reducible repeat (first | apply Kd.R_alloc | apply Kd.R_drewN | apply Kd.R_drew)); exact HO176.out)); (case aS => exact (below_size (by repeat (first | (with_reducible first | exact HB.out | apply below_alloc | apply pw_below_drewN | apply below_drew1) | exact HB.out)))); (case aL => have := LMc7.out; omega); intro v178 w11 ho hb hg hat; rw [← Ny177.out] at ho; have n0_ := Aside0.mk (hb); have n1_ := Aside0.mk (ho); clear HB; clear HO176; have HB := n0_; have HO179 := n1_; clear n0_ n1_; clear ho hb hg hat) | ((with_reducible refine gate_callee (f := 47) rfl ?_); refine goesL_ (some 27) rfl rfl Try.func47 (by kernel_rfl) rfl #[.int .i64 a1, .int .i64 4] rfl (by (try simp only [List.map_toArray, List.map_cons, List.map_nil]); first | done | rfl | (simp only [List.length_drop, List.length_take]; rfl)) ?_; (with_reducible refine (byt_Num.calls a1 4 t180 t181 _ A8.out).mono ?_); rintro e w12 ⟨v182, rfl, ho0, hb⟩; refine ⟨_, rfl, ?_⟩; have n0_ := Aside0.mk (Kd.R_elder' (by (with_reducible repeat (first | apply Kd.R_alloc | apply Kd.R_drewN | apply Kd.R_drew)); exact HO179.out) (Kd.R_base ho0) hb); have n1_ := Aside0.mk (Kd.R_lower (Kd.R_new' ho0 (Kd.R_lt (by (with_reducible repeat (first | apply Kd.R_alloc | apply Kd.R_drewN | apply Kd.R_drew)); exact HO179.out))) (below_size (by repeat (first | (with_reducible first | exact HB.out | apply below_alloc | apply pw_below_drewN | apply below_drew1) | exact HB.out)))); have n2_ := Aside0.mk (below_step (by repeat (first | (with_reducible first | exact HB.out | apply below_alloc | apply pw_below_drewN | apply below_drew1) | exact HB.out)) hb); clear HO179; clear HB; have HO179 := n0_; have HO183 := n1_; have HB := n2_; clear n0_ n1_ n2_; (try clear hb); (try clear hb2); (try clear hk); (try clear hi); (try clear ho0); obtain ⟨Ao13, co13, eo13⟩ := Kd.R_slice HO183.out; subst eo13))
          go_loopg [32] kj2 (fun kq v32 w' => ∃ (x6_2 : List Int) (x32_2 : Int), v32 = .int .i64 x32_2 ∧ Aside0 (seal_At.l0 kq x6_2 t180 t180 (t180.length : Int) x32_2 = some (r1, r2)) ∧ Aside0 (kq ≤ kj2) ∧ Aside0 (Kd.R (Kd.int .u8) 5 w' w.heap.size (fun k_ => some k_ ≠ ((.slice Ao13 t180.length co13) : Value).ownBlock ∧ some k_ ≠ ((.slice Ao13 t180.length co13) : Value).ownBlock) v178 x6_2) ∧ Aside0 (Kd.R (Kd.int .u8) 5 w' w.heap.size (fun k_ => some k_ ≠ (v178 : Value).ownBlock) (.slice Ao13 t180.length co13) t180) ∧ Aside0 (Kd.R (Kd.int .u8) 5 w' w.heap.size (fun k_ => some k_ ≠ (v178 : Value).ownBlock) (.slice Ao13 t180.length co13) t180) ∧ Aside0 (Below w.heap.size w w'))
          case atStart => exact ⟨(y177), (0), (by first | rfl | (simp; done) | (simp [*]; done)), H', ⟨Nat.le_refl _⟩, ⟨by (with_reducible repeat (first | apply Kd.R_alloc | apply Kd.R_drewN | apply Kd.R_drew)); exact Kd.R_mono HO179.out (fun _ hk => ⟨hk.2, hk.2⟩)⟩, ⟨by (with_reducible repeat (first | apply Kd.R_alloc | apply Kd.R_drewN | apply Kd.R_drew)); exact Kd.R_mono HO183.out (fun _ hk => hk.2)⟩, ⟨by (with_reducible repeat (first | apply Kd.R_alloc | apply Kd.R_drewN | apply Kd.R_drew)); exact Kd.R_mono HO183.out (fun _ hk => hk.2)⟩, ⟨by repeat (first | (with_reducible first | exact HB.out | apply below_alloc | apply pw_below_drewN | apply below_drew1) | exact HB.out)⟩⟩
          case round =>
            clear H'
            try clear c2
            try clear p2
            try clear c4
            try clear c4b0
            try clear c4b1
            try clear c5
            try clear c5b0
            try clear c6
            try clear c7
            try clear p2
            obtain ⟨x6_2, x32_2, rfl, HA, HK2, HO_6, HO_7, HO_30, HB⟩ := hrel
            cases gk with
            | zero => exact absurd HA.out (by simp [seal_At.l0])
            | succ k2 =>
              have H := HA.out
              clear HA
              simp only [seal_At.l0] at H
              by_cases c14 : x32_2 < (t180.length : Int)
              · rw [if_pos c14] at H
                have c14b0 : decide (x32_2 < (t180.length : Int)) = true := decide_eq_true c14
                clear c14
                by_cases c15 : 0 ≤ x32_2
                · rw [if_pos c15] at H
                  have c15b0 : decide (0 ≤ x32_2) = true := decide_eq_true c15
                  clear c15
                  by_cases c16 : x32_2 < (t180.length : Int)
                  · rw [if_pos c16] at H
                    have c16b0 : decide (x32_2 < (t180.length : Int)) = true := decide_eq_true c16
                    clear c16
                    obtain ⟨ji17, hji17⟩ : ∃ j_ : Int, (wrap64 ((wrap64 ((x6_2.length : Int) - (t180.length : Int))) + x32_2)) = j_ := ⟨_, rfl⟩
                    replace H : (if 0 ≤ (ji17) then (if (ji17) < (x6_2.length : Int) then (seal_At.l0 k2 (x6_2.set ((ji17) : Int).toNat (Go.bits .xor .u8 (rd x6_2 (ji17)) (rd t180 x32_2))) t180 t180 (t180.length : Int) (wrap64 (x32_2 + 1))) else (none)) else (none)) = some (r1, r2) := by first | (rw [hji17] at H; exact H) | (simp only [hji17] at H ⊢; exact H)
                    have hji17w : (IntKind.i64.wrap ((wrap64 ((x6_2.length : Int) - (t180.length : Int))) + x32_2)) = ji17 := (i64_w _).trans hji17
                    by_cases c18 : 0 ≤ (ji17)
                    · rw [if_pos c18] at H
                      have c18b0 : decide (0 ≤ (ji17)) = true := decide_eq_true c18
                      clear c18
                      by_cases c19 : (ji17) < (x6_2.length : Int)
                      · rw [if_pos c19] at H
                        have c19b0 : decide ((ji17) < (x6_2.length : Int)) = true := decide_eq_true c19
                        clear c19
                        obtain ⟨y186, hy186⟩ : ∃ y_ : List Int, y_ = (x6_2.set ((ji17) : Int).toNat (Go.bits .xor .u8 (rd x6_2 (ji17)) (rd t180 x32_2))) := ⟨_, rfl⟩
                        replace H : (seal_At.l0 k2 y186 t180 t180 (t180.length : Int) (wrap64 (x32_2 + 1))) = some (r1, r2) := by first | (rw [hy186]; with_reducible exact H) | (have H2_ := (Option.bind_some _ _).symm.trans H; rw [hy186]; with_reducible exact H2_) | (have H2_ := (Option.bind_some _ _).symm.trans H; with_reducible exact H2_) | with_reducible exact H | (rw [hy186]; exact H) | exact H
                        have Ny186 := Aside0.mk hy186
                        clear hy186
                        have H' := Aside0.mk H
                        clear H
                        have p184 : 0 ≤ (x32_2 : Int) := of_decide_eq_true (by first | (with_reducible assumption) | assumption)
                        have q184 : x32_2 < (t180.length : Int) := of_decide_eq_true (by first | (with_reducible assumption) | assumption)
                        obtain ⟨ad184, e184, hx184_0⟩ := Kd.at_int (Kd.R_reads' HO_30.out).2.2 x32_2 p184 q184
                        cases e184
                        replace p184 := eq_true p184
                        replace q184 := eq_true q184
                        obtain ⟨Ao21, co21, eo21⟩ := Kd.R_slice HO_6.out
                        subst eo21
                        have p185 : 0 ≤ ((ji17) : Int) := of_decide_eq_true (by first | (with_reducible assumption) | assumption)
                        have q185 : (ji17) < (x6_2.length : Int) := of_decide_eq_true (by first | (with_reducible assumption) | assumption)
                        obtain ⟨ad185, e185, hx185_0⟩ := Kd.at_int (Kd.R_reads' HO_6.out).2.2 (ji17) p185 q185
                        cases e185
                        replace p185 := eq_true p185
                        replace q185 := eq_true q185
                        have p20 : 0 ≤ ((ji17) : Int) := of_decide_eq_true (by first | (with_reducible assumption) | assumption)
                        have q20 : ((ji17) : Int) < ((x6_2.length : Int) : Int) := of_decide_eq_true (by first | (with_reducible assumption) | assumption)
                        obtain ⟨go20, co20, eo20, gb20, gl20, cl20, HG20⟩ := Kd.R_form HO_6.out (by omega)
                        (first | cases eo20 | (injection eo20 with ea_ en_ ec_; (first | subst ea_ | (injection ea_ with ea_; subst ea_)); subst ec_; clear en_))
                        have GB20 := Aside0.mk gb20
                        have GG20 := Aside0.mk HG20
                        clear gb20 gl20 HG20
                        (first | simp only [add_plain] at hx185_0 | skip)
                        obtain ⟨hx20_0, hf20_0⟩ := Kd.R_celln 0 HO_6.out ((ji17) : Int) p20 q20
                        replace p20 := eq_true p20
                        replace q20 := eq_true q20
                        have HP22 := Kd.R_putg HO_6.out ((ji17) : Int) (Go.bits .xor .u8 (rd x6_2 (ji17)) (rd t180 x32_2))
                        go_wp2_with (first | ((with_reducible refine gate_store (t := 5) (p := 49) rfl ?_); refine store_event (t := 5) (p := 49) (v := ?vo_w23) (w1 := (wr.setCell ⟨go20, ((ji17) : Int).toNat, none⟩ (.int .u8 (Go.bits .xor .u8 (rd x6_2 (ji17)) (rd t180 x32_2))))) ?hg ?ho ?hn ?hr ?_; (case ho => rfl); (case hg => rfl); (case hn => rfl); (case hr => first | (go_simp; done) | (go_simp; rfl)); intro w23 hw; have hg : wr.grownBy w23 (some go20) := (by rw [hw]; exact HP22.2); have hp_ : Kd.R (Kd.int .u8) 5 w23 w.heap.size (fun k_ => some k_ ≠ (.slice (some ad184) t180.length co13 : Value).ownBlock ∧ some k_ ≠ (.slice (some ad184) t180.length co13 : Value).ownBlock) (.slice (some ⟨go20, 0, none⟩) x6_2.length co21) y186 := (by rw [hw, Ny186.out]; exact HP22.1); clear HP22; have n0_ := Aside0.mk (hp_); have n1_ := Aside0.mk (Kd.R_after (v := (.slice (some ⟨go20, 0, none⟩) x6_2.length co21)) (v1 := (.slice (some ⟨go20, 0, none⟩) x6_2.length co21)) (ok := (fun _ => True)) (by (with_reducible repeat (first | apply Kd.R_alloc | apply Kd.R_drewN | apply Kd.R_drew)); exact Kd.R_mono HO_7.out (fun _ hk => ⟨trivial, hk⟩)) hg (.inl rfl)); have n2_ := Aside0.mk (Kd.R_after (v := (.slice (some ⟨go20, 0, none⟩) x6_2.length co21)) (v1 := (.slice (some ⟨go20, 0, none⟩) x6_2.length co21)) (ok := (fun _ => True)) (by (with_reducible repeat (first | apply Kd.R_alloc | apply Kd.R_drewN | apply Kd.R_drew)); exact Kd.R_mono HO_30.out (fun _ hk => ⟨trivial, hk⟩)) hg (.inl rfl)); have n3_ := Aside0.mk ((by rw [hw]; exact below_set (HB.out) GB20.out : Below w.heap.size w w23)); clear HO_6; clear HO_7; clear HO_30; clear HB; have HO_6 := n0_; have HO_7 := n1_; have HO_30 := n2_; have HB := n3_; clear n0_ n1_ n2_ n3_; clear hg hw hp_))
                        go_roundg k2
                        case measure => have := HJ2.out; have := HK2.out; omega
                        case rel => exact ⟨(y186), (wrap64 (x32_2 + 1)), (by first | rfl | (simp; done) | (simp [*]; done)), H', ⟨by have := HJ2.out; have := HK2.out; omega⟩, ⟨by (with_reducible repeat (first | apply Kd.R_alloc | apply Kd.R_drewN | apply Kd.R_drew)); exact HO_6.out⟩, ⟨by (with_reducible repeat (first | apply Kd.R_alloc | apply Kd.R_drewN | apply Kd.R_drew)); exact Kd.R_mono HO_7.out (fun _ hk => hk.2)⟩, ⟨by (with_reducible repeat (first | apply Kd.R_alloc | apply Kd.R_drewN | apply Kd.R_drew)); exact Kd.R_mono HO_30.out (fun _ hk => hk.2)⟩, ⟨by repeat (first | (with_reducible first | exact HB.out | apply below_alloc | apply pw_below_drewN | apply below_drew1) | exact HB.out)⟩⟩
                      · rw [if_neg c19] at H
                        exact absurd H (by simp)
                    · rw [if_neg c18] at H
                      exact absurd H (by simp)
                  · rw [if_neg c16] at H
                    exact absurd H (by simp)
                · rw [if_neg c15] at H
                  exact absurd H (by simp)
              · rw [if_neg c14] at H
                have c14b0 : decide (x32_2 < (t180.length : Int)) = false := decide_eq_false c14
                clear c14
                simp only [Option.some.injEq, Prod.mk.injEq] at H
                obtain ⟨rfl, rfl⟩ := H
                go_wp2
                go_ret2
                exact ⟨_, by first | rfl | (simp [errW_none, errW_some] <;> rfl) | (simp [*, errW_none, errW_some] <;> rfl), by (with_reducible repeat (first | apply Kd.R_alloc | apply Kd.R_drewN | apply Kd.R_drew)); exact Kd.R_mono HO_6.out (fun _ hk => trivial), by repeat (first | (with_reducible first | exact HB.out | apply below_alloc | apply pw_below_drewN | apply below_drew1) | exact HB.out)⟩
        · rw [if_neg c7] at H
          exact absurd H (by simp)
-- NOT PRINTED: function 77 (pyxref01_power)
-- NOT PRINTED: function 70 (pyxref01_Len)
-- NOT PRINTED: function 71 (pyxref02_Pad)
-- NOT PRINTED: function 72 (pyxref02_keys)
-- NOT PRINTED: function 73 (pyxref02_Start)
-- NOT PRINTED: function 88 (pyxref02_word)
-- NOT PRINTED: function 89 (pyxref02_turn)
-- NOT PRINTED: function 74 (pyxref02_step)
-- NOT PRINTED: function 50 (pyxref02_Sum)
-- NOT PRINTED: function 49 (pyxref03_Key)
-- NOT PRINTED: function 51 (pyxref03_with)
-- NOT PRINTED: function 64 (pyxref04_Expand)
/-! ### pyxref06_Halves: function 15 -/
def pyxref06_Halves.f (l0 : List Int) : Option (List Int × List Int × Int) := if (l0.length : Int) = 32 then ((pyxref04_Label.f l0 (⟨#[108, 111, 99, 107]⟩ : ByteArray) ([] : List Int) 16).bind fun bt187 => ((pyxref04_Label.f l0 (⟨#[116, 97, 103]⟩ : ByteArray) ([] : List Int) 32).bind fun bt191 => (some (bt187.1, bt191.1, 0)))) else (some (([] : List Int), ([] : List Int), 1))
set_option maxHeartbeats 8000000 in
set_option maxRecDepth 100000 in
theorem pyxref06_Halves.calls (A0 : Option Addr) (c0 : Nat) (l0 : List Int) (r1 : List Int) (r2 : List Int) (r3 : Int) (w : World) (hr0 : Kd.C (Kd.int .u8) w A0 l0.length l0) (hc0 : l0.length ≤ c0) (h : pyxref06_Halves.f l0 = some (r1, r2, r3)) :
    Calls Try.prog 15 #[.slice A0 l0.length c0] w fun e w' => ∃ v0_ v1_ : Value, e = .returned (.tuple #[v0_, v1_, .int .i64 r3]) ∧ Kd.R (Kd.int .u8) 5 w' w.heap.size (fun k_ => some k_ ≠ (v1_ : Value).ownBlock) v0_ r1 ∧ Kd.R (Kd.int .u8) 5 w' w.heap.size (fun k_ => some k_ ≠ (v0_ : Value).ownBlock) v1_ r2 ∧ Below w.heap.size w w' := by
  have HR0 := Aside0.mk hr0
  have HC0 := Aside0.mk hc0
  clear hr0 hc0
  have HB := Aside0.mk (Below.refl w.heap.size w)
  have H : (if (l0.length : Int) = 32 then ((pyxref04_Label.f l0 (⟨#[108, 111, 99, 107]⟩ : ByteArray) ([] : List Int) 16).bind fun bt187 => ((pyxref04_Label.f l0 (⟨#[116, 97, 103]⟩ : ByteArray) ([] : List Int) 32).bind fun bt191 => (some (bt187.1, bt191.1, 0)))) else (some (([] : List Int), ([] : List Int), 1))) = some (r1, r2, r3) := h
  clear h
  by_cases c2 : (l0.length : Int) = 32
  · rw [if_pos c2] at H
    have c2b0 : ((l0.length : Int) == 32) = true := beq_iff_eq.mpr c2
    have c2b1 : ((l0.length : Int) != 32) = false := bne_eq_false_iff_eq.mpr c2
    clear c2
    replace H := Option.bind_eq_some_iff.mp H
    obtain ⟨⟨t187, t188⟩, A30, H⟩ := H
    replace H : ((pyxref04_Label.f l0 (⟨#[116, 97, 103]⟩ : ByteArray) ([] : List Int) 32).bind fun bt191 => (some (t187, bt191.1, 0))) = some (r1, r2, r3) := H
    have A3 := Aside0.mk A30
    clear A30
    replace H := Option.bind_eq_some_iff.mp H
    obtain ⟨⟨t191, t192⟩, A40, H⟩ := H
    replace H : (some (t187, t191, 0)) = some (r1, r2, r3) := H
    have A4 := Aside0.mk A40
    clear A40
    simp only [Option.some.injEq, Prod.mk.injEq] at H
    obtain ⟨rfl, rfl, rfl⟩ := H
    go_enter Try.func15, Try.ntmps15
    go_wp2_with (first | ((with_reducible refine gate_callee (f := 41) rfl ?_); refine goesL_ (some 14) rfl rfl Try.func41 (by kernel_rfl) rfl #[.slice A0 l0.length c0, .string (⟨#[108, 111, 99, 107]⟩ : ByteArray), .slice none 0 0, .int .i64 16] rfl (by (try simp only [List.map_toArray, List.map_cons, List.map_nil]); first | done | rfl | (simp only [List.length_drop, List.length_take]; rfl)) ?_; (refine (pyxref04_Label.calls _ _ l0 (⟨#[108, 111, 99, 107]⟩ : ByteArray) _ _ ([] : List Int) 16 t187 t188 _ ?side1 ?side2 ?side3 ?side4 A3.out).mono ?_); (case side1 => repeat (first | exact HR0.out | (with_reducible refine Kd.C_alloc ?_ _) | (with_reducible refine Kd.C_drewN ?_ _) | (with_reducible refine Kd.C_drew ?_))); (case side2 => exact HC0.out); (case side3 => exact Kd.C_nil _ _); (case side4 => exact Nat.le_refl _); rintro e w5 ⟨v189, rfl, ho0, hb⟩; refine ⟨_, rfl, ?_⟩; have n0_ := Aside0.mk (Kd.R_lower ho0 (below_size (by repeat (first | (with_reducible first | exact HB.out | apply below_alloc | apply pw_below_drewN | apply below_drew1) | exact HB.out)))); have n1_ := Aside0.mk (below_step (by repeat (first | (with_reducible first | exact HB.out | apply below_alloc | apply pw_below_drewN | apply below_drew1) | exact HB.out)) hb); clear HB; have HO190 := n0_; have HB := n1_; clear n0_ n1_; (try clear hb); (try clear hb2); (try clear hk); (try clear hi); (try clear ho0)) | ((with_reducible refine gate_callee (f := 41) rfl ?_); refine goesL_ (some 19) rfl rfl Try.func41 (by kernel_rfl) rfl #[.slice A0 l0.length c0, .string (⟨#[116, 97, 103]⟩ : ByteArray), .slice none 0 0, .int .i64 32] rfl (by (try simp only [List.map_toArray, List.map_cons, List.map_nil]); first | done | rfl | (simp only [List.length_drop, List.length_take]; rfl)) ?_; (refine (pyxref04_Label.calls _ _ l0 (⟨#[116, 97, 103]⟩ : ByteArray) _ _ ([] : List Int) 32 t191 t192 _ ?side1 ?side2 ?side3 ?side4 A4.out).mono ?_); (case side1 => repeat (first | exact (Kd.C_below HR0.out HB.out) | (with_reducible refine Kd.C_alloc ?_ _) | (with_reducible refine Kd.C_drewN ?_ _) | (with_reducible refine Kd.C_drew ?_))); (case side2 => exact HC0.out); (case side3 => exact Kd.C_nil _ _); (case side4 => exact Nat.le_refl _); rintro e w6 ⟨v193, rfl, ho0, hb⟩; refine ⟨_, rfl, ?_⟩; have n0_ := Aside0.mk (Kd.R_elder' (by (with_reducible repeat (first | apply Kd.R_alloc | apply Kd.R_drewN | apply Kd.R_drew)); exact HO190.out) (Kd.R_base ho0) hb); have n1_ := Aside0.mk (Kd.R_lower (Kd.R_new' ho0 (Kd.R_lt (by (with_reducible repeat (first | apply Kd.R_alloc | apply Kd.R_drewN | apply Kd.R_drew)); exact HO190.out))) (below_size (by repeat (first | (with_reducible first | exact HB.out | apply below_alloc | apply pw_below_drewN | apply below_drew1) | exact HB.out)))); have n2_ := Aside0.mk (below_step (by repeat (first | (with_reducible first | exact HB.out | apply below_alloc | apply pw_below_drewN | apply below_drew1) | exact HB.out)) hb); clear HO190; clear HB; have HO190 := n0_; have HO194 := n1_; have HB := n2_; clear n0_ n1_ n2_; (try clear hb); (try clear hb2); (try clear hk); (try clear hi); (try clear ho0)))
    go_ret3
    exact ⟨_, _, by first | rfl | (simp [errW_none, errW_some] <;> rfl) | (simp [*, errW_none, errW_some] <;> rfl), by (with_reducible repeat (first | apply Kd.R_alloc | apply Kd.R_drewN | apply Kd.R_drew)); exact Kd.R_mono HO190.out (fun _ hk => hk.2), by (with_reducible repeat (first | apply Kd.R_alloc | apply Kd.R_drewN | apply Kd.R_drew)); exact Kd.R_mono HO194.out (fun _ hk => hk.2), by repeat (first | (with_reducible first | exact HB.out | apply below_alloc | apply pw_below_drewN | apply below_drew1) | exact HB.out)⟩
  · rw [if_neg c2] at H
    have c2b0 : ((l0.length : Int) == 32) = false := beq_eq_false_iff_ne.mpr c2
    have c2b1 : ((l0.length : Int) != 32) = true := bne_iff_ne.mpr c2
    simp only [Option.some.injEq, Prod.mk.injEq] at H
    obtain ⟨rfl, rfl, rfl⟩ := H
    go_enter Try.func15, Try.ntmps15
    go_wp2
    go_ret3
    exact ⟨_, _, by first | rfl | (simp [errW_none, errW_some] <;> rfl) | (simp [*, errW_none, errW_some] <;> rfl), by first | exact Kd.R_nil _ _ _ _ _ | exact Kd.N_nil _ _ _ _ _ | exact Kd.V_nil _ _ _ _ _ | exact Kd.Q_nil _ _ _ _ _ | exact Kd.S_nil _ _ _ _ _, by first | exact Kd.R_nil _ _ _ _ _ | exact Kd.N_nil _ _ _ _ _ | exact Kd.V_nil _ _ _ _ _ | exact Kd.Q_nil _ _ _ _ _ | exact Kd.S_nil _ _ _ _ _, by repeat (first | (with_reducible first | exact HB.out | apply below_alloc | apply pw_below_drewN | apply below_drew1) | exact HB.out)⟩
-- NOT PRINTED: function 90 (pyxref05_left)
-- NOT PRINTED: function 75 (pyxref05_turned)
-- NOT PRINTED: function 76 (pyxref05_Mul)
-- NOT PRINTED: function 52 (pyxref05_boxes)
-- NOT PRINTED: function 53 (pyxref05_keys)
-- NOT PRINTED: function 55 (pyxref05_lock)
end Go.Proofs.Ytifpdpfjhjoieaa.H

/-! H3 -/
namespace Go.Proofs.Ytifpdpfjhjoieaa.H
open Go.Proofs.Ytifpdpfjhjoieaa.P
open Go.RowKit Go.Proofs.YtifpdpfjhjoieaaW.PrintWords Go.Proofs.YtifpdpfjhjoieaaW.PrintLast Go.Proofs.YtifpdpfjhjoieaaW.PrintMore
attribute [local go_sem] max2_int min2_int max_two min_two max_three min_three max_four min_four   -- for this text's walks alone
set_option linter.unusedVariables false
set_option linter.unusedSimpArgs false
def pyxref06_Open.T7 : Bool × List (List Nat × List Nat) := (true, [([], []), ([], []), ([], []), ([], []), ([], []), ([3, 4], [3, 4]), ([0, 1, 2, 5], [0, 1, 2, 5]), ([], []), ([], []), ([7, 8], [7, 8]), ([6, 9, 6], [6, 9]), ([10], [10])])
def pyxref06_Open.B7 : List Nat := [0, 0, 0, 0, 0, 24, 63, 0, 0, 384, 1023, 2047]
theorem pyxref06_Open.tab7 : rtab .any (opsOf Try.f20 7) = pyxref06_Open.T7 := by kernel_rfl
theorem pyxref06_Open.bits7 : waitsOk pyxref06_Open.T7.2 pyxref06_Open.B7 = true := by kernel_rfl
/-! ### pyxlaw06_told: function 23 -/
def pyxlaw06_told.f (l0 : List Int) (l1 : List Int) (l2 : List Int) : Option (List Int) := (pyxref01_Row.f l1).bind fun bt260 => (if bt260.1.length + l0.length < 140737488355328 then ((some (bt260.1 ++ l0 : List Int)).bind fun y264 => (if y264.length + l2.length < 140737488355328 then (some (y264 ++ l2)) else (none))) else (none))
set_option maxHeartbeats 8000000 in
set_option maxRecDepth 100000 in
theorem pyxlaw06_told.calls (A0 : Option Addr) (c0 : Nat) (l0 : List Int) (A1 : Option Addr) (c1 : Nat) (l1 : List Int) (A2 : Option Addr) (c2 : Nat) (l2 : List Int) (r : List Int) (w : World) (hr0 : Kd.C (Kd.int .u8) w A0 l0.length l0) (hc0 : l0.length ≤ c0) (hr1 : Kd.C (Kd.int .u8) w A1 l1.length l1) (hc1 : l1.length ≤ c1) (hr2 : Kd.C (Kd.int .u8) w A2 l2.length l2) (hc2 : l2.length ≤ c2) (h : pyxlaw06_told.f l0 l1 l2 = some r) :
    Calls Try.prog 23 #[.slice A0 l0.length c0, .slice A1 l1.length c1, .slice A2 l2.length c2] w fun e w' => ∃ v0_ : Value, e = .returned (v0_) ∧ Kd.R (Kd.int .u8) 5 w' w.heap.size (fun _ => True) v0_ r ∧ Below w.heap.size w w' := by
  have HR0 := Aside0.mk hr0
  have HC0 := Aside0.mk hc0
  clear hr0 hc0
  have HR1 := Aside0.mk hr1
  have HC1 := Aside0.mk hc1
  clear hr1 hc1
  have HR2 := Aside0.mk hr2
  have HC2 := Aside0.mk hc2
  clear hr2 hc2
  have HB := Aside0.mk (Below.refl w.heap.size w)
  have H : ((pyxref01_Row.f l1).bind fun bt260 => (if bt260.1.length + l0.length < 140737488355328 then ((some (bt260.1 ++ l0 : List Int)).bind fun y264 => (if y264.length + l2.length < 140737488355328 then (some (y264 ++ l2)) else (none))) else (none))) = some r := h
  clear h
  replace H := Option.bind_eq_some_iff.mp H
  obtain ⟨⟨t260, t261⟩, A40, H⟩ := H
  replace H : (if t260.length + l0.length < 140737488355328 then ((some (t260 ++ l0 : List Int)).bind fun y264 => (if y264.length + l2.length < 140737488355328 then (some (y264 ++ l2)) else (none))) else (none)) = some r := H
  have A4 := Aside0.mk A40
  clear A40
  by_cases c5 : t260.length + l0.length < 140737488355328
  · rw [if_pos c5] at H
    have LMc5 := Aside0.mk c5
    clear c5
    obtain ⟨y264, hy264⟩ : ∃ y_ : List Int, y_ = (t260 ++ l0) := ⟨_, rfl⟩
    replace H : (if y264.length + l2.length < 140737488355328 then (some (y264 ++ l2)) else (none)) = some r := by first | (rw [hy264]; with_reducible exact H) | (have H2_ := (Option.bind_some _ _).symm.trans H; rw [hy264]; with_reducible exact H2_) | (have H2_ := (Option.bind_some _ _).symm.trans H; with_reducible exact H2_) | with_reducible exact H | (rw [hy264]; exact H) | exact H
    have Ny264 := Aside0.mk hy264
    clear hy264
    by_cases c6 : y264.length + l2.length < 140737488355328
    · rw [if_pos c6] at H
      have LMc6 := Aside0.mk c6
      clear c6
      obtain ⟨y267, hy267⟩ : ∃ y_ : List Int, y_ = (y264 ++ l2) := ⟨_, rfl⟩
      replace H : (some y267) = some r := by first | (rw [hy267]; with_reducible exact H) | (have H2_ := (Option.bind_some _ _).symm.trans H; rw [hy267]; with_reducible exact H2_) | (have H2_ := (Option.bind_some _ _).symm.trans H; with_reducible exact H2_) | with_reducible exact H | (rw [hy267]; exact H) | exact H
      have Ny267 := Aside0.mk hy267
      clear hy267
      obtain rfl := Option.some.inj H
      go_enter Try.func23, Try.ntmps23
      go_wp2_with (first | ((with_reducible refine gate_callee (f := 48) rfl ?_); refine goesL_ (some 11) rfl rfl Try.func48 (by kernel_rfl) rfl #[.slice A1 l1.length c1] rfl (by (try simp only [List.map_toArray, List.map_cons, List.map_nil]); first | done | rfl | (simp only [List.length_drop, List.length_take]; rfl)) ?_; (with_reducible refine (pyxref01_Row.calls _ _ l1 t260 t261 _ ?side1 ?side2 A4.out).mono ?_); (case side1 => repeat (first | exact HR1.out | (with_reducible refine Kd.C_alloc ?_ _) | (with_reducible refine Kd.C_drewN ?_ _) | (with_reducible refine Kd.C_drew ?_))); (case side2 => exact HC1.out); rintro e w7 ⟨v262, rfl, ho0, hb⟩; refine ⟨_, rfl, ?_⟩; have n0_ := Aside0.mk (Kd.R_lower ho0 (below_size (by repeat (first | (with_reducible first | exact HB.out | apply below_alloc | apply pw_below_drewN | apply below_drew1) | exact HB.out)))); have n1_ := Aside0.mk (below_step (by repeat (first | (with_reducible first | exact HB.out | apply below_alloc | apply pw_below_drewN | apply below_drew1) | exact HB.out)) hb); clear HB; have HO263 := n0_; have HB := n1_; clear n0_ n1_; (try clear hb); (try clear hb2); (try clear hk); (try clear hi); (try clear ho0)) | ((with_reducible refine gate_builtin (b := .append) (xs := #[.tmp 14, .tmp 15]) rfl ?_); at_builtin; refine Kd.R_append_rows (Kd.int .u8) (w0 := w) w.heap.size rfl (.tmp 14) (.tmp 15) 22 5 (.int .u8 0) 1 rfl Try.underlying22 info5 rfl (by decide) (by omega) v262 t260 l0 _ _ _ (fun _ => True) (fun _ => False) rfl rfl ?aO ?aR (fun _ _ h => h) (fun _ h => h.elim) ?aF ?aB ?aS ?aL ?_; (case aR => repeat (first | exact (Kd.C_below HR0.out HB.out) | (with_reducible refine Kd.C_alloc ?_ _) | (with_reducible refine Kd.C_drewN ?_ _) | (with_reducible refine Kd.C_drew ?_))); (case aB => exact (by repeat (first | (with_reducible first | exact HB.out | apply below_alloc | apply pw_below_drewN | apply below_drew1) | exact HB.out))); (case aF => exact (fun _ _ => trivial)); (case aO => exact (by (with_reducible repeat (first | apply Kd.R_alloc | apply Kd.R_drewN | apply Kd.R_drew)); exact HO263.out)); (case aS => exact (below_size (by repeat (first | (with_reducible first | exact HB.out | apply below_alloc | apply pw_below_drewN | apply below_drew1) | exact HB.out)))); (case aL => have := LMc5.out; omega); intro v265 w8 ho hb hg hat; rw [← Ny264.out] at ho; have n0_ := Aside0.mk (hb); have n1_ := Aside0.mk (ho); clear HB; clear HO263; have HB := n0_; have HO266 := n1_; clear n0_ n1_; clear ho hb hg hat) | ((with_reducible refine gate_builtin (b := .append) (xs := #[.tmp 16, .tmp 17]) rfl ?_); at_builtin; refine Kd.R_append_rows (Kd.int .u8) (w0 := w) w.heap.size rfl (.tmp 16) (.tmp 17) 22 5 (.int .u8 0) 1 rfl Try.underlying22 info5 rfl (by decide) (by omega) v265 y264 l2 _ _ _ (fun _ => True) (fun _ => False) rfl rfl ?aO ?aR (fun _ _ h => h) (fun _ h => h.elim) ?aF ?aB ?aS ?aL ?_; (case aR => repeat (first | exact (Kd.C_below HR2.out HB.out) | (with_reducible refine Kd.C_alloc ?_ _) | (with_reducible refine Kd.C_drewN ?_ _) | (with_reducible refine Kd.C_drew ?_))); (case aB => exact (by repeat (first | (with_reducible first | exact HB.out | apply below_alloc | apply pw_below_drewN | apply below_drew1) | exact HB.out))); (case aF => exact (fun _ _ => trivial)); (case aO => exact (by (with_reducible repeat (first | apply Kd.R_alloc | apply Kd.R_drewN | apply Kd.R_drew)); exact HO266.out)); (case aS => exact (below_size (by repeat (first | (with_reducible first | exact HB.out | apply below_alloc | apply pw_below_drewN | apply below_drew1) | exact HB.out)))); (case aL => have := LMc6.out; omega); intro v268 w9 ho hb hg hat; rw [← Ny267.out] at ho; have n0_ := Aside0.mk (hb); have n1_ := Aside0.mk (ho); clear HB; clear HO266; have HB := n0_; have HO269 := n1_; clear n0_ n1_; clear ho hb hg hat))
      go_ret
      exact ⟨_, by first | rfl | (simp [errW_none, errW_some] <;> rfl) | (simp [*, errW_none, errW_some] <;> rfl), by (with_reducible repeat (first | apply Kd.R_alloc | apply Kd.R_drewN | apply Kd.R_drew)); exact HO269.out, by repeat (first | (with_reducible first | exact HB.out | apply below_alloc | apply pw_below_drewN | apply below_drew1) | exact HB.out)⟩
    · rw [if_neg c6] at H
      exact absurd H (by simp)
  · rw [if_neg c5] at H
    exact absurd H (by simp)
end Go.Proofs.Ytifpdpfjhjoieaa.H

/-! Vof -/
namespace Go.Proofs.Ytifpdpfjhjoieaa
set_option linter.unusedVariables false
open Go.RowKit Go.Proofs.YtifpdpfjhjoieaaW.PrintWords Go.Proofs.YtifpdpfjhjoieaaW.PrintLast Go.Proofs.YtifpdpfjhjoieaaW.PrintMore Iter
theorem F_of_C {W : World} {A : Option Addr} {n : Nat} {xs : List Int} (h : Kd.C (Kd.int .u8) W A n xs) : Kd.F (Kd.int .u8) W (fun _ => True) A n xs := fun W' hW' => by
  rcases Nat.eq_zero_or_pos n with h0 | h0
  · exact ⟨h.1, h.2.1, fun hn => by omega⟩
  · obtain ⟨ad, rfl, hlt⟩ := C_some h h0
    exact C_same h (hW' ad.block trivial hlt)
theorem V_of_C {W : World} {A : Option Addr} {c : Nat} {xs : List Int} (b : Nat) (h : Kd.C (Kd.int .u8) W A xs.length xs) (hc : xs.length ≤ c) : Kd.V (Kd.int .u8) 5 W b (fun _ => True) (.slice A xs.length c) xs := Kd.V_mk hc (F_of_C h)
end Go.Proofs.Ytifpdpfjhjoieaa

/-! SealC -/
namespace Go.Proofs.Ytifpdpfjhjoieaa
set_option linter.unusedVariables false
set_option linter.unusedSimpArgs false
open Go.RowKit Go.Proofs.YtifpdpfjhjoieaaW.PrintWords Go.Proofs.YtifpdpfjhjoieaaW.PrintLast
theorem byteOk_drop (l : List Int) (n : Nat) (h : byteOk l = true) : byteOk (l.drop n) = true := by
  rw [byteOk_iff] at h ⊢
  exact fun x hx => h x (List.mem_of_mem_drop hx)
/-- What is opened. -/
def openR (key nonce aad b : List Int) : List Int × Int :=
  if key.length = 32 ∧ nonce.length = 12 then (if b.length < 32 then ([], 3) else if sealTag key nonce aad (b.take (b.length - 32)) = b.drop (b.length - 32) then (streamOf (lockOf key) nonce (b.take (b.length - 32)), 0) else ([], 5)) else ([], 1)
def smallB (key nonce aad b : List Int) : Prop := byteOk key = true ∧ byteOk nonce = true ∧ byteOk aad = true ∧ byteOk b = true ∧ aad.length ≤ 300000 ∧ b.length ≤ 300000
instance (key nonce aad b : List Int) : Decidable (smallB key nonce aad b) := by unfold smallB; infer_instance
theorem cut32 (n : Nat) (h : 32 ≤ n) (h2 : n ≤ 300000) : wrap64 ((n : Int) - 32) = ((n - 32 : Nat) : Int) := by unfold wrap64; omega
theorem cut32' (n : Nat) (h : n < 32) : wrap64 ((n : Int) - 32) < 0 := by unfold wrap64; omega
theorem stream_some (key nonce b : List Int) (h12 : nonce.length = 12) (o1 : byteOk nonce = true) (o3 : byteOk b = true) (l : b.length ≤ 300000) : P.aes_Stream.f (lockOf key) nonce b = some (streamOf (lockOf key) nonce b, 0) := by
  unfold P.aes_Stream.f
  rw [if_pos (lockOf_length key), if_pos h12, if_pos ⟨byteOk_labelOf _ _ _ _, o1, o3, by omega⟩]
theorem open_eq (l0 l1 l2 l3 : List Int) (h : smallB l0 l1 l2 l3) : H.seal_Open.f l0 l1 l2 l3 = some (openR l0 l1 l2 l3) := by
  obtain ⟨o0, o1, o2, o3, o4, o5⟩ := h
  unfold H.seal_Open.f openR
  by_cases hk : l0.length = 32 ∧ l1.length = 12
  case neg => rw [ready_bad _ _ _ o0 hk, if_neg hk, Option.bind_some, if_neg (by decide)]
  rw [ready_good _ _ _ o0 hk.1 hk.2 (by omega), if_pos hk, Option.bind_some, if_pos rfl]
  by_cases h32 : l3.length < 32
  · rw [if_pos (cut32' _ h32), if_pos h32]
  · have e := cut32 l3.length (by omega) o5
    have hs := byteOk_take l3 (l3.length - 32) o3
    have hd := byteOk_drop l3 (l3.length - 32) o3
    have hl : (l3.take (l3.length - 32)).length ≤ 300000 := by rw [List.length_take]; omega
    rw [e, if_neg (by omega), if_neg h32, if_pos (by omega), if_pos (by omega), Int.toNat_natCast, tag_good _ _ _ _ o1 o2 hs hk.2 o4 hl, Option.bind_some]
    unfold P.mac_Same.f
    rw [if_pos ⟨byteOk_sealTag _ _ _ _, hd, by rw [sealTag_length]; decide⟩, Option.bind_some]
    by_cases ht : sealTag l0 l1 l2 (l3.take (l3.length - 32)) = l3.drop (l3.length - 32)
    · rw [if_pos ht, if_pos (beq_iff_eq.2 ht), stream_some _ _ _ hk.2 o1 hs hl, Option.bind_some]
    · rw [if_neg ht, if_neg (by rw [beq_iff_eq]; exact ht)]
theorem rhalves_eq (l0 : List Int) (h0 : byteOk l0 = true) : H.pyxref06_Halves.f l0 = P.seal_Halves.f l0 := by
  unfold H.pyxref06_Halves.f P.seal_Halves.f
  by_cases h32 : l0.length = 32
  · have e1 : P.pyxref04_Label.f l0 (⟨#[108, 111, 99, 107]⟩ : ByteArray) ([] : List Int) 16 = some (labelOf l0 labLock [] 16, 0) := label_some l0 labLock [] 16 (by decide) h0 rfl (by omega) (by decide) (by decide)
    have e2 : P.pyxref04_Label.f l0 (⟨#[116, 97, 103]⟩ : ByteArray) ([] : List Int) 32 = some (labelOf l0 labTag [] 32, 0) := label_some l0 labTag [] 32 (by decide) h0 rfl (by omega) (by decide) (by decide)
    rw [if_pos (by omega), if_pos h32, if_pos h0, e1, Option.bind_some, e2, Option.bind_some]
  · rw [if_neg (by omega), if_neg h32]
/-! Nonces. -/
def atF (base : List Int) (n i : Nat) : Int := if i < 8 then base.getD i 0 else xr (base.getD i 0) ((numB n 4).getD (i - 8) 0)
def atOf (base : List Int) (n : Nat) : List Int := (List.range 12).map (atF base n)
theorem atOf_length (base : List Int) (n : Nat) : (atOf base n).length = 12 := by simp [atOf]
theorem atOf_split (base : List Int) (h : base.length = 12) (n : Nat) : atOf base n = rowTo 12 (atF base n) (fun i => base.getD i 0) 12 := by
  unfold atOf rowTo
  exact List.map_congr_left fun i hi => by rw [if_pos (List.mem_range.1 hi)]
theorem at_l0 (base : List Int) (h : base.length = 12) (n : Nat) : ∀ (d i : Nat), i + d = 4 → EvS (fun k => H.seal_At.l0 k (rowTo 12 (atF base n) (fun i => base.getD i 0) (8 + i)) (numB n 4) (numB n 4) ((4 : Nat) : Int) (i : Int)) (atOf base n, 0)
  | 0, i, hi => EvS.now fun k => by
    obtain rfl : i = 4 := by omega
    rw [H.seal_At.l0, if_neg (by omega), atOf_split base h n]
  | d + 1, i, hi => by
    have g1 : (i : Int) < ((4 : Nat) : Int) := by omega
    have g0 : (0 : Int) ≤ (i : Int) := by omega
    have g2 : (0 : Int) ≤ ((8 + i : Nat) : Int) := by omega
    have g3 : ((8 + i : Nat) : Int) < ((12 : Nat) : Int) := by omega
    have e : wrap64 ((wrap64 (((12 : Nat) : Int) - ((4 : Nat) : Int))) + (i : Int)) = ((8 + i : Nat) : Int) := by unfold wrap64; omega
    have e2 := wd4 i (by omega)
    refine EvS.step (h := fun k => H.seal_At.l0 k (rowTo 12 (atF base n) (fun i => base.getD i 0) (8 + (i + 1))) (numB n 4) (numB n 4) ((4 : Nat) : Int) ((i + 1 : Nat) : Int)) (fun k => ?_) (at_l0 base h n d (i + 1) (by omega))
    have hset := rowTo_set 12 (atF base n) (fun i => base.getD i 0) (8 + i)
    have hv : atF base n (8 + i) = xr (base.getD (8 + i) 0) ((numB n 4).getD i 0) := by
      unfold atF
      rw [if_neg (by omega), Nat.add_sub_cancel_left]
    rw [hv] at hset
    rw [H.seal_At.l0, if_pos g1, if_pos g0, numB_length, if_pos g1, rowTo_length, e, if_pos g2, if_pos g3, rd_nat, rd_nat, rowTo_at _ _ _ _ _ (by omega), if_neg (by omega), xr_bits, Int.toNat_natCast, hset, e2]
    rfl
def atR (base : List Int) (n : Int) : List Int × Int := if base.length = 12 ∧ 0 ≤ n ∧ n ≤ 4294967295 then (atOf base n.toNat, 0) else ([], 1)
theorem at_eq (base : List Int) (n : Int) : EvS (fun k => H.seal_At.f k base n) (atR base n) := by
  unfold atR
  by_cases h12 : base.length = 12
  case neg =>
    rw [if_neg (fun x => h12 x.1)]
    refine EvS.step (h := fun _ => some ([], 1)) (fun k => ?_) ⟨0, fun _ _ => rfl⟩
    unfold H.seal_At.f
    rw [if_neg (by omega), H.seal_At.j0, if_pos rfl]
  by_cases h0 : n < 0
  · rw [if_neg (by omega)]
    refine EvS.step (h := fun _ => some ([], 1)) (fun k => ?_) ⟨0, fun _ _ => rfl⟩
    unfold H.seal_At.f
    rw [if_pos (by omega), if_pos h0, H.seal_At.j0, if_pos rfl]
  by_cases h1 : 4294967295 < n
  · rw [if_neg (by omega)]
    refine EvS.step (h := fun _ => some ([], 1)) (fun k => ?_) ⟨0, fun _ _ => rfl⟩
    unfold H.seal_At.f
    rw [if_pos (by omega), if_neg h0, H.seal_At.j0, if_pos (by simp; omega)]
  rw [if_pos ⟨h12, by omega, by omega⟩]
  obtain ⟨m, rfl⟩ := Int.eq_ofNat_of_zero_le (show 0 ≤ n by omega)
  have hn : P.byt_Num.f (m : Int) 4 = some (numB m 4, 0) := by
    unfold P.byt_Num.f
    exact congrArg some (numOf_small m 4 (by omega) (by omega) (by omega))
  have hl := at_l0 base h12 m 4 0 (by omega)
  refine EvS.step (h := fun k => H.seal_At.l0 k (rowTo 12 (atF base m) (fun i => base.getD i 0) (8 + 0)) (numB m 4) (numB m 4) ((4 : Nat) : Int) ((0 : Nat) : Int)) (fun k => ?_) (by rw [Int.toNat_natCast]; exact hl)
  have hb : rowTo 12 (atF base m) (fun i => base.getD i 0) (8 + 0) = base := by
    apply List.ext_getElem?
    intro i
    unfold rowTo
    rw [List.getElem?_map]
    by_cases hi : i < 12
    · rw [List.getElem?_range hi, List.getElem?_eq_getElem (by omega)]
      simp only [Option.map_some]
      by_cases h8 : i < 8
      · simp [atF, h8, h12, hi]
      · simp [h8, h12, hi]
    · rw [List.getElem?_eq_none (by simp; omega), List.getElem?_eq_none (by omega)]
      rfl
  unfold H.seal_At.f
  have g : ([] : List Int).length + base.length < 140737488355328 := by rw [h12]; decide
  rw [if_pos (by omega), if_neg (by omega), H.seal_At.j0, if_neg (by simp; omega), Option.bind_some, if_pos g, hn, Option.bind_some, hb, numB_length, List.nil_append]
  rfl
theorem told_eq (nonce aad b : List Int) (h1 : nonce.length ≤ 300000) (h2 : aad.length ≤ 300000) (h3 : b.length ≤ 300000) : H.pyxlaw06_told.f nonce aad b = some (rowB aad ++ nonce ++ b) := by
  have hl := rowB_length aad
  unfold H.pyxlaw06_told.f P.pyxref01_Row.f
  rw [rowOf_small _ (by omega), Option.bind_some]
  dsimp only
  rw [if_pos (by omega), Option.bind_some, if_pos (by rw [List.length_append]; omega)]
end Go.Proofs.Ytifpdpfjhjoieaa

/-! SealD -/
namespace Go.Proofs.Ytifpdpfjhjoieaa
set_option linter.unusedVariables false
set_option linter.unusedSimpArgs false
open Go.RowKit Go.Proofs.YtifpdpfjhjoieaaW.PrintWords Go.Proofs.YtifpdpfjhjoieaaW.PrintLast
namespace P
def seal_Open.f (key nonce aad b : List Int) : Option (List Int × Int) := if smallB key nonce aad b then some (openR key nonce aad b) else none
theorem seal_Open.calls (A0 : Option Addr) (c0 : Nat) (l0 : List Int) (A1 : Option Addr) (c1 : Nat) (l1 : List Int) (A2 : Option Addr) (c2 : Nat) (l2 : List Int) (A3 : Option Addr) (c3 : Nat) (l3 : List Int) (r1 : List Int) (r2 : Int) (w : World) (hr0 : Kd.C (Kd.int .u8) w A0 l0.length l0) (hc0 : l0.length ≤ c0) (hr1 : Kd.C (Kd.int .u8) w A1 l1.length l1) (hc1 : l1.length ≤ c1) (hr2 : Kd.C (Kd.int .u8) w A2 l2.length l2) (hc2 : l2.length ≤ c2) (hr3 : Kd.C (Kd.int .u8) w A3 l3.length l3) (hc3 : l3.length ≤ c3) (h : seal_Open.f l0 l1 l2 l3 = some (r1, r2)) :
    Calls Try.prog 19 #[.slice A0 l0.length c0, .slice A1 l1.length c1, .slice A2 l2.length c2, .slice A3 l3.length c3] w fun e w' => ∃ v0_ : Value, e = .returned (.tuple #[v0_, .int .i64 r2]) ∧ Kd.R (Kd.int .u8) 5 w' w.heap.size (fun _ => True) v0_ r1 ∧ Below w.heap.size w w' := by
  unfold seal_Open.f at h
  split at h
  case isFalse => cases h
  case isTrue hok =>
  refine (H.seal_Open.calls A0 c0 l0 (fun _ => True) A1 c1 l1 A2 c2 l2 (fun _ => True) A3 c3 l3 r1 r2 w hr0 hc0 (V_of_C _ hr1 hc1) hr2 hc2 (V_of_C _ hr3 hc3) ((open_eq _ _ _ _ hok).trans h)).mono ?_
  rintro e w' ⟨v, rfl, hR, hb⟩
  exact ⟨v, rfl, Kd.R_mono hR (fun _ _ => trivial), hb⟩
def seal_At.f (base : List Int) (n : Int) : Option (List Int × Int) := some (atR base n)
theorem seal_At.calls (A0 : Option Addr) (c0 : Nat) (l0 : List Int) (a1 : Int) (r1 : List Int) (r2 : Int) (w : World) (hr0 : Kd.C (Kd.int .u8) w A0 l0.length l0) (hc0 : l0.length ≤ c0) (h : seal_At.f l0 a1 = some (r1, r2)) :
    Calls Try.prog 21 #[.slice A0 l0.length c0, .int .i64 a1] w fun e w' => ∃ v0_ : Value, e = .returned (.tuple #[v0_, .int .i64 r2]) ∧ Kd.R (Kd.int .u8) 5 w' w.heap.size (fun _ => True) v0_ r1 ∧ Below w.heap.size w w' := by
  obtain ⟨k0, hk⟩ := at_eq l0 a1
  exact H.seal_At.calls k0 A0 c0 l0 a1 r1 r2 w hr0 hc0 ((hk k0 (Nat.le_refl _)).trans h)
def pyxref06_Halves.f (key : List Int) : Option (List Int × List Int × Int) := if byteOk key = true then seal_Halves.f key else none
theorem pyxref06_Halves.calls (A0 : Option Addr) (c0 : Nat) (l0 : List Int) (r1 : List Int) (r2 : List Int) (r3 : Int) (w : World) (hr0 : Kd.C (Kd.int .u8) w A0 l0.length l0) (hc0 : l0.length ≤ c0) (h : pyxref06_Halves.f l0 = some (r1, r2, r3)) :
    Calls Try.prog 15 #[.slice A0 l0.length c0] w fun e w' => ∃ v0_ v1_ : Value, e = .returned (.tuple #[v0_, v1_, .int .i64 r3]) ∧ Kd.R (Kd.int .u8) 5 w' w.heap.size (fun k_ => some k_ ≠ (v1_ : Value).ownBlock) v0_ r1 ∧ Kd.R (Kd.int .u8) 5 w' w.heap.size (fun k_ => some k_ ≠ (v0_ : Value).ownBlock) v1_ r2 ∧ Below w.heap.size w w' := by
  unfold pyxref06_Halves.f at h
  split at h
  case isFalse => cases h
  case isTrue hok => exact H.pyxref06_Halves.calls A0 c0 l0 r1 r2 r3 w hr0 hc0 ((rhalves_eq l0 hok).trans h)
def pyxlaw06_told.f (nonce aad b : List Int) : Option (List Int) := if nonce.length ≤ 300000 ∧ aad.length ≤ 300000 ∧ b.length ≤ 300000 then some (rowB aad ++ nonce ++ b) else none
theorem pyxlaw06_told.calls (A0 : Option Addr) (c0 : Nat) (l0 : List Int) (A1 : Option Addr) (c1 : Nat) (l1 : List Int) (A2 : Option Addr) (c2 : Nat) (l2 : List Int) (r : List Int) (w : World) (hr0 : Kd.C (Kd.int .u8) w A0 l0.length l0) (hc0 : l0.length ≤ c0) (hr1 : Kd.C (Kd.int .u8) w A1 l1.length l1) (hc1 : l1.length ≤ c1) (hr2 : Kd.C (Kd.int .u8) w A2 l2.length l2) (hc2 : l2.length ≤ c2) (h : pyxlaw06_told.f l0 l1 l2 = some r) :
    Calls Try.prog 23 #[.slice A0 l0.length c0, .slice A1 l1.length c1, .slice A2 l2.length c2] w fun e w' => ∃ v0_ : Value, e = .returned (v0_) ∧ Kd.R (Kd.int .u8) 5 w' w.heap.size (fun _ => True) v0_ r ∧ Below w.heap.size w w' := by
  unfold pyxlaw06_told.f at h
  split at h
  case isFalse => cases h
  case isTrue hok => exact H.pyxlaw06_told.calls A0 c0 l0 A1 c1 l1 A2 c2 l2 r w hr0 hc0 hr1 hc1 hr2 hc2 ((told_eq _ _ _ hok.1 hok.2.1 hok.2.2).trans h)
end P
end Go.Proofs.Ytifpdpfjhjoieaa

/-! SealE -/
namespace Go.Proofs.Ytifpdpfjhjoieaa
set_option linter.unusedVariables false
set_option linter.unusedSimpArgs false
open Go.RowKit Go.Shelf Iter Go.Proofs.YtifpdpfjhjoieaaW.PrintWords Go.Proofs.YtifpdpfjhjoieaaW.PrintLast
attribute [local go_sem] Oper.semAt_some
def Z32 : List Int := List.replicate 32 0
def Z12 : List Int := List.replicate 12 0
theorem sh06_a : ∃ s, P.seal_Seal.f Z32 Z12 [] [] = some (s, 0) ∧ s.length = 32 := by
  refine ⟨sealOf Z32 Z12 [] [], ?_, sealOf_length _ _ _ _⟩
  unfold P.seal_Seal.f
  rw [if_pos (by decide), if_pos (by decide)]
theorem sh06_s2 : P.seal_Seal.f Z32 Z12 [1] [2, 3] = some (sealOf Z32 Z12 [1] [2, 3], 0) := by
  unfold P.seal_Seal.f
  rw [if_pos (by decide), if_pos (by decide)]
theorem sh06_tag : sealTag Z32 Z12 [2] ((sealOf Z32 Z12 [1] [2, 3]).take 2) ≠ (sealOf Z32 Z12 [1] [2, 3]).drop 2 := by decide +kernel
theorem sealOf_take (key nonce aad b : List Int) : (sealOf key nonce aad b).take b.length = streamOf (lockOf key) nonce b := by
  unfold sealOf
  rw [List.take_left' (streamOf_length _ _ _)]
theorem sealOf_drop (key nonce aad b : List Int) : (sealOf key nonce aad b).drop b.length = sealTag key nonce aad (streamOf (lockOf key) nonce b) := by
  unfold sealOf
  rw [List.drop_left' (streamOf_length _ _ _)]
theorem bytes_wf (b : List Int) (h : byteOk b = true) : ∀ x ∈ b, 0 ≤ x ∧ x < 256 := (byteOk_iff b).1 h
/-- What is sealed is opened. -/
theorem open_seal (key nonce aad b : List Int) (h32 : key.length = 32) (h12 : nonce.length = 12) (o : byteOk b = true) : openR key nonce aad (sealOf key nonce aad b) = (b, 0) := by
  have e : b.length + 32 - 32 = b.length := by omega
  unfold openR
  rw [if_pos ⟨h32, h12⟩, sealOf_length, if_neg (by omega), e, sealOf_take, sealOf_drop, if_pos rfl, streamOf_back _ _ _ (bytes_wf b o)]
theorem small_seal (key nonce aad b x : List Int) (o0 : byteOk key = true) (o1 : byteOk nonce = true) (o2 : byteOk aad = true) (l2 : aad.length ≤ 300000) (l3 : b.length ≤ 299968) : smallB key nonce aad (sealOf key nonce x b) := ⟨o0, o1, o2, byteOk_sealOf _ _ _ _, l2, by rw [sealOf_length]; omega⟩
theorem sh06_c : P.seal_Open.f Z32 Z12 [1] (sealOf Z32 Z12 [1] [2, 3]) = some ([2, 3], 0) := by
  unfold P.seal_Open.f
  rw [if_pos (small_seal _ _ _ _ _ (by decide) (by decide) (by decide) (by decide) (by decide)), open_seal _ _ _ _ (by decide) (by decide) (by decide)]
theorem sh06_d : P.seal_Open.f Z32 Z12 [2] (sealOf Z32 Z12 [1] [2, 3]) = some ([], 5) := by
  unfold P.seal_Open.f openR
  rw [if_pos (small_seal _ _ _ _ _ (by decide) (by decide) (by decide) (by decide) (by decide)), if_pos (by decide), sealOf_length, if_neg (by decide), show ([2, 3] : List Int).length + 32 - 32 = 2 from rfl, if_neg sh06_tag]
theorem sh06_b : ∃ s, P.seal_Seal.f Z32 Z12 [1] [2, 3] = some (s, 0) ∧ s.length = 34 ∧ P.seal_Open.f Z32 Z12 [1] s = some ([2, 3], 0) ∧ P.seal_Open.f Z32 Z12 [2] s = some ([], 5) :=
  ⟨_, sh06_s2, sealOf_length _ _ _ _, sh06_c, sh06_d⟩
theorem sh06_n : ∃ s, P.seal_At.f Z12 258 = some (s, 0) ∧ s.length = 12 ∧ s.getD 10 0 = 1 ∧ s.getD 11 0 = 2 := ⟨atOf Z12 258, by decide +kernel, atOf_length _ _, by decide +kernel, by decide +kernel⟩
theorem sh06_h : ∃ a b, P.seal_Halves.f Z32 = some (a, b, 0) ∧ a.length = 16 ∧ b.length = 32 := by
  refine ⟨lockOf Z32, tagOf Z32, ?_, lockOf_length _, tagOf_length _⟩
  unfold P.seal_Halves.f
  rw [if_pos (by decide), if_pos (by decide)]
  rfl
end Go.Proofs.Ytifpdpfjhjoieaa

/-! SealF -/
namespace Go.Proofs.Ytifpdpfjhjoieaa
set_option linter.unusedVariables false
set_option linter.unusedSimpArgs false
open Go.RowKit Go.Shelf Iter Go.Proofs.YtifpdpfjhjoieaaW.PrintWords Go.Proofs.YtifpdpfjhjoieaaW.PrintLast
attribute [local go_sem] Oper.semAt_some
theorem byV_nums (l : List Int) : byV l = (nums .u8 l).toArray := rfl
theorem madeN (n : Nat) (m : Int) (hm : m = (n : Int)) (hn : n ≤ 140737488355328) (W : World) : (Instr.makeSlice 22 (.int .i64 m) (.int .i64 m)).run Try.prog W = .ok (.slice (some ⟨W.heap.size, 0, none⟩) n n) (W.alloc (.cells (nums .u8 (List.replicate n 0)).toArray 5)) := by
  subst hm
  rw [← byV_nums]
  exact madeB n hn W
namespace P
def pyxlaw06_shown.f : Option Bool := some true
set_option maxRecDepth 100000 in
set_option maxHeartbeats 4000000 in
theorem pyxlaw06_shown.calls (r : Bool) (w : World) (h : pyxlaw06_shown.f = some r) : Calls Try.prog 13 #[] w fun e w' => e = .returned (.bool r) ∧ Below w.heap.size w w' := by
  obtain rfl : true = r := Option.some.inj h
  clear h
  obtain ⟨s1, E1, L1⟩ := sh06_a
  obtain ⟨s2, E2, L2, E3, E4⟩ := sh06_b
  obtain ⟨sn, E5, L5, n10, n11⟩ := sh06_n
  obtain ⟨sa, sb, E6, La, Lb⟩ := sh06_h
  have HE := Lib.hid (And.intro E1 (And.intro E2 (And.intro E3 (And.intro E4 (And.intro E5 E6)))))
  have HL := Lib.hid (And.intro L1 (And.intro L2 (And.intro L5 (And.intro La (And.intro Lb (And.intro n10 n11))))))
  clear E1 E2 E3 E4 E5 E6 L1 L2 L5 La Lb n10 n11
  have m32 : Hid (∀ W : World, (Instr.makeSlice 22 (.int .i64 32) (.int .i64 32)).run Try.prog W = .ok (.slice (some ⟨W.heap.size, 0, none⟩) 32 32) (W.alloc (.cells (nums .u8 Z32).toArray 5))) := Lib.hid (madeN 32 32 rfl (by decide))
  have m12 : Hid (∀ W : World, (Instr.makeSlice 22 (.int .i64 12) (.int .i64 12)).run Try.prog W = .ok (.slice (some ⟨W.heap.size, 0, none⟩) 12 12) (W.alloc (.cells (nums .u8 Z12).toArray 5))) := Lib.hid (madeN 12 12 rfl (by decide))
  have Esame : pyxref01_Same.f [2, 3] [2, 3] = some true := by decide
  go_enter Try.func13, Try.ntmps13
  go_wp2_with fail
  rw [m32.out]
  have H0_ := Lib.hid (And.intro (show Kd.C (Kd.int .u8) (w.alloc (Obj.cells (nums .u8 Z32).toArray 5)) (some ⟨w.heap.size, 0, none⟩) 32 Z32 from c_lit w 5 Z32 (by decide)) ((Below.refl w.heap.size w).alloc (Nat.le_refl _) (Obj.cells (nums .u8 Z32).toArray 5)))
  generalize (w.alloc (Obj.cells (nums .u8 Z32).toArray 5)) = W1_ at *
  go_wp2_with fail
  rw [m12.out]
  have H1_ := Lib.hid (And.intro (show Kd.C (Kd.int .u8) (W1_.alloc (Obj.cells (nums .u8 Z12).toArray 5)) (some ⟨W1_.heap.size, 0, none⟩) 12 Z12 from c_lit W1_ 5 Z12 (by decide)) (And.intro (Kd.C_alloc H0_.out.1 (Obj.cells (nums .u8 Z12).toArray 5)) (Below.alloc H0_.out.2 (Below.size H0_.out.2) (Obj.cells (nums .u8 Z12).toArray 5))))
  clear H0_
  generalize (W1_.alloc (Obj.cells (nums .u8 Z12).toArray 5)) = W2_ at *
  go_wp2_with fail
  refine (P.seal_Seal.calls (some ⟨w.heap.size, 0, none⟩) 32 Z32 (some ⟨W1_.heap.size, 0, none⟩) 12 Z12 none 0 [] none 0 [] s1 0 W2_ H1_.out.2.1 (Nat.le_refl _) H1_.out.1 (Nat.le_refl _) (Kd.C_nil _ _) (Nat.le_refl _) (Kd.C_nil _ _) (Nat.le_refl _) HE.out.1).mono ?_
  rintro e_ W3_ ⟨vva, rfl, hRva_, hb_⟩
  obtain ⟨Ava, cva, rfl, hcva, hCva_⟩ := Kd.R_reads hRva_
  clear hRva_
  clear hCva_
  have H2_ := Lib.hid (And.intro (Kd.C_below H1_.out.1 hb_) (And.intro (Kd.C_below H1_.out.2.1 hb_) (H1_.out.2.2.trans (hb_.mono H1_.out.2.2.size))))
  clear H1_
  clear hb_
  go_wp2_with fail
  have hl0_ := c_lit W3_ 5 [1] (by decide)
  have hl1_ := c_lit (W3_.alloc (Obj.cells #[Value.int IntKind.u8 1] 5)) 5 [2, 3] (by decide)
  simp only [World.size_alloc] at hl1_
  have H3_ := Lib.hid (And.intro (show Kd.C (Kd.int .u8) ((W3_.alloc (Obj.cells #[Value.int IntKind.u8 1] 5)).alloc (Obj.cells #[Value.int IntKind.u8 2, Value.int IntKind.u8 3] 5)) (some ⟨W3_.heap.size, 0, none⟩) 1 [1] from Kd.C_alloc (hl0_) (Obj.cells #[Value.int IntKind.u8 2, Value.int IntKind.u8 3] 5)) (And.intro (show Kd.C (Kd.int .u8) ((W3_.alloc (Obj.cells #[Value.int IntKind.u8 1] 5)).alloc (Obj.cells #[Value.int IntKind.u8 2, Value.int IntKind.u8 3] 5)) (some ⟨W3_.heap.size + 1, 0, none⟩) 2 [2, 3] from hl1_) (And.intro (Kd.C_alloc (Kd.C_alloc (H2_.out.1) (Obj.cells #[Value.int IntKind.u8 1] 5)) (Obj.cells #[Value.int IntKind.u8 2, Value.int IntKind.u8 3] 5)) (And.intro (Kd.C_alloc (Kd.C_alloc (H2_.out.2.1) (Obj.cells #[Value.int IntKind.u8 1] 5)) (Obj.cells #[Value.int IntKind.u8 2, Value.int IntKind.u8 3] 5)) (Below.alloc (Below.alloc (H2_.out.2.2) (Below.size (H2_.out.2.2)) (Obj.cells #[Value.int IntKind.u8 1] 5)) (Below.size (Below.alloc (H2_.out.2.2) (Below.size (H2_.out.2.2)) (Obj.cells #[Value.int IntKind.u8 1] 5))) (Obj.cells #[Value.int IntKind.u8 2, Value.int IntKind.u8 3] 5))))))
  clear H2_
  clear hl0_ hl1_
  generalize ((W3_.alloc (Obj.cells #[Value.int IntKind.u8 1] 5)).alloc (Obj.cells #[Value.int IntKind.u8 2, Value.int IntKind.u8 3] 5)) = W4_ at *
  refine (P.seal_Seal.calls (some ⟨w.heap.size, 0, none⟩) 32 Z32 (some ⟨W1_.heap.size, 0, none⟩) 12 Z12 (some ⟨W3_.heap.size, 0, none⟩) 1 [1] (some ⟨W3_.heap.size + 1, 0, none⟩) 2 [2, 3] s2 0 W4_ H3_.out.2.2.2.1 (Nat.le_refl _) H3_.out.2.2.1 (Nat.le_refl _) H3_.out.1 (Nat.le_refl _) H3_.out.2.1 (Nat.le_refl _) HE.out.2.1).mono ?_
  rintro e_ W5_ ⟨vvb, rfl, hRvb_, hb_⟩
  obtain ⟨Avb, cvb, rfl, hcvb, hCvb_⟩ := Kd.R_reads hRvb_
  clear hRvb_
  have H4_ := Lib.hid (And.intro (hCvb_) (And.intro (Kd.C_below H3_.out.1 hb_) (And.intro (Kd.C_below H3_.out.2.1 hb_) (And.intro (Kd.C_below H3_.out.2.2.1 hb_) (And.intro (Kd.C_below H3_.out.2.2.2.1 hb_) (H3_.out.2.2.2.2.trans (hb_.mono H3_.out.2.2.2.2.size)))))))
  clear H3_
  clear hb_ hCvb_
  go_wp2_with fail
  have H5_ := Lib.hid (And.intro (show Kd.C (Kd.int .u8) (W5_.alloc (Obj.cells #[Value.int IntKind.u8 1] 5)) (some ⟨W5_.heap.size, 0, none⟩) 1 [1] from c_lit W5_ 5 [1] (by decide)) (And.intro (Kd.C_alloc H4_.out.1 (Obj.cells #[Value.int IntKind.u8 1] 5)) (And.intro (Kd.C_alloc H4_.out.2.1 (Obj.cells #[Value.int IntKind.u8 1] 5)) (And.intro (Kd.C_alloc H4_.out.2.2.1 (Obj.cells #[Value.int IntKind.u8 1] 5)) (And.intro (Kd.C_alloc H4_.out.2.2.2.1 (Obj.cells #[Value.int IntKind.u8 1] 5)) (And.intro (Kd.C_alloc H4_.out.2.2.2.2.1 (Obj.cells #[Value.int IntKind.u8 1] 5)) (Below.alloc H4_.out.2.2.2.2.2 (Below.size H4_.out.2.2.2.2.2) (Obj.cells #[Value.int IntKind.u8 1] 5))))))))
  clear H4_
  generalize (W5_.alloc (Obj.cells #[Value.int IntKind.u8 1] 5)) = W6_ at *
  refine (P.seal_Open.calls (some ⟨w.heap.size, 0, none⟩) 32 Z32 (some ⟨W1_.heap.size, 0, none⟩) 12 Z12 (some ⟨W5_.heap.size, 0, none⟩) 1 [1] Avb cvb s2 [2, 3] 0 W6_ H5_.out.2.2.2.2.2.1 (Nat.le_refl _) H5_.out.2.2.2.2.1 (Nat.le_refl _) H5_.out.1 (Nat.le_refl _) H5_.out.2.1 hcvb HE.out.2.2.1).mono ?_
  rintro e_ W7_ ⟨vvc, rfl, hRvc_, hb_⟩
  obtain ⟨Avc, cvc, rfl, hcvc, hCvc_⟩ := Kd.R_reads hRvc_
  clear hRvc_
  have H6_ := Lib.hid (And.intro (hCvc_) (And.intro (Kd.C_below H5_.out.1 hb_) (And.intro (Kd.C_below H5_.out.2.1 hb_) (And.intro (Kd.C_below H5_.out.2.2.1 hb_) (And.intro (Kd.C_below H5_.out.2.2.2.1 hb_) (And.intro (Kd.C_below H5_.out.2.2.2.2.1 hb_) (And.intro (Kd.C_below H5_.out.2.2.2.2.2.1 hb_) (H5_.out.2.2.2.2.2.2.trans (hb_.mono H5_.out.2.2.2.2.2.2.size)))))))))
  clear H5_
  clear hb_ hCvc_
  go_wp2_with fail
  have H7_ := Lib.hid (And.intro (show Kd.C (Kd.int .u8) (W7_.alloc (Obj.cells #[Value.int IntKind.u8 2] 5)) (some ⟨W7_.heap.size, 0, none⟩) 1 [2] from c_lit W7_ 5 [2] (by decide)) (And.intro (Kd.C_alloc H6_.out.1 (Obj.cells #[Value.int IntKind.u8 2] 5)) (And.intro (Kd.C_alloc H6_.out.2.1 (Obj.cells #[Value.int IntKind.u8 2] 5)) (And.intro (Kd.C_alloc H6_.out.2.2.1 (Obj.cells #[Value.int IntKind.u8 2] 5)) (And.intro (Kd.C_alloc H6_.out.2.2.2.1 (Obj.cells #[Value.int IntKind.u8 2] 5)) (And.intro (Kd.C_alloc H6_.out.2.2.2.2.1 (Obj.cells #[Value.int IntKind.u8 2] 5)) (And.intro (Kd.C_alloc H6_.out.2.2.2.2.2.1 (Obj.cells #[Value.int IntKind.u8 2] 5)) (And.intro (Kd.C_alloc H6_.out.2.2.2.2.2.2.1 (Obj.cells #[Value.int IntKind.u8 2] 5)) (Below.alloc H6_.out.2.2.2.2.2.2.2 (Below.size H6_.out.2.2.2.2.2.2.2) (Obj.cells #[Value.int IntKind.u8 2] 5))))))))))
  clear H6_
  generalize (W7_.alloc (Obj.cells #[Value.int IntKind.u8 2] 5)) = W8_ at *
  refine (P.seal_Open.calls (some ⟨w.heap.size, 0, none⟩) 32 Z32 (some ⟨W1_.heap.size, 0, none⟩) 12 Z12 (some ⟨W7_.heap.size, 0, none⟩) 1 [2] Avb cvb s2 [] 5 W8_ H7_.out.2.2.2.2.2.2.2.1 (Nat.le_refl _) H7_.out.2.2.2.2.2.2.1 (Nat.le_refl _) H7_.out.1 (Nat.le_refl _) H7_.out.2.2.2.1 hcvb HE.out.2.2.2.1).mono ?_
  rintro e_ W9_ ⟨vvd, rfl, hRvd_, hb_⟩
  obtain ⟨Avd, cvd, rfl, hcvd, hCvd_⟩ := Kd.R_reads hRvd_
  clear hRvd_
  clear hCvd_
  have H8_ := Lib.hid (And.intro (Kd.C_below H7_.out.1 hb_) (And.intro (Kd.C_below H7_.out.2.1 hb_) (And.intro (Kd.C_below H7_.out.2.2.1 hb_) (And.intro (Kd.C_below H7_.out.2.2.2.1 hb_) (And.intro (Kd.C_below H7_.out.2.2.2.2.1 hb_) (And.intro (Kd.C_below H7_.out.2.2.2.2.2.1 hb_) (And.intro (Kd.C_below H7_.out.2.2.2.2.2.2.1 hb_) (And.intro (Kd.C_below H7_.out.2.2.2.2.2.2.2.1 hb_) (H7_.out.2.2.2.2.2.2.2.2.trans (hb_.mono H7_.out.2.2.2.2.2.2.2.2.size))))))))))
  clear H7_
  clear hb_
  go_wp2_with fail
  refine (P.seal_At.calls (some ⟨W1_.heap.size, 0, none⟩) 12 Z12 258 sn 0 W9_ H8_.out.2.2.2.2.2.2.1 (Nat.le_refl _) HE.out.2.2.2.2.1).mono ?_
  rintro e_ W10_ ⟨vvn, rfl, hRvn_, hb_⟩
  obtain ⟨gvn, cvn, rfl, -, hcvn, -, -⟩ := bytes_of_R hRvn_ (by rw [HL.out.2.2.1]; decide)
  have hCvn_ := (Kd.R_reads' hRvn_).2.2
  clear hRvn_
  have H9_ := Lib.hid (And.intro (hCvn_) (And.intro (Kd.C_below H8_.out.1 hb_) (And.intro (Kd.C_below H8_.out.2.1 hb_) (And.intro (Kd.C_below H8_.out.2.2.1 hb_) (And.intro (Kd.C_below H8_.out.2.2.2.1 hb_) (And.intro (Kd.C_below H8_.out.2.2.2.2.1 hb_) (And.intro (Kd.C_below H8_.out.2.2.2.2.2.1 hb_) (And.intro (Kd.C_below H8_.out.2.2.2.2.2.2.1 hb_) (And.intro (Kd.C_below H8_.out.2.2.2.2.2.2.2.1 hb_) (H8_.out.2.2.2.2.2.2.2.2.trans (hb_.mono H8_.out.2.2.2.2.2.2.2.2.size)))))))))))
  clear H8_
  clear hb_ hCvn_
  go_wp2_with fail
  refine (P.seal_Halves.calls (some ⟨w.heap.size, 0, none⟩) 32 Z32 sa sb 0 W10_ H9_.out.2.2.2.2.2.2.2.2.1 (Nat.le_refl _) HE.out.2.2.2.2.2).mono ?_
  rintro e_ W11_ ⟨vvx, vvy, rfl, hRvx_, hRvy_, hb_⟩
  obtain ⟨Avx, cvx, rfl, hcvx, hCvx_⟩ := Kd.R_reads hRvx_
  clear hRvx_
  clear hCvx_
  obtain ⟨Avy, cvy, rfl, hcvy, hCvy_⟩ := Kd.R_reads hRvy_
  clear hRvy_
  clear hCvy_
  have H10_ := Lib.hid (And.intro (Kd.C_below H9_.out.1 hb_) (And.intro (Kd.C_below H9_.out.2.1 hb_) (And.intro (Kd.C_below H9_.out.2.2.1 hb_) (And.intro (Kd.C_below H9_.out.2.2.2.1 hb_) (And.intro (Kd.C_below H9_.out.2.2.2.2.1 hb_) (And.intro (Kd.C_below H9_.out.2.2.2.2.2.1 hb_) (And.intro (Kd.C_below H9_.out.2.2.2.2.2.2.1 hb_) (And.intro (Kd.C_below H9_.out.2.2.2.2.2.2.2.1 hb_) (And.intro (Kd.C_below H9_.out.2.2.2.2.2.2.2.2.1 hb_) (H9_.out.2.2.2.2.2.2.2.2.2.trans (hb_.mono H9_.out.2.2.2.2.2.2.2.2.2.size)))))))))))
  clear H9_
  clear hb_
  rw [HL.out.1, HL.out.2.1, HL.out.2.2.1, HL.out.2.2.2.1, HL.out.2.2.2.2.1]
  go_wp2_with fail
  have H11_ := Lib.hid (And.intro (show Kd.C (Kd.int .u8) (W11_.alloc (Obj.cells #[Value.int IntKind.u8 2, Value.int IntKind.u8 3] 5)) (some ⟨W11_.heap.size, 0, none⟩) 2 [2, 3] from c_lit W11_ 5 [2, 3] (by decide)) (And.intro (Kd.C_alloc H10_.out.1 (Obj.cells #[Value.int IntKind.u8 2, Value.int IntKind.u8 3] 5)) (And.intro (Kd.C_alloc H10_.out.2.1 (Obj.cells #[Value.int IntKind.u8 2, Value.int IntKind.u8 3] 5)) (And.intro (Kd.C_alloc H10_.out.2.2.1 (Obj.cells #[Value.int IntKind.u8 2, Value.int IntKind.u8 3] 5)) (And.intro (Kd.C_alloc H10_.out.2.2.2.1 (Obj.cells #[Value.int IntKind.u8 2, Value.int IntKind.u8 3] 5)) (And.intro (Kd.C_alloc H10_.out.2.2.2.2.1 (Obj.cells #[Value.int IntKind.u8 2, Value.int IntKind.u8 3] 5)) (And.intro (Kd.C_alloc H10_.out.2.2.2.2.2.1 (Obj.cells #[Value.int IntKind.u8 2, Value.int IntKind.u8 3] 5)) (And.intro (Kd.C_alloc H10_.out.2.2.2.2.2.2.1 (Obj.cells #[Value.int IntKind.u8 2, Value.int IntKind.u8 3] 5)) (And.intro (Kd.C_alloc H10_.out.2.2.2.2.2.2.2.1 (Obj.cells #[Value.int IntKind.u8 2, Value.int IntKind.u8 3] 5)) (And.intro (Kd.C_alloc H10_.out.2.2.2.2.2.2.2.2.1 (Obj.cells #[Value.int IntKind.u8 2, Value.int IntKind.u8 3] 5)) (Below.alloc H10_.out.2.2.2.2.2.2.2.2.2 (Below.size H10_.out.2.2.2.2.2.2.2.2.2) (Obj.cells #[Value.int IntKind.u8 2, Value.int IntKind.u8 3] 5))))))))))))
  clear H10_
  generalize (W11_.alloc (Obj.cells #[Value.int IntKind.u8 2, Value.int IntKind.u8 3] 5)) = W12_ at *
  refine (pyxref01_Same.calls Avc cvc [2, 3] (some ⟨W11_.heap.size, 0, none⟩) 2 [2, 3] true W12_ H11_.out.2.2.2.1 hcvc H11_.out.1 (Nat.le_refl _) Esame).mono ?_
  rintro e_ w_ ⟨rfl, hd_⟩
  obtain ⟨n12_, rfl⟩ := hd_.out
  clear hd_
  have H12_ := Lib.hid (And.intro (Kd.C_drewN H11_.out.1 n12_) (And.intro (Kd.C_drewN H11_.out.2.1 n12_) (And.intro (Kd.C_drewN H11_.out.2.2.1 n12_) (And.intro (Kd.C_drewN H11_.out.2.2.2.1 n12_) (And.intro (Kd.C_drewN H11_.out.2.2.2.2.1 n12_) (And.intro (Kd.C_drewN H11_.out.2.2.2.2.2.1 n12_) (And.intro (Kd.C_drewN H11_.out.2.2.2.2.2.2.1 n12_) (And.intro (Kd.C_drewN H11_.out.2.2.2.2.2.2.2.1 n12_) (And.intro (Kd.C_drewN H11_.out.2.2.2.2.2.2.2.2.1 n12_) (And.intro (Kd.C_drewN H11_.out.2.2.2.2.2.2.2.2.2.1 n12_) (pw_below_drewN H11_.out.2.2.2.2.2.2.2.2.2.2 n12_)))))))))))
  clear H11_
  generalize W12_.drewN n12_ = W14_ at *
  have hn0 := H12_.out.2.1
  rw [HL.out.2.2.1] at hn0
  obtain ⟨an, ean, hcn⟩ := byte_cell sn (by decide) hn0
  obtain rfl := Option.some.inj ean
  have c10 := hcn 10 (by decide)
  have c11 := hcn 11 (by decide)
  rw [HL.out.2.2.2.2.2.1, Addr.add_mid] at c10
  rw [HL.out.2.2.2.2.2.2, Addr.add_mid] at c11
  clear hcn hn0 Esame ean
  go_wp2
  go_ret
  exact ⟨rfl, H12_.out.2.2.2.2.2.2.2.2.2.2⟩
end P
end Go.Proofs.Ytifpdpfjhjoieaa

/-! SealP -/
namespace Go.Proofs.Ytifpdpfjhjoieaa
set_option linter.unusedVariables false
set_option linter.unusedSimpArgs false
open Go.RowKit Go.Proofs.Ytifpdpfjhjoieaa.P Go.Proofs.YtifpdpfjhjoieaaW.PrintWords Go.Proofs.YtifpdpfjhjoieaaW.PrintLast
theorem same_self (x : List Int) (h : byteOk x = true) : pyxref01_Same.f x x = some true := by unfold pyxref01_Same.f; rw [if_pos ⟨h, h⟩, beq_self_eq_true]
theorem same_some (x y : List Int) (h : byteOk x = true) (h' : byteOk y = true) : pyxref01_Same.f x y = some (x == y) := by unfold pyxref01_Same.f; rw [if_pos ⟨h, h'⟩]
theorem halves_32 (l0 : List Int) (h0 : byteOk l0 = true) (h32 : l0.length = 32) : seal_Halves.f l0 = some (lockOf l0, tagOf l0, 0) := by
  unfold seal_Halves.f
  rw [if_pos h32, if_pos h0]
  rfl
theorem seal_32 (l0 l1 l2 l3 : List Int) (h : smallB l0 l1 l2 l3) (h32 : l0.length = 32) (h12 : l1.length = 12) : seal_Seal.f l0 l1 l2 l3 = some (sealOf l0 l1 l2 l3, 0) := by
  unfold seal_Seal.f
  unfold smallB at h
  rw [if_pos h, if_pos ⟨h32, h12⟩]
theorem open_some (l0 l1 l2 l3 : List Int) (h : smallB l0 l1 l2 l3) : seal_Open.f l0 l1 l2 l3 = some (openR l0 l1 l2 l3) := by
  unfold seal_Open.f
  rw [if_pos h]
end Go.Proofs.Ytifpdpfjhjoieaa

/-! BytInj -/
namespace Go.Proofs.Ytifpdpfjhjoieaa
set_option linter.unusedVariables false
set_option linter.unusedSimpArgs false
open Go.RowKit
theorem numB_one (n : Nat) (h : n < 256) : numB n 1 = [(n : Int)] := by
  simp [numB, numAt, List.range_succ]
  omega
theorem numB_two (n : Nat) : numB n 2 = [((n / 256 % 256 : Nat) : Int), ((n % 256 : Nat) : Int)] := by
  simp [numB, numAt, List.range_succ]
theorem numB_four (n : Nat) : numB n 4 = [((n / 16777216 % 256 : Nat) : Int), ((n / 65536 % 256 : Nat) : Int), ((n / 256 % 256 : Nat) : Int), ((n % 256 : Nat) : Int)] := by
  simp [numB, numAt, List.range_succ]
/-- A length's bytes, and what is behind them. -/
theorem lenB_inj (n m : Nat) (r s : List Int) (hn : n ≤ 1073741823) (hm : m ≤ 1073741823) (h : lenB n ++ r = lenB m ++ s) : n = m ∧ r = s := by
  unfold lenB at h
  by_cases n1 : n < 64
  · rw [if_pos n1, numB_one n (by omega)] at h
    by_cases m1 : m < 64
    · rw [if_pos m1, numB_one m (by omega)] at h
      simp only [List.cons_append, List.nil_append, List.cons.injEq] at h
      exact ⟨by omega, h.2⟩
    by_cases m2 : m < 16384
    · rw [if_neg m1, if_pos m2, numB_two] at h
      simp only [List.cons_append, List.nil_append, List.cons.injEq] at h
      omega
    · rw [if_neg m1, if_neg m2, numB_four] at h
      simp only [List.cons_append, List.nil_append, List.cons.injEq] at h
      omega
  by_cases n2 : n < 16384
  · rw [if_neg n1, if_pos n2, numB_two] at h
    by_cases m1 : m < 64
    · rw [if_pos m1, numB_one m (by omega)] at h
      simp only [List.cons_append, List.nil_append, List.cons.injEq] at h
      omega
    by_cases m2 : m < 16384
    · rw [if_neg m1, if_pos m2, numB_two] at h
      simp only [List.cons_append, List.nil_append, List.cons.injEq] at h
      exact ⟨by omega, h.2.2⟩
    · rw [if_neg m1, if_neg m2, numB_four] at h
      simp only [List.cons_append, List.nil_append, List.cons.injEq] at h
      omega
  · rw [if_neg n1, if_neg n2, numB_four] at h
    by_cases m1 : m < 64
    · rw [if_pos m1, numB_one m (by omega)] at h
      simp only [List.cons_append, List.nil_append, List.cons.injEq] at h
      omega
    by_cases m2 : m < 16384
    · rw [if_neg m1, if_pos m2, numB_two] at h
      simp only [List.cons_append, List.nil_append, List.cons.injEq] at h
      omega
    · rw [if_neg m1, if_neg m2, numB_four] at h
      simp only [List.cons_append, List.nil_append, List.cons.injEq] at h
      exact ⟨by omega, h.2.2.2.2⟩
theorem rowB_inj (a b r s : List Int) (ha : a.length ≤ 1073741823) (hb : b.length ≤ 1073741823) (h : rowB a ++ r = rowB b ++ s) : a = b ∧ r = s := by
  unfold rowB at h
  rw [List.append_assoc, List.append_assoc] at h
  obtain ⟨hl, h⟩ := lenB_inj _ _ _ _ ha hb h
  exact List.append_inj h hl
end Go.Proofs.Ytifpdpfjhjoieaa
