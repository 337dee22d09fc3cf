/-
 The lower layers, walked and in closed forms, part 3: M1, MacB, RowsMark, KdfA, AppendIn, KdfFirst, KdfSeq, KdfExpand, KdfPassA, BytW, BytC, KdfPassSeq, KdfPass, KdfLabel, Q0, Q1, Q2, KdfRef, KdfRefLabel, RatA.
-/
import Derived.Test.YtdklmafkcbjomaaDoorE0
import Derived.Test.YtdklmafkcbjomaaDoorE1
import Derived.Test.YtdklmafkcbjomaaDoorE2
import Derived.Test.YtdklmafkcbjomaaDoorFWords
import Derived.Test.YtdklmafkcbjomaaDoorFLast
import Derived.Test.YtdklmafkcbjomaaDoorFMore
import Derived.Test.YtdklmafkcbjomaaDoorFRepsOne
import Derived.Test.YtdklmafkcbjomaaDoorProg
import Derived.OwnWalkIn
import Derived.Maps.AppendAt
import Derived.OpenShut
import Derived.Lib.ConvBytes
import Derived.Below
import Derived.Deep.Draws
import Derived.Deep.AppendLies
import Derived.OwnWalk
import Derived.Laws.BytesArg
import Derived.Laws.MakeOwn
import Derived.Laws.OwnMore
import Derived.Deep.OwnRows
import Derived.Tactics
import Derived.Laws.Slices
import Derived.WalkKit
import Derived.KernelRfl
import Derived.RowKit3
import Derived.Deep.LoopGhost
import Derived.Deep.QuietTactic
import Derived.BigQuiet
import Derived.WideLaws
import Derived.Deep.DeepCutAuto
import Derived.Deep.CutBlock
import Derived.Deep.RegionHeld3
import Derived.Laws.Rows
import Derived.Lib.AppendStr
import Derived.ArgAppend
import Derived.Laws.IdiomCopy
import Derived.OrdersHeld
import Derived.Laws.BitsLemmas
import Derived.RowKit
/-! M1 -/
namespace Go.Proofs.YtdklmafkcbjomaaDoor.M
open Go.Proofs.YtdklmafkcbjomaaDoor.P
open Go.RowKit Go.Proofs.YtdklmafkcbjomaaDoorW.PrintWords Go.Proofs.YtdklmafkcbjomaaDoorW.PrintLast Go.Proofs.YtdklmafkcbjomaaDoorW.PrintMore
attribute [local go_sem] max2_int min2_int max_two min_two max_three min_three max_four min_four   -- for this text's walks alone
set_option linter.unusedVariables false
set_option linter.unusedSimpArgs false
-- NOT PRINTED: function 93 (slices_Grow_byte_byte)
/-! ### mac_joined: function 79 -/
def mac_joined.f (l0 : List (List Int)) : Option (List Int) := (slices_Concat.f l0).bind fun t101 => (some t101)
set_option maxHeartbeats 8000000 in
set_option maxRecDepth 100000 in
theorem mac_joined.calls (A0 : Option Addr) (c0 : Nat) (l0 : List (List Int)) (r : List Int) (w : World) (hr0 : Kd.C (Kd.slice 5 (Kd.int .u8)) w A0 l0.length l0) (hc0 : l0.length ≤ c0) (h : mac_joined.f l0 = some r) :
  Calls Tryd.prog 79 #[.slice A0 l0.length c0] w fun e w' => ∃ v0_ : Value, e = .returned (v0_) ∧ Kd.R (Kd.int .u8) 5 w' w.heap.size (fun _ => True) v0_ r ∧ Below w.heap.size w w' := by
 have HR0 := Aside0.mk hr0
 have HC0 := Aside0.mk hc0
 clear hr0 hc0
 have HB := Aside0.mk (Below.refl w.heap.size w)
 have H : ((slices_Concat.f l0).bind fun t101 => (some t101)) = some r := h
 clear h
 replace H := Option.bind_eq_some_iff.mp H
 obtain ⟨t101, A20, H⟩ := H
 replace H : (some t101) = some r := H
 have A2 := Aside0.mk A20
 clear A20
 obtain rfl := Option.some.inj H
 go_enter Tryd.func79, Tryd.ntmps79
 go_wp2_with (first | ((with_reducible refine gate_callee (f := 88) rfl ?_); refine goesL_ (some 4) rfl rfl Tryd.func88 (by kernel_rfl) rfl #[.slice A0 l0.length c0] rfl (by (try simp only [List.map_toArray, List.map_cons, List.map_nil]); first | done | rfl | (simp only [List.length_drop, List.length_take]; rfl)) ?_; (with_reducible refine (slices_Concat.calls _ _ l0 t101 _ ?side1 ?side2 A2.out).mono ?_); (case side1 => repeat (first | exact HR0.out | (with_reducible refine Kd.C_alloc ?_ _) | (with_reducible refine Kd.C_drewN ?_ _) | (with_reducible refine Kd.C_drew ?_))); (case side2 => exact HC0.out); rintro e w3 ⟨v102, rfl, ho0, hb⟩; refine ⟨_, rfl, ?_⟩; have n0_ := Aside0.mk (Kd.R_lower ho0 (below_size (by repeat (first | (with_reducible first | exact HB.out | apply below_alloc | apply pw_below_drewN | apply below_drew1) | exact HB.out)))); have n1_ := Aside0.mk (below_step (by repeat (first | (with_reducible first | exact HB.out | apply below_alloc | apply pw_below_drewN | apply below_drew1) | exact HB.out)) hb); clear HB; have HO103 := n0_; have HB := n1_; clear n0_ n1_; (try clear hb); (try clear hb2); (try clear hk); (try clear hi); (try clear ho0)))
 go_ret
 exact ⟨_, by first | rfl | (simp [errW_none, errW_some] <;> rfl) | (simp [*, errW_none, errW_some] <;> rfl), by (with_reducible repeat (first | apply Kd.R_alloc | apply Kd.R_drewN | apply Kd.R_drew)); exact HO103.out, by repeat (first | (with_reducible first | exact HB.out | apply below_alloc | apply pw_below_drewN | apply below_drew1) | exact HB.out)⟩
-- NOT PRINTED: function 94 (sha_primes)
-- NOT PRINTED: function 101 (bits_Mul64)
-- NOT PRINTED: function 102 (bits_Add64)
-- NOT PRINTED: function 99 (sha_above)
-- NOT PRINTED: function 95 (sha_root)
-- NOT PRINTED: function 89 (sha_keys)
-- NOT PRINTED: function 90 (sha_Start)
-- NOT PRINTED: function 100 (bits_RotateLeft32)
-- NOT PRINTED: function 97 (sha_turned)
-- NOT PRINTED: function 96 (sha_words)
-- NOT PRINTED: function 91 (sha_mixed)
-- NOT PRINTED: function 92 (sha_Pad)
/-! ### mac_All: function 69 -/
def mac_All.f (l0 : List Int) (l1 : List (List Int)) : Option (List Int) := (mac_joined.f l1).bind fun t104 => ((mac_Sum.f l0 t104).bind fun t107 => (some t107))
set_option maxHeartbeats 8000000 in
set_option maxRecDepth 100000 in
theorem mac_All.calls (A0 : Option Addr) (c0 : Nat) (l0 : List Int) (A1 : Option Addr) (c1 : Nat) (l1 : List (List Int)) (r : List Int) (w : World) (hr0 : Kd.C (Kd.int .u8) w A0 l0.length l0) (hc0 : l0.length ≤ c0) (hr1 : Kd.C (Kd.slice 5 (Kd.int .u8)) w A1 l1.length l1) (hc1 : l1.length ≤ c1) (h : mac_All.f l0 l1 = some r) :
  Calls Tryd.prog 69 #[.slice A0 l0.length c0, .slice A1 l1.length c1] w fun e w' => ∃ v0_ : Value, e = .returned (v0_) ∧ Kd.R (Kd.int .u8) 5 w' w.heap.size (fun _ => True) v0_ r ∧ Below w.heap.size w w' := by
 have HR0 := Aside0.mk hr0
 have HC0 := Aside0.mk hc0
 clear hr0 hc0
 have HR1 := Aside0.mk hr1
 have HC1 := Aside0.mk hc1
 clear hr1 hc1
 have HB := Aside0.mk (Below.refl w.heap.size w)
 have H : ((mac_joined.f l1).bind fun t104 => ((mac_Sum.f l0 t104).bind fun t107 => (some t107))) = some r := h
 clear h
 replace H := Option.bind_eq_some_iff.mp H
 obtain ⟨t104, A30, H⟩ := H
 replace H : ((mac_Sum.f l0 t104).bind fun t107 => (some t107)) = some r := H
 have A3 := Aside0.mk A30
 clear A30
 replace H := Option.bind_eq_some_iff.mp H
 obtain ⟨t107, A40, H⟩ := H
 replace H : (some t107) = some r := H
 have A4 := Aside0.mk A40
 clear A40
 obtain rfl := Option.some.inj H
 go_enter Tryd.func69, Tryd.ntmps69
 go_wp2_with (first | ((with_reducible refine gate_callee (f := 79) rfl ?_); refine goesL_ (some 7) rfl rfl Tryd.func79 (by kernel_rfl) rfl #[.slice A1 l1.length c1] rfl (by (try simp only [List.map_toArray, List.map_cons, List.map_nil]); first | done | rfl | (simp only [List.length_drop, List.length_take]; rfl)) ?_; (with_reducible refine (mac_joined.calls _ _ l1 t104 _ ?side1 ?side2 A3.out).mono ?_); (case side1 => repeat (first | exact HR1.out | (with_reducible refine Kd.C_alloc ?_ _) | (with_reducible refine Kd.C_drewN ?_ _) | (with_reducible refine Kd.C_drew ?_))); (case side2 => exact HC1.out); rintro e w5 ⟨v105, rfl, ho0, hb⟩; refine ⟨_, rfl, ?_⟩; have n0_ := Aside0.mk (Kd.R_lower ho0 (below_size (by repeat (first | (with_reducible first | exact HB.out | apply below_alloc | apply pw_below_drewN | apply below_drew1) | exact HB.out)))); have n1_ := Aside0.mk (below_step (by repeat (first | (with_reducible first | exact HB.out | apply below_alloc | apply pw_below_drewN | apply below_drew1) | exact HB.out)) hb); clear HB; have HO106 := n0_; have HB := n1_; clear n0_ n1_; (try clear hb); (try clear hb2); (try clear hk); (try clear hi); (try clear ho0); obtain ⟨Ao6, co6, eo6⟩ := Kd.R_slice HO106.out; subst eo6) | ((with_reducible refine gate_callee (f := 78) rfl ?_); refine goesL_ (some 8) rfl rfl Tryd.func78 (by kernel_rfl) rfl #[.slice A0 l0.length c0, .slice Ao6 t104.length co6] rfl (by (try simp only [List.map_toArray, List.map_cons, List.map_nil]); first | done | rfl | (simp only [List.length_drop, List.length_take]; rfl)) ?_; (with_reducible refine (mac_Sum.calls _ _ l0 _ _ t104 t107 _ ?side1 ?side2 ?side3 ?side4 A4.out).mono ?_); (case side1 => repeat (first | exact (Kd.C_below HR0.out HB.out) | (with_reducible refine Kd.C_alloc ?_ _) | (with_reducible refine Kd.C_drewN ?_ _) | (with_reducible refine Kd.C_drew ?_))); (case side2 => exact HC0.out); (case side3 => repeat (first | exact (Kd.R_reads' HO106.out).2.2 | (with_reducible refine Kd.C_alloc ?_ _) | (with_reducible refine Kd.C_drewN ?_ _) | (with_reducible refine Kd.C_drew ?_))); (case side4 => exact (Kd.R_reads' HO106.out).2.1); rintro e w7 ⟨v108, rfl, ho0, hb⟩; refine ⟨_, rfl, ?_⟩; have n0_ := Aside0.mk (Kd.R_elder' (by (with_reducible repeat (first | apply Kd.R_alloc | apply Kd.R_drewN | apply Kd.R_drew)); exact HO106.out) (Kd.R_base ho0) hb); have n1_ := Aside0.mk (Kd.R_lower (Kd.R_new' ho0 (Kd.R_lt (by (with_reducible repeat (first | apply Kd.R_alloc | apply Kd.R_drewN | apply Kd.R_drew)); exact HO106.out))) (below_size (by repeat (first | (with_reducible first | exact HB.out | apply below_alloc | apply pw_below_drewN | apply below_drew1) | exact HB.out)))); have n2_ := Aside0.mk (below_step (by repeat (first | (with_reducible first | exact HB.out | apply below_alloc | apply pw_below_drewN | apply below_drew1) | exact HB.out)) hb); clear HO106; clear HB; have HO106 := n0_; have HO109 := n1_; have HB := n2_; clear n0_ n1_ n2_; (try clear hb); (try clear hb2); (try clear hk); (try clear hi); (try clear ho0)))
 go_ret
 exact ⟨_, by first | rfl | (simp [errW_none, errW_some] <;> rfl) | (simp [*, errW_none, errW_some] <;> rfl), by (with_reducible repeat (first | apply Kd.R_alloc | apply Kd.R_drewN | apply Kd.R_drew)); exact Kd.R_mono HO109.out (fun _ hk => trivial), by repeat (first | (with_reducible first | exact HB.out | apply below_alloc | apply pw_below_drewN | apply below_drew1) | exact HB.out)⟩
-- NOT PRINTED: function 73 (pyxref02_Pad)
-- NOT PRINTED: function 74 (pyxref02_keys)
-- NOT PRINTED: function 75 (pyxref02_Start)
-- NOT PRINTED: function 82 (pyxref02_word)
-- NOT PRINTED: function 83 (pyxref02_turn)
-- NOT PRINTED: function 76 (pyxref02_step)
/-! ### pyxref03_Key: function 63 -/
mutual
def pyxref03_Key.j0 : Nat → List Int → Option (List Int)
 | 0, _ => none
 | k + 1, x3 => pyxref03_Key.l0 k x3
def pyxref03_Key.l0 : Nat → List Int → Option (List Int)
 | 0, _ => none
 | k + 1, x3 => if (x3.length : Int) < 64 then (if x3.length < 140737488355328 then (pyxref03_Key.l0 k (x3 ++ [0])) else (none)) else (some x3)
end
def pyxref03_Key.f (k : Nat) (l0 : List Int) : Option (List Int) := (some (([] : List Int) : List Int)).bind fun y110 => (if y110.length + l0.length < 140737488355328 then (if (l0.length : Int) > 64 then ((pyxref02_Sum.f l0).bind fun t116 => (pyxref03_Key.j0 k t116)) else (pyxref03_Key.j0 k (y110 ++ l0))) else (none))
set_option maxHeartbeats 8000000 in
set_option maxRecDepth 100000 in
theorem pyxref03_Key.calls (k : Nat) (A0 : Option Addr) (c0 : Nat) (l0 : List Int) (r : List Int) (w : World) (hr0 : Kd.C (Kd.int .u8) w A0 l0.length l0) (hc0 : l0.length ≤ c0) (h : pyxref03_Key.f k l0 = some r) :
  Calls Tryd.prog 63 #[.slice A0 l0.length c0] w fun e w' => ∃ v0_ : Value, e = .returned (v0_) ∧ Kd.R (Kd.int .u8) 5 w' w.heap.size (fun _ => True) v0_ r ∧ Below w.heap.size w w' := by
 have HR0 := Aside0.mk hr0
 have HC0 := Aside0.mk hc0
 clear hr0 hc0
 have HB := Aside0.mk (Below.refl w.heap.size w)
 have H : ((some (([] : List Int) : List Int)).bind fun y110 => (if y110.length + l0.length < 140737488355328 then (if (l0.length : Int) > 64 then ((pyxref02_Sum.f l0).bind fun t116 => (pyxref03_Key.j0 k t116)) else (pyxref03_Key.j0 k (y110 ++ l0))) else (none))) = some r := h
 clear h
 obtain ⟨y110, hy110⟩ : ∃ y_ : List Int, y_ = (([] : List Int)) := ⟨_, rfl⟩
 replace H : (if y110.length + l0.length < 140737488355328 then (if (l0.length : Int) > 64 then ((pyxref02_Sum.f l0).bind fun t116 => (pyxref03_Key.j0 k t116)) else (pyxref03_Key.j0 k (y110 ++ l0))) else (none)) = some r := by first | (rw [hy110]; with_reducible exact H) | (have H2_ := (Option.bind_some _ _).symm.trans H; rw [hy110]; with_reducible exact H2_) | (have H2_ := (Option.bind_some _ _).symm.trans H; with_reducible exact H2_) | with_reducible exact H | (rw [hy110]; exact H) | exact H
 have Ny110 := Aside0.mk hy110
 clear hy110
 by_cases c2 : y110.length + l0.length < 140737488355328
 rotate_left
 ·rw [if_neg c2] at H
  exact absurd H (by simp)
 rw [if_pos c2] at H
 have LMc2 := Aside0.mk c2
 clear c2
 obtain ⟨y113, hy113⟩ : ∃ y_ : List Int, y_ = (y110 ++ l0) := ⟨_, rfl⟩
 replace H : (if (l0.length : Int) > 64 then ((pyxref02_Sum.f l0).bind fun t116 => (pyxref03_Key.j0 k t116)) else (pyxref03_Key.j0 k y113)) = some r := by first | (rw [hy113]; with_reducible exact H) | (have H2_ := (Option.bind_some _ _).symm.trans H; rw [hy113]; with_reducible exact H2_) | (have H2_ := (Option.bind_some _ _).symm.trans H; with_reducible exact H2_) | with_reducible exact H | (rw [hy113]; exact H) | exact H
 have Ny113 := Aside0.mk hy113
 clear hy113
 have HC3 := Aside0.mk H
 clear H
 go_enter Tryd.func63, Tryd.ntmps63
 go_upto_if 9 with (first | ((with_reducible refine gate_dst (N := 4) rfl ?_); refine Kd.R_lit (Kd.int .u8) _ 5 ?hg (N := 4) ?hd (xs := ([] : List Int)) (inner := []) (ok := fun _ => True) (okp := fun _ => True) ?hr ?hp (fun _ hk => hk) trivial (Below.refl _ _) (Nat.le_refl _) (by simp) ?_; (case hd => rfl); (case hg => rfl); (case hr => first | (go_simp; done) | (go_simp; rfl)); (case hp => exact (Reps.none _ _)); intro v111 w4 ho5 hb hg_ hnew_; clear hg_ hnew_; (first | rw [← Ny110.out] at ho5 | (simp only [Int.reduceToNat] at ho5; rw [← Ny110.out] at ho5)); have n0_ := Aside0.mk (Kd.R_lower ho5 (below_size (by repeat (first | (with_reducible first | exact HB.out | apply below_alloc | apply pw_below_drewN | apply below_drew1) | exact HB.out)))); have n1_ := Aside0.mk (below_step (by repeat (first | (with_reducible first | exact HB.out | apply below_alloc | apply pw_below_drewN | apply below_drew1) | exact HB.out)) hb); clear HB; have HO112 := n0_; have HB := n1_; clear n0_ n1_; clear hb ho5) | ((with_reducible refine gate_builtin (b := .append) (xs := #[.tmp 4, .tmp 5]) rfl ?_); at_builtin; refine Kd.R_append_rows (Kd.int .u8) (w0 := w) w.heap.size rfl (.tmp 4) (.tmp 5) 22 5 (.int .u8 0) 1 rfl Tryd.underlying22 info5 rfl (by decide) (by omega) v111 y110 l0 _ _ _ (fun _ => True) (fun _ => False) rfl rfl ?aO ?aR (fun _ _ h => h) (fun _ h => h.elim) ?aF ?aB ?aS ?aL ?_; (case aR => repeat (first | exact (Kd.C_below HR0.out HB.out) | (with_reducible refine Kd.C_alloc ?_ _) | (with_reducible refine Kd.C_drewN ?_ _) | (with_reducible refine Kd.C_drew ?_))); (case aB => exact (by repeat (first | (with_reducible first | exact HB.out | apply below_alloc | apply pw_below_drewN | apply below_drew1) | exact HB.out))); (case aF => exact (fun _ _ => trivial)); (case aO => exact (by (with_reducible repeat (first | apply Kd.R_alloc | apply Kd.R_drewN | apply Kd.R_drew)); exact HO112.out)); (case aS => exact (below_size (by repeat (first | (with_reducible first | exact HB.out | apply below_alloc | apply pw_below_drewN | apply below_drew1) | exact HB.out)))); (case aL => have := LMc2.out; omega); intro v114 w6 ho hb hg hat; rw [← Ny113.out] at ho; have n0_ := Aside0.mk (hb); have n1_ := Aside0.mk (ho); clear HB; clear HO112; have HB := n0_; have HO115 := n1_; clear n0_ n1_; clear ho hb hg hat))
 (try simp only [Act.put, List.setIfInBounds_toArray, List.set_cons_zero, List.set_cons_succ])
 go_cut [3] (fun v3 wc => ∃ (kq : Nat) (x3_2 : List Int), Aside0 (pyxref03_Key.j0 kq x3_2 = some r) ∧ Aside0 (kq ≤ k) ∧ Aside0 (Kd.R (Kd.int .u8) 5 wc w.heap.size (fun _ => True) v3 x3_2) ∧ Aside0 (Below w.heap.size w wc))
 case first =>
  have H := HC3.out
  clear HC3
  by_cases c7 : (l0.length : Int) > 64
  rotate_left
  ·rw [if_neg c7] at H
   have c7b0 : decide (64 < (l0.length : Int)) = false := decide_eq_false c7
   have c7b1 : decide (64 < l0.length) = false := decide_eq_false (by omega)
   clear c7
   (first | rw [c7b0] | (simp only [i64_w, i32_w]; rw [c7b0]) | skip)
   have H' := Aside0.mk H
   clear H
   go_wp2
   go_meet
   case rel => exact ⟨_, (y113), H', ⟨by first | omega | exact Nat.le_refl _⟩, ⟨by (with_reducible repeat (first | apply Kd.R_alloc | apply Kd.R_drewN | apply Kd.R_drew)); exact HO115.out⟩, ⟨by repeat (first | (with_reducible first | exact HB.out | apply below_alloc | apply pw_below_drewN | apply below_drew1) | exact HB.out)⟩⟩
  rw [if_pos c7] at H
  have c7b0 : decide (64 < (l0.length : Int)) = true := decide_eq_true c7
  have c7b1 : decide (64 < l0.length) = true := decide_eq_true (by omega)
  clear c7
  (first | rw [c7b0] | (simp only [i64_w, i32_w]; rw [c7b0]) | skip)
  replace H := Option.bind_eq_some_iff.mp H
  obtain ⟨t116, A80, H⟩ := H
  replace H : (pyxref03_Key.j0 k t116) = some r := H
  have A8 := Aside0.mk A80
  clear A80
  have H' := Aside0.mk H
  clear H
  go_wp2_with (first | ((with_reducible refine gate_callee (f := 64) rfl ?_); refine goesL_ (some 11) rfl rfl Tryd.func64 (by kernel_rfl) rfl #[.slice A0 l0.length c0] rfl (by (try simp only [List.map_toArray, List.map_cons, List.map_nil]); first | done | rfl | (simp only [List.length_drop, List.length_take]; rfl)) ?_; (with_reducible refine (pyxref02_Sum.calls _ _ l0 t116 _ ?side1 ?side2 A8.out).mono ?_); (case side1 => repeat (first | exact (Kd.C_below HR0.out HB.out) | (with_reducible refine Kd.C_alloc ?_ _) | (with_reducible refine Kd.C_drewN ?_ _) | (with_reducible refine Kd.C_drew ?_))); (case side2 => exact HC0.out); rintro e w9 ⟨v117, rfl, ho0, hb⟩; refine ⟨_, rfl, ?_⟩; have n0_ := Aside0.mk (Kd.R_elder' (by (with_reducible repeat (first | apply Kd.R_alloc | apply Kd.R_drewN | apply Kd.R_drew)); exact HO115.out) (Kd.R_base ho0) hb); have n1_ := Aside0.mk (Kd.R_lower (Kd.R_new' ho0 (Kd.R_lt (by (with_reducible repeat (first | apply Kd.R_alloc | apply Kd.R_drewN | apply Kd.R_drew)); exact HO115.out))) (below_size (by repeat (first | (with_reducible first | exact HB.out | apply below_alloc | apply pw_below_drewN | apply below_drew1) | exact HB.out)))); have n2_ := Aside0.mk (below_step (by repeat (first | (with_reducible first | exact HB.out | apply below_alloc | apply pw_below_drewN | apply below_drew1) | exact HB.out)) hb); clear HO115; clear HB; have HO115 := n0_; have HO118 := n1_; have HB := n2_; clear n0_ n1_ n2_; (try clear hb); (try clear hb2); (try clear hk); (try clear hi); (try clear ho0)))
  go_meet
  case rel => exact ⟨_, (t116), H', ⟨by first | omega | exact Nat.le_refl _⟩, ⟨by (with_reducible repeat (first | apply Kd.R_alloc | apply Kd.R_drewN | apply Kd.R_drew)); exact Kd.R_mono HO118.out (fun _ hk => trivial)⟩, ⟨by repeat (first | (with_reducible first | exact HB.out | apply below_alloc | apply pw_below_drewN | apply below_drew1) | exact HB.out)⟩⟩
 clear HC3
 try clear c2
 try clear p2
 try clear c6
 try clear c7
 try clear c7b0
 try clear c7b1
 obtain ⟨kq, x3_2, HA, HJ2, HO_3, HB⟩ := hcut
 cases kq with
 | zero => exact absurd HA.out (by simp [pyxref03_Key.j0])
 | succ kj2 =>
  have H := HA.out
  clear HA
  simp only [pyxref03_Key.j0] at H
  have H' := Aside0.mk H
  clear H
  go_wp2
  go_loopg [3] kj2 (fun kq v3 w' => ∃ (x3_2 : List Int), Aside0 (pyxref03_Key.l0 kq x3_2 = some r) ∧ Aside0 (kq ≤ kj2) ∧ Aside0 (Kd.R (Kd.int .u8) 5 w' w.heap.size (fun _ => True) v3 x3_2) ∧ Aside0 (Below w.heap.size w w'))
  case atStart => exact ⟨(x3_2), H', ⟨Nat.le_refl _⟩, ⟨by (with_reducible repeat (first | apply Kd.R_alloc | apply Kd.R_drewN | apply Kd.R_drew)); exact HO_3.out⟩, ⟨by repeat (first | (with_reducible first | exact HB.out | apply below_alloc | apply pw_below_drewN | apply below_drew1) | exact HB.out)⟩⟩
  clear H'
  try clear c2
  try clear p2
  try clear c6
  try clear c7
  try clear c7b0
  try clear c7b1
  try clear p2
  obtain ⟨x3_2, HA, HK2, HO_3, HB⟩ := hrel
  cases gk with
  | zero => exact absurd HA.out (by simp [pyxref03_Key.l0])
  | succ k2 =>
   have H := HA.out
   clear HA
   simp only [pyxref03_Key.l0] at H
   by_cases c10 : (x3_2.length : Int) < 64
   rotate_left
   ·rw [if_neg c10] at H
    have c10b0 : decide ((x3_2.length : Int) < 64) = false := decide_eq_false c10
    have c10b1 : decide (x3_2.length < 64) = false := decide_eq_false (by omega)
    clear c10
    obtain rfl := Option.some.inj H
    obtain ⟨Ao14, co14, eo14⟩ := Kd.R_slice HO_3.out
    subst eo14
    go_wp2
    go_ret
    exact ⟨_, by first | rfl | (simp [errW_none, errW_some] <;> rfl) | (simp [*, errW_none, errW_some] <;> rfl), by (with_reducible repeat (first | apply Kd.R_alloc | apply Kd.R_drewN | apply Kd.R_drew)); exact HO_3.out, by repeat (first | (with_reducible first | exact HB.out | apply below_alloc | apply pw_below_drewN | apply below_drew1) | exact HB.out)⟩
   rw [if_pos c10] at H
   have c10b0 : decide ((x3_2.length : Int) < 64) = true := decide_eq_true c10
   have c10b1 : decide (x3_2.length < 64) = true := decide_eq_true (by omega)
   clear c10
   by_cases c11 : x3_2.length < 140737488355328
   rotate_left
   ·rw [if_neg c11] at H
    exact absurd H (by simp)
   rw [if_pos c11] at H
   have LMc11 := Aside0.mk c11
   clear c11
   obtain ⟨y119, hy119⟩ : ∃ y_ : List Int, y_ = (x3_2 ++ [0]) := ⟨_, rfl⟩
   replace H : (pyxref03_Key.l0 k2 y119) = some r := by first | (rw [hy119]; with_reducible exact H) | (have H2_ := (Option.bind_some _ _).symm.trans H; rw [hy119]; with_reducible exact H2_) | (have H2_ := (Option.bind_some _ _).symm.trans H; with_reducible exact H2_) | with_reducible exact H | (rw [hy119]; exact H) | exact H
   have Ny119 := Aside0.mk hy119
   clear hy119
   have H' := Aside0.mk H
   clear H
   obtain ⟨Ao12, co12, eo12⟩ := Kd.R_slice HO_3.out
   subst eo12
   go_wp2_with (first | ((with_reducible refine gate_builtin (b := .append) (xs := #[.tmp 15, .tmp 16]) rfl ?_); at_builtin; refine Kd.R_append (Kd.int .u8) (w0 := w) w.heap.size rfl (.tmp 15) (.tmp 16) 22 5 (.int .u8 0) 1 rfl Tryd.underlying22 info5 rfl (by decide) (by omega) (.slice Ao12 x3_2.length co12) x3_2 0 [.int .u8 0] (fun _ => True) (fun _ => False) rfl rfl ?aP (fun _ hk => hk.elim) ?aF ?aO ?aB ?aS ?aL ?_; (case aP => exact rfl); (case aB => exact (by repeat (first | (with_reducible first | exact HB.out | apply below_alloc | apply pw_below_drewN | apply below_drew1) | exact HB.out))); (case aF => exact (fun _ _ => trivial)); (case aO => exact (by (with_reducible repeat (first | apply Kd.R_alloc | apply Kd.R_drewN | apply Kd.R_drew)); exact HO_3.out)); (case aS => exact (below_size (by repeat (first | (with_reducible first | exact HB.out | apply below_alloc | apply pw_below_drewN | apply below_drew1) | exact HB.out)))); (case aL => have := LMc11.out; omega); intro v120 w13 ho hb hg hat; rw [← Ny119.out] at ho; have n0_ := Aside0.mk (hb); have n1_ := Aside0.mk (ho); clear HB; clear HO_3; have HB := n0_; have HO121 := n1_; clear n0_ n1_; clear ho hb hg hat))
   go_roundg k2
   case measure => have := HJ2.out; have := HK2.out; omega
   case rel => exact ⟨(y119), H', ⟨by have := HJ2.out; have := HK2.out; omega⟩, ⟨by (with_reducible repeat (first | apply Kd.R_alloc | apply Kd.R_drewN | apply Kd.R_drew)); exact HO121.out⟩, ⟨by repeat (first | (with_reducible first | exact HB.out | apply below_alloc | apply pw_below_drewN | apply below_drew1) | exact HB.out)⟩⟩
/-! ### pyxref03_with: function 65 -/
def pyxref03_with.l0 : Nat → List Int → Int → List Int → Int → Option (List Int)
 | 0, _, _, _, _ => none
 | k + 1, x0, x1, x5, x6 => if x6 < (x0.length : Int) then (if 0 ≤ x6 then (if x5.length < 140737488355328 then (pyxref03_with.l0 k x0 x1 (x5 ++ [Go.bits .xor .u8 (rd x0 x6) x1]) (wrap64 (x6 + 1))) else (none)) else (none)) else (some x5)
def pyxref03_with.f (k : Nat) (l0 : List Int) (a1 : Int) : Option (List Int) := pyxref03_with.l0 k l0 a1 ([] : List Int) 0
set_option maxHeartbeats 8000000 in
set_option maxRecDepth 100000 in
theorem pyxref03_with.calls (k : Nat) (A0 : Option Addr) (c0 : Nat) (l0 : List Int) (a1 : Int) (r : List Int) (w : World) (hr0 : Kd.C (Kd.int .u8) w A0 l0.length l0) (hc0 : l0.length ≤ c0) (h : pyxref03_with.f k l0 a1 = some r) :
  Calls Tryd.prog 65 #[.slice A0 l0.length c0, .int .u8 a1] w fun e w' => ∃ v0_ : Value, e = .returned (v0_) ∧ Kd.R (Kd.int .u8) 5 w' w.heap.size (fun _ => True) v0_ r ∧ Below w.heap.size w w' := by
 have HR0 := Aside0.mk hr0
 have HC0 := Aside0.mk hc0
 clear hr0 hc0
 have HB := Aside0.mk (Below.refl w.heap.size w)
 have H : (pyxref03_with.l0 k l0 a1 ([] : List Int) 0) = some r := h
 clear h
 have H' := Aside0.mk H
 clear H
 go_enter Tryd.func65, Tryd.ntmps65
 go_wp2
 go_loopg [5, 6] k (fun kq v5 v6 w' => ∃ (x5_1 : List Int) (x6_1 : Int), v6 = .int .i64 x6_1 ∧ Aside0 (pyxref03_with.l0 kq l0 a1 x5_1 x6_1 = some r) ∧ Aside0 (kq ≤ k) ∧ Aside0 (Kd.R (Kd.int .u8) 5 w' w.heap.size (fun _ => True) v5 x5_1) ∧ Aside0 (Below w.heap.size w w'))
 case atStart => exact ⟨(([] : List Int)), (0), (by first | rfl | (simp; done) | (simp [*]; done)), H', ⟨Nat.le_refl _⟩, ⟨by first | exact Kd.R_nil _ _ _ _ _ | exact Kd.N_nil _ _ _ _ _ | exact Kd.V_nil _ _ _ _ _ | exact Kd.Q_nil _ _ _ _ _ | exact Kd.S_nil _ _ _ _ _⟩, ⟨by repeat (first | (with_reducible first | exact HB.out | apply below_alloc | apply pw_below_drewN | apply below_drew1) | exact HB.out)⟩⟩
 clear H'
 try clear p2
 obtain ⟨x5_1, x6_1, rfl, HA, HK1, HO_5, HB⟩ := hrel
 cases gk with
 | zero => exact absurd HA.out (by simp [pyxref03_with.l0])
 | succ k1 =>
  have H := HA.out
  clear HA
  simp only [pyxref03_with.l0] at H
  by_cases c3 : x6_1 < (l0.length : Int)
  rotate_left
  ·rw [if_neg c3] at H
   have c3b0 : decide (x6_1 < (l0.length : Int)) = false := decide_eq_false c3
   clear c3
   obtain rfl := Option.some.inj H
   go_wp2
   go_ret
   exact ⟨_, by first | rfl | (simp [errW_none, errW_some] <;> rfl) | (simp [*, errW_none, errW_some] <;> rfl), by (with_reducible repeat (first | apply Kd.R_alloc | apply Kd.R_drewN | apply Kd.R_drew)); exact HO_5.out, by repeat (first | (with_reducible first | exact HB.out | apply below_alloc | apply pw_below_drewN | apply below_drew1) | exact HB.out)⟩
  rw [if_pos c3] at H
  have c3b0 : decide (x6_1 < (l0.length : Int)) = true := decide_eq_true c3
  clear c3
  by_cases c4 : 0 ≤ x6_1
  rotate_left
  ·rw [if_neg c4] at H
   exact absurd H (by simp)
  rw [if_pos c4] at H
  have c4b0 : decide (0 ≤ x6_1) = true := decide_eq_true c4
  clear c4
  by_cases c5 : x5_1.length < 140737488355328
  rotate_left
  ·rw [if_neg c5] at H
   exact absurd H (by simp)
  rw [if_pos c5] at H
  have LMc5 := Aside0.mk c5
  clear c5
  obtain ⟨y123, hy123⟩ : ∃ y_ : List Int, y_ = (x5_1 ++ [Go.bits .xor .u8 (rd l0 x6_1) a1]) := ⟨_, rfl⟩
  replace H : (pyxref03_with.l0 k1 l0 a1 y123 (wrap64 (x6_1 + 1))) = some r := by first | (rw [hy123]; with_reducible exact H) | (have H2_ := (Option.bind_some _ _).symm.trans H; rw [hy123]; with_reducible exact H2_) | (have H2_ := (Option.bind_some _ _).symm.trans H; with_reducible exact H2_) | with_reducible exact H | (rw [hy123]; exact H) | exact H
  have Ny123 := Aside0.mk hy123
  clear hy123
  have H' := Aside0.mk H
  clear H
  have p122 : 0 ≤ (x6_1 : Int) := of_decide_eq_true (by first | (with_reducible assumption) | assumption)
  have q122 : x6_1 < (l0.length : Int) := of_decide_eq_true (by first | (with_reducible assumption) | assumption)
  obtain ⟨ad122, e122, hx122_0⟩ := Kd.at_int HR0.out x6_1 p122 q122
  cases e122
  replace hx122_0 := (HB.out.cell (World.block_lt_of_cell? w _ hx122_0)).trans hx122_0
  replace p122 := eq_true p122
  replace q122 := eq_true q122
  go_wp2_with (first | ((with_reducible refine gate_builtin (b := .append) (xs := #[.tmp 13, .tmp 20]) rfl ?_); at_builtin; refine Kd.R_append (Kd.int .u8) (w0 := w) w.heap.size rfl (.tmp 13) (.tmp 20) 22 5 (.int .u8 0) 1 rfl Tryd.underlying22 info5 rfl (by decide) (by omega) u5 x5_1 (Go.bits .xor .u8 (rd l0 x6_1) a1) [.int .u8 (Go.bits .xor .u8 (rd l0 x6_1) a1)] (fun _ => True) (fun _ => False) rfl rfl ?aP (fun _ hk => hk.elim) ?aF ?aO ?aB ?aS ?aL ?_; (case aP => exact rfl); (case aB => exact (by repeat (first | (with_reducible first | exact HB.out | apply below_alloc | apply pw_below_drewN | apply below_drew1) | exact HB.out))); (case aF => exact (fun _ _ => trivial)); (case aO => exact (by (with_reducible repeat (first | apply Kd.R_alloc | apply Kd.R_drewN | apply Kd.R_drew)); exact HO_5.out)); (case aS => exact (below_size (by repeat (first | (with_reducible first | exact HB.out | apply below_alloc | apply pw_below_drewN | apply below_drew1) | exact HB.out)))); (case aL => have := LMc5.out; omega); intro v124 w6 ho hb hg hat; rw [← Ny123.out] at ho; have n0_ := Aside0.mk (hb); have n1_ := Aside0.mk (ho); clear HB; clear HO_5; have HB := n0_; have HO125 := n1_; clear n0_ n1_; clear ho hb hg hat))
  go_roundg k1
  case measure => have := HK1.out; omega
  case rel => exact ⟨(y123), (wrap64 (x6_1 + 1)), (by first | rfl | (simp; done) | (simp [*]; done)), H', ⟨by have := HK1.out; omega⟩, ⟨by (with_reducible repeat (first | apply Kd.R_alloc | apply Kd.R_drewN | apply Kd.R_drew)); exact HO125.out⟩, ⟨by repeat (first | (with_reducible first | exact HB.out | apply below_alloc | apply pw_below_drewN | apply below_drew1) | exact HB.out)⟩⟩
/-! ### pyxref03_Sum: function 55 -/
def pyxref03_Sum.f (k : Nat) (l0 : List Int) (l1 : List Int) : Option (List Int) := (pyxref03_Key.f k l0).bind fun t126 => ((pyxref03_with.f k t126 54).bind fun t129 => (if t129.length + l1.length < 140737488355328 then ((pyxref02_Sum.f (t129 ++ l1)).bind fun t135 => ((pyxref03_with.f k t126 92).bind fun t138 => (if t138.length + t135.length < 140737488355328 then ((pyxref02_Sum.f (t138 ++ t135)).bind fun t144 => (some t144)) else (none)))) else (none)))
set_option maxHeartbeats 8000000 in
set_option maxRecDepth 100000 in
theorem pyxref03_Sum.calls (k : Nat) (A0 : Option Addr) (c0 : Nat) (l0 : List Int) (A1 : Option Addr) (c1 : Nat) (l1 : List Int) (r : List Int) (w : World) (hr0 : Kd.C (Kd.int .u8) w A0 l0.length l0) (hc0 : l0.length ≤ c0) (hr1 : Kd.C (Kd.int .u8) w A1 l1.length l1) (hc1 : l1.length ≤ c1) (h : pyxref03_Sum.f k l0 l1 = some r) :
  Calls Tryd.prog 55 #[.slice A0 l0.length c0, .slice A1 l1.length c1] w fun e w' => ∃ v0_ : Value, e = .returned (v0_) ∧ Kd.R (Kd.int .u8) 5 w' w.heap.size (fun _ => True) v0_ r ∧ Below w.heap.size w w' := by
 have HR0 := Aside0.mk hr0
 have HC0 := Aside0.mk hc0
 clear hr0 hc0
 have HR1 := Aside0.mk hr1
 have HC1 := Aside0.mk hc1
 clear hr1 hc1
 have HB := Aside0.mk (Below.refl w.heap.size w)
 have H : ((pyxref03_Key.f k l0).bind fun t126 => ((pyxref03_with.f k t126 54).bind fun t129 => (if t129.length + l1.length < 140737488355328 then ((pyxref02_Sum.f (t129 ++ l1)).bind fun t135 => ((pyxref03_with.f k t126 92).bind fun t138 => (if t138.length + t135.length < 140737488355328 then ((pyxref02_Sum.f (t138 ++ t135)).bind fun t144 => (some t144)) else (none)))) else (none)))) = some r := h
 clear h
 replace H := Option.bind_eq_some_iff.mp H
 obtain ⟨t126, A30, H⟩ := H
 replace H : ((pyxref03_with.f k t126 54).bind fun t129 => (if t129.length + l1.length < 140737488355328 then ((pyxref02_Sum.f (t129 ++ l1)).bind fun t135 => ((pyxref03_with.f k t126 92).bind fun t138 => (if t138.length + t135.length < 140737488355328 then ((pyxref02_Sum.f (t138 ++ t135)).bind fun t144 => (some t144)) else (none)))) else (none))) = some r := H
 have A3 := Aside0.mk A30
 clear A30
 replace H := Option.bind_eq_some_iff.mp H
 obtain ⟨t129, A40, H⟩ := H
 replace H : (if t129.length + l1.length < 140737488355328 then ((pyxref02_Sum.f (t129 ++ l1)).bind fun t135 => ((pyxref03_with.f k t126 92).bind fun t138 => (if t138.length + t135.length < 140737488355328 then ((pyxref02_Sum.f (t138 ++ t135)).bind fun t144 => (some t144)) else (none)))) else (none)) = some r := H
 have A4 := Aside0.mk A40
 clear A40
 by_cases c5 : t129.length + l1.length < 140737488355328
 rotate_left
 ·rw [if_neg c5] at H
  exact absurd H (by simp)
 rw [if_pos c5] at H
 have LMc5 := Aside0.mk c5
 clear c5
 obtain ⟨y132, hy132⟩ : ∃ y_ : List Int, y_ = (t129 ++ l1) := ⟨_, rfl⟩
 replace H : ((pyxref02_Sum.f y132).bind fun t135 => ((pyxref03_with.f k t126 92).bind fun t138 => (if t138.length + t135.length < 140737488355328 then ((pyxref02_Sum.f (t138 ++ t135)).bind fun t144 => (some t144)) else (none)))) = some r := by first | (rw [hy132]; with_reducible exact H) | (have H2_ := (Option.bind_some _ _).symm.trans H; rw [hy132]; with_reducible exact H2_) | (have H2_ := (Option.bind_some _ _).symm.trans H; with_reducible exact H2_) | with_reducible exact H | (rw [hy132]; exact H) | exact H
 have Ny132 := Aside0.mk hy132
 clear hy132
 replace H := Option.bind_eq_some_iff.mp H
 obtain ⟨t135, A60, H⟩ := H
 replace H : ((pyxref03_with.f k t126 92).bind fun t138 => (if t138.length + t135.length < 140737488355328 then ((pyxref02_Sum.f (t138 ++ t135)).bind fun t144 => (some t144)) else (none))) = some r := H
 have A6 := Aside0.mk A60
 clear A60
 replace H := Option.bind_eq_some_iff.mp H
 obtain ⟨t138, A70, H⟩ := H
 replace H : (if t138.length + t135.length < 140737488355328 then ((pyxref02_Sum.f (t138 ++ t135)).bind fun t144 => (some t144)) else (none)) = some r := H
 have A7 := Aside0.mk A70
 clear A70
 by_cases c8 : t138.length + t135.length < 140737488355328
 rotate_left
 ·rw [if_neg c8] at H
  exact absurd H (by simp)
 rw [if_pos c8] at H
 have LMc8 := Aside0.mk c8
 clear c8
 obtain ⟨y141, hy141⟩ : ∃ y_ : List Int, y_ = (t138 ++ t135) := ⟨_, rfl⟩
 replace H : ((pyxref02_Sum.f y141).bind fun t144 => (some t144)) = some r := by first | (rw [hy141]; with_reducible exact H) | (have H2_ := (Option.bind_some _ _).symm.trans H; rw [hy141]; with_reducible exact H2_) | (have H2_ := (Option.bind_some _ _).symm.trans H; with_reducible exact H2_) | with_reducible exact H | (rw [hy141]; exact H) | exact H
 have Ny141 := Aside0.mk hy141
 clear hy141
 replace H := Option.bind_eq_some_iff.mp H
 obtain ⟨t144, A90, H⟩ := H
 replace H : (some t144) = some r := H
 have A9 := Aside0.mk A90
 clear A90
 obtain rfl := Option.some.inj H
 go_enter Tryd.func55, Tryd.ntmps55
 go_wp2_with (first | ((with_reducible refine gate_callee (f := 63) rfl ?_); refine goesL_ (some 8) rfl rfl Tryd.func63 (by kernel_rfl) rfl #[.slice A0 l0.length c0] rfl (by (try simp only [List.map_toArray, List.map_cons, List.map_nil]); first | done | rfl | (simp only [List.length_drop, List.length_take]; rfl)) ?_; (with_reducible refine (pyxref03_Key.calls k _ _ l0 t126 _ ?side1 ?side2 A3.out).mono ?_); (case side1 => repeat (first | exact HR0.out | (with_reducible refine Kd.C_alloc ?_ _) | (with_reducible refine Kd.C_drewN ?_ _) | (with_reducible refine Kd.C_drew ?_))); (case side2 => exact HC0.out); rintro e w10 ⟨v127, rfl, ho0, hb⟩; refine ⟨_, rfl, ?_⟩; have n0_ := Aside0.mk (Kd.R_lower ho0 (below_size (by repeat (first | (with_reducible first | exact HB.out | apply below_alloc | apply pw_below_drewN | apply below_drew1) | exact HB.out)))); have n1_ := Aside0.mk (below_step (by repeat (first | (with_reducible first | exact HB.out | apply below_alloc | apply pw_below_drewN | apply below_drew1) | exact HB.out)) hb); clear HB; have HO128 := n0_; have HB := n1_; clear n0_ n1_; (try clear hb); (try clear hb2); (try clear hk); (try clear hi); (try clear ho0); obtain ⟨Ao11, co11, eo11⟩ := Kd.R_slice HO128.out; subst eo11) | ((with_reducible refine gate_callee (f := 65) rfl ?_); refine goesL_ (some 10) rfl rfl Tryd.func65 (by kernel_rfl) rfl #[.slice Ao11 t126.length co11, .int .u8 54] rfl (by (try simp only [List.map_toArray, List.map_cons, List.map_nil]); first | done | rfl | (simp only [List.length_drop, List.length_take]; rfl)) ?_; (with_reducible refine (pyxref03_with.calls k _ _ t126 54 t129 _ ?side1 ?side2 A4.out).mono ?_); (case side1 => repeat (first | exact (Kd.R_reads' HO128.out).2.2 | (with_reducible refine Kd.C_alloc ?_ _) | (with_reducible refine Kd.C_drewN ?_ _) | (with_reducible refine Kd.C_drew ?_))); (case side2 => exact (Kd.R_reads' HO128.out).2.1); rintro e w12 ⟨v130, rfl, ho0, hb⟩; refine ⟨_, rfl, ?_⟩; have n0_ := Aside0.mk (Kd.R_elder' (by (with_reducible repeat (first | apply Kd.R_alloc | apply Kd.R_drewN | apply Kd.R_drew)); exact HO128.out) (Kd.R_base ho0) hb); have n1_ := Aside0.mk (Kd.R_lower (Kd.R_new' ho0 (Kd.R_lt (by (with_reducible repeat (first | apply Kd.R_alloc | apply Kd.R_drewN | apply Kd.R_drew)); exact HO128.out))) (below_size (by repeat (first | (with_reducible first | exact HB.out | apply below_alloc | apply pw_below_drewN | apply below_drew1) | exact HB.out)))); have n2_ := Aside0.mk (below_step (by repeat (first | (with_reducible first | exact HB.out | apply below_alloc | apply pw_below_drewN | apply below_drew1) | exact HB.out)) hb); clear HO128; clear HB; have HO128 := n0_; have HO131 := n1_; have HB := n2_; clear n0_ n1_ n2_; (try clear hb); (try clear hb2); (try clear hk); (try clear hi); (try clear ho0)) | ((with_reducible refine gate_builtin (b := .append) (xs := #[.tmp 10, .tmp 11]) rfl ?_); at_builtin; refine Kd.R_append_rows (Kd.int .u8) (w0 := w) w.heap.size rfl (.tmp 10) (.tmp 11) 22 5 (.int .u8 0) 1 rfl Tryd.underlying22 info5 rfl (by decide) (by omega) v130 t129 l1 _ _ _ (fun k_ => some k_ ≠ (.slice Ao11 t126.length co11 : Value).ownBlock) (fun _ => False) rfl rfl ?aO ?aR (fun _ _ h => h) (fun _ h => h.elim) ?aF ?aB ?aS ?aL ?_; (case aR => repeat (first | exact (Kd.C_below HR1.out HB.out) | (with_reducible refine Kd.C_alloc ?_ _) | (with_reducible refine Kd.C_drewN ?_ _) | (with_reducible refine Kd.C_drew ?_))); (case aB => exact (by repeat (first | (with_reducible first | exact HB.out | apply below_alloc | apply pw_below_drewN | apply below_drew1) | exact HB.out))); (case aF => exact (fun k_ hk => Kd.fresh' (Kd.R_lt (by (with_reducible repeat (first | apply Kd.R_alloc | apply Kd.R_drewN | apply Kd.R_drew)); exact HO128.out)) k_ hk)); (case aO => exact (by (with_reducible repeat (first | apply Kd.R_alloc | apply Kd.R_drewN | apply Kd.R_drew)); exact Kd.R_mono HO131.out (fun _ hk => hk.2))); (case aS => exact (below_size (by repeat (first | (with_reducible first | exact HB.out | apply below_alloc | apply pw_below_drewN | apply below_drew1) | exact HB.out)))); (case aL => have := LMc5.out; omega); intro v133 w13 ho hb hg hat; rw [← Ny132.out] at ho; have n0_ := Aside0.mk (Kd.R_after (ok := (fun _ => True)) (by (with_reducible repeat (first | apply Kd.R_alloc | apply Kd.R_drewN | apply Kd.R_drew)); exact HO128.out) hg hat); have n1_ := Aside0.mk (hb); have n2_ := Aside0.mk (ho); clear HO128; clear HB; clear HO131; have HO128 := n0_; have HB := n1_; have HO134 := n2_; clear n0_ n1_ n2_; clear ho hb hg hat; obtain ⟨Ao14, co14, eo14⟩ := Kd.R_slice HO134.out; subst eo14) | ((with_reducible refine gate_callee (f := 64) rfl ?_); refine goesL_ (some 13) rfl rfl Tryd.func64 (by kernel_rfl) rfl #[.slice Ao14 y132.length co14] rfl (by (try simp only [List.map_toArray, List.map_cons, List.map_nil]); first | done | rfl | (simp only [List.length_drop, List.length_take]; rfl)) ?_; (with_reducible refine (pyxref02_Sum.calls _ _ y132 t135 _ ?side1 ?side2 A6.out).mono ?_); (case side1 => repeat (first | exact (Kd.R_reads' HO134.out).2.2 | (with_reducible refine Kd.C_alloc ?_ _) | (with_reducible refine Kd.C_drewN ?_ _) | (with_reducible refine Kd.C_drew ?_))); (case side2 => exact (Kd.R_reads' HO134.out).2.1); rintro e w15 ⟨v136, rfl, ho0, hb⟩; refine ⟨_, rfl, ?_⟩; have n0_ := Aside0.mk (Kd.R_elder' (by (with_reducible repeat (first | apply Kd.R_alloc | apply Kd.R_drewN | apply Kd.R_drew)); exact HO128.out) (Kd.R_base ho0) hb); have n1_ := Aside0.mk (Kd.R_elder' (by (with_reducible repeat (first | apply Kd.R_alloc | apply Kd.R_drewN | apply Kd.R_drew)); exact HO134.out) (Kd.R_base ho0) hb); have n2_ := Aside0.mk (Kd.R_lower (Kd.R_new' (Kd.R_new' ho0 (Kd.R_lt (by (with_reducible repeat (first | apply Kd.R_alloc | apply Kd.R_drewN | apply Kd.R_drew)); exact HO128.out))) (Kd.R_lt (by (with_reducible repeat (first | apply Kd.R_alloc | apply Kd.R_drewN | apply Kd.R_drew)); exact HO134.out))) (below_size (by repeat (first | (with_reducible first | exact HB.out | apply below_alloc | apply pw_below_drewN | apply below_drew1) | exact HB.out)))); have n3_ := Aside0.mk (below_step (by repeat (first | (with_reducible first | exact HB.out | apply below_alloc | apply pw_below_drewN | apply below_drew1) | exact HB.out)) hb); clear HO128; clear HO134; clear HB; have HO128 := n0_; have HO134 := n1_; have HO137 := n2_; have HB := n3_; clear n0_ n1_ n2_ n3_; (try clear hb); (try clear hb2); (try clear hk); (try clear hi); (try clear ho0)) | ((with_reducible refine gate_callee (f := 65) rfl ?_); refine goesL_ (some 15) rfl rfl Tryd.func65 (by kernel_rfl) rfl #[.slice Ao11 t126.length co11, .int .u8 92] rfl (by (try simp only [List.map_toArray, List.map_cons, List.map_nil]); first | done | rfl | (simp only [List.length_drop, List.length_take]; rfl)) ?_; (with_reducible refine (pyxref03_with.calls k _ _ t126 92 t138 _ ?side1 ?side2 A7.out).mono ?_); (case side1 => repeat (first | exact (Kd.R_reads' HO128.out).2.2 | (with_reducible refine Kd.C_alloc ?_ _) | (with_reducible refine Kd.C_drewN ?_ _) | (with_reducible refine Kd.C_drew ?_))); (case side2 => exact (Kd.R_reads' HO128.out).2.1); rintro e w16 ⟨v139, rfl, ho0, hb⟩; refine ⟨_, rfl, ?_⟩; have n0_ := Aside0.mk (Kd.R_elder' (by (with_reducible repeat (first | apply Kd.R_alloc | apply Kd.R_drewN | apply Kd.R_drew)); exact HO128.out) (Kd.R_base ho0) hb); have n1_ := Aside0.mk (Kd.R_elder' (by (with_reducible repeat (first | apply Kd.R_alloc | apply Kd.R_drewN | apply Kd.R_drew)); exact HO134.out) (Kd.R_base ho0) hb); have n2_ := Aside0.mk (Kd.R_elder' (by (with_reducible repeat (first | apply Kd.R_alloc | apply Kd.R_drewN | apply Kd.R_drew)); exact HO137.out) (Kd.R_base ho0) hb); have n3_ := Aside0.mk (Kd.R_lower (Kd.R_new' (Kd.R_new' (Kd.R_new' ho0 (Kd.R_lt (by (with_reducible repeat (first | apply Kd.R_alloc | apply Kd.R_drewN | apply Kd.R_drew)); exact HO128.out))) (Kd.R_lt (by (with_reducible repeat (first | apply Kd.R_alloc | apply Kd.R_drewN | apply Kd.R_drew)); exact HO134.out))) (Kd.R_lt (by (with_reducible repeat (first | apply Kd.R_alloc | apply Kd.R_drewN | apply Kd.R_drew)); exact HO137.out))) (below_size (by repeat (first | (with_reducible first | exact HB.out | apply below_alloc | apply pw_below_drewN | apply below_drew1) | exact HB.out)))); have n4_ := Aside0.mk (below_step (by repeat (first | (with_reducible first | exact HB.out | apply below_alloc | apply pw_below_drewN | apply below_drew1) | exact HB.out)) hb); clear HO128; clear HO134; clear HO137; clear HB; have HO128 := n0_; have HO134 := n1_; have HO137 := n2_; have HO140 := n3_; have HB := n4_; clear n0_ n1_ n2_ n3_ n4_; (try clear hb); (try clear hb2); (try clear hk); (try clear hi); (try clear ho0); obtain ⟨Ao18, co18, eo18⟩ := Kd.R_slice HO137.out; subst eo18) | ((with_reducible refine gate_builtin (b := .append) (xs := #[.tmp 15, .tmp 16]) rfl ?_); at_builtin; refine Kd.R_append_rows (Kd.int .u8) (w0 := w) w.heap.size rfl (.tmp 15) (.tmp 16) 22 5 (.int .u8 0) 1 rfl Tryd.underlying22 info5 rfl (by decide) (by omega) v139 t138 t135 _ _ _ (fun k_ => some k_ ≠ (.slice Ao11 t126.length co11 : Value).ownBlock ∧ some k_ ≠ (.slice Ao14 y132.length co14 : Value).ownBlock ∧ some k_ ≠ (.slice Ao18 t135.length co18 : Value).ownBlock) (fun _ => False) rfl rfl ?aO ?aR (fun _ _ h => h) (fun _ h => h.elim) ?aF ?aB ?aS ?aL ?_; (case aR => repeat (first | exact (Kd.R_reads' HO137.out).2.2 | (with_reducible refine Kd.C_alloc ?_ _) | (with_reducible refine Kd.C_drewN ?_ _) | (with_reducible refine Kd.C_drew ?_))); (case aB => exact (by repeat (first | (with_reducible first | exact HB.out | apply below_alloc | apply pw_below_drewN | apply below_drew1) | exact HB.out))); (case aF => exact (fun k_ hk => ⟨Kd.fresh' (Kd.R_lt (by (with_reducible repeat (first | apply Kd.R_alloc | apply Kd.R_drewN | apply Kd.R_drew)); exact HO128.out)) k_ hk, Kd.fresh' (Kd.R_lt (by (with_reducible repeat (first | apply Kd.R_alloc | apply Kd.R_drewN | apply Kd.R_drew)); exact HO134.out)) k_ hk, Kd.fresh' (Kd.R_lt (by (with_reducible repeat (first | apply Kd.R_alloc | apply Kd.R_drewN | apply Kd.R_drew)); exact HO137.out)) k_ hk⟩)); (case aO => exact (by (with_reducible repeat (first | apply Kd.R_alloc | apply Kd.R_drewN | apply Kd.R_drew)); exact Kd.R_mono HO140.out (fun _ hk => ⟨hk.1.1.2, ⟨hk.1.2, hk.2⟩⟩))); (case aS => exact (below_size (by repeat (first | (with_reducible first | exact HB.out | apply below_alloc | apply pw_below_drewN | apply below_drew1) | exact HB.out)))); (case aL => have := LMc8.out; omega); intro v142 w17 ho hb hg hat; rw [← Ny141.out] at ho; have n0_ := Aside0.mk (Kd.R_after (ok := (fun k_ => some k_ ≠ (.slice Ao14 y132.length co14 : Value).ownBlock ∧ some k_ ≠ (.slice Ao18 t135.length co18 : Value).ownBlock)) (by (with_reducible repeat (first | apply Kd.R_alloc | apply Kd.R_drewN | apply Kd.R_drew)); exact Kd.R_mono HO128.out (fun _ hk => ⟨⟨hk.1.1.2, hk.1.2⟩, hk.2⟩)) hg hat); have n1_ := Aside0.mk (Kd.R_after (ok := (fun k_ => some k_ ≠ (.slice Ao11 t126.length co11 : Value).ownBlock ∧ some k_ ≠ (.slice Ao18 t135.length co18 : Value).ownBlock)) (by (with_reducible repeat (first | apply Kd.R_alloc | apply Kd.R_drewN | apply Kd.R_drew)); exact HO134.out) hg hat); have n2_ := Aside0.mk (Kd.R_after (ok := (fun k_ => some k_ ≠ (.slice Ao11 t126.length co11 : Value).ownBlock ∧ some k_ ≠ (.slice Ao14 y132.length co14 : Value).ownBlock)) (by (with_reducible repeat (first | apply Kd.R_alloc | apply Kd.R_drewN | apply Kd.R_drew)); exact Kd.R_mono HO137.out (fun _ hk => ⟨⟨hk.1.1.2, hk.1.2⟩, hk.2⟩)) hg hat); have n3_ := Aside0.mk (hb); have n4_ := Aside0.mk (ho); clear HO128; clear HO134; clear HO137; clear HB; clear HO140; have HO128 := n0_; have HO134 := n1_; have HO137 := n2_; have HB := n3_; have HO143 := n4_; clear n0_ n1_ n2_ n3_ n4_; clear ho hb hg hat; obtain ⟨Ao19, co19, eo19⟩ := Kd.R_slice HO143.out; subst eo19) | ((with_reducible refine gate_callee (f := 64) rfl ?_); refine goesL_ (some 18) rfl rfl Tryd.func64 (by kernel_rfl) rfl #[.slice Ao19 y141.length co19] rfl (by (try simp only [List.map_toArray, List.map_cons, List.map_nil]); first | done | rfl | (simp only [List.length_drop, List.length_take]; rfl)) ?_; (with_reducible refine (pyxref02_Sum.calls _ _ y141 t144 _ ?side1 ?side2 A9.out).mono ?_); (case side1 => repeat (first | exact (Kd.R_reads' HO143.out).2.2 | (with_reducible refine Kd.C_alloc ?_ _) | (with_reducible refine Kd.C_drewN ?_ _) | (with_reducible refine Kd.C_drew ?_))); (case side2 => exact (Kd.R_reads' HO143.out).2.1); rintro e w20 ⟨v145, rfl, ho0, hb⟩; refine ⟨_, rfl, ?_⟩; have n0_ := Aside0.mk (Kd.R_elder' (by (with_reducible repeat (first | apply Kd.R_alloc | apply Kd.R_drewN | apply Kd.R_drew)); exact HO128.out) (Kd.R_base ho0) hb); have n1_ := Aside0.mk (Kd.R_elder' (by (with_reducible repeat (first | apply Kd.R_alloc | apply Kd.R_drewN | apply Kd.R_drew)); exact HO134.out) (Kd.R_base ho0) hb); have n2_ := Aside0.mk (Kd.R_elder' (by (with_reducible repeat (first | apply Kd.R_alloc | apply Kd.R_drewN | apply Kd.R_drew)); exact HO137.out) (Kd.R_base ho0) hb); have n3_ := Aside0.mk (Kd.R_elder' (by (with_reducible repeat (first | apply Kd.R_alloc | apply Kd.R_drewN | apply Kd.R_drew)); exact HO143.out) (Kd.R_base ho0) hb); have n4_ := Aside0.mk (Kd.R_lower (Kd.R_new' (Kd.R_new' (Kd.R_new' (Kd.R_new' ho0 (Kd.R_lt (by (with_reducible repeat (first | apply Kd.R_alloc | apply Kd.R_drewN | apply Kd.R_drew)); exact HO128.out))) (Kd.R_lt (by (with_reducible repeat (first | apply Kd.R_alloc | apply Kd.R_drewN | apply Kd.R_drew)); exact HO134.out))) (Kd.R_lt (by (with_reducible repeat (first | apply Kd.R_alloc | apply Kd.R_drewN | apply Kd.R_drew)); exact HO137.out))) (Kd.R_lt (by (with_reducible repeat (first | apply Kd.R_alloc | apply Kd.R_drewN | apply Kd.R_drew)); exact HO143.out))) (below_size (by repeat (first | (with_reducible first | exact HB.out | apply below_alloc | apply pw_below_drewN | apply below_drew1) | exact HB.out)))); have n5_ := Aside0.mk (below_step (by repeat (first | (with_reducible first | exact HB.out | apply below_alloc | apply pw_below_drewN | apply below_drew1) | exact HB.out)) hb); clear HO128; clear HO134; clear HO137; clear HO143; clear HB; have HO128 := n0_; have HO134 := n1_; have HO137 := n2_; have HO143 := n3_; have HO146 := n4_; have HB := n5_; clear n0_ n1_ n2_ n3_ n4_ n5_; (try clear hb); (try clear hb2); (try clear hk); (try clear hi); (try clear ho0)))
 go_ret
 exact ⟨_, by first | rfl | (simp [errW_none, errW_some] <;> rfl) | (simp [*, errW_none, errW_some] <;> rfl), by (with_reducible repeat (first | apply Kd.R_alloc | apply Kd.R_drewN | apply Kd.R_drew)); exact Kd.R_mono HO146.out (fun _ hk => trivial), by repeat (first | (with_reducible first | exact HB.out | apply below_alloc | apply pw_below_drewN | apply below_drew1) | exact HB.out)⟩
end Go.Proofs.YtdklmafkcbjomaaDoor.M

/-! MacB -/
namespace Go.Proofs.YtdklmafkcbjomaaDoor
set_option linter.unusedVariables false
set_option linter.unusedSimpArgs false
open Go.RowKit Go.Proofs.YtdklmafkcbjomaaDoorW.PrintWords Go.Proofs.YtdklmafkcbjomaaDoorW.PrintLast Go.Proofs.YtdklmafkcbjomaaDoorW.PrintMore
theorem rd_at (l : List Int) (i : Nat) (h : i < l.length) : rd l (i : Int) = l[i] := by
 unfold rd
 rw [Int.toNat_natCast, List.getD_eq_getElem?_getD, List.getElem?_eq_getElem h]
 rfl
theorem wrap_i (i : Nat) (h : i ≤ 9223372036854775800) : wrap64 ((i : Int) + 1) = ((i + 1 : Nat) : Int) := by unfold wrap64; omega
namespace P
def mac_All.f (k : List Int) (l : List (List Int)) : Option (List Int) := if byteOk k = true ∧ byteOk l.flatten = true ∧ k.length ≤ 900000 ∧ l.flatten.length ≤ 800000 then some (macSum k l.flatten) else none
theorem mac_All.calls (A0 : Option Addr) (c0 : Nat) (l0 : List Int) (A1 : Option Addr) (c1 : Nat) (l1 : List (List Int)) (r : List Int) (w : World) (hr0 : Kd.C (Kd.int .u8) w A0 l0.length l0) (hc0 : l0.length ≤ c0) (hr1 : Kd.C (Kd.slice 5 (Kd.int .u8)) w A1 l1.length l1) (hc1 : l1.length ≤ c1) (h : mac_All.f l0 l1 = some r) :
  Calls Tryd.prog 69 #[.slice A0 l0.length c0, .slice A1 l1.length c1] w fun e w' => ∃ v0_ : Value, e = .returned (v0_) ∧ Kd.R (Kd.int .u8) 5 w' w.heap.size (fun _ => True) v0_ r ∧ Below w.heap.size w w' := by
 unfold mac_All.f at h
 split at h
 case isFalse => cases h
 case isTrue hok =>
  obtain ⟨h1, h2, h3, h4⟩ := hok
  refine M.mac_All.calls A0 c0 l0 A1 c1 l1 r w hr0 hc0 hr1 hc1 ?_
  rw [← h]
  unfold M.mac_All.f M.mac_joined.f P.slices_Concat.f P.mac_Sum.f
  rw [if_pos (by omega), Option.bind_some, Option.bind_some, if_pos ⟨h1, h2, h3, h4⟩, Option.bind_some]
end P
/-! The document's. -/
theorem refKey_l0 : ∀ (d k : Nat) (x : List Int), x.length + d = 64 → d < k → M.pyxref03_Key.l0 k x = some (x ++ List.replicate (64 - x.length) 0)
 | 0, k, x, hx, hk => by
  obtain ⟨k, rfl⟩ : ∃ m, k = m + 1 := ⟨k - 1, by omega⟩
  rw [M.pyxref03_Key.l0, if_neg (by omega), show 64 - x.length = 0 by omega]
  simp
 | d + 1, k, x, hx, hk => by
  obtain ⟨k, rfl⟩ : ∃ m, k = m + 1 := ⟨k - 1, by omega⟩
  rw [M.pyxref03_Key.l0, if_pos (by omega), if_pos (by omega), refKey_l0 d k (x ++ [0]) (by simp; omega) (by omega)]
  rw [List.append_assoc]
  congr 2
  rw [List.length_append, List.length_singleton, show 64 - x.length = (64 - (x.length + 1)) + 1 by omega, List.replicate_succ]
  rfl
theorem refKey_eq (l : List Int) (hl : byteOk l = true) (hn : l.length ≤ 900000) (k : Nat) (hk : 66 < k) : M.pyxref03_Key.f k l = some (macKey l) := by
 obtain ⟨k, rfl⟩ : ∃ m, k = m + 1 := ⟨k - 1, by omega⟩
 have hlen := ownKey_length l
 unfold M.pyxref03_Key.f
 rw [Option.bind_some, List.nil_append, List.length_nil, if_pos (by omega)]
 by_cases h : 64 < l.length
 ·have e : ownKey l = ofB (Sha.sum (toB l)) := by unfold ownKey; rw [if_pos h]
  rw [if_pos (by omega)]
  unfold P.pyxref02_Sum.f
  rw [if_pos ⟨hl, by omega⟩, Option.bind_some, M.pyxref03_Key.j0, ← e, refKey_l0 _ k _ (Nat.add_sub_cancel' hlen) (by omega)]
  rfl
 ·have e : ownKey l = l := by unfold ownKey; rw [if_neg h]
  rw [e] at hlen
  rw [if_neg (by omega), M.pyxref03_Key.j0, refKey_l0 _ k _ (Nat.add_sub_cancel' hlen) (by omega)]
  unfold macKey
  rw [e]
theorem refWith_l0 (l : List Int) (y : Int) (hn : l.length ≤ 900000) : ∀ (d k i : Nat), i + d = l.length → d < k → M.pyxref03_with.l0 k l y (xorB (l.take i) y) (i : Int) = some (xorB l y)
 | 0, k, i, hi, hk => by
  obtain ⟨k, rfl⟩ : ∃ m, k = m + 1 := ⟨k - 1, by omega⟩
  rw [M.pyxref03_with.l0, if_neg (by omega), List.take_of_length_le (by omega)]
 | d + 1, k, i, hi, hk => by
  obtain ⟨k, rfl⟩ : ∃ m, k = m + 1 := ⟨k - 1, by omega⟩
  have e : xorB (l.take i) y ++ [Go.bits .xor .u8 (rd l (i : Int)) y] = xorB (l.take (i + 1)) y := by
   rw [rd_at l i (by omega), List.take_succ_eq_append_getElem (by omega)]
   unfold xorB
   rw [List.map_append]
   rfl
  rw [M.pyxref03_with.l0, if_pos (by omega), if_pos (by omega), if_pos (by rw [xorB_length, List.length_take]; omega), e, wrap_i i (by omega)]
  exact refWith_l0 l y hn d k (i + 1) (by omega) (by omega)
theorem refWith_eq (l : List Int) (y : Int) (hn : l.length = 64) (k : Nat) (hk : 66 < k) : M.pyxref03_with.f k l y = some (xorB l y) := by
 unfold M.pyxref03_with.f
 exact refWith_l0 l y (by omega) 64 k 0 (by omega) (by omega)
theorem refSum_eq (l b : List Int) (hl : byteOk l = true) (hb : byteOk b = true) (hn : l.length ≤ 900000) (hm : b.length ≤ 800000) (k : Nat) (hk : 66 < k) : M.pyxref03_Sum.f k l b = some (macSum l b) := by
 have hkl := macKey_length l
 have ok := byteOk_macKey l hl
 have o1 := byteOk_xorB (macKey l) 54 ok (by omega) (by omega)
 have o2 := byteOk_xorB (macKey l) 92 ok (by omega) (by omega)
 have n1 := xorB_length (macKey l) 54
 have n2 := xorB_length (macKey l) 92
 unfold M.pyxref03_Sum.f
 rw [refKey_eq l hl hn k hk, Option.bind_some, refWith_eq _ _ hkl k hk, Option.bind_some, if_pos (by omega)]
 have s1 : P.pyxref02_Sum.f (xorB (macKey l) 54 ++ b) = some (dig (xorB (macKey l) 54 ++ b)) := by
  unfold P.pyxref02_Sum.f
  rw [if_pos ⟨(byteOk_append _ _).2 ⟨o1, hb⟩, by rw [List.length_append]; omega⟩]
  rfl
 have n3 := dig_length (xorB (macKey l) 54 ++ b)
 have o3 := byteOk_dig (xorB (macKey l) 54 ++ b)
 have s2 : P.pyxref02_Sum.f (xorB (macKey l) 92 ++ dig (xorB (macKey l) 54 ++ b)) = some (macSum l b) := by
  unfold P.pyxref02_Sum.f
  rw [if_pos ⟨(byteOk_append _ _).2 ⟨o2, o3⟩, by rw [List.length_append]; omega⟩]
  rfl
 rw [s1, Option.bind_some, refWith_eq _ _ hkl k hk, Option.bind_some, if_pos (by omega), s2, Option.bind_some]
namespace P
def pyxref03_Key.f (l0 : List Int) : Option (List Int) := if byteOk l0 = true ∧ l0.length ≤ 900000 then some (macKey l0) else none
theorem pyxref03_Key.calls (A0 : Option Addr) (c0 : Nat) (l0 : List Int) (r : List Int) (w : World) (hr0 : Kd.C (Kd.int .u8) w A0 l0.length l0) (hc0 : l0.length ≤ c0) (h : pyxref03_Key.f l0 = some r) :
  Calls Tryd.prog 63 #[.slice A0 l0.length c0] w fun e w' => ∃ v0_ : Value, e = .returned (v0_) ∧ Kd.R (Kd.int .u8) 5 w' w.heap.size (fun _ => True) v0_ r ∧ Below w.heap.size w w' := by
 unfold pyxref03_Key.f at h
 split at h
 case isFalse => cases h
 case isTrue hok => exact M.pyxref03_Key.calls 70 A0 c0 l0 r w hr0 hc0 (by rw [← h]; exact refKey_eq l0 hok.1 hok.2 70 (by omega))
def pyxref03_Sum.f (l0 l1 : List Int) : Option (List Int) := if byteOk l0 = true ∧ byteOk l1 = true ∧ l0.length ≤ 900000 ∧ l1.length ≤ 800000 then some (macSum l0 l1) else none
theorem pyxref03_Sum.calls (A0 : Option Addr) (c0 : Nat) (l0 : List Int) (A1 : Option Addr) (c1 : Nat) (l1 : List Int) (r : List Int) (w : World) (hr0 : Kd.C (Kd.int .u8) w A0 l0.length l0) (hc0 : l0.length ≤ c0) (hr1 : Kd.C (Kd.int .u8) w A1 l1.length l1) (hc1 : l1.length ≤ c1) (h : pyxref03_Sum.f l0 l1 = some r) :
  Calls Tryd.prog 55 #[.slice A0 l0.length c0, .slice A1 l1.length c1] w fun e w' => ∃ v0_ : Value, e = .returned (v0_) ∧ Kd.R (Kd.int .u8) 5 w' w.heap.size (fun _ => True) v0_ r ∧ Below w.heap.size w w' := by
 unfold pyxref03_Sum.f at h
 split at h
 case isFalse => cases h
 case isTrue hok => exact M.pyxref03_Sum.calls 70 A0 c0 l0 A1 c1 l1 r w hr0 hc0 hr1 hc1 (by rw [← h]; exact refSum_eq l0 l1 hok.1 hok.2.1 hok.2.2.1 hok.2.2.2 70 (by omega))
end P
end Go.Proofs.YtdklmafkcbjomaaDoor

/-! RowsMark -/
namespace Go.Proofs.YtdklmafkcbjomaaDoor
set_option linter.unusedVariables false
set_option linter.unusedSimpArgs false
open Go.RowKit Go.Proofs.YtdklmafkcbjomaaDoorW.PrintWords Go.Proofs.YtdklmafkcbjomaaDoorW.PrintLast Go.Proofs.YtdklmafkcbjomaaDoorW.PrintMore Iter
/-- The first k rows, as one. -/
def outTo (R : Nat → List Int) : Nat → List Int
 | 0 => []
 | k + 1 => outTo R k ++ R k
theorem outTo_length (R : Nat → List Int) (h : ∀ k, (R k).length = 32) : ∀ k, (outTo R k).length = 32 * k
 | 0 => rfl
 | k + 1 => by rw [outTo, List.length_append, outTo_length R h k, h]; omega
theorem outTo_prefix (R : Nat → List Int) (a : Nat) : ∀ d, ∃ l, outTo R (a + d) = outTo R a ++ l
 | 0 => ⟨[], by simp⟩
 | d + 1 => by
  obtain ⟨l, hl⟩ := outTo_prefix R a d
  exact ⟨l ++ R (a + d), by rw [← Nat.add_assoc, outTo, hl, List.append_assoc]⟩
/-- The first n bytes of rows of 32 bytes. -/
def firstOf (R : Nat → List Int) (n : Nat) : List Int := (outTo R ((n + 31) / 32)).take n
theorem firstOf_length (R : Nat → List Int) (h : ∀ k, (R k).length = 32) (n : Nat) : (firstOf R n).length = n := by
 unfold firstOf
 rw [List.length_take, outTo_length R h]
 omega
theorem firstOf_any (R : Nat → List Int) (h : ∀ k, (R k).length = 32) (n k : Nat) (hk : n ≤ 32 * k) : (outTo R k).take n = firstOf R n := by
 unfold firstOf
 obtain ⟨l, hl⟩ := outTo_prefix R ((n + 31) / 32) (k - (n + 31) / 32)
 rw [show (n + 31) / 32 + (k - (n + 31) / 32) = k by omega] at hl
 rw [hl, List.take_append_of_le_length (by rw [outTo_length R h]; omega)]
theorem C_kept {W W' : World} {A : Option Addr} {n : Nat} {xs : List Int} (h : Kd.C (Kd.int .u8) W A n xs) (hk : KeepsCells W W') : Kd.C (Kd.int .u8) W' A n xs := by
 refine ⟨h.1, h.2.1, fun hn => ?_⟩
 obtain ⟨ad, e, hc⟩ := h.2.2 hn
 refine ⟨ad, e, fun j p hj => ?_⟩
 obtain ⟨c, hs, hr, hcell⟩ := hc j p hj
 exact ⟨c, hs, hr, fun i u hu => hk.cell (hcell i u hu)⟩
/-- What an iterator hands over in a round: row R k, laid behind the mark. -/
def REl (R : Nat → List Int) (k m : Nat) (args : Array Value) (W : World) : Prop :=
 ∃ A c, args = #[.slice A (R k).length c] ∧ (R k).length ≤ c ∧ Kd.C (Kd.int .u8) W A (R k).length (R k) ∧ ∀ a, A = some a → m ≤ a.block
theorem REl_kept (R : Nat → List Int) (k m : Nat) (args : Array Value) (W W' : World) (h : REl R k m args W) (hk : KeepsCells W W') : REl R k m args W' := by
 obtain ⟨A, c, e, hc, hC, hm⟩ := h
 exact ⟨A, c, e, hc, C_kept hC hk, hm⟩
/-- What a body keeps of what it was handed. -/
def RKp (args : Array Value) (W W' : World) : Prop := ∀ A n c xs, args = #[.slice A n c] → Kd.C (Kd.int .u8) W A n xs → Kd.C (Kd.int .u8) W' A n xs
theorem RKp_kept (args : Array Value) (A A' C C' : World) (h1 : KeepsCells A A') (h2 : KeepsCells C C') (h : RKp args A' C) : RKp args A C' :=
 fun B n c xs e hC => C_kept (h B n c xs e (C_kept hC h1)) h2
end Go.Proofs.YtdklmafkcbjomaaDoor

/-! KdfA -/
namespace Go.Proofs.YtdklmafkcbjomaaDoor
set_option linter.unusedVariables false
set_option linter.unusedSimpArgs false
open Go.RowKit Go.Proofs.YtdklmafkcbjomaaDoorW.PrintWords Go.Proofs.YtdklmafkcbjomaaDoorW.PrintLast Go.Proofs.YtdklmafkcbjomaaDoorW.PrintMore Iter
theorem byteOk_outTo (R : Nat → List Int) (h : ∀ k, byteOk (R k) = true) : ∀ k, byteOk (outTo R k) = true
 | 0 => rfl
 | k + 1 => by rw [outTo, byteOk_append]; exact ⟨byteOk_outTo R h k, h k⟩
theorem byteOk_take (l : List Int) (n : Nat) (h : byteOk l = true) : byteOk (l.take n) = true := by
 rw [← List.take_append_drop n l, byteOk_append] at h
 exact h.1
theorem byteOk_firstOf (R : Nat → List Int) (h : ∀ k, byteOk (R k) = true) (n : Nat) : byteOk (firstOf R n) = true := byteOk_take _ _ (byteOk_outTo R h _)
/-- The blocks of Expand. -/
def kdfT (key info : List Int) : Nat → List Int
 | 0 => []
 | i + 1 => macSum key (kdfT key info i ++ info ++ [(((i + 1) % 256 : Nat) : Int)])
theorem kdfT_length (key info : List Int) (i : Nat) : (kdfT key info (i + 1)).length = 32 := by rw [kdfT, macSum_length]
theorem byteOk_kdfT (key info : List Int) : ∀ i, byteOk (kdfT key info i) = true
 | 0 => rfl
 | i + 1 => by rw [kdfT]; exact byteOk_macSum _ _
def expandOf (key info : List Int) (n : Nat) : List Int := firstOf (fun k => kdfT key info (k + 1)) n
end Go.Proofs.YtdklmafkcbjomaaDoor

/-! AppendIn -/
namespace Go.Proofs.YtdklmafkcbjomaaDoor
set_option linter.unusedVariables false
set_option linter.unusedSimpArgs false
open Go.RowKit Go.Proofs.YtdklmafkcbjomaaDoorW.PrintWords Go.Proofs.YtdklmafkcbjomaaDoorW.PrintLast Go.Proofs.YtdklmafkcbjomaaDoorW.PrintMore Iter
theorem bytes_info : ∃ i0, Tryd.prog.info? 5 = some i0 ∧ i0.zero = some (.int .u8 0) ∧ i0.size = 1 ∧ i0.bytes = 1 := by
 have h : (Tryd.prog.info? 5).map (fun i => (i.zero, i.size, i.bytes)) = some (some (.int .u8 0), 1, 1) := by kernel_rfl
 obtain ⟨i0, hi, hz⟩ := Option.map_eq_some_iff.1 h
 simp only [Prod.mk.injEq] at hz
 exact ⟨i0, hi, hz⟩
set_option maxRecDepth 100000 in
set_option maxHeartbeats 1000000 in
theorem wpListIn_append_bytes {F : Fence} {n : Nat} {ops : Array Oper} {rest : List Oper} {o : Oper} {a : Act} {Q : Exit → Act → World → Prop} (W : World) (hgd : o.guard = none) (s x : Operand)
  (ho : o.op = Op.call { callee := Callee.builtin Builtin.append, args := #[s, x], argTypes := #[22, 22] })
  (base : Nat) (v : Value) (xs ys : List Int) (ad : Addr) (c : Nat) (ok : Nat → Prop) (hs : a.eval s = v) (hx : a.eval x = .slice (some ad) ys.length c)
  (HO : Kd.R (Kd.int .u8) 5 W base ok v xs) (HC : Kd.C (Kd.int .u8) W (some ad) ys.length ys) (hfresh : ∀ k, W.heap.size ≤ k → ok k) (hbase : base ≤ W.heap.size) (hl : xs.length + ys.length ≤ 1000000)
  (h : ∀ v1 w1, Kd.R (Kd.int .u8) 5 w1 base ok v1 (xs ++ ys) → W.grownBy w1 v.ownBlock → wpListIn F n Tryd.prog ops Q rest (a.put o.dst v1) w1) :
  wpListIn F n Tryd.prog ops Q (o :: rest) a W := by
 obtain ⟨i0, hi, hz0, hz1, hz2⟩ := bytes_info
 have hcell : ∀ j u, (encs (Value.int .u8) ys)[j]? = some u → W.cell? (ad.add j) = some u := by
  intro j u hu
  have hj : j < ys.length := by
   have := (List.getElem?_eq_some_iff.1 hu).1
   simpa [encs] using this
  obtain ⟨ad', e, hc⟩ := HC.2.2 (by omega)
  injection e with e
  subst e
  obtain ⟨cs, hl1, hr, hc2⟩ := hc j _ (List.getElem?_eq_getElem hj)
  have hr : cs = [Value.int .u8 ys[j]] := hr
  have := hc2 0 (Value.int .u8 ys[j]) (by rw [hr]; rfl)
  rw [show j * (Kd.int IntKind.u8).sz + 0 = j from by show j * 1 + 0 = j; omega] at this
  rw [this]
  simp [encs, hj] at hu
  rw [hu]
 have hown := Kd.own_of_R HO
 obtain ⟨v', w', hrun, r1, r2, r3, r4⟩ := run_append_own_at (P := Tryd.prog) W base 22 o.type 5 i0 (.int .u8 0) 1 1 Tryd.underlying22 hi hz0 hz1 hz2 rfl (by omega) v xs.length _ hown ad ys.length c (encs (Value.int .u8) ys) (by simp [encs]) hcell
  (by intro u hu; simp [encs] at hu; obtain ⟨p, _, rfl⟩ := hu; rfl) (by simp only [maxLen]; omega) (by omega) hbase
 refine wpListIn_plain hgd fun K hK' => ?_
 unfold Oper.wpIn
 refine ⟨?_, ?_⟩
 ·simp [Oper.about, ho, resolve, Target.leads, Sem.run_pure]
 rw [Oper.semAt_plain F _ _ (by rw [ho]; intro c hc'; cases hc')]
 simp [execOp, ho, resolve, invoke, builtin, hs, hx, hrun, Result.andThen]
 refine hK' _ _ (h v' w' (Kd.R_of_own (enc := Value.int .u8) (h1 := fun _ => rfl) ?_ ?_) r2)
 ·rw [List.length_append, show encs (Value.int .u8) (xs ++ ys) = encs (Value.int .u8) xs ++ encs (Value.int .u8) ys from by simp [encs]]
  exact r1
 ·intro k hk
  rcases r4 with r4 | r4
  ·exact HO.1 k (by rw [← r4]; exact hk)
  ·rw [r4] at hk
   injection hk with hk
   exact hfresh k (by omega)
end Go.Proofs.YtdklmafkcbjomaaDoor

/-! KdfFirst -/
namespace Go.Proofs.YtdklmafkcbjomaaDoor
set_option linter.unusedVariables false
set_option linter.unusedSimpArgs false
open Go.RowKit Go.Proofs.YtdklmafkcbjomaaDoorW.PrintWords Go.Proofs.YtdklmafkcbjomaaDoorW.PrintLast Go.Proofs.YtdklmafkcbjomaaDoorW.PrintMore Iter
attribute [local go_sem] Oper.semAt_some
theorem R_kept {W W' : World} {base : Nat} {ok : Nat → Prop} {v : Value} {xs : List Int} (h : Kd.R (Kd.int .u8) 5 W base ok v xs) (hk : KeepsCells W W') : Kd.R (Kd.int .u8) 5 W' base ok v xs :=
 Kd.R_mono (Kd.R_move (Kd.R_bound h) (fun k hb => by obtain ⟨_, _, _, q, _, cells, hc⟩ := hb; exact (hk.same _ _ hc rfl).trans hc.symm)) (fun _ hb => hb.1)
theorem C_same {W W' : World} {ad : Addr} {n : Nat} {xs : List Int} (h : Kd.C (Kd.int .u8) W (some ad) n xs) (hs : W'.heap[ad.block]? = W.heap[ad.block]?) : Kd.C (Kd.int .u8) W' (some ad) n xs := by
 refine ⟨h.1, h.2.1, fun hn => ?_⟩
 obtain ⟨ad', e, hc⟩ := h.2.2 hn
 have e' : ad = ad' := Option.some.inj e
 subst e'
 refine ⟨ad, rfl, fun j p hj => ?_⟩
 obtain ⟨c, hl, hr, hcell⟩ := hc j p hj
 exact ⟨c, hl, hr, fun i u hu => (World.cell?_of_block (by unfold Addr.add; split <;> exact hs)).trans (hcell i u hu)⟩
theorem C_some {W : World} {A : Option Addr} {n : Nat} {xs : List Int} (h : Kd.C (Kd.int .u8) W A n xs) (hn : 0 < n) : ∃ ad, A = some ad ∧ ad.block < W.heap.size := by
 obtain ⟨ad, e, hc⟩ := h.2.2 hn
 have hx : 0 < xs.length := by rw [h.1]; exact hn
 obtain ⟨c, hl, hr, hcell⟩ := hc 0 _ (List.getElem?_eq_getElem hx)
 have hr : c = [Value.int .u8 xs[0]] := hr
 have h2 := World.block_lt_of_cell? W _ (hcell 0 (Value.int .u8 xs[0]) (by rw [hr]; rfl))
 refine ⟨ad, e, ?_⟩
 unfold Addr.add at h2
 split at h2 <;> exact h2
/-- Between rounds: the cell of out holds the rows so far, the cell of n its number. -/
def IFirst (R : Nat → List Int) (n g B : Nat) (k m : Nat) (W : World) : Prop :=
 ∃ v, Blk W g 3 #[.int .i64 (n : Int)] ∧ Blk W (g + 1) 22 #[v] ∧ Kd.R (Kd.int .u8) 5 W B (fun b => b < m ∧ g + 1 < b) v (outTo R k) ∧ 32 * k < n ∧ g + 1 < m
theorem IFirst_kept (R : Nat → List Int) (n g B : Nat) (k m : Nat) (W W' : World) (h : IFirst R n g B k m W) (hk : KeepsCells W W') : IFirst R n g B k m W' := by
 obtain ⟨v, h1, h2, h3, h4⟩ := h
 exact ⟨v, h1.kept hk, h2.kept hk, R_kept h3 hk, h4⟩
theorem IFirst_below (R : Nat → List Int) (n g B : Nat) (k m : Nat) (W W' : World) (h : IFirst R n g B k m W) (hb : Below m W W') : IFirst R n g B k m W' := by
 obtain ⟨v, h1, h2, h3, h4, h5⟩ := h
 exact ⟨v, h1.below hb (by omega), h2.below hb h5, Kd.R_step h3 (fun b hk _ => hb.block b hk.1), h4, h5⟩
theorem IFirst_mono (R : Nat → List Int) (n g B : Nat) (k m m' : Nat) (W : World) (h : IFirst R n g B k m W) (hm : m ≤ m') : IFirst R n g B k m' W := by
 obtain ⟨v, h1, h2, h3, h4, h5⟩ := h
 exact ⟨v, h1, h2, Kd.R_mono h3 (fun b hk => ⟨by omega, hk.2⟩), h4, by omega⟩
/-- Behind the loop. -/
def XFirst (R : Nat → List Int) (n g B : Nat) (c : Code) (_ : Nat) (W : World) : Prop :=
 c = .exit 0 ∧ ∃ v k, Blk W g 3 #[.int .i64 (n : Int)] ∧ Blk W (g + 1) 22 #[v] ∧ Kd.R (Kd.int .u8) 5 W B (fun _ => True) v (outTo R k) ∧ n ≤ 32 * k ∧ k < 260
theorem XFirst_own (R : Nat → List Int) (n g B : Nat) (c : Code) : CellOwn (XFirst R n g B c) := fun _ _ _ h hk => by
 obtain ⟨e, v, k, h1, h2, h3, h4⟩ := h
 exact ⟨e, v, k, h1.kept hk, h2.kept hk, R_kept h3 hk, h4⟩
theorem wpIn_scope {c : Code} {n : Nat} {P : Program} {Q : Exit → Act → World → Prop} {a : Act} {w : World} (h : c.wpIn Fence.wide n P (Exit.noGoto Q) a w) : (Code.scope c).wpIn Fence.wide n P Q a w :=
 wpIn_wide.2 (wp_scope_straight ((wpIn_wide (n := n)).1 h))
/-- A round's writes: the append, and the store of what it gives. -/
theorem first_round (R : Nat → List Int) (n g B k m : Nat) (W w1 : World) (v v1 : Value) (hB : B ≤ g) (c0 : Blk W g 3 #[.int .i64 (n : Int)]) (c1 : Blk W (g + 1) 22 #[v])
  (hv : Kd.R (Kd.int .u8) 5 W B (fun b => b < m ∧ g + 1 < b) v (outTo R k)) (hgm : g + 1 < m) (hmW : m ≤ W.heap.size)
  (hv1 : Kd.R (Kd.int .u8) 5 w1 B (fun b => g + 1 < b) v1 (outTo R (k + 1))) (hg : W.grownBy w1 v.ownBlock) (ad : Addr) (c : Nat) (had : m ≤ ad.block) (hadl : ad.block < W.heap.size) :
  KeepsOthers W (w1.setCell ⟨g + 1, 0, none⟩ v1) ∧ Blk (w1.setCell ⟨g + 1, 0, none⟩ v1) g 3 #[.int .i64 (n : Int)] ∧ Blk (w1.setCell ⟨g + 1, 0, none⟩ v1) (g + 1) 22 #[v1] ∧
   Kd.R (Kd.int .u8) 5 (w1.setCell ⟨g + 1, 0, none⟩ v1) B (fun b => b < (w1.setCell ⟨g + 1, 0, none⟩ v1).heap.size ∧ g + 1 < b) v1 (outTo R (k + 1)) ∧
   Below B W (w1.setCell ⟨g + 1, 0, none⟩ v1) ∧ RKp #[.slice (some ad) 32 c] W (w1.setCell ⟨g + 1, 0, none⟩ v1) ∧ g + 1 < (w1.setCell ⟨g + 1, 0, none⟩ v1).heap.size := by
 have hne : ∀ b, b ≤ g + 1 → some b ≠ v.ownBlock := fun b hb e => by have := (hv.1 b e.symm).2; omega
 have hsz : (w1.setCell ⟨g + 1, 0, none⟩ v1).heap.size = w1.heap.size := by simp [World.setCell]
 have c0' : Blk w1 g 3 #[.int .i64 (n : Int)] := (hg.block g c0.lt (hne g (by omega))).trans c0
 have c1' : Blk w1 (g + 1) 22 #[v] := (hg.block (g + 1) c1.lt (hne _ (Nat.le_refl _))).trans c1
 have hR2 := Kd.R_far (p := ⟨g + 1, 0, none⟩) hv1 (fun b hb => by have : g + 1 < b := hb; show b ≠ g + 1; omega) v1
 refine ⟨?_, c0'.far (by show g ≠ g + 1; omega) v1, c1'.set_ 0 v1, ?_, ?_, ?_, ?_⟩
 ·refine (KeepsOthers.of_grownBy hg ?_).trans (KeepsOthers.setCell _ _ _)
  intro j o hj ho
  obtain ⟨_, _, _, q, _, cells, hc⟩ := (Kd.R_bound hv).1 j hj
  rw [hc] at ho
  injection ho with ho
  rw [← ho]
  rfl
 ·exact Kd.R_mono (Kd.R_bound hR2) (fun b hb => ⟨hb.2.2.1, hb.1⟩)
 ·refine ⟨hg.os, hg.tape, hg.output, by rw [hsz]; exact hg.size, fun b hb => ?_⟩
  rw [Below.heap_setCell w1 ⟨g + 1, 0, none⟩ v1 b (by show b ≠ g + 1; omega)]
  exact hg.block b (by omega) (hne b (by omega))
 ·intro A n' c' xs e hC
  injection e with e
  injection e with e _
  injection e with e1 e2 e3
  subst e1
  refine C_same hC ?_
  rw [Below.heap_setCell w1 ⟨g + 1, 0, none⟩ v1 ad.block (by show ad.block ≠ g + 1; omega)]
  exact hg.block _ hadl (fun e => by have := (hv.1 _ e.symm).1; omega)
 ·rw [hsz]
  exact Nat.lt_of_lt_of_le (by omega) hg.size
set_option maxRecDepth 100000 in
set_option maxHeartbeats 2000000 in
theorem first_in (R : Nat → List Int) (hR : ∀ k, (R k).length = 32) (n : Nat) (hn : n ≤ 8160) (gf : Nat) (lb : Array Value) (w : World)
  (eg : ∀ args w, (callFunc gf args).run Tryd.prog w = .ok (.enter gf args) w)
  (hseq : SeqMark Tryd.prog gf lb (REl R) 256 w.heap.size RKp w) :
  CallsIn Fence.wide 5 Tryd.prog 67 #[.int .i64 (n : Int), .func (.func gf) #[] lb] w fun e w' => ∃ v, e = .returned v ∧ Kd.R (Kd.int .u8) 5 w' w.heap.size (fun _ => True) v (firstOf R n) ∧ Below w.heap.size w w' := by
 refine callsIn_of_wp_marks Tryd.func67 rfl trivial ?_ rfl
 simp only [Tryd.ntmps67, List.size_toArray, List.length_cons, List.length_nil, Nat.reduceAdd, Nat.reduceSub, Array.replicate_succ, Array.replicate_zero, List.push_toArray, List.append_toArray, List.nil_append, List.cons_append]
 have hb0 := ((Below.refl w.heap.size w).alloc (Nat.le_refl _) (.cells #[.int .i64 (n : Int)] 3)).alloc (by simp) (.cells #[.slice none 0 0] 22)
 by_cases h0 : n = 0
 ·subst h0
  gi_wp2_with (refine wpIn_scope ?_)
  exact ⟨_, results_tmp rfl _ _ _, _, rfl, Kd.R_nil _ _ _ _ _, hb0⟩
 have h0' : ((n : Int) == 0) = false := by simp; omega
 have b0 := (Blk.new w 3 #[.int .i64 (n : Int)]).alloc (.cells #[.slice none 0 0] 22)
 have b1 := Blk.new (w.alloc (.cells #[.int .i64 (n : Int)] 3)) 22 #[.slice none 0 0]
 rw [World.size_alloc] at b1
 have hsz : ((w.alloc (.cells #[.int .i64 (n : Int)] 3)).alloc (.cells #[.slice none 0 0] 22)).heap.size = w.heap.size + 2 := by simp
 gi_wp2_with (first | (refine wpIn_scope ?_) | (refine wpIn_label ?_))
 generalize (w.alloc (.cells #[.int .i64 (n : Int)] 3)).alloc (.cells #[.slice none 0 0] 22) = W0 at b1 b0 hb0 hsz ⊢
 refine wpIn_range_mark (n := 3) (gf := gf) (lb := lb) rfl eg hseq hb0 (by omega) (fun k m args W h => by obtain ⟨A, c, e, _⟩ := h; rw [e]; rfl) (REl_kept R) RKp_kept
  (IFirst R n w.heap.size w.heap.size) (XFirst R n w.heap.size w.heap.size) (IFirst_kept R n _ _) (IFirst_below R n _ _) (IFirst_mono R n _ _) (XFirst_own R n _ _)
  ⟨_, b0, b1, Kd.R_nil _ _ _ _ _, by omega, by omega⟩
  (fun args => { tmps := #[.int .i64 (n : Int), .func (.func gf) #[] lb, .pointer (some ⟨w.heap.size, 0, none⟩), undef, .slice none 0 0, .pointer (some ⟨w.heap.size + 1, 0, none⟩), args.getD 0 undef, .int .i64 (n : Int), .bool false, undef, .func (.func gf) #[] lb, args.getD 0 undef, undef, undef, undef, undef, undef, undef, undef, undef, undef, undef], defers := [] })
  ?assign ?body ?stop
 case assign =>
  rintro l k m args W K ⟨A, c, rfl, _⟩ hK
  rw [hR k] at hK
  gi_wp2
  exact hK
 case body =>
  rintro l k m args W hk ⟨v, c0, c1, hv, hkn, hgm⟩ hmW ⟨A, c, rfl, hlc, hC, hA⟩ hbW
  rw [hR k] at *
  obtain ⟨ad, rfl, had⟩ := C_some hC (by omega)
  have hadm := hA ad rfl
  show Code.wpIn _ _ _ _ _ { tmps := #[.int .i64 (n : Int), .func (.func gf) #[] lb, .pointer (some ⟨w.heap.size, 0, none⟩), undef, .slice none 0 0, .pointer (some ⟨w.heap.size + 1, 0, none⟩), .slice (some ad) 32 c, .int .i64 (n : Int), .bool false, undef, .func (.func gf) #[] lb, .slice (some ad) 32 c, undef, undef, undef, undef, undef, undef, undef, undef, undef, undef], defers := [] } W
  have hcell := c1.cell 0
  have hcell : W.cell? ⟨w.heap.size + 1, 0, none⟩ = some v := hcell
  gi_wp2_with (first
   | (refine wpListIn_append_bytes W rfl (.tmp 12) (.tmp 13) rfl w.heap.size v (outTo R k) (R k) ad c (fun b => w.heap.size + 1 < b) rfl (by rw [hR k]; rfl) (Kd.R_mono hv (fun b hb => hb.2)) (by rw [hR k]; exact hC) (fun b hb => by omega) (by omega) (by rw [outTo_length R hR, hR k]; omega) ?_; intro v1 w1 hv1 hg1; (have hv1 : Kd.R (Kd.int .u8) 5 w1 w.heap.size (fun b => w.heap.size + 1 < b) v1 (outTo R (k + 1)) := hv1); obtain ⟨A1, cc1, hve, hl1, hC1⟩ := Kd.R_reads hv1; rw [outTo_length R hR] at hve; subst hve; (have H := Lib.hid (first_round R n w.heap.size w.heap.size k m W w1 v _ (Nat.le_refl _) c0 c1 hv hgm hmW hv1 hg1 ad c hadm had)); (have q1 : w1.cell? ⟨w.heap.size + 1, 0, none⟩ = some v := (World.cell?_of_block (hg1.block (w.heap.size + 1) c1.lt (fun e => by have := (hv.1 _ e.symm).2; omega))).trans hcell); (have c1w : Blk w1 (w.heap.size + 1) 22 #[v] := (hg1.block (w.heap.size + 1) c1.lt (fun e => by have := (hv.1 _ e.symm).2; omega)).trans c1); (have q2 : w1.frozen? ⟨w.heap.size + 1, 0, none⟩ = false := c1w.frozen 0); (have c0w : Blk w1 w.heap.size 3 #[.int .i64 (n : Int)] := (hg1.block w.heap.size c0.lt (fun e => by have := (hv.1 _ e.symm).2; omega)).trans c0); (have q3 : w1.cell? ⟨w.heap.size, 0, none⟩ = some (.int .i64 (n : Int)) := c0w.cell 0); clear hl1 hC1 hv1))
  ·obtain ⟨r1, r2, r3, r4, r5, r6, r7⟩ := H.out
   exact ⟨r1, ⟨rfl, _, k + 1, r2, r3, Kd.R_mono r4 (fun _ _ => trivial), by omega, by omega⟩, r5⟩
  ·obtain ⟨r1, r2, r3, r4, r5, r6, r7⟩ := H.out
   exact ⟨r1, by omega, ⟨_, r2, r3, r4, by omega, r7⟩, r5, r6⟩
 rintro D c k W ⟨rfl, v, k', c0, c1, hv, hkn, hk'⟩ hbW hD hDB
 have hlen := outTo_length R hR k'
 have htk := Kd.R_reads hv
 obtain ⟨A, cc, rfl, hlc, hC⟩ := htk
 have hres := Kd.R_take (m := n) hv (by omega)
 rw [firstOf_any R hR n k' hkn] at hres
 rw [hlen] at hlc hv
 have hcell : W.cell? ⟨w.heap.size + 1, 0, none⟩ = some (.slice A (outTo R k').length cc) := c1.cell 0
 have hcelln : W.cell? ⟨w.heap.size, 0, none⟩ = some (.int .i64 (n : Int)) := c0.cell 0
 have hcc : (n : Int) ≤ (cc : Int) := by omega
 have H := Lib.hid (And.intro hres hC)
 clear hres hC hv
 gi_wp2_with fail
 show bodyPostM Fence.wide 5 _ _ _ .ret _ _
 refine ⟨by simp, .inl ⟨_, _, rfl, run_takeDeferred hD, ?_⟩⟩
 exact ⟨_, results_tmp rfl _ _ _, _, rfl, R_kept H.out.1 (KeepsCells.putObj _ hD rfl), hbW.trans (below_putObj _ (by omega))⟩
end Go.Proofs.YtdklmafkcbjomaaDoor

/-! KdfSeq -/
namespace Go.Proofs.YtdklmafkcbjomaaDoor
set_option linter.unusedVariables false
set_option linter.unusedSimpArgs false
open Go.RowKit Go.Proofs.YtdklmafkcbjomaaDoorW.PrintWords Go.Proofs.YtdklmafkcbjomaaDoorW.PrintLast Go.Proofs.YtdklmafkcbjomaaDoorW.PrintMore Iter
attribute [local go_sem] Oper.semAt_some
theorem c_three (W : World) (T : Nat) (A B D : Option Addr) (c d e : Nat) (x y z : List Int) (hx : Kd.C (Kd.int .u8) W A x.length x) (hcx : x.length ≤ c) (hy : Kd.C (Kd.int .u8) W B y.length y) (hcy : y.length ≤ d)
  (hz : Kd.C (Kd.int .u8) W D z.length z) (hcz : z.length ≤ e) :
  Kd.C (Kd.slice 5 (Kd.int .u8)) (W.alloc (.cells #[.slice A x.length c, .slice B y.length d, .slice D z.length e] T)) (some ⟨W.heap.size, 0, none⟩) 3 [x, y, z] := by
 refine ⟨rfl, by omega, fun _ => ⟨_, rfl, fun j p hj => ?_⟩⟩
 have hcell : ∀ j, (W.alloc (.cells #[.slice A x.length c, .slice B y.length d, .slice D z.length e] T)).cell? ((⟨W.heap.size, 0, none⟩ : Addr).add j) = (#[Value.slice A x.length c, .slice B y.length d, .slice D z.length e] : Array Value)[j]? := fun j => by
  rw [add_plain]
  exact cell_of_row _ _ _ _ _ _ (heap_alloc_new W _)
 rcases j with _ | _ | _ | j
 ·injection hj with hj
  subst hj
  refine ⟨[.slice A x.length c], rfl, ⟨A, c, rfl, hcx, Kd.C_alloc hx _⟩, fun i u hu => ?_⟩
  rcases i with _ | i
  ·exact (hcell 0).trans hu
  ·cases hu
 ·injection hj with hj
  subst hj
  refine ⟨[.slice B y.length d], rfl, ⟨B, d, rfl, hcy, Kd.C_alloc hy _⟩, fun i u hu => ?_⟩
  rcases i with _ | i
  ·exact (hcell 1).trans hu
  ·cases hu
 ·injection hj with hj
  subst hj
  refine ⟨[.slice D z.length e], rfl, ⟨D, e, rfl, hcz, Kd.C_alloc hz _⟩, fun i u hu => ?_⟩
  rcases i with _ | i
  ·exact (hcell 2).trans hu
  ·cases hu
 ·cases hj
theorem kdfT_step (key info : List Int) (k : Nat) (hk0 : byteOk key = true) (hi0 : byteOk info = true) (lk : key.length ≤ 900000) (li : info.length ≤ 700000) :
  P.mac_All.f key [kdfT key info k, info, [(((k + 1) % 256 : Nat) : Int)]] = some (kdfT key info (k + 1)) := by
 have hl : (kdfT key info k).length ≤ 32 := by
  cases k with
  | zero => simp [kdfT]
  | succ k => rw [kdfT_length]; omega
 have e : [kdfT key info k, info, [(((k + 1) % 256 : Nat) : Int)]].flatten = kdfT key info k ++ info ++ [(((k + 1) % 256 : Nat) : Int)] := by simp
 have hb : byteOk (kdfT key info k ++ info ++ [(((k + 1) % 256 : Nat) : Int)]) = true := by
  rw [byteOk_append, byteOk_append]
  refine ⟨⟨byteOk_kdfT _ _ _, hi0⟩, ?_⟩
  simp [byteOk]
  omega
 unfold P.mac_All.f
 rw [e, if_pos ⟨hk0, hb, lk, by simp; omega⟩, kdfT]
set_option maxRecDepth 100000 in
set_option maxHeartbeats 2000000 in
theorem expand_seq (key info : List Int) (gk gi : Nat) (Ak Ai : Option Addr) (ck ci : Nat) (w0 : World) (hk0 : byteOk key = true) (hi0 : byteOk info = true) (lk : key.length ≤ 900000) (li : info.length ≤ 700000)
  (bk : Blk w0 gk 22 #[.slice Ak key.length ck]) (bi : Blk w0 gi 22 #[.slice Ai info.length ci]) (hck : key.length ≤ ck) (hci : info.length ≤ ci)
  (rk : Kd.C (Kd.int .u8) w0 Ak key.length key) (ri : Kd.C (Kd.int .u8) w0 Ai info.length info) :
  SeqMark Tryd.prog 68 #[.pointer (some ⟨gk, 0, none⟩), .pointer (some ⟨gi, 0, none⟩)] (REl fun k => kdfT key info (k + 1)) 256 w0.heap.size RKp w0 := by
 intro n l J Jx W hW hJ hJx hY h0
 have HF := Lib.hid (And.intro (kdfT_step key info · hk0 hi0 lk li) (And.intro hck (And.intro hci (And.intro rk ri))))
 have HJ := Lib.hid (And.intro hJ hY)
 clear hk0 hi0 lk li hck hci rk ri hJ hY
 refine callsIn_of_wp Tryd.func68 rfl trivial ?_ rfl
 simp only [Tryd.ntmps68, List.size_toArray, List.length_cons, List.length_nil, Nat.reduceAdd, Nat.reduceSub, Array.replicate_succ, Array.replicate_zero, List.push_toArray, List.append_toArray, List.nil_append, List.cons_append]
 gi_wp2
 gi_loopw [4, 5] (fun t i wr => ∃ (k m : Nat) (A : Option Addr) (c : Nat), k < 256 ∧ i = .int .i64 ((k + 1 : Nat) : Int) ∧ t = .slice A (kdfT key info k).length c ∧ (kdfT key info k).length ≤ c ∧ Aside0 (Kd.C (Kd.int .u8) wr A (kdfT key info k).length (kdfT key info k)) ∧ m ≤ wr.heap.size ∧ Aside0 (J k m wr) ∧ Below w0.heap.size w0 wr) (fun _ i _ => 300 - (intOf i).toNat)
 case atStart => exact ⟨0, W.heap.size, none, 0, by omega, rfl, rfl, Nat.le_refl _, ⟨Kd.C_nil _ _⟩, Nat.le_refl _, ⟨h0⟩, hW⟩
 obtain ⟨k, m, A, c, hk, rfl, rfl, hlc, hC, hm, hj, hb⟩ := hrel
 have hT := HF.out.1 k
 have e1 : ((k : Int) + 1) % 256 = (((k + 1) % 256 : Nat) : Int) := by omega
 generalize kdfT key info k = T at *
 have ck1 : wr.cell? ⟨gk, 0, none⟩ = some (.slice Ak key.length ck) := (bk.below hb bk.lt).cell 0
 have ci1 : wr.cell? ⟨gi, 0, none⟩ = some (.slice Ai info.length ci) := (bi.below hb bi.lt).cell 0
 have HT := Lib.hid hT
 clear hT
 have HE := Lib.hid e1
 clear e1
 gi_wp2_with fail
 rw [HE.out]
 generalize (((k + 1) % 256 : Nat) : Int) = x at *
 obtain ⟨hck, hci, rk, ri⟩ := HF.out.2
 have hs1 : (wr.alloc (Obj.cells #[Value.int IntKind.u8 x] 5)).heap.size = wr.heap.size + 1 := by simp
 have cx : Kd.C (Kd.int .u8) (wr.alloc (Obj.cells #[Value.int IntKind.u8 x] 5)) (some ⟨wr.heap.size, 0, none⟩) 1 [x] := c_marked wr 5 (0, 0) [x] (by simp)
 have cW := c_three (wr.alloc (Obj.cells #[Value.int IntKind.u8 x] 5)) 22 A Ai (some ⟨wr.heap.size, 0, none⟩) c ci 1 T info [x] (Kd.C_alloc hC.out _) hlc (Kd.C_alloc (Kd.C_below ri hb) _) hci cx (Nat.le_refl _)
 rw [hs1] at cW
 have kW : Kd.C (Kd.int .u8) ((wr.alloc (Obj.cells #[Value.int IntKind.u8 x] 5)).alloc (Obj.cells #[Value.slice A T.length c, Value.slice Ai info.length ci, Value.slice (some ⟨wr.heap.size, 0, none⟩) 1 1] 22)) Ak key.length key := Kd.C_alloc (Kd.C_alloc (Kd.C_below rk hb) _) _
 have bm := ((Below.refl m wr).alloc hm (Obj.cells #[Value.int IntKind.u8 x] 5)).alloc (by rw [hs1]; omega) (Obj.cells #[Value.slice A T.length c, Value.slice Ai info.length ci, Value.slice (some ⟨wr.heap.size, 0, none⟩) 1 1] 22)
 have bw := (hb.alloc hb.size (Obj.cells #[Value.int IntKind.u8 x] 5)).alloc (by rw [hs1]; have := hb.size; omega) (Obj.cells #[Value.slice A T.length c, Value.slice Ai info.length ci, Value.slice (some ⟨wr.heap.size, 0, none⟩) 1 1] 22)
 have hs2 : ((wr.alloc (Obj.cells #[Value.int IntKind.u8 x] 5)).alloc (Obj.cells #[Value.slice A T.length c, Value.slice Ai info.length ci, Value.slice (some ⟨wr.heap.size, 0, none⟩) 1 1] 22)).heap.size = wr.heap.size + 2 := by simp
 have cW : Kd.C (Kd.slice 5 (Kd.int .u8)) ((wr.alloc (Obj.cells #[Value.int IntKind.u8 x] 5)).alloc (Obj.cells #[Value.slice A T.length c, Value.slice Ai info.length ci, Value.slice (some ⟨wr.heap.size, 0, none⟩) 1 1] 22)) (some ⟨wr.heap.size + 1, 0, none⟩) 3 [T, info, [x]] := cW
 generalize (wr.alloc (Obj.cells #[Value.int IntKind.u8 x] 5)).alloc (Obj.cells #[Value.slice A T.length c, Value.slice Ai info.length ci, Value.slice (some ⟨wr.heap.size, 0, none⟩) 1 1] 22) = W2 at *
 refine ⟨trivial, (callsIn_wide.2 (P.mac_All.calls Ak ck key (some ⟨wr.heap.size + 1, 0, none⟩) 3 [T, info, [x]] _ W2 kW hck cW (Nat.le_refl _) HT.out)).mono ?_⟩
 rintro e W3 ⟨v3, rfl, hR3, hb3⟩
 have hT32 := kdfT_length key info k
 obtain ⟨g3, c3, rfl, hg3, -⟩ := Kd.R_form hR3 (by rw [hT32]; omega)
 obtain ⟨A3, c3', e3, hl3, hC3⟩ := Kd.R_reads hR3
 injection e3 with ea _ ec
 subst ea
 subst ec
 have hj3 := HJ.out.1 k m wr W3 hj.out (bm.trans (hb3.mono (by omega)))
 have hbW3 := bw.trans (hb3.mono (by have := hb.size; omega))
 have hm3 : m ≤ W3.heap.size := by have := hb3.size; omega
 have hEl : REl (fun k => kdfT key info (k + 1)) k m #[.slice (some ⟨g3, 0, none⟩) (kdfT key info (k + 1)).length c3] W3 := ⟨_, _, rfl, hl3, hC3, fun a ha => by cases ha; show m ≤ g3; omega⟩
 obtain ⟨fn, tmps, assign, body, hy, hRnd⟩ := HJ.out.2 k m _ W3 hk hj3 hm3 hEl hbW3
 obtain ⟨T3, hT3⟩ : ∃ T3, kdfT key info (k + 1) = T3 := ⟨_, rfl⟩
 have hd : (fun k => kdfT key info (k + 1)) k = T3 := hT3
 rw [hT3] at hl3 hC3 hy hRnd hT32 ⊢
 have HT3 := Lib.hid (And.intro hT3 hT32)
 clear hT3 hd hT32
 clear cW kW bm bw hs1 hs2 cx hR3 hb3 ck1 ci1 hEl hj3 hC hj HT HE
 have HC3 := Lib.hid (And.intro hC3 (And.intro hl3 hbW3))
 clear hC3 hl3 hbW3 hck hci rk ri hb hlc
 gi_wp2
 refine hRnd.mono ?_
 rintro e W' (⟨rfl, hk1, hj', hb', hkp⟩ | ⟨rfl, hx⟩)
 ·gi_wp2
  trace_state
  go_roundw
  case rel => exact ⟨k + 1, W'.heap.size, some ⟨g3, 0, none⟩, c3, by omega, by go_num, by rw [HT3.out.1], by rw [HT3.out.1]; exact HC3.out.2.1, by rw [HT3.out.1]; exact ⟨hkp _ _ _ _ rfl HC3.out.1⟩, Nat.le_refl _, ⟨hj'⟩, HC3.out.2.2.trans hb'⟩
  case measure => simp [intOf]; omega
 ·gi_wp2
  refine bodyPost_ret (results_none rfl _ _ _) rfl ?_
  exact ⟨⟨_, rfl⟩, k, hx⟩
end Go.Proofs.YtdklmafkcbjomaaDoor

/-! KdfExpand -/
namespace Go.Proofs.YtdklmafkcbjomaaDoor
set_option linter.unusedVariables false
set_option linter.unusedSimpArgs false
open Go.RowKit Go.Proofs.YtdklmafkcbjomaaDoorW.PrintWords Go.Proofs.YtdklmafkcbjomaaDoorW.PrintLast Go.Proofs.YtdklmafkcbjomaaDoorW.PrintMore Iter
theorem expand_enters (args : Array Value) (w : World) : (callFunc 68 args).run Tryd.prog w = .ok (.enter 68 args) w := enters_of Tryd.func68 (by kernel_rfl) rfl args w
theorem expandOf_length (key info : List Int) (n : Nat) : (expandOf key info n).length = n := firstOf_length _ (fun k => kdfT_length key info k) n
theorem byteOk_expandOf (key info : List Int) (n : Nat) : byteOk (expandOf key info n) = true := byteOk_firstOf _ (fun k => byteOk_kdfT key info (k + 1)) n
namespace P
def kdf_Expand.f (key info : List Int) (n : Int) : Option (List Int × Int) :=
 if n < 0 then some ([], 1) else if 8160 < n then some ([], 1) else if byteOk key = true ∧ byteOk info = true ∧ key.length ≤ 900000 ∧ info.length ≤ 700000 then some (expandOf key info n.toNat, 0) else none
set_option maxRecDepth 100000 in
set_option maxHeartbeats 2000000 in
theorem kdf_Expand.calls (A0 : Option Addr) (c0 : Nat) (l0 : List Int) (A1 : Option Addr) (c1 : Nat) (l1 : List Int) (a2 : Int) (r1 : List Int) (r2 : Int) (w : World) (hr0 : Kd.C (Kd.int .u8) w A0 l0.length l0) (hc0 : l0.length ≤ c0) (hr1 : Kd.C (Kd.int .u8) w A1 l1.length l1) (hc1 : l1.length ≤ c1) (h : kdf_Expand.f l0 l1 a2 = some (r1, r2)) :
  Calls Tryd.prog 58 #[.slice A0 l0.length c0, .slice A1 l1.length c1, .int .i64 a2] w fun e w' => ∃ v0_ : Value, e = .returned (.tuple #[v0_, .int .i64 r2]) ∧ Kd.R (Kd.int .u8) 5 w' w.heap.size (fun _ => True) v0_ r1 ∧ Below w.heap.size w w' := by
 have hb0 := ((Below.refl w.heap.size w).alloc (Nat.le_refl _) (.cells #[.slice A0 l0.length c0] 22)).alloc (by simp) (.cells #[.slice A1 l1.length c1] 22)
 unfold kdf_Expand.f at h
 by_cases h0 : a2 < 0
 ·rw [if_pos h0] at h
  injection h with h
  injection h with h1 h2
  subst h1 h2
  have d0 : decide (a2 < 0) = true := by simp [h0]
  go_enter Tryd.func58, Tryd.ntmps58
  go_wp2
  go_ret2
  exact ⟨_, rfl, Kd.R_nil _ _ _ _ _, hb0⟩
 rw [if_neg h0] at h
 have d0 : decide (a2 < 0) = false := by simp; omega
 by_cases h1 : 8160 < a2
 ·rw [if_pos h1] at h
  injection h with h
  injection h with h1' h2
  subst h1' h2
  have d1 : decide (8160 < a2) = true := by simp [h1]
  go_enter Tryd.func58, Tryd.ntmps58
  go_wp2
  go_ret2
  exact ⟨_, rfl, Kd.R_nil _ _ _ _ _, hb0⟩
 rw [if_neg h1] at h
 have d1 : decide (8160 < a2) = false := by simp; omega
 split at h
 case isFalse => cases h
 case isTrue hok =>
 injection h with h
 injection h with h1' h2
 subst h1' h2
 obtain ⟨n, rfl⟩ := Int.eq_ofNat_of_zero_le (show 0 ≤ a2 by omega)
 rw [Int.toNat_natCast]
 obtain ⟨o1, o2, o3, o4⟩ := hok
 have b0 := (Blk.new w 22 #[.slice A0 l0.length c0]).alloc (.cells #[.slice A1 l1.length c1] 22)
 have b1 := Blk.new (w.alloc (.cells #[.slice A0 l0.length c0] 22)) 22 #[.slice A1 l1.length c1]
 rw [World.size_alloc] at b1
 have k0 : Kd.C (Kd.int .u8) ((w.alloc (.cells #[.slice A0 l0.length c0] 22)).alloc (.cells #[.slice A1 l1.length c1] 22)) A0 l0.length l0 := Kd.C_alloc (Kd.C_alloc hr0 _) _
 have k1 : Kd.C (Kd.int .u8) ((w.alloc (.cells #[.slice A0 l0.length c0] 22)).alloc (.cells #[.slice A1 l1.length c1] 22)) A1 l1.length l1 := Kd.C_alloc (Kd.C_alloc hr1 _) _
 have hseq := expand_seq l0 l1 w.heap.size (w.heap.size + 1) A0 A1 c0 c1 ((w.alloc (.cells #[.slice A0 l0.length c0] 22)).alloc (.cells #[.slice A1 l1.length c1] 22)) o1 o2 o3 o4 b0 b1 hc0 hc1 k0 k1
 have hcall := callsIn_wide.1 (first_in (fun k => kdfT l0 l1 (k + 1)) (fun k => kdfT_length l0 l1 k) n (by omega) 68 #[.pointer (some ⟨w.heap.size, 0, none⟩), .pointer (some ⟨w.heap.size + 1, 0, none⟩)] _ expand_enters hseq)
 have HC := Lib.hid (And.intro hcall hb0)
 clear hcall hseq hb0 b0 b1 k0 k1 o1 o2 o3 o4 hr0 hr1 hc0 hc1
 go_enter Tryd.func58, Tryd.ntmps58
 go_wp2_with fail
 refine HC.out.1.mono ?_
 rintro e W1 ⟨v, rfl, hR, hb⟩
 go_wp2_with fail
 go_ret2
 exact ⟨_, rfl, Kd.R_lower hR (by simp; omega), HC.out.2.trans (hb.mono (by simp; omega))⟩
end P
end Go.Proofs.YtdklmafkcbjomaaDoor

/-! BytW -/
namespace Go.Proofs.YtdklmafkcbjomaaDoor
set_option linter.unusedVariables false
set_option linter.unusedSimpArgs false
open Go.RowKit
/-- Byte i of w of a number, the greatest first. -/
def numAt (n w i : Nat) : Int := ((n / 256 ^ (w - 1 - i) % 256 : Nat) : Int)
def numB (n w : Nat) : List Int := (List.range w).map (numAt n w)
theorem numB_length (n w : Nat) : (numB n w).length = w := by simp [numB]
theorem byteOk_numB (n w : Nat) : byteOk (numB n w) = true := by
 rw [byteOk_iff]
 intro x hx
 obtain ⟨i, _, rfl⟩ := List.mem_map.1 hx
 unfold numAt
 omega
theorem numB_get (n w i : Nat) (h : i < w) : (numB n w)[i]? = some (numAt n w i) := by simp [numB, h]
theorem numB_take_succ (n w i : Nat) (h : i < w) : (numB n w).take i ++ [numAt n w i] = (numB n w).take (i + 1) := by
 rw [List.take_add_one, numB_get n w i h]
 rfl
/-- Is it a number of so many bytes? -/
def numOk (n w : Int) : Prop := 1 ≤ w ∧ w ≤ 7 ∧ 0 ≤ n ∧ n < 256 ^ w.toNat
instance (n w : Int) : Decidable (numOk n w) := by unfold numOk; infer_instance
def numOf (n w : Int) : List Int × Int := if numOk n w then (numB n.toNat w.toNat, 0) else ([], 1)
theorem numOf_bad (n w : Int) (h : ¬ numOk n w) : numOf n w = ([], 1) := if_neg h
/-- A length's bytes. -/
def lenB (n : Nat) : List Int := if n < 64 then numB n 1 else if n < 16384 then numB (n + 16384) 2 else numB (n + 2147483648) 4
theorem byteOk_lenB (n : Nat) : byteOk (lenB n) = true := by
 unfold lenB
 split
 ·exact byteOk_numB _ _
 ·split <;> exact byteOk_numB _ _
theorem lenB_length (n : Nat) : (lenB n).length ≤ 4 := by
 unfold lenB
 split
 ·rw [numB_length]; omega
 ·split <;> rw [numB_length] <;> omega
def lenOf (n : Int) : List Int × Int := if 0 ≤ n ∧ n ≤ 1073741823 then (lenB n.toNat, 0) else ([], 1)
/-- A row's bytes. -/
def rowB (l : List Int) : List Int := lenB l.length ++ l
def rowOf (l : List Int) : List Int × Int := if l.length ≤ 1073741823 then (rowB l, 0) else ([], 1)
theorem rowOf_small (l : List Int) (h : l.length ≤ 1073741823) : rowOf l = (rowB l, 0) := if_pos h
theorem pow256 (m : Nat) : ((256 ^ m : Nat) : Int) = (256 : Int) ^ m := by simp
theorem numOf_small (n : Nat) (w : Nat) (h1 : 1 ≤ w) (h2 : w ≤ 7) (h : n < 256 ^ w) : numOf n w = (numB n w, 0) := by
 unfold numOf
 rw [if_pos]
 ·simp
 ·refine ⟨by omega, by omega, by omega, ?_⟩
  rw [Int.toNat_natCast, ← pow256]
  exact Int.ofNat_lt.2 h
theorem byteOk_rowB (l : List Int) (h : byteOk l = true) : byteOk (rowB l) = true := (byteOk_append _ _).2 ⟨byteOk_lenB _, h⟩
theorem rowB_length (l : List Int) : (rowB l).length ≤ l.length + 4 := by
 unfold rowB
 rw [List.length_append]
 have := lenB_length l.length
 omega
end Go.Proofs.YtdklmafkcbjomaaDoor

/-! BytC -/
namespace Go.Proofs.YtdklmafkcbjomaaDoor
set_option linter.unusedVariables false
set_option linter.unusedSimpArgs false
open Go.RowKit Go.Proofs.YtdklmafkcbjomaaDoorW.PrintWords Go.Proofs.YtdklmafkcbjomaaDoorW.PrintLast Go.Proofs.YtdklmafkcbjomaaDoorW.PrintMore
theorem wrap_s (x : Int) (h0 : -9223372036854775808 ≤ x) (h1 : x ≤ 9223372036854775807) : wrap64 x = x := by unfold wrap64; omega
theorem shr_nat (n m : Nat) (h : m ≤ 7) : shr .i64 (n : Int) (8 * (m : Int)) = ((n / 256 ^ m : Nat) : Int) := by
 unfold shr
 rw [Nat.min_eq_left (by simp [IntKind.bits]; omega), show (8 * (m : Int)).toNat = 8 * m by omega]
 rw [show (2 : Int) ^ (8 * m) = ((256 ^ m : Nat) : Int) by rw [Int.pow_mul]; simp]
 exact (Int.natCast_ediv _ _).symm
/-- The bytes so far. -/
def numUpto (n w i : Nat) : List Int := (List.range w).map fun j => if j < i then numAt n w j else 0
theorem numUpto_length (n w i : Nat) : (numUpto n w i).length = w := by simp [numUpto]
theorem numUpto_all (n w : Nat) : numUpto n w w = numB n w := by
 unfold numUpto numB
 apply List.map_congr_left
 intro j hj
 rw [if_pos (List.mem_range.1 hj)]
theorem numUpto_zero (n w : Nat) : numUpto n w 0 = List.replicate w 0 := by
 apply List.ext_getElem
 ·simp [numUpto]
 ·intro j h1 h2
  simp [numUpto]
theorem numUpto_set (n w i : Nat) (h : i < w) : (numUpto n w i).set i (numAt n w i) = numUpto n w (i + 1) := by
 apply List.ext_getElem
 ·simp [numUpto]
 ·intro j h1 h2
  rw [List.getElem_set]
  by_cases hi : i = j
  ·subst hi
   simp [numUpto]
  ·rw [if_neg hi]
   by_cases hlt : j < i
   ·simp [numUpto, hlt, show j < i + 1 by omega]
   ·simp [numUpto, hlt, show ¬ j < i + 1 by omega]
theorem byt_num_l0 (n w : Nat) (hw : w ≤ 7) : ∀ (d k i : Nat), i + d = w → d < k → B.byt_Num.l0 k (n : Int) (w : Int) (numUpto n w i) (w : Int) (i : Int) = some (numB n w, 0)
 | 0, k, i, hi, hk => by
  obtain ⟨k, rfl⟩ : ∃ m, k = m + 1 := ⟨k - 1, by omega⟩
  rw [B.byt_Num.l0, if_neg (by omega), show i = w by omega, numUpto_all]
 | d + 1, k, i, hi, hk => by
  obtain ⟨k, rfl⟩ : ∃ m, k = m + 1 := ⟨k - 1, by omega⟩
  have e1 : wrap64 (8 * wrap64 (wrap64 ((w : Int) - 1) - (i : Int))) = 8 * ((w - 1 - i : Nat) : Int) := by unfold wrap64; omega
  have e2 : wrap64 ((i : Int) + 1) = ((i + 1 : Nat) : Int) := by unfold wrap64; omega
  rw [B.byt_Num.l0, if_pos (by omega), e1, if_pos (by omega), if_pos (by omega), if_pos (by rw [numUpto_length]; omega), shr_nat n _ (by omega), e2, Int.toNat_natCast,
   show ((n / 256 ^ (w - 1 - i) : Nat) : Int) % 256 = numAt n w i by unfold numAt; omega, numUpto_set n w i (by omega)]
  exact byt_num_l0 n w hw d k (i + 1) (by omega) (by omega)
theorem byt_num_eq (n w : Int) (k : Nat) (hk : 9 < k) : B.byt_Num.f k n w = some (numOf n w) := by
 obtain ⟨k, rfl⟩ : ∃ m, k = m + 1 := ⟨k - 1, by omega⟩
 have hbad : ∀ x1, B.byt_Num.j0 (k + 1) n x1 true = some ([], 1) := fun x1 => by rw [B.byt_Num.j0, if_pos rfl]
 unfold B.byt_Num.f
 by_cases h1 : w < 1
 ·rw [if_pos h1, hbad, numOf_bad _ _ (fun h => by have := h.1; omega)]
 by_cases h2 : w > 7
 ·rw [if_neg h1, if_pos h2, hbad, numOf_bad _ _ (fun h => by have := h.2.1; omega)]
 by_cases h3 : n < 0
 ·rw [if_neg h1, if_neg h2, if_pos h3, hbad, numOf_bad _ _ (fun h => by have := h.2.2.1; omega)]
 obtain ⟨N, rfl⟩ := Int.eq_ofNat_of_zero_le (show 0 ≤ n by omega)
 obtain ⟨V, rfl⟩ := Int.eq_ofNat_of_zero_le (show 0 ≤ w by omega)
 have e : wrap64 (8 * (V : Int)) = 8 * (V : Int) := by unfold wrap64; omega
 rw [if_neg h1, if_neg h2, if_neg h3, e, if_pos (by omega), shr_nat N V (by omega)]
 by_cases h4 : N < 256 ^ V
 ·rw [Nat.div_eq_of_lt h4]
  rw [numOf_small N V (by omega) (by omega) h4, B.byt_Num.j0, if_neg (by simp), if_pos (by omega), if_pos (by omega), Option.bind_some, Int.toNat_natCast, ← numUpto_zero N V, numUpto_length]
  exact byt_num_l0 N V (by omega) V k 0 (by omega) (by omega)
 ·have h5 : ¬ numOk (N : Int) (V : Int) := by
   rintro ⟨-, -, -, h⟩
   rw [Int.toNat_natCast, ← pow256] at h
   exact h4 (Int.ofNat_lt.1 h)
  have h6 : 0 < N / 256 ^ V := Nat.div_pos (by omega) (Nat.pow_pos (by omega))
  rw [numOf_bad _ _ h5, show decide (((N / 256 ^ V : Nat) : Int) > 0) = true by rw [decide_eq_true_eq]; omega, hbad]
/-! The document's. -/
theorem power_l0 (w : Nat) (hw : w ≤ 7) : ∀ (d k i : Nat), i + d = w → d < k → B.pyxref01_power.l0 k (w : Int) ((256 ^ i : Nat) : Int) (i : Int) = some ((256 ^ w : Nat) : Int)
 | 0, k, i, hi, hk => by
  obtain ⟨k, rfl⟩ : ∃ m, k = m + 1 := ⟨k - 1, by omega⟩
  rw [B.pyxref01_power.l0, if_neg (by omega), show i = w by omega]
 | d + 1, k, i, hi, hk => by
  obtain ⟨k, rfl⟩ : ∃ m, k = m + 1 := ⟨k - 1, by omega⟩
  have e2 : wrap64 ((i : Int) + 1) = ((i + 1 : Nat) : Int) := by unfold wrap64; omega
  have hp : 256 ^ (i + 1) ≤ 256 ^ 7 := Nat.pow_le_pow_right (by omega) (by omega)
  have e1 : wrap64 (256 * ((256 ^ i : Nat) : Int)) = ((256 ^ (i + 1) : Nat) : Int) := by
   rw [Nat.pow_succ] at hp ⊢
   rw [show (256 : Nat) ^ 7 = 72057594037927936 from by decide] at hp
   generalize 256 ^ i = q at *
   unfold wrap64
   omega
  rw [B.pyxref01_power.l0, if_pos (by omega), e1, e2]
  exact power_l0 w hw d k (i + 1) (by omega) (by omega)
theorem power_eq (w k : Nat) (hw : w ≤ 7) (hk : 7 < k) : B.pyxref01_power.f k (w : Int) = some ((256 ^ w : Nat) : Int) := power_l0 w hw w k 0 (by omega) (by omega)
theorem ref_num_l0 (n w : Nat) (hw : w ≤ 7) (hn : n < 256 ^ w) : ∀ (d k i : Nat), i + d = w → d + 8 < k → B.pyxref01_Num.l0 k (n : Int) ((numB n w).take i) ((w : Int) - 1 - (i : Int)) = some (numB n w, 0)
 | 0, k, i, hi, hk => by
  obtain ⟨k, rfl⟩ : ∃ m, k = m + 1 := ⟨k - 1, by omega⟩
  rw [B.pyxref01_Num.l0, if_neg (by omega), List.take_of_length_le (by rw [numB_length]; omega)]
 | d + 1, k, i, hi, hk => by
  obtain ⟨k, rfl⟩ : ∃ m, k = m + 1 := ⟨k - 1, by omega⟩
  have e0 : (w : Int) - 1 - (i : Int) = ((w - 1 - i : Nat) : Int) := by omega
  have e2 : wrap64 (((w - 1 - i : Nat) : Int) - 1) = (w : Int) - 1 - ((i + 1 : Nat) : Int) := by unfold wrap64; omega
  have hp : 256 ^ w ≤ 256 ^ 7 := Nat.pow_le_pow_right (by omega) (by omega)
  have hq : 0 < 256 ^ (w - 1 - i) := Nat.pow_pos (by omega)
  have hd : n / 256 ^ (w - 1 - i) ≤ n := Nat.div_le_self _ _
  have e1 : Int.tmod (wrap64 (Int.tdiv (n : Int) ((256 ^ (w - 1 - i) : Nat) : Int))) 256 % 256 = numAt n w i := by
   rw [show (256 : Nat) ^ 7 = 72057594037927936 from by decide] at hp
   have : Int.tdiv (n : Int) ((256 ^ (w - 1 - i) : Nat) : Int) = ((n / 256 ^ (w - 1 - i) : Nat) : Int) := rfl
   rw [this]
   unfold numAt
   generalize n / 256 ^ (w - 1 - i) = q at *
   rw [wrap_s _ (by omega) (by omega)]
   show (((q % 256 : Nat) : Int)) % 256 = _
   omega
  rw [B.pyxref01_Num.l0, if_pos (by omega), e0, power_eq (w - 1 - i) k (by omega) (by omega), Option.bind_some, if_neg (by omega), if_pos (by rw [List.length_take, numB_length]; omega), e1, e2, numB_take_succ n w i (by omega)]
  exact ref_num_l0 n w hw hn d k (i + 1) (by omega) (by omega)
theorem ref_num_eq (n w : Int) (k : Nat) (hk : 20 < k) : B.pyxref01_Num.f k n w = some (numOf n w) := by
 obtain ⟨k, rfl⟩ : ∃ m, k = m + 1 := ⟨k - 1, by omega⟩
 have hbad : ∀ x1, B.pyxref01_Num.j0 (k + 1) n x1 true = some ([], 1) := fun x1 => by rw [B.pyxref01_Num.j0, if_pos rfl]
 unfold B.pyxref01_Num.f
 by_cases h1 : w < 1
 ·rw [if_pos h1, hbad, numOf_bad _ _ (fun h => by have := h.1; omega)]
 by_cases h2 : w > 7
 ·rw [if_neg h1, if_pos h2, hbad, numOf_bad _ _ (fun h => by have := h.2.1; omega)]
 by_cases h3 : n < 0
 ·rw [if_neg h1, if_neg h2, if_pos h3, hbad, numOf_bad _ _ (fun h => by have := h.2.2.1; omega)]
 obtain ⟨N, rfl⟩ := Int.eq_ofNat_of_zero_le (show 0 ≤ n by omega)
 obtain ⟨V, rfl⟩ := Int.eq_ofNat_of_zero_le (show 0 ≤ w by omega)
 rw [if_neg h1, if_neg h2, if_neg h3, power_eq V _ (by omega) (by omega), Option.bind_some]
 by_cases h4 : N < 256 ^ V
 rotate_left
 ·have h5 : ¬ numOk (N : Int) (V : Int) := by
   rintro ⟨-, -, -, h⟩
   rw [Int.toNat_natCast, ← pow256] at h
   exact h4 (Int.ofNat_lt.1 h)
  have h6 : decide ((N : Int) ≥ ((256 ^ V : Nat) : Int)) = true := by rw [decide_eq_true_eq]; omega
  rw [numOf_bad _ _ h5, h6, hbad]
 have h5 : (1 : Int) ≤ V ∧ (V : Int) ≤ 7 ∧ (0 : Int) ≤ N ∧ (N : Int) < 256 ^ (V : Int).toNat := by
  refine ⟨by omega, by omega, by omega, ?_⟩
  rw [Int.toNat_natCast, ← pow256]
  exact Int.ofNat_lt.2 h4
 have h6 : decide ((N : Int) ≥ ((256 ^ V : Nat) : Int)) = false := by rw [decide_eq_false_iff_not]; omega
 have e : wrap64 ((V : Int) - 1) = (V : Int) - 1 - ((0 : Nat) : Int) := by unfold wrap64; omega
 rw [numOf_small N V (by omega) (by omega) h4, h6, B.pyxref01_Num.j0, if_neg (by simp), e]
 exact ref_num_l0 N V (by omega) h4 V k 0 (by omega) (by omega)
theorem num_one (n : Nat) (h : n < 256) : numB n 1 = [(n : Int)] := by
 simp [numB, numAt, List.range_succ]
 omega
theorem num_two (n : Nat) : numB n 2 = [((n / 256 % 256 : Nat) : Int), ((n % 256 : Nat) : Int)] := by
 simp [numB, numAt, List.range_succ]
theorem numOk_of (n w : Nat) (h1 : 1 ≤ w) (h2 : w ≤ 7) (h : n < 256 ^ w) : numOf (n : Int) (w : Int) = (numB n w, 0) := numOf_small n w h1 h2 h
theorem ref_len_eq (n : Int) (k : Nat) (hk : 30 < k) : B.pyxref01_Len.f k n = some (lenOf n) := by
 obtain ⟨k, rfl⟩ : ∃ m, k = m + 1 := ⟨k - 1, by omega⟩
 have hbad : B.pyxref01_Len.j0 (k + 1) n true = some ([], 1) := by rw [B.pyxref01_Len.j0, if_pos rfl]
 unfold B.pyxref01_Len.f
 by_cases h1 : n < 0
 ·rw [if_pos h1, hbad]
  exact congrArg some (if_neg (by omega)).symm
 by_cases h2 : n > 1073741823
 ·rw [if_neg h1, show decide (n > 1073741823) = true by rw [decide_eq_true_eq]; exact h2, hbad]
  exact congrArg some (if_neg (by omega)).symm
 obtain ⟨N, rfl⟩ := Int.eq_ofNat_of_zero_le (show 0 ≤ n by omega)
 have hL : lenOf (N : Int) = (lenB N, 0) := if_pos (by omega)
 rw [hL, if_neg h1, show decide ((N : Int) > 1073741823) = false by rw [decide_eq_false_iff_not]; exact h2, B.pyxref01_Len.j0, if_neg (by simp)]
 unfold lenB
 by_cases h3 : N < 64
 ·rw [if_pos (by omega), if_pos h3, num_one N (by omega)]
  congr 3
  omega
 by_cases h4 : N < 16384
 rotate_left
 ·have e : wrap64 (2147483648 + (N : Int)) = ((N + 2147483648 : Nat) : Int) := by unfold wrap64; omega
  rw [if_neg (by omega), if_neg (by omega), if_neg h3, if_neg h4, e, ref_num_eq _ _ k (by omega), Option.bind_some, show (4 : Int) = ((4 : Nat) : Int) from rfl, numOk_of _ 4 (by omega) (by omega) (by omega)]
 rw [if_neg (by omega), if_pos (by omega), if_neg h3, if_pos h4, num_two]
 have e1 : wrap64 (64 + wrap64 (Int.tdiv (N : Int) 256)) % 256 = (((N + 16384) / 256 % 256 : Nat) : Int) := by
  have : Int.tdiv (N : Int) 256 = ((N / 256 : Nat) : Int) := rfl
  rw [this]
  unfold wrap64
  omega
 have e2 : Int.tmod (N : Int) 256 % 256 = (((N + 16384) % 256 : Nat) : Int) := by
  have : Int.tmod (N : Int) 256 = ((N % 256 : Nat) : Int) := rfl
  rw [this]
  omega
 rw [e1, e2]
theorem or_pow (n a s : Nat) (h : n < 2 ^ s) : n ||| a * 2 ^ s = n + a * 2 ^ s := by
 rw [Nat.or_comm, Nat.mul_comm, ← Nat.two_pow_add_eq_or_of_lt h]
 omega
theorem i64_or (a b : Nat) (ha : a < 9223372036854775808) (hb : b < 9223372036854775808) : Go.bits .or .i64 (a : Int) (b : Int) = ((a ||| b : Nat) : Int) := by
 have hx : a ||| b < 2 ^ 63 := Nat.or_lt_two_pow (by omega) (by omega)
 have ho : ∀ q : Nat, q < 9223372036854775808 → (BitVec.ofInt 64 (q : Int)).toNat = q := fun q hq => by
  rw [BitVec.ofInt_natCast, BitVec.toNat_ofNat]; exact Nat.mod_eq_of_lt (by omega)
 show IntKind.i64.wrap ((BitVec.ofInt 64 (a : Int) ||| BitVec.ofInt 64 (b : Int)).toNat : Int) = _
 rw [BitVec.toNat_or, ho a ha, ho b hb]
 generalize a ||| b = q at *
 simp [IntKind.wrap, IntKind.bits, IntKind.signed]
 omega
theorem byt_len_eq (n : Int) (k : Nat) (hk : 30 < k) : B.byt_Len.f k n = some (lenOf n) := by
 obtain ⟨k, rfl⟩ : ∃ m, k = m + 1 := ⟨k - 1, by omega⟩
 have hbad : B.byt_Len.j0 (k + 1) n true = some ([], 1) := by rw [B.byt_Len.j0, if_pos rfl]
 unfold B.byt_Len.f
 by_cases h1 : n < 0
 ·rw [if_pos h1, hbad]
  exact congrArg some (if_neg (by omega)).symm
 by_cases h2 : n > 1073741823
 ·rw [if_neg h1, show decide (n > 1073741823) = true by rw [decide_eq_true_eq]; exact h2, hbad]
  exact congrArg some (if_neg (by omega)).symm
 obtain ⟨N, rfl⟩ := Int.eq_ofNat_of_zero_le (show 0 ≤ n by omega)
 have hL : lenOf (N : Int) = (lenB N, 0) := if_pos (by omega)
 rw [hL, if_neg h1, show decide ((N : Int) > 1073741823) = false by rw [decide_eq_false_iff_not]; exact h2, B.byt_Len.j0, if_neg (by simp)]
 unfold lenB B.byt_wide.f
 by_cases h3 : N < 64
 ·have e : Go.bits .or .i64 (N : Int) (shl .i64 0 (wrap64 (wrap64 (8 * 1) - 2))) = ((N : Nat) : Int) := by
   rw [show shl .i64 0 (wrap64 (wrap64 (8 * 1) - 2)) = ((0 : Nat) : Int) from by decide +kernel, i64_or _ _ (by omega) (by omega), Nat.or_zero]
  rw [if_pos (by omega), if_pos h3, Option.bind_some, if_pos (by decide +kernel)]
  dsimp only
  rw [e, byt_num_eq _ _ k (by omega), Option.bind_some, show (1 : Int) = ((1 : Nat) : Int) from rfl, numOk_of _ 1 (by omega) (by omega) (by omega)]
 by_cases h4 : N < 16384
 ·have e : Go.bits .or .i64 (N : Int) (shl .i64 1 (wrap64 (wrap64 (8 * 2) - 2))) = ((N + 16384 : Nat) : Int) := by
   rw [show shl .i64 1 (wrap64 (wrap64 (8 * 2) - 2)) = ((1 * 2 ^ 14 : Nat) : Int) from by decide +kernel, i64_or _ _ (by omega) (by omega), or_pow N 1 14 (by omega)]
  rw [if_neg (by omega), if_pos (by omega), if_neg h3, if_pos h4, Option.bind_some, if_pos (by decide +kernel)]
  dsimp only
  rw [e, byt_num_eq _ _ k (by omega), Option.bind_some, show (2 : Int) = ((2 : Nat) : Int) from rfl, numOk_of _ 2 (by omega) (by omega) (by omega)]
 have e : Go.bits .or .i64 (N : Int) (shl .i64 2 (wrap64 (wrap64 (8 * 4) - 2))) = ((N + 2147483648 : Nat) : Int) := by
  rw [show shl .i64 2 (wrap64 (wrap64 (8 * 4) - 2)) = ((2 * 2 ^ 30 : Nat) : Int) from by decide +kernel, i64_or _ _ (by omega) (by omega), or_pow N 2 30 (by omega)]
 rw [if_neg (by omega), if_neg (by omega), if_neg h3, if_neg h4, Option.bind_some, if_pos (by decide +kernel)]
 dsimp only
 rw [e, byt_num_eq _ _ k (by omega), Option.bind_some, show (4 : Int) = ((4 : Nat) : Int) from rfl, numOk_of _ 4 (by omega) (by omega) (by omega)]
theorem lenOf_row (l : List Int) : lenOf (l.length : Int) = if l.length ≤ 1073741823 then (lenB l.length, 0) else ([], 1) := by
 unfold lenOf
 by_cases h : l.length ≤ 1073741823
 ·rw [if_pos (by omega), if_pos h, Int.toNat_natCast]
 ·rw [if_neg (by omega), if_neg h]
theorem byt_row_eq (l : List Int) (k : Nat) (hk : 30 < k) : B.byt_Row.f k l = some (rowOf l) := by
 have hl := lenB_length l.length
 unfold B.byt_Row.f rowOf
 rw [byt_len_eq _ k hk, Option.bind_some, lenOf_row]
 by_cases h : l.length ≤ 1073741823
 ·rw [if_pos h, if_pos h, if_pos rfl, if_pos (by dsimp only; omega)]
  rfl
 ·rw [if_neg h, if_neg h, if_neg (by simp)]
theorem ref_row_eq (l : List Int) (k : Nat) (hk : 30 < k) : B.pyxref01_Row.f k l = some (rowOf l) := by
 have hl := lenB_length l.length
 unfold B.pyxref01_Row.f rowOf
 rw [ref_len_eq _ k hk, Option.bind_some, lenOf_row]
 by_cases h : l.length ≤ 1073741823
 ·rw [if_pos h, if_pos h, if_pos rfl, if_pos (by dsimp only; omega)]
  rfl
 ·rw [if_neg h, if_neg h, if_neg (by simp)]
namespace P
def byt_Num.f (n w : Int) : Option (List Int × Int) := some (numOf n w)
theorem byt_Num.calls (a0 : Int) (a1 : Int) (r1 : List Int) (r2 : Int) (w : World) (h : byt_Num.f a0 a1 = some (r1, r2)) :
  Calls Tryd.prog 56 #[.int .i64 a0, .int .i64 a1] w fun e w' => ∃ v0_ : Value, e = .returned (.tuple #[v0_, .int .i64 r2]) ∧ Kd.R (Kd.int .u8) 5 w' w.heap.size (fun _ => True) v0_ r1 ∧ Below w.heap.size w w' :=
 B.byt_Num.calls 40 a0 a1 r1 r2 w (by rw [byt_num_eq _ _ 40 (by omega)]; exact h)
def pyxref01_Num.f (n w : Int) : Option (List Int × Int) := some (numOf n w)
theorem pyxref01_Num.calls (a0 : Int) (a1 : Int) (r1 : List Int) (r2 : Int) (w : World) (h : pyxref01_Num.f a0 a1 = some (r1, r2)) :
  Calls Tryd.prog 42 #[.int .i64 a0, .int .i64 a1] w fun e w' => ∃ v0_ : Value, e = .returned (.tuple #[v0_, .int .i64 r2]) ∧ Kd.R (Kd.int .u8) 5 w' w.heap.size (fun _ => True) v0_ r1 ∧ Below w.heap.size w w' :=
 B.pyxref01_Num.calls 40 a0 a1 r1 r2 w (by rw [ref_num_eq _ _ 40 (by omega)]; exact h)
def byt_Row.f (l0 : List Int) : Option (List Int × Int) := some (rowOf l0)
theorem byt_Row.calls (A0 : Option Addr) (c0 : Nat) (l0 : List Int) (r1 : List Int) (r2 : Int) (w : World) (hr0 : Kd.C (Kd.int .u8) w A0 l0.length l0) (hc0 : l0.length ≤ c0) (h : byt_Row.f l0 = some (r1, r2)) :
  Calls Tryd.prog 57 #[.slice A0 l0.length c0] w fun e w' => ∃ v0_ : Value, e = .returned (.tuple #[v0_, .int .i64 r2]) ∧ Kd.R (Kd.int .u8) 5 w' w.heap.size (fun _ => True) v0_ r1 ∧ Below w.heap.size w w' :=
 B.byt_Row.calls 40 A0 c0 l0 r1 r2 w hr0 hc0 (by rw [byt_row_eq _ 40 (by omega)]; exact h)
def pyxref01_Row.f (l0 : List Int) : Option (List Int × Int) := some (rowOf l0)
theorem pyxref01_Row.calls (A0 : Option Addr) (c0 : Nat) (l0 : List Int) (r1 : List Int) (r2 : Int) (w : World) (hr0 : Kd.C (Kd.int .u8) w A0 l0.length l0) (hc0 : l0.length ≤ c0) (h : pyxref01_Row.f l0 = some (r1, r2)) :
  Calls Tryd.prog 43 #[.slice A0 l0.length c0] w fun e w' => ∃ v0_ : Value, e = .returned (.tuple #[v0_, .int .i64 r2]) ∧ Kd.R (Kd.int .u8) 5 w' w.heap.size (fun _ => True) v0_ r1 ∧ Below w.heap.size w w' :=
 B.pyxref01_Row.calls 40 A0 c0 l0 r1 r2 w hr0 hc0 (by rw [ref_row_eq _ 40 (by omega)]; exact h)
end P
end Go.Proofs.YtdklmafkcbjomaaDoor

/-! KdfLabel -/
namespace Go.Proofs.YtdklmafkcbjomaaDoor
set_option linter.unusedVariables false
set_option linter.unusedSimpArgs false
open Go.RowKit Go.Proofs.YtdklmafkcbjomaaDoorW.PrintWords Go.Proofs.YtdklmafkcbjomaaDoorW.PrintLast Go.Proofs.YtdklmafkcbjomaaDoorW.PrintMore Iter
/-- 'MLS 1.0 '. -/
def mls : List Int := [77, 76, 83, 32, 49, 46, 48, 32]
def mlsS : ByteArray := ⟨#[77, 76, 83, 32, 49, 46, 48, 32]⟩
theorem byteOk_bytesOf (s : ByteArray) : byteOk (bytesOf s) = true := by
 rw [byteOk_iff]
 intro x hx
 obtain ⟨c, _, rfl⟩ := List.mem_map.1 hx
 have := c.toNat_lt
 omega
theorem bytesOf_append (s t : ByteArray) : bytesOf (s ++ t) = bytesOf s ++ bytesOf t := by
 unfold bytesOf
 simp [ByteArray.data_append]
theorem mls_bytes : bytesOf mlsS = mls := by decide +kernel
/-- What Label expands. -/
def labelRow (label : ByteArray) (context : List Int) (n : Nat) : List Int := numB n 2 ++ rowB (mls ++ bytesOf label) ++ rowB context
def labelOf (secret : List Int) (label : ByteArray) (context : List Int) (n : Nat) : List Int := expandOf secret (labelRow label context n) n
theorem byteOk_mls (s : ByteArray) : byteOk (mls ++ bytesOf s) = true := (byteOk_append _ _).2 ⟨by decide, byteOk_bytesOf s⟩
theorem byteOk_labelRow (label : ByteArray) (context : List Int) (n : Nat) (h : byteOk context = true) : byteOk (labelRow label context n) = true := by
 unfold labelRow
 rw [byteOk_append, byteOk_append]
 exact ⟨⟨byteOk_numB _ _, byteOk_rowB _ (byteOk_mls label)⟩, byteOk_rowB _ h⟩
theorem labelRow_length (label : ByteArray) (context : List Int) (n : Nat) : (labelRow label context n).length ≤ label.size + context.length + 18 := by
 have h1 := rowB_length (mls ++ bytesOf label)
 have h2 := rowB_length context
 have h3 := numB_length n 2
 have h4 : (mls ++ bytesOf label).length = label.size + 8 := by rw [List.length_append, bytesOf_length]; exact Nat.add_comm _ _
 unfold labelRow
 rw [List.length_append, List.length_append]
 omega
/-- Rows, one behind the other, each with its length ahead. -/
def infoTo (b : List Int) (R : Nat → List Int) : Nat → List Int
 | 0 => b
 | k + 1 => infoTo b R k ++ rowB (R k)
theorem infoTo_two (n : Nat) (t l : List Int) : infoTo (numB n 2) (fun k => if k = 0 then t else l) 2 = numB n 2 ++ rowB t ++ rowB l := rfl
/-- A conversion of a string to bytes. -/
theorem bytes_C (W : World) (s : ByteArray) (hs : s.size ≤ 9223372036854775807) : Kd.C (Kd.int .u8) (Lib.bytesWorld W 5 s) (some ⟨W.heap.size, 0, none⟩) (bytesOf s).length (bytesOf s) := by
 have h := bytes_reads W 5 s hs
 rw [bytesOf_length]
 exact Kd.C_of_reads (enc := Value.int .u8) (d := (0 : Int)) (h1 := fun _ => rfl) h
namespace P
def kdf_Label.f (secret : List Int) (label : ByteArray) (context : List Int) (n : Int) : Option (List Int × Int) :=
 if n < 0 then some ([], 1) else if 8160 < n then some ([], 1) else if byteOk secret = true ∧ byteOk context = true ∧ secret.length ≤ 900000 ∧ label.size ≤ 100000 ∧ context.length ≤ 100000 then some (labelOf secret label context n.toNat, 0) else none
set_option maxRecDepth 100000 in
set_option maxHeartbeats 2000000 in
theorem kdf_Label.calls (A0 : Option Addr) (c0 : Nat) (l0 : List Int) (a1 : ByteArray) (A2 : Option Addr) (c2 : Nat) (l2 : List Int) (a3 : Int) (r1 : List Int) (r2 : Int) (w : World) (hr0 : Kd.C (Kd.int .u8) w A0 l0.length l0) (hc0 : l0.length ≤ c0) (hr2 : Kd.C (Kd.int .u8) w A2 l2.length l2) (hc2 : l2.length ≤ c2) (h : kdf_Label.f l0 a1 l2 a3 = some (r1, r2)) :
  Calls Tryd.prog 47 #[.slice A0 l0.length c0, .string a1, .slice A2 l2.length c2, .int .i64 a3] w fun e w' => ∃ v0_ : Value, e = .returned (.tuple #[v0_, .int .i64 r2]) ∧ Kd.R (Kd.int .u8) 5 w' w.heap.size (fun _ => True) v0_ r1 ∧ Below w.heap.size w w' := by
 unfold kdf_Label.f at h
 by_cases h0 : a3 < 0
 ·rw [if_pos h0] at h
  injection h with h
  injection h with h1 h2
  subst h1 h2
  have d0 : decide (a3 < 0) = true := by simp [h0]
  go_enter Tryd.func47, Tryd.ntmps47
  go_wp2
  go_ret2
  exact ⟨_, rfl, Kd.R_nil _ _ _ _ _, Below.refl _ _⟩
 rw [if_neg h0] at h
 have d0 : decide (a3 < 0) = false := by simp; omega
 by_cases h1 : 8160 < a3
 ·rw [if_pos h1] at h
  injection h with h
  injection h with h1' h2
  subst h1' h2
  have d1 : decide (8160 < a3) = true := by simp [h1]
  go_enter Tryd.func47, Tryd.ntmps47
  go_wp2
  go_ret2
  exact ⟨_, rfl, Kd.R_nil _ _ _ _ _, Below.refl _ _⟩
 rw [if_neg h1] at h
 have d1 : decide (8160 < a3) = false := by simp; omega
 split at h
 case isFalse => cases h
 case isTrue hok =>
 injection h with h
 injection h with h1' h2
 subst h1' h2
 obtain ⟨n, rfl⟩ := Int.eq_ofNat_of_zero_le (show 0 ≤ a3 by omega)
 rw [Int.toNat_natCast]
 obtain ⟨o1, o2, o3, o4, o5⟩ := hok
 obtain ⟨t, ht⟩ : ∃ t : ByteArray, t = mlsS ++ a1 := ⟨_, rfl⟩
 have htb : bytesOf t = mls ++ bytesOf a1 := by rw [ht, bytesOf_append, mls_bytes]
 have htl : (bytesOf t).length = a1.size + 8 := by rw [htb, List.length_append, bytesOf_length]; exact Nat.add_comm _ _
 have hts : t.size = a1.size + 8 := by rw [← bytesOf_length, htl]
 have hrow1 := rowOf_small (bytesOf t) (by omega)
 have hrow2 := rowOf_small l2 (by omega)
 have hnum : P.byt_Num.f (n : Int) 2 = some (numB n 2, 0) := by
  unfold P.byt_Num.f
  exact congrArg some (numOf_small n 2 (by omega) (by omega) (by omega))
 have hl1 : (numB n 2).length = 2 := numB_length _ _
 have kb : ∀ W : World, (convert 9 22 (.string ({ data := #[77, 76, 83, 32, 49, 46, 48, 32] } ++ a1))).run Tryd.prog W = .ok (.slice (some ⟨W.heap.size, 0, none⟩) t.size (grownCap W t.size 0 5)) (Lib.bytesWorld W 5 t) := fun W => by
  rw [ht]
  exact print_bytes (P := Tryd.prog) 9 22 5 Tryd.underlying9 Tryd.underlying22 Tryd.underlying5 (mlsS ++ a1) W
 have hexp : P.kdf_Expand.f l0 (labelRow a1 l2 n) (n : Int) = some (labelOf l0 a1 l2 n, 0) := by
  have b1 := byteOk_labelRow a1 l2 n o2
  have b2 := labelRow_length a1 l2 n
  unfold P.kdf_Expand.f
  rw [if_neg (by omega), if_neg (by omega), if_pos ⟨o1, b1, o3, by omega⟩]
  rfl
 have HLR := Lib.hid (And.intro hexp (And.intro trivial (rfl : (labelRow a1 l2 n).length = (labelRow a1 l2 n).length)))
 clear hexp
 have HN := Lib.hid hnum
 have H1 := Lib.hid (And.intro hrow1 (And.intro hrow2 (And.intro ht (And.intro htb (And.intro htl hts)))))
 have KB := Lib.hid kb
 have Hr := Lib.hid (And.intro hr0 hr2)
 clear hnum hrow1 hrow2 ht htb htl hts kb hr0 hr2 o1 o2
 go_enter Tryd.func47, Tryd.ntmps47
 go_wp2_with fail
 refine (P.byt_Num.calls (n : Int) 2 (numB n 2) 0 _ HN.out).mono ?_
 rintro e W1 ⟨v1, rfl, hR1, hb1⟩
 have hkb := KB.out W1
 have hcp := grownCap_ge W1 t.size 0 5
 have hC2 := bytes_C W1 t (by have := H1.out.2.2.2.2.2; omega)
 have hb2 := bytes_below hb1 hb1.size 5 t
 have hs2 := Lib.bytesWorld_size W1 5 t
 have hR2 : Kd.R (Kd.int .u8) 5 (Lib.bytesWorld W1 5 t) w.heap.size (fun b => b < W1.heap.size) v1 (numB n 2) :=
  Kd.R_mono (Kd.R_move (Kd.R_bound hR1) (fun k hk => Lib.bytesWorld_at_old W1 5 t k hk.2.2.1)) (fun k hk => hk.2.2.1)
 rw [H1.out.2.2.2.2.1] at hC2
 rw [H1.out.2.2.2.2.2] at hkb hcp
 generalize grownCap W1 (a1.size + 8) 0 5 = cp at *
 generalize Lib.bytesWorld W1 5 t = W2 at *
 have HS2 := Lib.hid hs2
 clear hs2 hb1 hR1
 have hlen := H1.out.2.2.2.2.1
 have hbt : byteOk (bytesOf t) = true := byteOk_bytesOf t
 obtain ⟨W3, hW3⟩ : ∃ W3, W2.alloc (Obj.cells #[Value.slice (some ⟨W1.heap.size, 0, none⟩) (a1.size + 8) cp, Value.slice A2 l2.length c2] 22) = W3 := ⟨_, rfl⟩
 have hs3 : W3.heap.size = W2.heap.size + 1 := by rw [← hW3]; simp
 have hb3 : Below w.heap.size w W3 := by rw [← hW3]; exact hb2.alloc hb2.size _
 have hC3 : Kd.C (Kd.int .u8) W3 (some ⟨W1.heap.size, 0, none⟩) (a1.size + 8) (bytesOf t) := by rw [← hW3]; exact Kd.C_alloc hC2 _
 have hB3 : Blk W3 W2.heap.size 22 #[Value.slice (some ⟨W1.heap.size, 0, none⟩) (a1.size + 8) cp, Value.slice A2 l2.length c2] := by rw [← hW3]; exact Blk.new _ _ _
 have hR3 : Kd.R (Kd.int .u8) 5 W3 w.heap.size (fun b => b ≠ W1.heap.size ∧ b ≠ W2.heap.size) v1 (infoTo (numB n 2) (fun k => if k = 0 then bytesOf t else l2) 0) := by
  rw [← hW3]
  exact Kd.R_alloc (Kd.R_mono hR2 (fun b hb => by have := HS2.out; omega)) _
 have H3 := Lib.hid (And.intro hb3 (And.intro hC3 (And.intro hB3 (And.intro hs3 hlen))))
 have HR3 := Lib.hid hR3
 have HW3 := Lib.hid hW3
 clear hW3 hs3 hb3 hC3 hB3 hR3 hC2 hb2 hR2 hlen
 go_wp2_with fail
 rw [HW3.out]
 clear HW3
 go_loopw [10, 33] (fun v i wr => ∃ k : Nat, k ≤ 2 ∧ i = .int .i64 (k : Int) ∧ Aside0 (Kd.R (Kd.int .u8) 5 wr w.heap.size (fun b => b ≠ W1.heap.size ∧ b ≠ W2.heap.size) v (infoTo (numB n 2) (fun k => if k = 0 then bytesOf t else l2) k)) ∧ Aside0 (wr.heap[W1.heap.size]? = W3.heap[W1.heap.size]?) ∧ Aside0 (wr.heap[W2.heap.size]? = W3.heap[W2.heap.size]?) ∧ Below w.heap.size w wr ∧ W3.heap.size ≤ wr.heap.size) (fun _ i _ => 2 - (intOf i).toNat)
 case atStart => exact ⟨0, by omega, rfl, ⟨HR3.out⟩, ⟨rfl⟩, ⟨rfl⟩, H3.out.1, Nat.le_refl _⟩
 clear HR3
 obtain ⟨k, hk, rfl, hv, hg1, hg2, hb, hsz⟩ := hrel
 by_cases hlt : k < 2
 rotate_left
 ·obtain rfl : k = 2 := by omega
  have hv2 : Kd.R (Kd.int .u8) 5 wr w.heap.size (fun b => b ≠ W1.heap.size ∧ b ≠ W2.heap.size) u10 (labelRow a1 l2 n) := by
   have := hv.out
   rw [infoTo_two, H1.out.2.2.2.1] at this
   exact this
  obtain ⟨A5, c5, rfl, hl5, hC5⟩ := Kd.R_reads hv2
  have HB2 := Lib.hid (And.intro hb (Kd.C_below Hr.out.1 hb))
  have HC5 := Lib.hid (And.intro hC5 hl5)
  clear hv hg1 hg2 hv2 hb hC5 hl5
  go_wp2_with fail
  refine (P.kdf_Expand.calls A0 c0 l0 A5 c5 (labelRow a1 l2 n) (n : Int) (labelOf l0 a1 l2 n) 0 _ HB2.out.2 hc0 HC5.out.1 HC5.out.2 HLR.out.1).mono ?_
  rintro e W7 ⟨v7, rfl, hR7, hb7⟩
  go_wp2
  go_ret2
  exact ⟨_, rfl, Kd.R_lower hR7 HB2.out.1.size, HB2.out.1.trans (hb7.mono HB2.out.1.size)⟩
 obtain ⟨x, hx⟩ : ∃ x, (fun k => if k = 0 then bytesOf t else l2) k = x := ⟨_, rfl⟩
 have hrow : ∃ A c, wr.cell? ⟨W2.heap.size, k, none⟩ = some (.slice A x.length c) ∧ x.length ≤ c ∧ Kd.C (Kd.int .u8) wr A x.length x ∧ P.byt_Row.f x = some (rowB x, 0) ∧ x.length ≤ 100008 := by
  have hB := H3.out.2.2.1
  have hcell : ∀ j, wr.cell? ⟨W2.heap.size, j, none⟩ = W3.cell? ⟨W2.heap.size, j, none⟩ := fun j => World.cell?_of_block hg2.out
  rw [hcell, hB.cell]
  rcases k with _ | k
  ·have hx : bytesOf t = x := hx
   subst hx
   rw [H3.out.2.2.2.2]
   exact ⟨_, _, rfl, hcp, C_same H3.out.2.1 hg1.out, congrArg some H1.out.1, by omega⟩
  ·have hk0 : k = 0 := by omega
   subst hk0
   have hx : l2 = x := hx
   subst hx
   exact ⟨_, _, rfl, hc2, Kd.C_below Hr.out.2 hb, congrArg some H1.out.2.1, by omega⟩
 obtain ⟨A, c, hcell, hxc, hxC, hxR, hxl⟩ := hrow
 have hnext : infoTo (numB n 2) (fun k => if k = 0 then bytesOf t else l2) (k + 1) = infoTo (numB n 2) (fun k => if k = 0 then bytesOf t else l2) k ++ rowB x := by rw [← hx, infoTo]
 have hilen : (infoTo (numB n 2) (fun k => if k = 0 then bytesOf t else l2) k).length ≤ 200100 := by
  have h1 := rowB_length (bytesOf t)
  have h3 := H3.out.2.2.2.2
  have h4 := numB_length n 2
  rcases k with _ | k
  ·show (numB n 2).length ≤ _
   omega
  ·have hk0 : k = 0 := by omega
   subst hk0
   show (numB n 2 ++ rowB (bytesOf t)).length ≤ _
   rw [List.length_append]
   omega
 have HX := Lib.hid (And.intro hxC (And.intro hxR hnext))
 clear hx hxC hxR hnext
 have HW := Lib.hid (And.intro hv.out (And.intro hg1.out hg2.out))
 clear hv hg1 hg2
 generalize infoTo (numB n 2) (fun k => if k = 0 then bytesOf t else l2) k = y at *
 have hrl := rowB_length x
 have i1 : (k : Int) < 2 := by omega
 go_wp2_with fail
 refine (P.byt_Row.calls A c x (rowB x) 0 _ HX.out.1 hxc HX.out.2.1).mono ?_
 rintro e W5 ⟨v5, rfl, hR5, hb5⟩
 have hv5 := Kd.R_below HW.out.1 hb5
 have hbw5 := hb.trans (hb5.mono hb.size)
 have hg15 := (hb5.block W1.heap.size (by have := HS2.out; have := H3.out.2.2.2.1; omega)).trans HW.out.2.1
 have hg25 := (hb5.block W2.heap.size (by have := H3.out.2.2.2.1; omega)).trans HW.out.2.2
 obtain ⟨A5, c5, rfl, hl5, hC5⟩ := Kd.R_reads hR5
 have H5 := Lib.hid (And.intro hv5 (And.intro hbw5 (And.intro hg15 hg25)))
 have hs5 := hb5.size
 clear hv5 hbw5 hg15 hg25 hR5 hb5 HW
 have HS3 := H3.out.2.2.2.1
 have HS3 := Lib.hid HS3
 go_wp2_with ((with_reducible refine gate_builtin (b := .append) (xs := #[.tmp 45, .tmp 46]) rfl ?_); at_builtin; refine Kd.R_append_rows (Kd.int .u8) (w0 := w) w.heap.size rfl (.tmp 45) (.tmp 46) 22 5 (.int .u8 0) 1 rfl Tryd.underlying22 B.info5 rfl (by decide) (by omega) _ y (rowB x) _ _ _ (fun b => b ≠ W1.heap.size ∧ b ≠ W2.heap.size) (fun _ => False) rfl rfl H5.out.1 hC5 (fun _ _ h => h) (fun _ h => h.elim) (by intro b hb; have := HS2.out; have := HS3.out; omega) H5.out.2.1 H5.out.2.1.size (by omega) ?_; intro v6 W6 hv6 hb6 hgr6 hat6)
 have hne := H5.out.1.1
 have e1 : W6.heap[W1.heap.size]? = W3.heap[W1.heap.size]? := (hgr6.block _ (by have := HS2.out; have := HS3.out; omega) (fun e => (hne _ e.symm).1 rfl)).trans H5.out.2.2.1
 have e2 : W6.heap[W2.heap.size]? = W3.heap[W2.heap.size]? := (hgr6.block _ (by have := HS3.out; omega) (fun e => (hne _ e.symm).2 rfl)).trans H5.out.2.2.2
 have hs6 := hgr6.size
 have HE := Lib.hid (And.intro e1 e2)
 clear e1 e2 hgr6 hat6 hne
 go_wp2_with fail
 go_roundw
 case rel => exact ⟨k + 1, by omega, by go_num, ⟨by rw [HX.out.2.2]; exact hv6⟩, ⟨HE.out.1⟩, ⟨HE.out.2⟩, hb6, by omega⟩
 case measure => simp [intOf]; omega
end P
end Go.Proofs.YtdklmafkcbjomaaDoor

/-! Q0 -/
namespace Go.Proofs.YtdklmafkcbjomaaDoor.Q
open Go.Proofs.YtdklmafkcbjomaaDoor.P
open Go.RowKit Go.Proofs.YtdklmafkcbjomaaDoorW.PrintWords Go.Proofs.YtdklmafkcbjomaaDoorW.PrintLast Go.Proofs.YtdklmafkcbjomaaDoorW.PrintMore
attribute [local go_sem] max2_int min2_int max_two min_two max_three min_three max_four min_four   -- for this text's walks alone
set_option linter.unusedVariables false
set_option linter.unusedSimpArgs false
def errW : Option Int → Value
 | none => .nilIface
 | some c => .iface 0 (.int .i64 c)
theorem errW_none : errW none = .nilIface := rfl
theorem errW_some (c : Int) : errW (some c) = .iface 0 (.int .i64 c) := rfl
theorem info5 : (Tryd.prog.info? 5).map (fun i => (i.zero, i.size, i.bytes)) = some (some (.int .u8 0), 1, 1) := by kernel_rfl
-- the values' own types
end Go.Proofs.YtdklmafkcbjomaaDoor.Q

/-! Q1 -/
namespace Go.Proofs.YtdklmafkcbjomaaDoor.Q
open Go.Proofs.YtdklmafkcbjomaaDoor.P
open Go.RowKit Go.Proofs.YtdklmafkcbjomaaDoorW.PrintWords Go.Proofs.YtdklmafkcbjomaaDoorW.PrintLast Go.Proofs.YtdklmafkcbjomaaDoorW.PrintMore
attribute [local go_sem] max2_int min2_int max_two min_two max_three min_three max_four min_four   -- for this text's walks alone
set_option linter.unusedVariables false
set_option linter.unusedSimpArgs false
-- NOT PRINTED: function 73 (pyxref02_Pad)
-- NOT PRINTED: function 74 (pyxref02_keys)
-- NOT PRINTED: function 75 (pyxref02_Start)
-- NOT PRINTED: function 82 (pyxref02_word)
-- NOT PRINTED: function 83 (pyxref02_turn)
-- NOT PRINTED: function 76 (pyxref02_step)
-- NOT PRINTED: function 64 (pyxref02_Sum)
-- NOT PRINTED: function 63 (pyxref03_Key)
-- NOT PRINTED: function 65 (pyxref03_with)
/-! ### pyxref04_Expand: function 44 -/
mutual
def pyxref04_Expand.j0 : Nat → List Int → List Int → Int → Bool → Option (List Int × Int)
 | 0, _, _, _, _ => none
 | k + 1, x0, x1, x2, x17 => if x17 = true then (some (([] : List Int), 1)) else (pyxref04_Expand.l0 k x0 x1 x2 ([] : List Int) ([] : List Int) 1)
def pyxref04_Expand.l0 : Nat → List Int → List Int → Int → List Int → List Int → Int → Option (List Int × Int)
 | 0, _, _, _, _, _, _ => none
 | k + 1, x0, x1, x2, x8, x9, x10 => if (x8.length : Int) < x2 then ((some (([] : List Int) : List Int)).bind fun y101 => (if y101.length + x9.length < 140737488355328 then ((some (y101 ++ x9 : List Int)).bind fun y104 => (if y104.length + x1.length < 140737488355328 then ((some (y104 ++ x1 : List Int)).bind fun y107 => (if y107.length < 140737488355328 then ((pyxref03_Sum.f x0 (y107 ++ [(x10) % 256])).bind fun t113 => (if x8.length + t113.length < 140737488355328 then (pyxref04_Expand.l0 k x0 x1 x2 (x8 ++ t113) t113 (wrap64 (x10 + 1))) else (none))) else (none))) else (none))) else (none))) else (if 0 ≤ x2 then (if x2 ≤ (x8.length : Int) then (some ((x8.take (x2 : Int).toNat), 0)) else (none)) else (none))
end
def pyxref04_Expand.f (k : Nat) (l0 : List Int) (l1 : List Int) (a2 : Int) : Option (List Int × Int) := if a2 < 0 then (pyxref04_Expand.j0 k l0 l1 a2 true) else (pyxref04_Expand.j0 k l0 l1 a2 (decide (a2 > 8160)))
set_option maxHeartbeats 8000000 in
set_option maxRecDepth 100000 in
theorem pyxref04_Expand.calls (k : Nat) (A0 : Option Addr) (c0 : Nat) (l0 : List Int) (A1 : Option Addr) (c1 : Nat) (l1 : List Int) (a2 : Int) (r1 : List Int) (r2 : Int) (w : World) (hr0 : Kd.C (Kd.int .u8) w A0 l0.length l0) (hc0 : l0.length ≤ c0) (hr1 : Kd.C (Kd.int .u8) w A1 l1.length l1) (hc1 : l1.length ≤ c1) (h : pyxref04_Expand.f k l0 l1 a2 = some (r1, r2)) :
  Calls Tryd.prog 44 #[.slice A0 l0.length c0, .slice A1 l1.length c1, .int .i64 a2] w fun e w' => ∃ v0_ : Value, e = .returned (.tuple #[v0_, .int .i64 r2]) ∧ Kd.R (Kd.int .u8) 5 w' w.heap.size (fun _ => True) v0_ r1 ∧ Below w.heap.size w w' := by
 have HR0 := Aside0.mk hr0
 have HC0 := Aside0.mk hc0
 clear hr0 hc0
 have HR1 := Aside0.mk hr1
 have HC1 := Aside0.mk hc1
 clear hr1 hc1
 have HB := Aside0.mk (Below.refl w.heap.size w)
 have H : (if a2 < 0 then (pyxref04_Expand.j0 k l0 l1 a2 true) else (pyxref04_Expand.j0 k l0 l1 a2 (decide (a2 > 8160)))) = some (r1, r2) := h
 clear h
 have HC4 := Aside0.mk H
 clear H
 go_enter Tryd.func44, Tryd.ntmps44
 go_upto_region 1 with (fail)
 go_cut [17] (fun v17 wc => ∃ (kq : Nat) (x17_3 : Bool), v17 = .bool x17_3 ∧ Aside0 (pyxref04_Expand.j0 kq l0 l1 a2 x17_3 = some (r1, r2)) ∧ Aside0 (kq ≤ k) ∧ Aside0 (Below w.heap.size w wc))
 case first =>
  have H := HC4.out
  clear HC4
  by_cases c5 : a2 < 0
  ·rw [if_pos c5] at H
   have c5b0 : decide (a2 < 0) = true := decide_eq_true c5
   clear c5
   (first | rw [c5b0] | (simp only [i64_w, i32_w]; rw [c5b0]) | skip)
   have H' := Aside0.mk H
   clear H
   go_wp2
   go_meet
   case rel => exact ⟨_, (true), (by first | rfl | (simp; done) | (simp [*]; done)), H', ⟨by first | omega | exact Nat.le_refl _⟩, ⟨by repeat (first | (with_reducible first | exact HB.out | apply below_alloc | apply pw_below_drewN | apply below_drew1) | exact HB.out)⟩⟩
  rw [if_neg c5] at H
  have c5b0 : decide (a2 < 0) = false := decide_eq_false c5
  clear c5
  (first | rw [c5b0] | (simp only [i64_w, i32_w]; rw [c5b0]) | skip)
  have H' := Aside0.mk H
  clear H
  go_wp2
  go_meet
  case rel => exact ⟨_, (decide (a2 > 8160)), (by first | rfl | (simp; done) | (simp [*]; done)), H', ⟨by first | omega | exact Nat.le_refl _⟩, ⟨by repeat (first | (with_reducible first | exact HB.out | apply below_alloc | apply pw_below_drewN | apply below_drew1) | exact HB.out)⟩⟩
 clear HC4
 try clear c1
 try clear p2
 try clear c4
 try clear c5
 try clear c5b0
 obtain ⟨kq, x17_3, rfl, HA, HJ3, HB⟩ := hcut
 cases kq with
 | zero => exact absurd HA.out (by simp [pyxref04_Expand.j0])
 | succ kj3 =>
  have H := HA.out
  clear HA
  simp only [pyxref04_Expand.j0] at H
  by_cases c6 : x17_3 = true
  ·subst c6
   have H1 : (some (([] : List Int), 1)) = some (r1, r2) := by rw [if_pos rfl] at H; exact H
   clear H
   have H := H1
   clear H1
   simp only [Option.some.injEq, Prod.mk.injEq] at H
   obtain ⟨rfl, rfl⟩ := H
   go_wp2
   go_ret2
   exact ⟨_, by first | rfl | (simp [errW_none, errW_some] <;> rfl) | (simp [*, errW_none, errW_some] <;> rfl), by first | exact Kd.R_nil _ _ _ _ _ | exact Kd.N_nil _ _ _ _ _ | exact Kd.V_nil _ _ _ _ _ | exact Kd.Q_nil _ _ _ _ _ | exact Kd.S_nil _ _ _ _ _, by repeat (first | (with_reducible first | exact HB.out | apply below_alloc | apply pw_below_drewN | apply below_drew1) | exact HB.out)⟩
  replace c6 := Bool.eq_false_iff.mpr c6
  subst c6
  have H1 : (pyxref04_Expand.l0 kj3 l0 l1 a2 ([] : List Int) ([] : List Int) 1) = some (r1, r2) := by rw [if_neg (show ¬ (false = true) by decide)] at H; exact H
  clear H
  have H := H1
  clear H1
  have H' := Aside0.mk H
  clear H
  go_wp2
  go_loopg [8, 9, 10] kj3 (fun kq v8 v9 v10 w' => ∃ (x8_2 : List Int) (x9_2 : List Int) (x10_2 : Int), v10 = .int .i64 x10_2 ∧ Aside0 (pyxref04_Expand.l0 kq l0 l1 a2 x8_2 x9_2 x10_2 = some (r1, r2)) ∧ Aside0 (kq ≤ kj3) ∧ Aside0 (Kd.R (Kd.int .u8) 5 w' w.heap.size (fun k_ => some k_ ≠ (v9 : Value).ownBlock) v8 x8_2) ∧ Aside0 (Kd.R (Kd.int .u8) 5 w' w.heap.size (fun k_ => some k_ ≠ (v8 : Value).ownBlock) v9 x9_2) ∧ Aside0 (Below w.heap.size w w'))
  case atStart => exact ⟨(([] : List Int)), (([] : List Int)), (1), (by first | rfl | (simp; done) | (simp [*]; done)), H', ⟨Nat.le_refl _⟩, ⟨by first | exact Kd.R_nil _ _ _ _ _ | exact Kd.N_nil _ _ _ _ _ | exact Kd.V_nil _ _ _ _ _ | exact Kd.Q_nil _ _ _ _ _ | exact Kd.S_nil _ _ _ _ _⟩, ⟨by first | exact Kd.R_nil _ _ _ _ _ | exact Kd.N_nil _ _ _ _ _ | exact Kd.V_nil _ _ _ _ _ | exact Kd.Q_nil _ _ _ _ _ | exact Kd.S_nil _ _ _ _ _⟩, ⟨by repeat (first | (with_reducible first | exact HB.out | apply below_alloc | apply pw_below_drewN | apply below_drew1) | exact HB.out)⟩⟩
  clear H'
  try clear c1
  try clear p2
  try clear c4
  try clear c5
  try clear c5b0
  try clear c6
  try clear p2
  obtain ⟨x8_2, x9_2, x10_2, rfl, HA, HK2, HO_8, HO_9, HB⟩ := hrel
  cases gk with
  | zero => exact absurd HA.out (by simp [pyxref04_Expand.l0])
  | succ k2 =>
   have H := HA.out
   clear HA
   simp only [pyxref04_Expand.l0] at H
   by_cases c7 : (x8_2.length : Int) < a2
   rotate_left
   ·rw [if_neg c7] at H
    have c7b0 : decide ((x8_2.length : Int) < a2) = false := decide_eq_false c7
    clear c7
    by_cases c24 : 0 ≤ a2
    rotate_left
    ·rw [if_neg c24] at H
     exact absurd H (by simp)
    rw [if_pos c24] at H
    have c24b0 := eq_true c24
    have c24b1 : decide (0 ≤ a2) = true := decide_eq_true c24
    clear c24
    by_cases c25 : a2 ≤ (x8_2.length : Int)
    rotate_left
    ·rw [if_neg c25] at H
     exact absurd H (by simp)
    rw [if_pos c25] at H
    have c25b0 := eq_true c25
    have c25b1 : decide (a2 ≤ (x8_2.length : Int)) = true := decide_eq_true c25
    clear c25
    obtain ⟨y119, hy119⟩ : ∃ y_ : List Int, y_ = (x8_2.take (a2 : Int).toNat) := ⟨_, rfl⟩
    replace H : (some (y119, 0)) = some (r1, r2) := by first | (rw [hy119]; with_reducible exact H) | (have H2_ := (Option.bind_some _ _).symm.trans H; rw [hy119]; with_reducible exact H2_) | (have H2_ := (Option.bind_some _ _).symm.trans H; with_reducible exact H2_) | with_reducible exact H | (rw [hy119]; exact H) | exact H
    have Ny119 := Aside0.mk hy119
    clear hy119
    simp only [Option.some.injEq, Prod.mk.injEq] at H
    obtain ⟨rfl, rfl⟩ := H
    obtain ⟨Ao26, co26, eo26⟩ := Kd.R_slice HO_8.out
    subst eo26
    have q27 : (a2 : Int) ≤ ((x8_2.length : Int) : Int) := of_decide_eq_true (by first | (with_reducible assumption) | assumption)
    obtain ⟨i027, hi027, _, hsz27, _⟩ := info_parts info5
    have hcut27 := cut_to (P := Tryd.prog) 22 5 .i64 Tryd.underlying22 hi027 Ao26 x8_2.length co26 a2 (of_decide_eq_true (by first | (with_reducible assumption) | assumption)) q27 (Kd.R_reads' HO_8.out).2.1
    have hr27 := Kd.R_take (m := (a2 : Int).toNat) HO_8.out (by omega)
    have hy27 : y119.length = (a2 : Int).toNat := (by rw [Ny119.out, List.length_take]; omega)
    rw [← Ny119.out] at hr27
    rw [← hy27] at hr27 hcut27
    clear hy27 hi027 hsz27 HO_8
    have HO121 := Aside0.mk hr27
    clear hr27
    replace q27 := eq_true q27
    go_wp2
    go_ret2
    exact ⟨_, by first | rfl | (simp [errW_none, errW_some] <;> rfl) | (simp [*, errW_none, errW_some] <;> rfl), by (with_reducible repeat (first | apply Kd.R_alloc | apply Kd.R_drewN | apply Kd.R_drew)); exact Kd.R_mono HO121.out (fun _ hk => trivial), by repeat (first | (with_reducible first | exact HB.out | apply below_alloc | apply pw_below_drewN | apply below_drew1) | exact HB.out)⟩
   rw [if_pos c7] at H
   have c7b0 : decide ((x8_2.length : Int) < a2) = true := decide_eq_true c7
   clear c7
   obtain ⟨y101, hy101⟩ : ∃ y_ : List Int, y_ = (([] : List Int)) := ⟨_, rfl⟩
   replace H : (if y101.length + x9_2.length < 140737488355328 then ((some (y101 ++ x9_2 : List Int)).bind fun y104 => (if y104.length + l1.length < 140737488355328 then ((some (y104 ++ l1 : List Int)).bind fun y107 => (if y107.length < 140737488355328 then ((pyxref03_Sum.f l0 (y107 ++ [(x10_2) % 256])).bind fun t113 => (if x8_2.length + t113.length < 140737488355328 then (pyxref04_Expand.l0 k2 l0 l1 a2 (x8_2 ++ t113) t113 (wrap64 (x10_2 + 1))) else (none))) else (none))) else (none))) else (none)) = some (r1, r2) := by first | (rw [hy101]; with_reducible exact H) | (have H2_ := (Option.bind_some _ _).symm.trans H; rw [hy101]; with_reducible exact H2_) | (have H2_ := (Option.bind_some _ _).symm.trans H; with_reducible exact H2_) | with_reducible exact H | (rw [hy101]; exact H) | exact H
   have Ny101 := Aside0.mk hy101
   clear hy101
   by_cases c8 : y101.length + x9_2.length < 140737488355328
   rotate_left
   ·rw [if_neg c8] at H
    exact absurd H (by simp)
   rw [if_pos c8] at H
   have LMc8 := Aside0.mk c8
   clear c8
   obtain ⟨y104, hy104⟩ : ∃ y_ : List Int, y_ = (y101 ++ x9_2) := ⟨_, rfl⟩
   replace H : (if y104.length + l1.length < 140737488355328 then ((some (y104 ++ l1 : List Int)).bind fun y107 => (if y107.length < 140737488355328 then ((pyxref03_Sum.f l0 (y107 ++ [(x10_2) % 256])).bind fun t113 => (if x8_2.length + t113.length < 140737488355328 then (pyxref04_Expand.l0 k2 l0 l1 a2 (x8_2 ++ t113) t113 (wrap64 (x10_2 + 1))) else (none))) else (none))) else (none)) = some (r1, r2) := by first | (rw [hy104]; with_reducible exact H) | (have H2_ := (Option.bind_some _ _).symm.trans H; rw [hy104]; with_reducible exact H2_) | (have H2_ := (Option.bind_some _ _).symm.trans H; with_reducible exact H2_) | with_reducible exact H | (rw [hy104]; exact H) | exact H
   have Ny104 := Aside0.mk hy104
   clear hy104
   by_cases c9 : y104.length + l1.length < 140737488355328
   rotate_left
   ·rw [if_neg c9] at H
    exact absurd H (by simp)
   rw [if_pos c9] at H
   have LMc9 := Aside0.mk c9
   clear c9
   obtain ⟨y107, hy107⟩ : ∃ y_ : List Int, y_ = (y104 ++ l1) := ⟨_, rfl⟩
   replace H : (if y107.length < 140737488355328 then ((pyxref03_Sum.f l0 (y107 ++ [(x10_2) % 256])).bind fun t113 => (if x8_2.length + t113.length < 140737488355328 then (pyxref04_Expand.l0 k2 l0 l1 a2 (x8_2 ++ t113) t113 (wrap64 (x10_2 + 1))) else (none))) else (none)) = some (r1, r2) := by first | (rw [hy107]; with_reducible exact H) | (have H2_ := (Option.bind_some _ _).symm.trans H; rw [hy107]; with_reducible exact H2_) | (have H2_ := (Option.bind_some _ _).symm.trans H; with_reducible exact H2_) | with_reducible exact H | (rw [hy107]; exact H) | exact H
   have Ny107 := Aside0.mk hy107
   clear hy107
   by_cases c10 : y107.length < 140737488355328
   rotate_left
   ·rw [if_neg c10] at H
    exact absurd H (by simp)
   rw [if_pos c10] at H
   have LMc10 := Aside0.mk c10
   clear c10
   obtain ⟨y110, hy110⟩ : ∃ y_ : List Int, y_ = (y107 ++ [(x10_2) % 256]) := ⟨_, rfl⟩
   replace H : ((pyxref03_Sum.f l0 y110).bind fun t113 => (if x8_2.length + t113.length < 140737488355328 then (pyxref04_Expand.l0 k2 l0 l1 a2 (x8_2 ++ t113) t113 (wrap64 (x10_2 + 1))) else (none))) = some (r1, r2) := by first | (rw [hy110]; with_reducible exact H) | (have H2_ := (Option.bind_some _ _).symm.trans H; rw [hy110]; with_reducible exact H2_) | (have H2_ := (Option.bind_some _ _).symm.trans H; with_reducible exact H2_) | with_reducible exact H | (rw [hy110]; exact H) | exact H
   have Ny110 := Aside0.mk hy110
   clear hy110
   replace H := Option.bind_eq_some_iff.mp H
   obtain ⟨t113, A110, H⟩ := H
   replace H : (if x8_2.length + t113.length < 140737488355328 then (pyxref04_Expand.l0 k2 l0 l1 a2 (x8_2 ++ t113) t113 (wrap64 (x10_2 + 1))) else (none)) = some (r1, r2) := H
   have A11 := Aside0.mk A110
   clear A110
   by_cases c12 : x8_2.length + t113.length < 140737488355328
   rotate_left
   ·rw [if_neg c12] at H
    exact absurd H (by simp)
   rw [if_pos c12] at H
   have LMc12 := Aside0.mk c12
   clear c12
   obtain ⟨y116, hy116⟩ : ∃ y_ : List Int, y_ = (x8_2 ++ t113) := ⟨_, rfl⟩
   replace H : (pyxref04_Expand.l0 k2 l0 l1 a2 y116 t113 (wrap64 (x10_2 + 1))) = some (r1, r2) := by first | (rw [hy116]; with_reducible exact H) | (have H2_ := (Option.bind_some _ _).symm.trans H; rw [hy116]; with_reducible exact H2_) | (have H2_ := (Option.bind_some _ _).symm.trans H; with_reducible exact H2_) | with_reducible exact H | (rw [hy116]; exact H) | exact H
   have Ny116 := Aside0.mk hy116
   clear hy116
   have H' := Aside0.mk H
   clear H
   obtain ⟨Ao13, co13, eo13⟩ := Kd.R_slice HO_8.out
   subst eo13
   go_wp2_with (first | ((with_reducible refine gate_dst (N := 24) rfl ?_); refine Kd.R_lit (Kd.int .u8) _ 5 ?hg (N := 24) ?hd (xs := ([] : List Int)) (inner := []) (ok := fun _ => True) (okp := fun _ => True) ?hr ?hp (fun _ hk => hk) trivial (Below.refl _ _) (Nat.le_refl _) (by simp) ?_; (case hd => rfl); (case hg => rfl); (case hr => first | (go_simp; done) | (go_simp; rfl)); (case hp => exact (Reps.none _ _)); intro v102 w14 ho15 hb hg_ hnew_; clear hg_ hnew_; (first | rw [← Ny101.out] at ho15 | (simp only [Int.reduceToNat] at ho15; rw [← Ny101.out] at ho15)); have n0_ := Aside0.mk (Kd.R_elder' (by (with_reducible repeat (first | apply Kd.R_alloc | apply Kd.R_drewN | apply Kd.R_drew)); exact HO_8.out) (Kd.R_base ho15) hb); have n1_ := Aside0.mk (Kd.R_elder' (by (with_reducible repeat (first | apply Kd.R_alloc | apply Kd.R_drewN | apply Kd.R_drew)); exact HO_9.out) (Kd.R_base ho15) hb); have n2_ := Aside0.mk (Kd.R_lower (Kd.R_new' (Kd.R_new' ho15 (Kd.R_lt (by (with_reducible repeat (first | apply Kd.R_alloc | apply Kd.R_drewN | apply Kd.R_drew)); exact HO_8.out))) (Kd.R_lt (by (with_reducible repeat (first | apply Kd.R_alloc | apply Kd.R_drewN | apply Kd.R_drew)); exact HO_9.out))) (below_size (by repeat (first | (with_reducible first | exact HB.out | apply below_alloc | apply pw_below_drewN | apply below_drew1) | exact HB.out)))); have n3_ := Aside0.mk (below_step (by repeat (first | (with_reducible first | exact HB.out | apply below_alloc | apply pw_below_drewN | apply below_drew1) | exact HB.out)) hb); clear HO_8; clear HO_9; clear HB; have HO_8 := n0_; have HO_9 := n1_; have HO103 := n2_; have HB := n3_; clear n0_ n1_ n2_ n3_; clear hb ho15; obtain ⟨Ao17, co17, eo17⟩ := Kd.R_slice HO_9.out; subst eo17) | ((with_reducible refine gate_builtin (b := .append) (xs := #[.tmp 24, .tmp 25]) rfl ?_); at_builtin; refine Kd.R_append_rows (Kd.int .u8) (w0 := w) w.heap.size rfl (.tmp 24) (.tmp 25) 22 5 (.int .u8 0) 1 rfl Tryd.underlying22 info5 rfl (by decide) (by omega) v102 y101 x9_2 _ _ _ (fun k_ => some k_ ≠ (.slice Ao13 x8_2.length co13 : Value).ownBlock ∧ some k_ ≠ (.slice Ao17 x9_2.length co17 : Value).ownBlock) (fun _ => False) rfl rfl ?aO ?aR (fun _ _ h => h) (fun _ h => h.elim) ?aF ?aB ?aS ?aL ?_; (case aR => repeat (first | exact (Kd.R_reads' HO_9.out).2.2 | (with_reducible refine Kd.C_alloc ?_ _) | (with_reducible refine Kd.C_drewN ?_ _) | (with_reducible refine Kd.C_drew ?_))); (case aB => exact (by repeat (first | (with_reducible first | exact HB.out | apply below_alloc | apply pw_below_drewN | apply below_drew1) | exact HB.out))); (case aF => exact (fun k_ hk => ⟨Kd.fresh' (Kd.R_lt (by (with_reducible repeat (first | apply Kd.R_alloc | apply Kd.R_drewN | apply Kd.R_drew)); exact HO_8.out)) k_ hk, Kd.fresh' (Kd.R_lt (by (with_reducible repeat (first | apply Kd.R_alloc | apply Kd.R_drewN | apply Kd.R_drew)); exact HO_9.out)) k_ hk⟩)); (case aO => exact (by (with_reducible repeat (first | apply Kd.R_alloc | apply Kd.R_drewN | apply Kd.R_drew)); exact Kd.R_mono HO103.out (fun _ hk => ⟨hk.1.2, hk.2⟩))); (case aS => exact (below_size (by repeat (first | (with_reducible first | exact HB.out | apply below_alloc | apply pw_below_drewN | apply below_drew1) | exact HB.out)))); (case aL => have := LMc8.out; omega); intro v105 w16 ho hb hg hat; rw [← Ny104.out] at ho; have n0_ := Aside0.mk (Kd.R_after (ok := (fun k_ => some k_ ≠ (.slice Ao17 x9_2.length co17 : Value).ownBlock)) (by (with_reducible repeat (first | apply Kd.R_alloc | apply Kd.R_drewN | apply Kd.R_drew)); exact HO_8.out) hg hat); have n1_ := Aside0.mk (Kd.R_after (ok := (fun k_ => some k_ ≠ (.slice Ao13 x8_2.length co13 : Value).ownBlock)) (by (with_reducible repeat (first | apply Kd.R_alloc | apply Kd.R_drewN | apply Kd.R_drew)); exact HO_9.out) hg hat); have n2_ := Aside0.mk (hb); have n3_ := Aside0.mk (ho); clear HO_8; clear HO_9; clear HB; clear HO103; have HO_8 := n0_; have HO_9 := n1_; have HB := n2_; have HO106 := n3_; clear n0_ n1_ n2_ n3_; clear ho hb hg hat) | ((with_reducible refine gate_builtin (b := .append) (xs := #[.tmp 26, .tmp 27]) rfl ?_); at_builtin; refine Kd.R_append_rows (Kd.int .u8) (w0 := w) w.heap.size rfl (.tmp 26) (.tmp 27) 22 5 (.int .u8 0) 1 rfl Tryd.underlying22 info5 rfl (by decide) (by omega) v105 y104 l1 _ _ _ (fun k_ => some k_ ≠ (.slice Ao13 x8_2.length co13 : Value).ownBlock ∧ some k_ ≠ (.slice Ao17 x9_2.length co17 : Value).ownBlock) (fun _ => False) rfl rfl ?aO ?aR (fun _ _ h => h) (fun _ h => h.elim) ?aF ?aB ?aS ?aL ?_; (case aR => repeat (first | exact (Kd.C_below HR1.out HB.out) | (with_reducible refine Kd.C_alloc ?_ _) | (with_reducible refine Kd.C_drewN ?_ _) | (with_reducible refine Kd.C_drew ?_))); (case aB => exact (by repeat (first | (with_reducible first | exact HB.out | apply below_alloc | apply pw_below_drewN | apply below_drew1) | exact HB.out))); (case aF => exact (fun k_ hk => ⟨Kd.fresh' (Kd.R_lt (by (with_reducible repeat (first | apply Kd.R_alloc | apply Kd.R_drewN | apply Kd.R_drew)); exact HO_8.out)) k_ hk, Kd.fresh' (Kd.R_lt (by (with_reducible repeat (first | apply Kd.R_alloc | apply Kd.R_drewN | apply Kd.R_drew)); exact HO_9.out)) k_ hk⟩)); (case aO => exact (by (with_reducible repeat (first | apply Kd.R_alloc | apply Kd.R_drewN | apply Kd.R_drew)); exact HO106.out)); (case aS => exact (below_size (by repeat (first | (with_reducible first | exact HB.out | apply below_alloc | apply pw_below_drewN | apply below_drew1) | exact HB.out)))); (case aL => have := LMc9.out; omega); intro v108 w18 ho hb hg hat; rw [← Ny107.out] at ho; have n0_ := Aside0.mk (Kd.R_after (ok := (fun k_ => some k_ ≠ (.slice Ao17 x9_2.length co17 : Value).ownBlock)) (by (with_reducible repeat (first | apply Kd.R_alloc | apply Kd.R_drewN | apply Kd.R_drew)); exact HO_8.out) hg hat); have n1_ := Aside0.mk (Kd.R_after (ok := (fun k_ => some k_ ≠ (.slice Ao13 x8_2.length co13 : Value).ownBlock)) (by (with_reducible repeat (first | apply Kd.R_alloc | apply Kd.R_drewN | apply Kd.R_drew)); exact HO_9.out) hg hat); have n2_ := Aside0.mk (hb); have n3_ := Aside0.mk (ho); clear HO_8; clear HO_9; clear HB; clear HO106; have HO_8 := n0_; have HO_9 := n1_; have HB := n2_; have HO109 := n3_; clear n0_ n1_ n2_ n3_; clear ho hb hg hat) | ((with_reducible refine gate_builtin (b := .append) (xs := #[.tmp 28, .tmp 31]) rfl ?_); at_builtin; refine Kd.R_append (Kd.int .u8) (w0 := w) w.heap.size rfl (.tmp 28) (.tmp 31) 22 5 (.int .u8 0) 1 rfl Tryd.underlying22 info5 rfl (by decide) (by omega) v108 y107 ((x10_2) % 256) [.int .u8 ((x10_2) % 256)] (fun k_ => some k_ ≠ (.slice Ao13 x8_2.length co13 : Value).ownBlock ∧ some k_ ≠ (.slice Ao17 x9_2.length co17 : Value).ownBlock) (fun _ => False) rfl rfl ?aP (fun _ hk => hk.elim) ?aF ?aO ?aB ?aS ?aL ?_; (case aP => exact rfl); (case aB => exact (by repeat (first | (with_reducible first | exact HB.out | apply below_alloc | apply pw_below_drewN | apply below_drew1) | exact HB.out))); (case aF => exact (fun k_ hk => ⟨Kd.fresh' (Kd.R_lt (by (with_reducible repeat (first | apply Kd.R_alloc | apply Kd.R_drewN | apply Kd.R_drew)); exact HO_8.out)) k_ hk, Kd.fresh' (Kd.R_lt (by (with_reducible repeat (first | apply Kd.R_alloc | apply Kd.R_drewN | apply Kd.R_drew)); exact HO_9.out)) k_ hk⟩)); (case aO => exact (by (with_reducible repeat (first | apply Kd.R_alloc | apply Kd.R_drewN | apply Kd.R_drew)); exact HO109.out)); (case aS => exact (below_size (by repeat (first | (with_reducible first | exact HB.out | apply below_alloc | apply pw_below_drewN | apply below_drew1) | exact HB.out)))); (case aL => have := LMc10.out; omega); intro v111 w19 ho hb hg hat; rw [← Ny110.out] at ho; have n0_ := Aside0.mk (Kd.R_after (ok := (fun k_ => some k_ ≠ (.slice Ao17 x9_2.length co17 : Value).ownBlock)) (by (with_reducible repeat (first | apply Kd.R_alloc | apply Kd.R_drewN | apply Kd.R_drew)); exact HO_8.out) hg hat); have n1_ := Aside0.mk (Kd.R_after (ok := (fun k_ => some k_ ≠ (.slice Ao13 x8_2.length co13 : Value).ownBlock)) (by (with_reducible repeat (first | apply Kd.R_alloc | apply Kd.R_drewN | apply Kd.R_drew)); exact HO_9.out) hg hat); have n2_ := Aside0.mk (hb); have n3_ := Aside0.mk (ho); clear HO_8; clear HO_9; clear HB; clear HO109; have HO_8 := n0_; have HO_9 := n1_; have HB := n2_; have HO112 := n3_; clear n0_ n1_ n2_ n3_; clear ho hb hg hat; obtain ⟨Ao20, co20, eo20⟩ := Kd.R_slice HO112.out; subst eo20) | ((with_reducible refine gate_callee (f := 55) rfl ?_); refine goesL_ (some 35) rfl rfl Tryd.func55 (by kernel_rfl) rfl #[.slice A0 l0.length c0, .slice Ao20 y110.length co20] rfl (by (try simp only [List.map_toArray, List.map_cons, List.map_nil]); first | done | rfl | (simp only [List.length_drop, List.length_take]; rfl)) ?_; (with_reducible refine (pyxref03_Sum.calls _ _ l0 _ _ y110 t113 _ ?side1 ?side2 ?side3 ?side4 A11.out).mono ?_); (case side1 => repeat (first | exact (Kd.C_below HR0.out HB.out) | (with_reducible refine Kd.C_alloc ?_ _) | (with_reducible refine Kd.C_drewN ?_ _) | (with_reducible refine Kd.C_drew ?_))); (case side2 => exact HC0.out); (case side3 => repeat (first | exact (Kd.R_reads' HO112.out).2.2 | (with_reducible refine Kd.C_alloc ?_ _) | (with_reducible refine Kd.C_drewN ?_ _) | (with_reducible refine Kd.C_drew ?_))); (case side4 => exact (Kd.R_reads' HO112.out).2.1); rintro e w21 ⟨v114, rfl, ho0, hb⟩; refine ⟨_, rfl, ?_⟩; have n0_ := Aside0.mk (Kd.R_elder' (by (with_reducible repeat (first | apply Kd.R_alloc | apply Kd.R_drewN | apply Kd.R_drew)); exact HO_8.out) (Kd.R_base ho0) hb); have n1_ := Aside0.mk (Kd.R_elder' (by (with_reducible repeat (first | apply Kd.R_alloc | apply Kd.R_drewN | apply Kd.R_drew)); exact HO_9.out) (Kd.R_base ho0) hb); have n2_ := Aside0.mk (Kd.R_elder' (by (with_reducible repeat (first | apply Kd.R_alloc | apply Kd.R_drewN | apply Kd.R_drew)); exact HO112.out) (Kd.R_base ho0) hb); have n3_ := Aside0.mk (Kd.R_lower (Kd.R_new' (Kd.R_new' (Kd.R_new' ho0 (Kd.R_lt (by (with_reducible repeat (first | apply Kd.R_alloc | apply Kd.R_drewN | apply Kd.R_drew)); exact HO_8.out))) (Kd.R_lt (by (with_reducible repeat (first | apply Kd.R_alloc | apply Kd.R_drewN | apply Kd.R_drew)); exact HO_9.out))) (Kd.R_lt (by (with_reducible repeat (first | apply Kd.R_alloc | apply Kd.R_drewN | apply Kd.R_drew)); exact HO112.out))) (below_size (by repeat (first | (with_reducible first | exact HB.out | apply below_alloc | apply pw_below_drewN | apply below_drew1) | exact HB.out)))); have n4_ := Aside0.mk (below_step (by repeat (first | (with_reducible first | exact HB.out | apply below_alloc | apply pw_below_drewN | apply below_drew1) | exact HB.out)) hb); clear HO_8; clear HO_9; clear HO112; clear HB; have HO_8 := n0_; have HO_9 := n1_; have HO112 := n2_; have HO115 := n3_; have HB := n4_; clear n0_ n1_ n2_ n3_ n4_; (try clear hb); (try clear hb2); (try clear hk); (try clear hi); (try clear ho0); obtain ⟨Ao23, co23, eo23⟩ := Kd.R_slice HO115.out; subst eo23) | ((with_reducible refine gate_builtin (b := .append) (xs := #[.tmp 36, .tmp 37]) rfl ?_); at_builtin; refine Kd.R_append_rows (Kd.int .u8) (w0 := w) w.heap.size rfl (.tmp 36) (.tmp 37) 22 5 (.int .u8 0) 1 rfl Tryd.underlying22 info5 rfl (by decide) (by omega) (.slice Ao13 x8_2.length co13) x8_2 t113 _ _ _ (fun k_ => some k_ ≠ (.slice Ao17 x9_2.length co17 : Value).ownBlock ∧ some k_ ≠ (.slice Ao20 y110.length co20 : Value).ownBlock ∧ some k_ ≠ (.slice Ao23 t113.length co23 : Value).ownBlock) (fun _ => False) rfl rfl ?aO ?aR (fun _ _ h => h) (fun _ h => h.elim) ?aF ?aB ?aS ?aL ?_; (case aR => repeat (first | exact (Kd.R_reads' HO115.out).2.2 | (with_reducible refine Kd.C_alloc ?_ _) | (with_reducible refine Kd.C_drewN ?_ _) | (with_reducible refine Kd.C_drew ?_))); (case aB => exact (by repeat (first | (with_reducible first | exact HB.out | apply below_alloc | apply pw_below_drewN | apply below_drew1) | exact HB.out))); (case aF => exact (fun k_ hk => ⟨Kd.fresh' (Kd.R_lt (by (with_reducible repeat (first | apply Kd.R_alloc | apply Kd.R_drewN | apply Kd.R_drew)); exact HO_9.out)) k_ hk, Kd.fresh' (Kd.R_lt (by (with_reducible repeat (first | apply Kd.R_alloc | apply Kd.R_drewN | apply Kd.R_drew)); exact HO112.out)) k_ hk, Kd.fresh' (Kd.R_lt (by (with_reducible repeat (first | apply Kd.R_alloc | apply Kd.R_drewN | apply Kd.R_drew)); exact HO115.out)) k_ hk⟩)); (case aO => exact (by (with_reducible repeat (first | apply Kd.R_alloc | apply Kd.R_drewN | apply Kd.R_drew)); exact Kd.R_mono HO_8.out (fun _ hk => ⟨hk.1.1, ⟨hk.1.2, hk.2⟩⟩))); (case aS => exact (below_size (by repeat (first | (with_reducible first | exact HB.out | apply below_alloc | apply pw_below_drewN | apply below_drew1) | exact HB.out)))); (case aL => have := LMc12.out; omega); intro v117 w22 ho hb hg hat; rw [← Ny116.out] at ho; have n0_ := Aside0.mk (Kd.R_after (ok := (fun k_ => some k_ ≠ (.slice Ao20 y110.length co20 : Value).ownBlock ∧ some k_ ≠ (.slice Ao23 t113.length co23 : Value).ownBlock)) (by (with_reducible repeat (first | apply Kd.R_alloc | apply Kd.R_drewN | apply Kd.R_drew)); exact Kd.R_mono HO_9.out (fun _ hk => ⟨⟨hk.1.2, hk.2⟩, hk.1.1⟩)) hg hat); have n1_ := Aside0.mk (Kd.R_after (ok := (fun k_ => some k_ ≠ (.slice Ao17 x9_2.length co17 : Value).ownBlock ∧ some k_ ≠ (.slice Ao23 t113.length co23 : Value).ownBlock)) (by (with_reducible repeat (first | apply Kd.R_alloc | apply Kd.R_drewN | apply Kd.R_drew)); exact Kd.R_mono HO112.out (fun _ hk => ⟨⟨hk.1.2, hk.2⟩, hk.1.1⟩)) hg hat); have n2_ := Aside0.mk (Kd.R_after (ok := (fun k_ => some k_ ≠ (.slice Ao17 x9_2.length co17 : Value).ownBlock ∧ some k_ ≠ (.slice Ao20 y110.length co20 : Value).ownBlock)) (by (with_reducible repeat (first | apply Kd.R_alloc | apply Kd.R_drewN | apply Kd.R_drew)); exact Kd.R_mono HO115.out (fun _ hk => ⟨⟨hk.1.2, hk.2⟩, hk.1.1.2⟩)) hg hat); have n3_ := Aside0.mk (hb); have n4_ := Aside0.mk (ho); clear HO_9; clear HO112; clear HO115; clear HB; clear HO_8; have HO_9 := n0_; have HO112 := n1_; have HO115 := n2_; have HB := n3_; have HO118 := n4_; clear n0_ n1_ n2_ n3_ n4_; clear ho hb hg hat))
   go_roundg k2
   case measure => have := HJ3.out; have := HK2.out; omega
   case rel => exact ⟨(y116), (t113), (wrap64 (x10_2 + 1)), (by first | rfl | (simp; done) | (simp [*]; done)), H', ⟨by have := HJ3.out; have := HK2.out; omega⟩, ⟨by (with_reducible repeat (first | apply Kd.R_alloc | apply Kd.R_drewN | apply Kd.R_drew)); exact Kd.R_mono HO118.out (fun _ hk => hk.2.2)⟩, ⟨by (with_reducible repeat (first | apply Kd.R_alloc | apply Kd.R_drewN | apply Kd.R_drew)); exact Kd.R_mono HO115.out (fun _ hk => hk.2)⟩, ⟨by repeat (first | (with_reducible first | exact HB.out | apply below_alloc | apply pw_below_drewN | apply below_drew1) | exact HB.out)⟩⟩
end Go.Proofs.YtdklmafkcbjomaaDoor.Q

/-! KdfRef -/
namespace Go.Proofs.YtdklmafkcbjomaaDoor
set_option linter.unusedVariables false
set_option linter.unusedSimpArgs false
open Go.RowKit Go.Proofs.YtdklmafkcbjomaaDoorW.PrintWords Go.Proofs.YtdklmafkcbjomaaDoorW.PrintLast Go.Proofs.YtdklmafkcbjomaaDoorW.PrintMore Iter
/-- From some number of rounds on it answers r. -/
def EvS {α : Type} (g : Nat → Option α) (r : α) : Prop := ∃ k0, ∀ k, k0 ≤ k → g k = some r
theorem EvS.step {α : Type} {g h : Nat → Option α} {r : α} (e : ∀ k, g (k + 1) = h k) (H : EvS h r) : EvS g r := by
 obtain ⟨k0, hk⟩ := H
 refine ⟨k0 + 1, fun k hk1 => ?_⟩
 obtain ⟨m, rfl⟩ : ∃ m, k = m + 1 := ⟨k - 1, by omega⟩
 rw [e]
 exact hk m (by omega)
theorem EvS.now {α : Type} {g : Nat → Option α} {r : α} (e : ∀ k, g (k + 1) = some r) : EvS g r := by
 refine ⟨1, fun k hk1 => ?_⟩
 obtain ⟨m, rfl⟩ : ∃ m, k = m + 1 := ⟨k - 1, by omega⟩
 exact e m
theorem EvS.congr {α : Type} {g h : Nat → Option α} {r : α} (e : ∀ k, g k = h k) (H : EvS h r) : EvS g r := by
 obtain ⟨k0, hk⟩ := H
 exact ⟨k0, fun k h1 => by rw [e]; exact hk k h1⟩
theorem refSum_some (key b : List Int) (hk : byteOk key = true) (hb : byteOk b = true) (lk : key.length ≤ 900000) (lb : b.length ≤ 800000) : P.pyxref03_Sum.f key b = some (macSum key b) := by
 unfold P.pyxref03_Sum.f
 rw [if_pos ⟨hk, hb, lk, lb⟩]
theorem kdfT_le (key info : List Int) (k : Nat) : (kdfT key info k).length ≤ 32 := by
 cases k with
 | zero => simp [kdfT]
 | succ k => rw [kdfT_length]; omega
theorem kdfT_succ (key info : List Int) (i : Nat) : kdfT key info (i + 1) = macSum key (kdfT key info i ++ info ++ [(((i + 1) % 256 : Nat) : Int)]) := by rw [kdfT]
theorem byteOk_exp (key info : List Int) (i : Nat) (hi : byteOk info = true) : byteOk (kdfT key info i ++ info ++ [(((i + 1) % 256 : Nat) : Int)]) = true := by
 rw [byteOk_append, byteOk_append]
 refine ⟨⟨byteOk_kdfT _ _ _, hi⟩, ?_⟩
 simp [byteOk]
 omega
theorem refExp_step (key info : List Int) (n i k : Nat) (hlt : 32 * i < n) (hn : n ≤ 8160) (hk : byteOk key = true) (hi : byteOk info = true) (lk : key.length ≤ 900000) (li : info.length ≤ 700000) (out T T' : List Int) (hl : out.length = 32 * i) (hT : T.length ≤ 32) (hT' : T'.length = 32)
  (hs : P.pyxref03_Sum.f key (T ++ info ++ [(((i + 1) % 256 : Nat) : Int)]) = some T') :
  Q.pyxref04_Expand.l0 (k + 1) key info (n : Int) out T ((i + 1 : Nat) : Int) = Q.pyxref04_Expand.l0 k key info (n : Int) (out ++ T') T' ((i + 1 + 1 : Nat) : Int) := by
 have e1 : (((i + 1 : Nat) : Int)) % 256 = (((i + 1) % 256 : Nat) : Int) := by omega
 have e2 : wrap64 (((i + 1 : Nat) : Int) + 1) = ((i + 1 + 1 : Nat) : Int) := by unfold wrap64; omega
 have n0 : (([] : List Int)).length = 0 := rfl
 have n1 : (([] : List Int) ++ T).length = T.length := rfl
 have n2 : (T ++ info).length = T.length + info.length := List.length_append
 rw [Q.pyxref04_Expand.l0, if_pos (by omega), Option.bind_some, if_pos (by omega), Option.bind_some, List.nil_append, if_pos (by omega), Option.bind_some, if_pos (by omega), e1, hs, Option.bind_some, if_pos (by omega), e2]
theorem refExp_l0 (key info : List Int) (n : Nat) (hn : n ≤ 8160) (hk : byteOk key = true) (hi : byteOk info = true) (lk : key.length ≤ 900000) (li : info.length ≤ 700000) :
  ∀ (d i : Nat), i + d = (n + 31) / 32 → EvS (fun k => Q.pyxref04_Expand.l0 k key info (n : Int) (outTo (fun k => kdfT key info (k + 1)) i) (kdfT key info i) ((i + 1 : Nat) : Int)) (expandOf key info n, 0)
 | 0, i, h => EvS.now fun k => by
  have hl := outTo_length (fun k => kdfT key info (k + 1)) (fun k => kdfT_length key info k) i
  rw [Q.pyxref04_Expand.l0, if_neg (by omega), if_pos (by omega), if_pos (by omega), Int.toNat_natCast, firstOf_any _ (fun k => kdfT_length key info k) n i (by omega)]
  rfl
 | d + 1, i, h => by
  have hl := outTo_length (fun k => kdfT key info (k + 1)) (fun k => kdfT_length key info k) i
  have hT := kdfT_le key info i
  have hs := refSum_some key _ hk (byteOk_exp key info i hi) lk (by rw [List.length_append, List.length_append]; simp only [List.length_cons, List.length_nil]; omega)
  rw [← kdfT_succ] at hs
  exact EvS.step (h := fun k => Q.pyxref04_Expand.l0 k key info (n : Int) (outTo (fun k => kdfT key info (k + 1)) i ++ kdfT key info (i + 1)) (kdfT key info (i + 1)) ((i + 1 + 1 : Nat) : Int)) (fun k => refExp_step key info n i k (by omega) hn hk hi lk li _ _ _ hl hT (kdfT_length key info i) hs) (refExp_l0 key info n hn hk hi lk li d (i + 1) (by omega))
theorem refExp_eq (key info : List Int) (n : Nat) (hn : n ≤ 8160) (hk : byteOk key = true) (hi : byteOk info = true) (lk : key.length ≤ 900000) (li : info.length ≤ 700000) :
  EvS (fun k => Q.pyxref04_Expand.f k key info (n : Int)) (expandOf key info n, 0) := by
 refine EvS.step (h := fun k => Q.pyxref04_Expand.l0 k key info (n : Int) [] [] 1) (fun k => ?_) (refExp_l0 key info n hn hk hi lk li ((n + 31) / 32) 0 (by omega))
 unfold Q.pyxref04_Expand.f
 rw [if_neg (by omega), show decide ((n : Int) > 8160) = false by rw [decide_eq_false_iff_not]; omega, Q.pyxref04_Expand.j0, if_neg (by simp)]
section
variable (word salt : List Int) (rounds n : Nat) (hw : byteOk word = true) (hsa : byteOk salt = true) (lw : word.length ≤ 900000) (ls : salt.length ≤ 700000) (hr1 : 1 ≤ rounds) (hr2 : rounds ≤ 1048576) (hn : n ≤ 1024)
end
namespace P
def pyxref04_Expand.f (key info : List Int) (n : Int) : Option (List Int × Int) := kdf_Expand.f key info n
theorem pyxref04_Expand.calls (A0 : Option Addr) (c0 : Nat) (l0 : List Int) (A1 : Option Addr) (c1 : Nat) (l1 : List Int) (a2 : Int) (r1 : List Int) (r2 : Int) (w : World) (hr0 : Kd.C (Kd.int .u8) w A0 l0.length l0) (hc0 : l0.length ≤ c0) (hr1 : Kd.C (Kd.int .u8) w A1 l1.length l1) (hc1 : l1.length ≤ c1) (h : pyxref04_Expand.f l0 l1 a2 = some (r1, r2)) :
  Calls Tryd.prog 44 #[.slice A0 l0.length c0, .slice A1 l1.length c1, .int .i64 a2] w fun e w' => ∃ v0_ : Value, e = .returned (.tuple #[v0_, .int .i64 r2]) ∧ Kd.R (Kd.int .u8) 5 w' w.heap.size (fun _ => True) v0_ r1 ∧ Below w.heap.size w w' := by
 unfold pyxref04_Expand.f kdf_Expand.f at h
 have hbad : ∀ k, Q.pyxref04_Expand.j0 (k + 1) l0 l1 a2 true = some ([], 1) := fun k => by rw [Q.pyxref04_Expand.j0, if_pos rfl]
 by_cases h0 : a2 < 0
 ·rw [if_pos h0] at h
  refine Q.pyxref04_Expand.calls 1 A0 c0 l0 A1 c1 l1 a2 r1 r2 w hr0 hc0 hr1 hc1 ?_
  unfold Q.pyxref04_Expand.f
  rw [if_pos h0, hbad]
  exact h
 rw [if_neg h0] at h
 by_cases h1 : 8160 < a2
 ·rw [if_pos h1] at h
  refine Q.pyxref04_Expand.calls 1 A0 c0 l0 A1 c1 l1 a2 r1 r2 w hr0 hc0 hr1 hc1 ?_
  unfold Q.pyxref04_Expand.f
  rw [if_neg h0, show decide (a2 > 8160) = true by rw [decide_eq_true_eq]; exact h1, hbad]
  exact h
 rw [if_neg h1] at h
 split at h
 case isFalse => cases h
 case isTrue hok =>
 obtain ⟨o1, o2, o3, o4⟩ := hok
 obtain ⟨n, rfl⟩ := Int.eq_ofNat_of_zero_le (show 0 ≤ a2 by omega)
 rw [Int.toNat_natCast] at h
 obtain ⟨k0, hk⟩ := refExp_eq l0 l1 n (by omega) o1 o2 o3 o4
 exact Q.pyxref04_Expand.calls k0 A0 c0 l0 A1 c1 l1 n r1 r2 w hr0 hc0 hr1 hc1 ((hk k0 (Nat.le_refl _)).trans h)
end P
end Go.Proofs.YtdklmafkcbjomaaDoor

/-! KdfRefLabel -/
namespace Go.Proofs.YtdklmafkcbjomaaDoor
set_option linter.unusedVariables false
set_option linter.unusedSimpArgs false
open Go.RowKit Go.Proofs.YtdklmafkcbjomaaDoorW.PrintWords Go.Proofs.YtdklmafkcbjomaaDoorW.PrintLast Go.Proofs.YtdklmafkcbjomaaDoorW.PrintMore Iter
namespace P
def pyxref04_Label.f (secret : List Int) (label : ByteArray) (context : List Int) (n : Int) : Option (List Int × Int) := kdf_Label.f secret label context n
set_option maxRecDepth 100000 in
set_option maxHeartbeats 2000000 in
theorem pyxref04_Label.calls (A0 : Option Addr) (c0 : Nat) (l0 : List Int) (a1 : ByteArray) (A2 : Option Addr) (c2 : Nat) (l2 : List Int) (a3 : Int) (r1 : List Int) (r2 : Int) (w : World) (hr0 : Kd.C (Kd.int .u8) w A0 l0.length l0) (hc0 : l0.length ≤ c0) (hr2 : Kd.C (Kd.int .u8) w A2 l2.length l2) (hc2 : l2.length ≤ c2) (h : pyxref04_Label.f l0 a1 l2 a3 = some (r1, r2)) :
  Calls Tryd.prog 25 #[.slice A0 l0.length c0, .string a1, .slice A2 l2.length c2, .int .i64 a3] w fun e w' => ∃ v0_ : Value, e = .returned (.tuple #[v0_, .int .i64 r2]) ∧ Kd.R (Kd.int .u8) 5 w' w.heap.size (fun _ => True) v0_ r1 ∧ Below w.heap.size w w' := by
 unfold pyxref04_Label.f kdf_Label.f at h
 by_cases h0 : a3 < 0
 ·rw [if_pos h0] at h
  injection h with h
  injection h with h1 h2
  subst h1 h2
  have d0 : decide (a3 < 0) = true := by simp [h0]
  go_enter Tryd.func25, Tryd.ntmps25
  go_wp2
  go_ret2
  exact ⟨_, rfl, Kd.R_nil _ _ _ _ _, Below.refl _ _⟩
 rw [if_neg h0] at h
 have d0 : decide (a3 < 0) = false := by simp; omega
 by_cases h1 : 8160 < a3
 ·rw [if_pos h1] at h
  injection h with h
  injection h with h1' h2
  subst h1' h2
  have d1 : decide (8160 < a3) = true := by simp [h1]
  go_enter Tryd.func25, Tryd.ntmps25
  go_wp2
  go_ret2
  exact ⟨_, rfl, Kd.R_nil _ _ _ _ _, Below.refl _ _⟩
 rw [if_neg h1] at h
 have d1 : decide (8160 < a3) = false := by simp; omega
 split at h
 case isFalse => cases h
 case isTrue hok =>
 injection h with h
 injection h with h1' h2
 subst h1' h2
 obtain ⟨n, rfl⟩ := Int.eq_ofNat_of_zero_le (show 0 ≤ a3 by omega)
 rw [Int.toNat_natCast]
 obtain ⟨o1, o2, o3, o4, o5⟩ := hok
 obtain ⟨t, ht⟩ : ∃ t : ByteArray, t = mlsS ++ a1 := ⟨_, rfl⟩
 have htb : bytesOf t = mls ++ bytesOf a1 := by rw [ht, bytesOf_append, mls_bytes]
 have htl : (bytesOf t).length = a1.size + 8 := by rw [htb, List.length_append, bytesOf_length]; exact Nat.add_comm _ _
 have hts : t.size = a1.size + 8 := by rw [← bytesOf_length, htl]
 have hrow1 : P.pyxref01_Row.f (bytesOf t) = some (rowB (bytesOf t), 0) := congrArg some (rowOf_small (bytesOf t) (by omega))
 have hrow2 : P.pyxref01_Row.f l2 = some (rowB l2, 0) := congrArg some (rowOf_small l2 (by omega))
 have hnum : P.pyxref01_Num.f (n : Int) 2 = some (numB n 2, 0) := by
  unfold P.pyxref01_Num.f
  exact congrArg some (numOf_small n 2 (by omega) (by omega) (by omega))
 have hl1 : (numB n 2).length = 2 := numB_length _ _
 have kb : ∀ W : World, (convert 9 22 (.string ({ data := #[77, 76, 83, 32, 49, 46, 48, 32] } ++ a1))).run Tryd.prog W = .ok (.slice (some ⟨W.heap.size, 0, none⟩) t.size (grownCap W t.size 0 5)) (Lib.bytesWorld W 5 t) := fun W => by
  rw [ht]
  exact print_bytes (P := Tryd.prog) 9 22 5 Tryd.underlying9 Tryd.underlying22 Tryd.underlying5 (mlsS ++ a1) W
 have hexp : P.pyxref04_Expand.f l0 (labelRow a1 l2 n) (n : Int) = some (labelOf l0 a1 l2 n, 0) := by
  have b1 := byteOk_labelRow a1 l2 n o2
  have b2 := labelRow_length a1 l2 n
  unfold P.pyxref04_Expand.f P.kdf_Expand.f
  rw [if_neg (by omega), if_neg (by omega), if_pos ⟨o1, b1, o3, by omega⟩]
  rfl
 have HLR := Lib.hid hexp
 clear hexp
 have hrw : labelRow a1 l2 n = numB n 2 ++ rowB (bytesOf t) ++ rowB l2 := by rw [htb]; rfl
 have hl3 := rowB_length (bytesOf t)
 rw [htl] at hl3
 have hl4 := rowB_length l2
 have HN := Lib.hid hnum
 have H1 := Lib.hid (And.intro hrow1 (And.intro hrow2 (And.intro hrw (And.intro htb (And.intro htl hts)))))
 have KB := Lib.hid kb
 have Hr := Lib.hid (And.intro hr0 hr2)
 clear hnum hrow1 hrow2 ht htb htl hts kb hr0 hr2 o1 o2 hrw
 go_enter Tryd.func25, Tryd.ntmps25
 go_wp2_with fail
 refine (P.pyxref01_Num.calls (n : Int) 2 (numB n 2) 0 _ HN.out).mono ?_
 rintro e W1 ⟨v1, rfl, hR1, hb1⟩
 have hkb := KB.out W1
 have hcp := grownCap_ge W1 t.size 0 5
 have hC2 := bytes_C W1 t (by have := H1.out.2.2.2.2.2; omega)
 have hb2 := bytes_below hb1 hb1.size 5 t
 have hs2 := Lib.bytesWorld_size W1 5 t
 have hR2 : Kd.R (Kd.int .u8) 5 (Lib.bytesWorld W1 5 t) w.heap.size (fun b => b < W1.heap.size) v1 (numB n 2) :=
  Kd.R_mono (Kd.R_move (Kd.R_bound hR1) (fun k hk => Lib.bytesWorld_at_old W1 5 t k hk.2.2.1)) (fun k hk => hk.2.2.1)
 rw [H1.out.2.2.2.2.2] at hkb hcp
 generalize grownCap W1 (a1.size + 8) 0 5 = cp at *
 generalize Lib.bytesWorld W1 5 t = W2 at *
 have HS2 := Lib.hid hs2
 have H2 := Lib.hid (And.intro hC2 (And.intro hb2 hR2))
 have hlen := H1.out.2.2.2.2.1
 have HL := Lib.hid hlen
 clear hs2 hb1 hR1 hlen hC2 hb2 hR2
 have hcp' : (bytesOf t).length ≤ cp := by rw [HL.out]; exact hcp
 go_wp2_with fail
 rw [← HL.out]
 refine (P.pyxref01_Row.calls _ cp (bytesOf t) (rowB (bytesOf t)) 0 _ H2.out.1 hcp' H1.out.1).mono ?_
 rintro e W3 ⟨v3, rfl, hR3, hb3⟩
 have hr3 := Kd.R_below H2.out.2.2 hb3
 have hk3 := H2.out.2.1.trans (hb3.mono H2.out.2.1.size)
 have hs3 := hb3.size
 have H3 := Lib.hid (And.intro hr3 (And.intro hR3 hk3))
 clear hr3 hR3 hk3 hb3
 go_wp2_with fail
 refine (P.pyxref01_Row.calls A2 c2 l2 (rowB l2) 0 _ (Kd.C_below Hr.out.2 H3.out.2.2) hc2 H1.out.2.1).mono ?_
 rintro e W4 ⟨v4, rfl, hR4, hb4⟩
 have hr4 := Kd.R_below H3.out.1 hb4
 have hq4 := Kd.R_below H3.out.2.1 hb4
 have hk4 := H3.out.2.2.trans (hb4.mono H3.out.2.2.size)
 have hs4 := hb4.size
 have hv1 : Kd.R (Kd.int .u8) 5 W4 w.heap.size (fun b => b < W1.heap.size ∨ W4.heap.size ≤ b) v1 (numB n 2) := Kd.R_mono hr4 (fun b hb => Or.inl hb)
 have hR4b := Kd.R_bound hR4
 obtain ⟨A3, c3, rfl, hl5, hC3⟩ := Kd.R_reads hq4
 obtain ⟨A4, c4, rfl, hl6, -⟩ := Kd.R_reads hR4
 have ho4 : ∀ b, (Value.slice A4 (rowB l2).length c4).ownBlock = some b → W3.heap.size ≤ b ∧ b < W4.heap.size := fun b hb => by have := hR4b.1 b hb; omega
 have HV := Lib.hid (And.intro hv1 (And.intro hR4 (And.intro ho4 (And.intro hk4 hC3))))
 clear hr4 hq4 hk4 hR4 hR4b ho4 hv1 H3 H2 hC3
 go_wp2_with (first
  | ((with_reducible refine gate_builtin (b := .append) (xs := #[.tmp 40, .tmp 41]) rfl ?_); at_builtin; refine Kd.R_append_rows (Kd.int .u8) (w0 := w) w.heap.size rfl (.tmp 40) (.tmp 41) 22 5 (.int .u8 0) 1 rfl Tryd.underlying22 B.info5 rfl (by decide) (by omega) v1 (numB n 2) (rowB (bytesOf t)) _ _ _ (fun b => b < W1.heap.size ∨ W4.heap.size ≤ b) (fun _ => False) rfl rfl HV.out.1 HV.out.2.2.2.2 (fun _ _ h => h) (fun _ h => h.elim) (by intro b hb; exact Or.inr hb) HV.out.2.2.2.1 HV.out.2.2.2.1.size (by omega) ?_; intro v5 W5 hv5 hb5 hgr5 hat5; (have hR5 := Kd.R_grown2 HV.out.2.1 rfl hgr5 (fun k hk e => by have h1 := HV.out.1.1 k hk; have h2 := HV.out.2.2.1 k e.symm; have := HS2.out; omega)); (have hC5 := (Kd.R_reads' hR5).2.2); (have hb4s := hgr5.size); clear hR5 hgr5 hat5; (have hl7 : (numB n 2 ++ rowB (bytesOf t)).length = 2 + (rowB (bytesOf t)).length := by rw [List.length_append, hl1]))
  | ((with_reducible refine gate_builtin (b := .append) (xs := #[.tmp 42, .tmp 43]) rfl ?_); at_builtin; refine Kd.R_append_rows (Kd.int .u8) (w0 := w) w.heap.size rfl (.tmp 42) (.tmp 43) 22 5 (.int .u8 0) 1 rfl Tryd.underlying22 B.info5 rfl (by decide) (by omega) v5 (numB n 2 ++ rowB (bytesOf t)) (rowB l2) _ _ _ (fun b => b < W1.heap.size ∨ W4.heap.size ≤ b) (fun _ => False) rfl rfl hv5 hC5 (fun _ _ h => h) (fun _ h => h.elim) (by intro b hb; exact Or.inr (Nat.le_trans hb4s hb)) hb5 hb5.size (by omega) ?_; intro v6 W6 hv6 hb6 hgr6 hat6; clear hgr6 hat6; rw [← H1.out.2.2.1] at hv6; obtain ⟨A6, c6, rfl, hl8, hC6⟩ := Kd.R_reads hv6; clear hv5 hb5 hC5))
 have HB6 := Lib.hid (And.intro hb6 (Kd.C_below Hr.out.1 hb6))
 clear hb6 hv6
 refine (P.pyxref04_Expand.calls A0 c0 l0 A6 c6 (labelRow a1 l2 n) (n : Int) (labelOf l0 a1 l2 n) 0 _ HB6.out.2 hc0 hC6 hl8 HLR.out).mono ?_
 rintro e W7 ⟨v7, rfl, hR7, hb7⟩
 go_wp2
 go_ret2
 exact ⟨_, rfl, Kd.R_lower hR7 HB6.out.1.size, HB6.out.1.trans (hb7.mono HB6.out.1.size)⟩
end P
theorem labelOf_length (secret : List Int) (label : ByteArray) (context : List Int) (n : Nat) : (labelOf secret label context n).length = n := expandOf_length _ _ _
theorem byteOk_labelOf (secret : List Int) (label : ByteArray) (context : List Int) (n : Nat) : byteOk (labelOf secret label context n) = true := byteOk_expandOf _ _ _
theorem label_some (secret : List Int) (label : ByteArray) (context : List Int) (n : Nat) (hn : n ≤ 8160) (o1 : byteOk secret = true) (o2 : byteOk context = true) (l1 : secret.length ≤ 900000) (l2 : label.size ≤ 100000) (l3 : context.length ≤ 100000) :
  P.kdf_Label.f secret label context (n : Int) = some (labelOf secret label context n, 0) := by
 unfold P.kdf_Label.f
 rw [if_neg (by omega), if_neg (by omega), if_pos ⟨o1, o2, l1, l2, l3⟩, Int.toNat_natCast]
end Go.Proofs.YtdklmafkcbjomaaDoor

/-! RatA -/
namespace Go.Proofs.YtdklmafkcbjomaaDoor
set_option linter.unusedVariables false
set_option linter.unusedSimpArgs false
open Go.RowKit Go.Proofs.YtdklmafkcbjomaaDoorW.PrintWords Go.Proofs.YtdklmafkcbjomaaDoorW.PrintLast
def labTree : ByteArray := ⟨#[116, 114, 101, 101]⟩
def labLeft : ByteArray := ⟨#[108, 101, 102, 116]⟩
def labRight : ByteArray := ⟨#[114, 105, 103, 104, 116]⟩
/-- A node: its level and how many of its level stand ahead of it. -/
def nodeAt (k j : Nat) : Nat := 2 ^ k * (2 * j + 1) - 1
theorem nodeAt_succ (k j : Nat) : nodeAt k j + 1 = 2 ^ k * (2 * j + 1) := by
 have := Nat.two_pow_pos k
 have h : 1 ≤ 2 ^ k * (2 * j + 1) := Nat.mul_pos this (by omega)
 unfold nodeAt
 omega
theorem nodeAt_root (K : Nat) : nodeAt K 0 + 1 = 2 ^ K := by rw [nodeAt_succ]; omega
theorem nodeAt_leaf (i : Nat) : nodeAt 0 i = 2 * i := by unfold nodeAt; simp
theorem nodeAt_odd (k j : Nat) : nodeAt (k + 1) j % 2 = 1 := by
 have h := nodeAt_succ (k + 1) j
 rw [Nat.pow_succ, Nat.mul_assoc, Nat.mul_left_comm] at h
 omega
theorem node_left (k j : Nat) : nodeAt k (2 * j) + 2 ^ k = nodeAt (k + 1) j := by
 have h1 := nodeAt_succ (k + 1) j
 have h2 := nodeAt_succ k (2 * j)
 have e : 2 ^ (k + 1) * (2 * j + 1) = 2 ^ k * (2 * (2 * j) + 1) + 2 ^ k := by
  rw [Nat.pow_succ, Nat.mul_assoc, ← Nat.mul_succ]
  congr 1
 omega
theorem node_right (k j : Nat) : nodeAt k (2 * j + 1) = nodeAt (k + 1) j + 2 ^ k := by
 have h1 := nodeAt_succ (k + 1) j
 have h2 := nodeAt_succ k (2 * j + 1)
 have e : 2 ^ k * (2 * (2 * j + 1) + 1) = 2 ^ (k + 1) * (2 * j + 1) + 2 ^ k := by
  rw [Nat.pow_succ, Nat.mul_assoc, ← Nat.mul_succ]
 omega
theorem half_up (i k : Nat) : i / 2 ^ (k + 1) = i / 2 ^ k / 2 := by rw [Nat.pow_succ, Nat.div_div_eq_div_mul]
/-- Is a leaf on the right of the node over it? -/
theorem node_side (i k : Nat) : nodeAt (k + 1) (i / 2 ^ (k + 1)) < 2 * i ↔ i / 2 ^ k % 2 = 1 := by
 obtain ⟨j, hj⟩ : ∃ j, i / 2 ^ (k + 1) = j := ⟨_, rfl⟩
 have h1 := nodeAt_succ (k + 1) j
 have hm : j = i / 2 ^ k / 2 := by rw [← hj, half_up]
 have hp := Nat.two_pow_pos k
 rw [hj]
 have e : 2 ^ (k + 1) * (2 * j + 1) = 2 * ((2 * j + 1) * 2 ^ k) := by rw [Nat.pow_succ, Nat.mul_comm (2 ^ k) 2, Nat.mul_assoc, Nat.mul_comm (2 ^ k)]
 have hle := Nat.le_div_iff_mul_le (x := 2 * j + 1) (y := i) hp
 constructor
 ·intro h
  have : (2 * j + 1) * 2 ^ k ≤ i := by omega
  have := hle.2 this
  omega
 ·intro h
  have : 2 * j + 1 ≤ i / 2 ^ k := by omega
  have := hle.1 this
  omega
/-- The secrets down from a node: k levels above a leaf. -/
def downS (i : Nat) : Nat → List Int → List Int
 | 0, s => s
 | k + 1, s => downS i k (labelOf s (if i / 2 ^ k % 2 = 1 then labRight else labLeft) [] 32)
def leafS (send : List Int) (K i : Nat) : List Int := downS i K (labelOf send labTree [] 32)
theorem downS_length (i : Nat) : ∀ k s, s.length = 32 → (downS i k s).length = 32
 | 0, _, h => h
 | k + 1, _, _ => downS_length i k _ (labelOf_length _ _ _ _)
theorem byteOk_downS (i : Nat) : ∀ k s, byteOk s = true → byteOk (downS i k s) = true
 | 0, _, h => h
 | k + 1, _, _ => byteOk_downS i k _ (byteOk_labelOf _ _ _ _)
theorem leafS_length (send : List Int) (K i : Nat) : (leafS send K i).length = 32 := downS_length i K _ (labelOf_length _ _ _ _)
theorem byteOk_leafS (send : List Int) (K i : Nat) : byteOk (leafS send K i) = true := byteOk_downS i K _ (byteOk_labelOf _ _ _ _)
/-- The next place's secret, and so on. -/
def labNext : ByteArray := ⟨#[110, 101, 120, 116]⟩
def nextS (s : List Int) (n : Nat) : List Int := labelOf s labNext (numB n 4) 32
def secS (s : List Int) (n : Nat) : Nat → List Int
 | 0 => s
 | m + 1 => nextS (secS s n m) (n + m)
theorem nextS_length (s : List Int) (n : Nat) : (nextS s n).length = 32 := labelOf_length _ _ _ _
theorem byteOk_nextS (s : List Int) (n : Nat) : byteOk (nextS s n) = true := byteOk_labelOf _ _ _ _
theorem secS_length (s : List Int) (n : Nat) (h : s.length = 32) : ∀ m, (secS s n m).length = 32
 | 0 => h
 | _ + 1 => nextS_length _ _
theorem byteOk_secS (s : List Int) (n : Nat) (h : byteOk s = true) : ∀ m, byteOk (secS s n m) = true
 | 0 => h
 | _ + 1 => byteOk_nextS _ _
end Go.Proofs.YtdklmafkcbjomaaDoor
