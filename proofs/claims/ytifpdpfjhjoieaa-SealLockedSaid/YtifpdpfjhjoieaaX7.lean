/-
 The lower layers, walked and in closed forms, part 7: C4, AesG, AesS, AesD, AesH, AesT, SealA, H0.
-/
import Derived.Test.YtifpdpfjhjoieaaX0
import Derived.Test.YtifpdpfjhjoieaaX1
import Derived.Test.YtifpdpfjhjoieaaX6
import Derived.Test.YtifpdpfjhjoieaaJWords
import Derived.Test.YtifpdpfjhjoieaaJLast
import Derived.Test.YtifpdpfjhjoieaaJMore
import Derived.Test.YtifpdpfjhjoieaaJRepsOne
import Derived.Test.YtifpdpfjhjoieaaJTab
import Derived.Test.YtifpdpfjhjoieaaJGuard
import Derived.Test.YtifpdpfjhjoieaaProg
import Derived.Below
import Derived.Deep.Draws
import Derived.Deep.AppendLies
import Derived.Maps.AppendAt
import Derived.OwnWalk
import Derived.Laws.BytesArg
import Derived.Laws.MakeOwn
import Derived.Laws.OwnMore
import Derived.Deep.OwnRows
import Derived.Tactics
import Derived.Lib.ConvBytes
import Derived.Laws.Slices
import Derived.WalkKit
import Derived.KernelRfl
import Derived.RowKit3
import Derived.Deep.LoopGhost
import Derived.Deep.QuietTactic
import Derived.BigQuiet
import Derived.WideLaws
import Derived.Deep.DeepCutAuto
import Derived.Deep.CutBlock
import Derived.Deep.RegionHeld3
import Derived.Laws.Rows
import Derived.Lib.AppendStr
import Derived.ArgAppend
import Derived.Laws.IdiomCopy
import Derived.OrdersHeld
import Derived.Laws.BitsLemmas
import Derived.RowKit
/-! C4 -/
namespace Go.Proofs.Ytifpdpfjhjoieaa.C
open Go.Proofs.Ytifpdpfjhjoieaa.P
open Go.RowKit Go.Proofs.YtifpdpfjhjoieaaW.PrintWords Go.Proofs.YtifpdpfjhjoieaaW.PrintLast Go.Proofs.YtifpdpfjhjoieaaW.PrintMore
attribute [local go_sem] max2_int min2_int max_two min_two max_three min_three max_four min_four   -- for this text's walks alone
set_option linter.unusedVariables false
set_option linter.unusedSimpArgs false
/-! ### pyxref05_Stream: function 25 -/
mutual
def pyxref05_Stream.j0 : Nat → List Int → List Int → List Int → Bool → Option (List Int × Int)
 | 0, _, _, _, _ => none
 | k + 1, x0, x1, x2, x23 => if x23 = true then (some (([] : List Int), 1)) else (if (x2.length : Int) = 0 then (some (([] : List Int), 0)) else ((pyxref05_boxes.f k).bind fun t172 => ((pyxref05_keys.f k x0 t172).bind fun t175 => (pyxref05_Stream.l0 k x1 x2 ([] : List Int) t172 t175 0))))
def pyxref05_Stream.l0 : Nat → List Int → List Int → List Int → List Int → List Int → Int → Option (List Int × Int)
 | 0, _, _, _, _, _, _ => none
 | k + 1, x1, x2, x8, x9, x10, x11 => if x11 < (x2.length : Int) then ((pyxref01_Num.f (wrap64 ((wrap64 (Int.tdiv x11 16)) + 1)) 4).bind fun bt178 => ((some (([] : List Int) : List Int)).bind fun y182 => (if y182.length + x1.length < 140737488355328 then ((some (y182 ++ x1 : List Int)).bind fun y185 => (if y185.length + bt178.1.length < 140737488355328 then ((pyxref05_lock.f k x10 x9 (y185 ++ bt178.1)).bind fun t191 => (pyxref05_Stream.l1 k x1 x2 x8 x9 x10 x11 t191 x11)) else (none))) else (none)))) else (some (x8, 0))
def pyxref05_Stream.l1 : Nat → List Int → List Int → List Int → List Int → List Int → Int → List Int → Int → Option (List Int × Int)
 | 0, _, _, _, _, _, _, _, _ => none
 | k + 1, x1, x2, x8, x9, x10, x11, x14, x15 => if x15 < (wrap64 (x11 + 16)) then (if x15 < (x2.length : Int) then (if 0 ≤ x15 then (if 0 ≤ (wrap64 (x15 - x11)) then (if (wrap64 (x15 - x11)) < (x14.length : Int) then (if x8.length < 140737488355328 then (pyxref05_Stream.l1 k x1 x2 (x8 ++ [Go.bits .xor .u8 (rd x2 x15) (rd x14 (wrap64 (x15 - x11)))]) x9 x10 x11 x14 (wrap64 (x15 + 1))) else (none)) else (none)) else (none)) else (none)) else (pyxref05_Stream.l0 k x1 x2 x8 x9 x10 (wrap64 (x11 + 16)))) else (pyxref05_Stream.l0 k x1 x2 x8 x9 x10 (wrap64 (x11 + 16)))
end
def pyxref05_Stream.f (k : Nat) (l0 : List Int) (l1 : List Int) (l2 : List Int) : Option (List Int × Int) := if (l0.length : Int) = 16 then (pyxref05_Stream.j0 k l0 l1 l2 ((l1.length : Int) != 12)) else (pyxref05_Stream.j0 k l0 l1 l2 true)
def pyxref05_Stream.T16 : Bool × List (List Nat × List Nat) := (true, [([], []), ([], []), ([], []), ([1, 2], [1, 2]), ([3], [3]), ([], []), ([], []), ([], []), ([6, 7], [6, 7]), ([5, 8], [5, 8]), ([9], [9]), ([4, 10], [4, 10]), ([11], [11]), ([0, 12], [0, 12]), ([13, 13, 0, 1, 2, 3, 4, 5, 6, 7, 8, 9, 10, 11, 12, 13], [0, 13])])
def pyxref05_Stream.B16 : List Nat := [0, 0, 0, 6, 14, 0, 0, 0, 192, 480, 992, 2046, 4094, 8191, 16383]
theorem pyxref05_Stream.tab16 : rtab .any (opsOf Try.f25 16) = pyxref05_Stream.T16 := by kernel_rfl
theorem pyxref05_Stream.bits16 : waitsOk pyxref05_Stream.T16.2 pyxref05_Stream.B16 = true := by kernel_rfl
set_option maxHeartbeats 8000000 in
set_option maxRecDepth 100000 in
theorem pyxref05_Stream.calls (k : Nat) (A0 : Option Addr) (c0 : Nat) (l0 : List Int) (A1 : Option Addr) (c1 : Nat) (l1 : List Int) (A2 : Option Addr) (c2 : Nat) (l2 : List Int) (r1 : List Int) (r2 : Int) (w : World) (hr0 : Kd.C (Kd.int .u8) w A0 l0.length l0) (hc0 : l0.length ≤ c0) (hr1 : Kd.C (Kd.int .u8) w A1 l1.length l1) (hc1 : l1.length ≤ c1) (hr2 : Kd.C (Kd.int .u8) w A2 l2.length l2) (hc2 : l2.length ≤ c2) (h : pyxref05_Stream.f k l0 l1 l2 = some (r1, r2)) :
  Calls Try.prog 25 #[.slice A0 l0.length c0, .slice A1 l1.length c1, .slice A2 l2.length c2] w fun e w' => ∃ v0_ : Value, e = .returned (.tuple #[v0_, .int .i64 r2]) ∧ Kd.R (Kd.int .u8) 5 w' w.heap.size (fun _ => True) v0_ r1 ∧ Below w.heap.size w w' := by
 have HR0 := Aside0.mk hr0
 have HC0 := Aside0.mk hc0
 clear hr0 hc0
 have HR1 := Aside0.mk hr1
 have HC1 := Aside0.mk hc1
 clear hr1 hc1
 have HR2 := Aside0.mk hr2
 have HC2 := Aside0.mk hc2
 clear hr2 hc2
 have HB := Aside0.mk (Below.refl w.heap.size w)
 have H : (if (l0.length : Int) = 16 then (pyxref05_Stream.j0 k l0 l1 l2 ((l1.length : Int) != 12)) else (pyxref05_Stream.j0 k l0 l1 l2 true)) = some (r1, r2) := h
 clear h
 have HC4 := Aside0.mk H
 clear H
 go_enter Try.func25, Try.ntmps25
 go_upto_region 1 with (fail)
 go_cut [23] (fun v23 wc => ∃ (kq : Nat) (x23_3 : Bool), v23 = .bool x23_3 ∧ Aside0 (pyxref05_Stream.j0 kq l0 l1 l2 x23_3 = some (r1, r2)) ∧ Aside0 (kq ≤ k) ∧ Aside0 (Below w.heap.size w wc))
 case first =>
  have H := HC4.out
  clear HC4
  by_cases c5 : (l0.length : Int) = 16
  ·rw [if_pos c5] at H
   have c5b0 : ((l0.length : Int) == 16) = true := beq_iff_eq.mpr c5
   have c5b1 : ((l0.length : Int) != 16) = false := bne_eq_false_iff_eq.mpr c5
   clear c5
   (first | rw [c5b0] | (simp only [i64_w, i32_w]; rw [c5b0]) | skip)
   have H' := Aside0.mk H
   clear H
   go_wp2
   go_meet
   case rel => exact ⟨_, (((l1.length : Int) != 12)), (by first | rfl | (simp; done) | (simp [*]; done)), H', ⟨by first | omega | exact Nat.le_refl _⟩, ⟨by repeat (first | (with_reducible first | exact HB.out | apply below_alloc | apply pw_below_drewN | apply below_drew1) | exact HB.out)⟩⟩
  ·rw [if_neg c5] at H
   have c5b0 : ((l0.length : Int) == 16) = false := beq_eq_false_iff_ne.mpr c5
   have c5b1 : ((l0.length : Int) != 16) = true := bne_iff_ne.mpr c5
   (first | rw [c5b0] | (simp only [i64_w, i32_w]; rw [c5b0]) | skip)
   have H' := Aside0.mk H
   clear H
   go_wp2
   go_meet
   case rel => exact ⟨_, (true), (by first | rfl | (simp; done) | (simp [*]; done)), H', ⟨by first | omega | exact Nat.le_refl _⟩, ⟨by repeat (first | (with_reducible first | exact HB.out | apply below_alloc | apply pw_below_drewN | apply below_drew1) | exact HB.out)⟩⟩
 case rest =>
  clear HC4
  try clear c1
  try clear c2
  try clear p2
  try clear c5
  try clear c5b0
  try clear c5b1
  obtain ⟨kq, x23_3, rfl, HA, HJ3, HB⟩ := hcut
  cases kq with
  | zero => exact absurd HA.out (by simp [pyxref05_Stream.j0])
  | succ kj3 =>
   have H := HA.out
   clear HA
   simp only [pyxref05_Stream.j0] at H
   by_cases c6 : x23_3 = true
   ·subst c6
    have H1 : (some (([] : List Int), 1)) = some (r1, r2) := by rw [if_pos rfl] at H; exact H
    clear H
    have H := H1
    clear H1
    simp only [Option.some.injEq, Prod.mk.injEq] at H
    obtain ⟨rfl, rfl⟩ := H
    go_wp2
    go_ret2
    exact ⟨_, by first | rfl | (simp [errW_none, errW_some] <;> rfl) | (simp [*, errW_none, errW_some] <;> rfl), by first | exact Kd.R_nil _ _ _ _ _ | exact Kd.N_nil _ _ _ _ _ | exact Kd.V_nil _ _ _ _ _ | exact Kd.Q_nil _ _ _ _ _ | exact Kd.S_nil _ _ _ _ _, by repeat (first | (with_reducible first | exact HB.out | apply below_alloc | apply pw_below_drewN | apply below_drew1) | exact HB.out)⟩
   ·replace c6 := Bool.eq_false_iff.mpr c6
    subst c6
    have H1 : (if (l2.length : Int) = 0 then (some (([] : List Int), 0)) else ((pyxref05_boxes.f kj3).bind fun t172 => ((pyxref05_keys.f kj3 l0 t172).bind fun t175 => (pyxref05_Stream.l0 kj3 l1 l2 ([] : List Int) t172 t175 0)))) = some (r1, r2) := by rw [if_neg (show ¬ (false = true) by decide)] at H; exact H
    clear H
    have H := H1
    clear H1
    by_cases c7 : (l2.length : Int) = 0
    ·rw [if_pos c7] at H
     have c7b0 : ((l2.length : Int) == 0) = true := beq_iff_eq.mpr c7
     have c7b1 : ((l2.length : Int) != 0) = false := bne_eq_false_iff_eq.mpr c7
     clear c7
     simp only [Option.some.injEq, Prod.mk.injEq] at H
     obtain ⟨rfl, rfl⟩ := H
     go_wp2
     go_ret2
     exact ⟨_, by first | rfl | (simp [errW_none, errW_some] <;> rfl) | (simp [*, errW_none, errW_some] <;> rfl), by first | exact Kd.R_nil _ _ _ _ _ | exact Kd.N_nil _ _ _ _ _ | exact Kd.V_nil _ _ _ _ _ | exact Kd.Q_nil _ _ _ _ _ | exact Kd.S_nil _ _ _ _ _, by repeat (first | (with_reducible first | exact HB.out | apply below_alloc | apply pw_below_drewN | apply below_drew1) | exact HB.out)⟩
    ·rw [if_neg c7] at H
     have c7b0 : ((l2.length : Int) == 0) = false := beq_eq_false_iff_ne.mpr c7
     have c7b1 : ((l2.length : Int) != 0) = true := bne_iff_ne.mpr c7
     have c7b2 : ¬ (l2 = []) := fun h_ => c7 (by rw [h_]; rfl)
     replace H := Option.bind_eq_some_iff.mp H
     obtain ⟨t172, A80, H⟩ := H
     replace H : ((pyxref05_keys.f kj3 l0 t172).bind fun t175 => (pyxref05_Stream.l0 kj3 l1 l2 ([] : List Int) t172 t175 0)) = some (r1, r2) := H
     have A8 := Aside0.mk A80
     clear A80
     replace H := Option.bind_eq_some_iff.mp H
     obtain ⟨t175, A90, H⟩ := H
     replace H : (pyxref05_Stream.l0 kj3 l1 l2 ([] : List Int) t172 t175 0) = some (r1, r2) := H
     have A9 := Aside0.mk A90
     clear A90
     have H' := Aside0.mk H
     clear H
     go_wp2_with (first | ((with_reducible refine gate_callee (f := 52) rfl ?_); refine goesL_ (some 28) rfl rfl Try.func52 (by kernel_rfl) rfl #[] rfl (by (try simp only [List.map_toArray, List.map_cons, List.map_nil]); first | done | rfl | (simp only [List.length_drop, List.length_take]; rfl)) ?_; (with_reducible refine (pyxref05_boxes.calls kj3  t172 _ A8.out).mono ?_); rintro e w10 ⟨v173, rfl, ho0, hb⟩; refine ⟨_, rfl, ?_⟩; have n0_ := Aside0.mk (Kd.R_lower ho0 (below_size (by repeat (first | (with_reducible first | exact HB.out | apply below_alloc | apply pw_below_drewN | apply below_drew1) | exact HB.out)))); have n1_ := Aside0.mk (below_step (by repeat (first | (with_reducible first | exact HB.out | apply below_alloc | apply pw_below_drewN | apply below_drew1) | exact HB.out)) hb); clear HB; have HO174 := n0_; have HB := n1_; clear n0_ n1_; (try clear hb); (try clear hb2); (try clear hk); (try clear hi); (try clear ho0); obtain ⟨Ao11, co11, eo11⟩ := Kd.R_slice HO174.out; subst eo11) | ((with_reducible refine gate_callee (f := 53) rfl ?_); refine goesL_ (some 31) rfl rfl Try.func53 (by kernel_rfl) rfl #[.slice A0 l0.length c0, .slice Ao11 t172.length co11] rfl (by (try simp only [List.map_toArray, List.map_cons, List.map_nil]); first | done | rfl | (simp only [List.length_drop, List.length_take]; rfl)) ?_; (with_reducible refine (pyxref05_keys.calls kj3 _ _ l0 _ _ t172 t175 _ ?side1 ?side2 ?side3 ?side4 A9.out).mono ?_); (case side1 => repeat (first | exact (Kd.C_below HR0.out HB.out) | (with_reducible refine Kd.C_alloc ?_ _) | (with_reducible refine Kd.C_drewN ?_ _) | (with_reducible refine Kd.C_drew ?_))); (case side2 => exact HC0.out); (case side3 => repeat (first | exact (Kd.R_reads' HO174.out).2.2 | (with_reducible refine Kd.C_alloc ?_ _) | (with_reducible refine Kd.C_drewN ?_ _) | (with_reducible refine Kd.C_drew ?_))); (case side4 => exact (Kd.R_reads' HO174.out).2.1); rintro e w12 ⟨v176, rfl, ho0, hb⟩; refine ⟨_, rfl, ?_⟩; have n0_ := Aside0.mk (Kd.R_elder' (by (with_reducible repeat (first | apply Kd.R_alloc | apply Kd.R_drewN | apply Kd.R_drew)); exact HO174.out) (Kd.R_base ho0) hb); have n1_ := Aside0.mk (Kd.R_lower (Kd.R_new' ho0 (Kd.R_lt (by (with_reducible repeat (first | apply Kd.R_alloc | apply Kd.R_drewN | apply Kd.R_drew)); exact HO174.out))) (below_size (by repeat (first | (with_reducible first | exact HB.out | apply below_alloc | apply pw_below_drewN | apply below_drew1) | exact HB.out)))); have n2_ := Aside0.mk (below_step (by repeat (first | (with_reducible first | exact HB.out | apply below_alloc | apply pw_below_drewN | apply below_drew1) | exact HB.out)) hb); clear HO174; clear HB; have HO174 := n0_; have HO177 := n1_; have HB := n2_; clear n0_ n1_ n2_; (try clear hb); (try clear hb2); (try clear hk); (try clear hi); (try clear ho0)))
     go_loopg [8, 11] kj3 (fun kq v8 v11 w' => ∃ (x8_2 : List Int) (x11_2 : Int), v11 = .int .i64 x11_2 ∧ Aside0 (pyxref05_Stream.l0 kq l1 l2 x8_2 t172 t175 x11_2 = some (r1, r2)) ∧ Aside0 (kq ≤ kj3) ∧ Aside0 (Kd.R (Kd.int .u8) 5 w' w.heap.size (fun k_ => some k_ ≠ ((.slice Ao11 t172.length co11) : Value).ownBlock ∧ some k_ ≠ (v176 : Value).ownBlock) v8 x8_2) ∧ Aside0 (Kd.R (Kd.int .u8) 5 w' w.heap.size (fun k_ => some k_ ≠ (v8 : Value).ownBlock ∧ some k_ ≠ (v176 : Value).ownBlock) (.slice Ao11 t172.length co11) t172) ∧ Aside0 (Kd.R (Kd.int .u8) 5 w' w.heap.size (fun k_ => some k_ ≠ (v8 : Value).ownBlock ∧ some k_ ≠ ((.slice Ao11 t172.length co11) : Value).ownBlock) v176 t175) ∧ Aside0 (Below w.heap.size w w'))
     case atStart => exact ⟨(([] : List Int)), (0), (by first | rfl | (simp; done) | (simp [*]; done)), H', ⟨Nat.le_refl _⟩, ⟨by first | exact Kd.R_nil _ _ _ _ _ | exact Kd.N_nil _ _ _ _ _ | exact Kd.V_nil _ _ _ _ _ | exact Kd.Q_nil _ _ _ _ _ | exact Kd.S_nil _ _ _ _ _⟩, ⟨by (with_reducible repeat (first | apply Kd.R_alloc | apply Kd.R_drewN | apply Kd.R_drew)); exact Kd.R_mono HO174.out (fun _ hk => ⟨(by simp [Value.ownBlock]), hk.2⟩)⟩, ⟨by (with_reducible repeat (first | apply Kd.R_alloc | apply Kd.R_drewN | apply Kd.R_drew)); exact Kd.R_mono HO177.out (fun _ hk => ⟨(by simp [Value.ownBlock]), hk.2⟩)⟩, ⟨by repeat (first | (with_reducible first | exact HB.out | apply below_alloc | apply pw_below_drewN | apply below_drew1) | exact HB.out)⟩⟩
     case round =>
      clear H'
      try clear c1
      try clear c2
      try clear p2
      try clear c5
      try clear c5b0
      try clear c5b1
      try clear c6
      try clear c7
      try clear c7b0
      try clear c7b1
      try clear c7b2
      try clear p2
      obtain ⟨x8_2, x11_2, rfl, HA, HK2, HO_8, HO_9, HO_10, HB⟩ := hrel
      cases gk with
      | zero => exact absurd HA.out (by simp [pyxref05_Stream.l0])
      | succ k2 =>
       have H := HA.out
       clear HA
       simp only [pyxref05_Stream.l0] at H
       by_cases c13 : x11_2 < (l2.length : Int)
       ·rw [if_pos c13] at H
        have c13b0 : decide (x11_2 < (l2.length : Int)) = true := decide_eq_true c13
        clear c13
        replace H := Option.bind_eq_some_iff.mp H
        obtain ⟨⟨t178, t179⟩, A140, H⟩ := H
        replace H : ((some (([] : List Int) : List Int)).bind fun y182 => (if y182.length + l1.length < 140737488355328 then ((some (y182 ++ l1 : List Int)).bind fun y185 => (if y185.length + t178.length < 140737488355328 then ((pyxref05_lock.f k2 t175 t172 (y185 ++ t178)).bind fun t191 => (pyxref05_Stream.l1 k2 l1 l2 x8_2 t172 t175 x11_2 t191 x11_2)) else (none))) else (none))) = some (r1, r2) := H
        have A14 := Aside0.mk A140
        clear A140
        obtain ⟨y182, hy182⟩ : ∃ y_ : List Int, y_ = (([] : List Int)) := ⟨_, rfl⟩
        replace H : (if y182.length + l1.length < 140737488355328 then ((some (y182 ++ l1 : List Int)).bind fun y185 => (if y185.length + t178.length < 140737488355328 then ((pyxref05_lock.f k2 t175 t172 (y185 ++ t178)).bind fun t191 => (pyxref05_Stream.l1 k2 l1 l2 x8_2 t172 t175 x11_2 t191 x11_2)) else (none))) else (none)) = some (r1, r2) := by first | (rw [hy182]; with_reducible exact H) | (have H2_ := (Option.bind_some _ _).symm.trans H; rw [hy182]; with_reducible exact H2_) | (have H2_ := (Option.bind_some _ _).symm.trans H; with_reducible exact H2_) | with_reducible exact H | (rw [hy182]; exact H) | exact H
        have Ny182 := Aside0.mk hy182
        clear hy182
        by_cases c15 : y182.length + l1.length < 140737488355328
        ·rw [if_pos c15] at H
         have LMc15 := Aside0.mk c15
         clear c15
         obtain ⟨y185, hy185⟩ : ∃ y_ : List Int, y_ = (y182 ++ l1) := ⟨_, rfl⟩
         replace H : (if y185.length + t178.length < 140737488355328 then ((pyxref05_lock.f k2 t175 t172 (y185 ++ t178)).bind fun t191 => (pyxref05_Stream.l1 k2 l1 l2 x8_2 t172 t175 x11_2 t191 x11_2)) else (none)) = some (r1, r2) := by first | (rw [hy185]; with_reducible exact H) | (have H2_ := (Option.bind_some _ _).symm.trans H; rw [hy185]; with_reducible exact H2_) | (have H2_ := (Option.bind_some _ _).symm.trans H; with_reducible exact H2_) | with_reducible exact H | (rw [hy185]; exact H) | exact H
         have Ny185 := Aside0.mk hy185
         clear hy185
         by_cases c16 : y185.length + t178.length < 140737488355328
         ·rw [if_pos c16] at H
          have LMc16 := Aside0.mk c16
          clear c16
          obtain ⟨y188, hy188⟩ : ∃ y_ : List Int, y_ = (y185 ++ t178) := ⟨_, rfl⟩
          replace H : ((pyxref05_lock.f k2 t175 t172 y188).bind fun t191 => (pyxref05_Stream.l1 k2 l1 l2 x8_2 t172 t175 x11_2 t191 x11_2)) = some (r1, r2) := by first | (rw [hy188]; with_reducible exact H) | (have H2_ := (Option.bind_some _ _).symm.trans H; rw [hy188]; with_reducible exact H2_) | (have H2_ := (Option.bind_some _ _).symm.trans H; with_reducible exact H2_) | with_reducible exact H | (rw [hy188]; exact H) | exact H
          have Ny188 := Aside0.mk hy188
          clear hy188
          replace H := Option.bind_eq_some_iff.mp H
          obtain ⟨t191, A170, H⟩ := H
          replace H : (pyxref05_Stream.l1 k2 l1 l2 x8_2 t172 t175 x11_2 t191 x11_2) = some (r1, r2) := H
          have A17 := Aside0.mk A170
          clear A170
          have H' := Aside0.mk H
          clear H
          go_wp2_with (first | ((with_reducible refine gate_callee (f := 54) rfl ?_); refine goesL_ (some 42) rfl rfl Try.func54 (by kernel_rfl) rfl #[.int .i64 (wrap64 ((wrap64 (Int.tdiv x11_2 16)) + 1)), .int .i64 4] rfl (by (try simp only [List.map_toArray, List.map_cons, List.map_nil]); first | done | rfl | (simp only [List.length_drop, List.length_take]; rfl)) ?_; (with_reducible refine (pyxref01_Num.calls (wrap64 ((wrap64 (Int.tdiv x11_2 16)) + 1)) 4 t178 t179 _ A14.out).mono ?_); rintro e w18 ⟨v180, rfl, ho0, hb⟩; refine ⟨_, rfl, ?_⟩; have n0_ := Aside0.mk (Kd.R_elder' (by (with_reducible repeat (first | apply Kd.R_alloc | apply Kd.R_drewN | apply Kd.R_drew)); exact HO_8.out) (Kd.R_base ho0) hb); have n1_ := Aside0.mk (Kd.R_elder' (by (with_reducible repeat (first | apply Kd.R_alloc | apply Kd.R_drewN | apply Kd.R_drew)); exact HO_9.out) (Kd.R_base ho0) hb); have n2_ := Aside0.mk (Kd.R_elder' (by (with_reducible repeat (first | apply Kd.R_alloc | apply Kd.R_drewN | apply Kd.R_drew)); exact HO_10.out) (Kd.R_base ho0) hb); have n3_ := Aside0.mk (Kd.R_lower (Kd.R_new' (Kd.R_new' (Kd.R_new' ho0 (Kd.R_lt (by (with_reducible repeat (first | apply Kd.R_alloc | apply Kd.R_drewN | apply Kd.R_drew)); exact HO_8.out))) (Kd.R_lt (by (with_reducible repeat (first | apply Kd.R_alloc | apply Kd.R_drewN | apply Kd.R_drew)); exact HO_9.out))) (Kd.R_lt (by (with_reducible repeat (first | apply Kd.R_alloc | apply Kd.R_drewN | apply Kd.R_drew)); exact HO_10.out))) (below_size (by repeat (first | (with_reducible first | exact HB.out | apply below_alloc | apply pw_below_drewN | apply below_drew1) | exact HB.out)))); have n4_ := Aside0.mk (below_step (by repeat (first | (with_reducible first | exact HB.out | apply below_alloc | apply pw_below_drewN | apply below_drew1) | exact HB.out)) hb); clear HO_8; clear HO_9; clear HO_10; clear HB; have HO_8 := n0_; have HO_9 := n1_; have HO_10 := n2_; have HO181 := n3_; have HB := n4_; clear n0_ n1_ n2_ n3_ n4_; (try clear hb); (try clear hb2); (try clear hk); (try clear hi); (try clear ho0)) | ((with_reducible refine gate_dst (N := 47) rfl ?_); (try (refine gate_guard (by rfl) ?_; dsimp only)); refine Kd.R_lit (Kd.int .u8) _ 5 ?hg (N := 47) ?hd (xs := ([] : List Int)) (inner := []) (ok := fun _ => True) (okp := fun _ => True) ?hr ?hp (fun _ hk => hk) trivial (Below.refl _ _) (Nat.le_refl _) (by simp) ?_; (case hd => rfl); (case hg => rfl); (case hr => first | (go_simp; done) | (go_simp; rfl)); (case hp => exact (Reps.none _ _)); intro v183 w19 ho20 hb hg_ hnew_; clear hg_ hnew_; (first | rw [← Ny182.out] at ho20 | (simp only [Int.reduceToNat] at ho20; rw [← Ny182.out] at ho20)); have n0_ := Aside0.mk (Kd.R_elder' (by (with_reducible repeat (first | apply Kd.R_alloc | apply Kd.R_drewN | apply Kd.R_drew)); exact HO_8.out) (Kd.R_base ho20) hb); have n1_ := Aside0.mk (Kd.R_elder' (by (with_reducible repeat (first | apply Kd.R_alloc | apply Kd.R_drewN | apply Kd.R_drew)); exact HO_9.out) (Kd.R_base ho20) hb); have n2_ := Aside0.mk (Kd.R_elder' (by (with_reducible repeat (first | apply Kd.R_alloc | apply Kd.R_drewN | apply Kd.R_drew)); exact HO_10.out) (Kd.R_base ho20) hb); have n3_ := Aside0.mk (Kd.R_elder' (by (with_reducible repeat (first | apply Kd.R_alloc | apply Kd.R_drewN | apply Kd.R_drew)); exact HO181.out) (Kd.R_base ho20) hb); have n4_ := Aside0.mk (Kd.R_lower (Kd.R_new' (Kd.R_new' (Kd.R_new' (Kd.R_new' ho20 (Kd.R_lt (by (with_reducible repeat (first | apply Kd.R_alloc | apply Kd.R_drewN | apply Kd.R_drew)); exact HO_8.out))) (Kd.R_lt (by (with_reducible repeat (first | apply Kd.R_alloc | apply Kd.R_drewN | apply Kd.R_drew)); exact HO_9.out))) (Kd.R_lt (by (with_reducible repeat (first | apply Kd.R_alloc | apply Kd.R_drewN | apply Kd.R_drew)); exact HO_10.out))) (Kd.R_lt (by (with_reducible repeat (first | apply Kd.R_alloc | apply Kd.R_drewN | apply Kd.R_drew)); exact HO181.out))) (below_size (by repeat (first | (with_reducible first | exact HB.out | apply below_alloc | apply pw_below_drewN | apply below_drew1) | exact HB.out)))); have n5_ := Aside0.mk (below_step (by repeat (first | (with_reducible first | exact HB.out | apply below_alloc | apply pw_below_drewN | apply below_drew1) | exact HB.out)) hb); clear HO_8; clear HO_9; clear HO_10; clear HO181; clear HB; have HO_8 := n0_; have HO_9 := n1_; have HO_10 := n2_; have HO181 := n3_; have HO184 := n4_; have HB := n5_; clear n0_ n1_ n2_ n3_ n4_ n5_; clear hb ho20) | ((with_reducible refine gate_builtin (b := .append) (xs := #[.tmp 47, .tmp 48]) rfl ?_); (try (refine gate_guard (by rfl) ?_; dsimp only)); at_builtin; refine Kd.R_append_rows (Kd.int .u8) (w0 := w) w.heap.size rfl (.tmp 47) (.tmp 48) 22 5 (.int .u8 0) 1 rfl Try.underlying22 info5 rfl (by decide) (by omega) v183 y182 l1 _ _ _ (fun k_ => some k_ ≠ (u8 : Value).ownBlock ∧ some k_ ≠ (.slice Ao11 t172.length co11 : Value).ownBlock ∧ some k_ ≠ (v176 : Value).ownBlock ∧ some k_ ≠ (v180 : Value).ownBlock) (fun _ => False) rfl rfl ?aO ?aR (fun _ _ h => h) (fun _ h => h.elim) ?aF ?aB ?aS ?aL ?_; (case aR => repeat (first | exact (Kd.C_below HR1.out HB.out) | (with_reducible refine Kd.C_alloc ?_ _) | (with_reducible refine Kd.C_drewN ?_ _) | (with_reducible refine Kd.C_drew ?_))); (case aB => exact (by repeat (first | (with_reducible first | exact HB.out | apply below_alloc | apply pw_below_drewN | apply below_drew1) | exact HB.out))); (case aF => exact (fun k_ hk => ⟨Kd.fresh' (Kd.R_lt (by (with_reducible repeat (first | apply Kd.R_alloc | apply Kd.R_drewN | apply Kd.R_drew)); exact HO_8.out)) k_ hk, Kd.fresh' (Kd.R_lt (by (with_reducible repeat (first | apply Kd.R_alloc | apply Kd.R_drewN | apply Kd.R_drew)); exact HO_9.out)) k_ hk, Kd.fresh' (Kd.R_lt (by (with_reducible repeat (first | apply Kd.R_alloc | apply Kd.R_drewN | apply Kd.R_drew)); exact HO_10.out)) k_ hk, Kd.fresh' (Kd.R_lt (by (with_reducible repeat (first | apply Kd.R_alloc | apply Kd.R_drewN | apply Kd.R_drew)); exact HO181.out)) k_ hk⟩)); (case aO => exact (by (with_reducible repeat (first | apply Kd.R_alloc | apply Kd.R_drewN | apply Kd.R_drew)); exact Kd.R_mono HO184.out (fun _ hk => ⟨hk.1.1.1.2, ⟨hk.1.1.2, ⟨hk.1.2, hk.2⟩⟩⟩))); (case aS => exact (below_size (by repeat (first | (with_reducible first | exact HB.out | apply below_alloc | apply pw_below_drewN | apply below_drew1) | exact HB.out)))); (case aL => have := LMc15.out; omega); intro v186 w21 ho hb hg hat; rw [← Ny185.out] at ho; have n0_ := Aside0.mk (Kd.R_after (ok := (fun k_ => some k_ ≠ (.slice Ao11 t172.length co11 : Value).ownBlock ∧ some k_ ≠ (v176 : Value).ownBlock ∧ some k_ ≠ (v180 : Value).ownBlock)) (by (with_reducible repeat (first | apply Kd.R_alloc | apply Kd.R_drewN | apply Kd.R_drew)); exact Kd.R_mono HO_8.out (fun _ hk => ⟨⟨hk.1.1.1, ⟨hk.1.1.2, hk.1.2⟩⟩, hk.2⟩)) hg hat); have n1_ := Aside0.mk (Kd.R_after (ok := (fun k_ => some k_ ≠ (u8 : Value).ownBlock ∧ some k_ ≠ (v176 : Value).ownBlock ∧ some k_ ≠ (v180 : Value).ownBlock)) (by (with_reducible repeat (first | apply Kd.R_alloc | apply Kd.R_drewN | apply Kd.R_drew)); exact Kd.R_mono HO_9.out (fun _ hk => ⟨⟨hk.1.1.1, ⟨hk.1.1.2, hk.1.2⟩⟩, hk.2⟩)) hg hat); have n2_ := Aside0.mk (Kd.R_after (ok := (fun k_ => some k_ ≠ (u8 : Value).ownBlock ∧ some k_ ≠ (.slice Ao11 t172.length co11 : Value).ownBlock ∧ some k_ ≠ (v180 : Value).ownBlock)) (by (with_reducible repeat (first | apply Kd.R_alloc | apply Kd.R_drewN | apply Kd.R_drew)); exact Kd.R_mono HO_10.out (fun _ hk => ⟨⟨hk.1.1.1, ⟨hk.1.1.2, hk.1.2⟩⟩, hk.2⟩)) hg hat); have n3_ := Aside0.mk (Kd.R_after (ok := (fun k_ => some k_ ≠ (u8 : Value).ownBlock ∧ some k_ ≠ (.slice Ao11 t172.length co11 : Value).ownBlock ∧ some k_ ≠ (v176 : Value).ownBlock)) (by (with_reducible repeat (first | apply Kd.R_alloc | apply Kd.R_drewN | apply Kd.R_drew)); exact Kd.R_mono HO181.out (fun _ hk => ⟨⟨hk.1.1.1.2, ⟨hk.1.1.2, hk.1.2⟩⟩, hk.2⟩)) hg hat); have n4_ := Aside0.mk (hb); have n5_ := Aside0.mk (ho); clear HO_8; clear HO_9; clear HO_10; clear HO181; clear HB; clear HO184; have HO_8 := n0_; have HO_9 := n1_; have HO_10 := n2_; have HO181 := n3_; have HB := n4_; have HO187 := n5_; clear n0_ n1_ n2_ n3_ n4_ n5_; clear ho hb hg hat; obtain ⟨Ao23, co23, eo23⟩ := Kd.R_slice HO181.out; subst eo23) | ((with_reducible refine gate_builtin (b := .append) (xs := #[.tmp 49, .tmp 50]) rfl ?_); (try (refine gate_guard (by rfl) ?_; dsimp only)); at_builtin; refine Kd.R_append_rows (Kd.int .u8) (w0 := w) w.heap.size rfl (.tmp 49) (.tmp 50) 22 5 (.int .u8 0) 1 rfl Try.underlying22 info5 rfl (by decide) (by omega) v186 y185 t178 _ _ _ (fun k_ => some k_ ≠ (u8 : Value).ownBlock ∧ some k_ ≠ (.slice Ao11 t172.length co11 : Value).ownBlock ∧ some k_ ≠ (v176 : Value).ownBlock ∧ some k_ ≠ (.slice Ao23 t178.length co23 : Value).ownBlock) (fun _ => False) rfl rfl ?aO ?aR (fun _ _ h => h) (fun _ h => h.elim) ?aF ?aB ?aS ?aL ?_; (case aR => repeat (first | exact (Kd.R_reads' HO181.out).2.2 | (with_reducible refine Kd.C_alloc ?_ _) | (with_reducible refine Kd.C_drewN ?_ _) | (with_reducible refine Kd.C_drew ?_))); (case aB => exact (by repeat (first | (with_reducible first | exact HB.out | apply below_alloc | apply pw_below_drewN | apply below_drew1) | exact HB.out))); (case aF => exact (fun k_ hk => ⟨Kd.fresh' (Kd.R_lt (by (with_reducible repeat (first | apply Kd.R_alloc | apply Kd.R_drewN | apply Kd.R_drew)); exact HO_8.out)) k_ hk, Kd.fresh' (Kd.R_lt (by (with_reducible repeat (first | apply Kd.R_alloc | apply Kd.R_drewN | apply Kd.R_drew)); exact HO_9.out)) k_ hk, Kd.fresh' (Kd.R_lt (by (with_reducible repeat (first | apply Kd.R_alloc | apply Kd.R_drewN | apply Kd.R_drew)); exact HO_10.out)) k_ hk, Kd.fresh' (Kd.R_lt (by (with_reducible repeat (first | apply Kd.R_alloc | apply Kd.R_drewN | apply Kd.R_drew)); exact HO181.out)) k_ hk⟩)); (case aO => exact (by (with_reducible repeat (first | apply Kd.R_alloc | apply Kd.R_drewN | apply Kd.R_drew)); exact HO187.out)); (case aS => exact (below_size (by repeat (first | (with_reducible first | exact HB.out | apply below_alloc | apply pw_below_drewN | apply below_drew1) | exact HB.out)))); (case aL => have := LMc16.out; omega); intro v189 w22 ho hb hg hat; rw [← Ny188.out] at ho; have n0_ := Aside0.mk (Kd.R_after (ok := (fun k_ => some k_ ≠ (.slice Ao11 t172.length co11 : Value).ownBlock ∧ some k_ ≠ (v176 : Value).ownBlock ∧ some k_ ≠ (.slice Ao23 t178.length co23 : Value).ownBlock)) (by (with_reducible repeat (first | apply Kd.R_alloc | apply Kd.R_drewN | apply Kd.R_drew)); exact HO_8.out) hg hat); have n1_ := Aside0.mk (Kd.R_after (ok := (fun k_ => some k_ ≠ (u8 : Value).ownBlock ∧ some k_ ≠ (v176 : Value).ownBlock ∧ some k_ ≠ (.slice Ao23 t178.length co23 : Value).ownBlock)) (by (with_reducible repeat (first | apply Kd.R_alloc | apply Kd.R_drewN | apply Kd.R_drew)); exact HO_9.out) hg hat); have n2_ := Aside0.mk (Kd.R_after (ok := (fun k_ => some k_ ≠ (u8 : Value).ownBlock ∧ some k_ ≠ (.slice Ao11 t172.length co11 : Value).ownBlock ∧ some k_ ≠ (.slice Ao23 t178.length co23 : Value).ownBlock)) (by (with_reducible repeat (first | apply Kd.R_alloc | apply Kd.R_drewN | apply Kd.R_drew)); exact HO_10.out) hg hat); have n3_ := Aside0.mk (Kd.R_after (ok := (fun k_ => some k_ ≠ (u8 : Value).ownBlock ∧ some k_ ≠ (.slice Ao11 t172.length co11 : Value).ownBlock ∧ some k_ ≠ (v176 : Value).ownBlock)) (by (with_reducible repeat (first | apply Kd.R_alloc | apply Kd.R_drewN | apply Kd.R_drew)); exact HO181.out) hg hat); have n4_ := Aside0.mk (hb); have n5_ := Aside0.mk (ho); clear HO_8; clear HO_9; clear HO_10; clear HO181; clear HB; clear HO187; have HO_8 := n0_; have HO_9 := n1_; have HO_10 := n2_; have HO181 := n3_; have HB := n4_; have HO190 := n5_; clear n0_ n1_ n2_ n3_ n4_ n5_; clear ho hb hg hat; obtain ⟨Ao24, co24, eo24⟩ := Kd.R_slice HO_10.out; subst eo24; obtain ⟨Ao25, co25, eo25⟩ := Kd.R_slice HO190.out; subst eo25) | ((with_reducible refine gate_callee (f := 55) rfl ?_); refine goesL_ (some 52) rfl rfl Try.func55 (by kernel_rfl) rfl #[.slice Ao24 t175.length co24, .slice Ao11 t172.length co11, .slice Ao25 y188.length co25] rfl (by (try simp only [List.map_toArray, List.map_cons, List.map_nil]); first | done | rfl | (simp only [List.length_drop, List.length_take]; rfl)) ?_; (with_reducible refine (pyxref05_lock.calls k2 _ _ t175 _ _ t172 _ _ y188 t191 _ ?side1 ?side2 ?side3 ?side4 ?side5 ?side6 A17.out).mono ?_); (case side1 => repeat (first | exact (Kd.R_reads' HO_10.out).2.2 | (with_reducible refine Kd.C_alloc ?_ _) | (with_reducible refine Kd.C_drewN ?_ _) | (with_reducible refine Kd.C_drew ?_))); (case side2 => exact (Kd.R_reads' HO_10.out).2.1); (case side3 => repeat (first | exact (Kd.R_reads' HO_9.out).2.2 | (with_reducible refine Kd.C_alloc ?_ _) | (with_reducible refine Kd.C_drewN ?_ _) | (with_reducible refine Kd.C_drew ?_))); (case side4 => exact (Kd.R_reads' HO_9.out).2.1); (case side5 => repeat (first | exact (Kd.R_reads' HO190.out).2.2 | (with_reducible refine Kd.C_alloc ?_ _) | (with_reducible refine Kd.C_drewN ?_ _) | (with_reducible refine Kd.C_drew ?_))); (case side6 => exact (Kd.R_reads' HO190.out).2.1); rintro e w26 ⟨v192, rfl, ho0, hb⟩; refine ⟨_, rfl, ?_⟩; have n0_ := Aside0.mk (Kd.R_elder' (by (with_reducible repeat (first | apply Kd.R_alloc | apply Kd.R_drewN | apply Kd.R_drew)); exact HO_8.out) (Kd.R_base ho0) hb); have n1_ := Aside0.mk (Kd.R_elder' (by (with_reducible repeat (first | apply Kd.R_alloc | apply Kd.R_drewN | apply Kd.R_drew)); exact HO_9.out) (Kd.R_base ho0) hb); have n2_ := Aside0.mk (Kd.R_elder' (by (with_reducible repeat (first | apply Kd.R_alloc | apply Kd.R_drewN | apply Kd.R_drew)); exact HO_10.out) (Kd.R_base ho0) hb); have n3_ := Aside0.mk (Kd.R_elder' (by (with_reducible repeat (first | apply Kd.R_alloc | apply Kd.R_drewN | apply Kd.R_drew)); exact HO181.out) (Kd.R_base ho0) hb); have n4_ := Aside0.mk (Kd.R_elder' (by (with_reducible repeat (first | apply Kd.R_alloc | apply Kd.R_drewN | apply Kd.R_drew)); exact HO190.out) (Kd.R_base ho0) hb); have n5_ := Aside0.mk (Kd.R_lower (Kd.R_new' (Kd.R_new' (Kd.R_new' (Kd.R_new' (Kd.R_new' ho0 (Kd.R_lt (by (with_reducible repeat (first | apply Kd.R_alloc | apply Kd.R_drewN | apply Kd.R_drew)); exact HO_8.out))) (Kd.R_lt (by (with_reducible repeat (first | apply Kd.R_alloc | apply Kd.R_drewN | apply Kd.R_drew)); exact HO_9.out))) (Kd.R_lt (by (with_reducible repeat (first | apply Kd.R_alloc | apply Kd.R_drewN | apply Kd.R_drew)); exact HO_10.out))) (Kd.R_lt (by (with_reducible repeat (first | apply Kd.R_alloc | apply Kd.R_drewN | apply Kd.R_drew)); exact HO181.out))) (Kd.R_lt (by (with_reducible repeat (first | apply Kd.R_alloc | apply Kd.R_drewN | apply Kd.R_drew)); exact HO190.out))) (below_size (by repeat (first | (with_reducible first | exact HB.out | apply below_alloc | apply pw_below_drewN | apply below_drew1) | exact HB.out)))); have n6_ := Aside0.mk (below_step (by repeat (first | (with_reducible first | exact HB.out | apply below_alloc | apply pw_below_drewN | apply below_drew1) | exact HB.out)) hb); clear HO_8; clear HO_9; clear HO_10; clear HO181; clear HO190; clear HB; have HO_8 := n0_; have HO_9 := n1_; have HO_10 := n2_; have HO181 := n3_; have HO190 := n4_; have HO193 := n5_; have HB := n6_; clear n0_ n1_ n2_ n3_ n4_ n5_ n6_; (try clear hb); (try clear hb2); (try clear hk); (try clear hi); (try clear ho0)))
          go_loopg [8, 15] k2 (fun kq v8 v15 w' => ∃ (x8_3 : List Int) (x15_3 : Int), v15 = .int .i64 x15_3 ∧ Aside0 (pyxref05_Stream.l1 kq l1 l2 x8_3 t172 t175 x11_2 t191 x15_3 = some (r1, r2)) ∧ Aside0 (kq ≤ k2) ∧ Aside0 (Kd.R (Kd.int .u8) 5 w' w.heap.size (fun k_ => some k_ ≠ ((.slice Ao11 t172.length co11) : Value).ownBlock ∧ some k_ ≠ ((.slice Ao24 t175.length co24) : Value).ownBlock ∧ some k_ ≠ (v192 : Value).ownBlock) v8 x8_3) ∧ Aside0 (Kd.R (Kd.int .u8) 5 w' w.heap.size (fun k_ => some k_ ≠ (v8 : Value).ownBlock ∧ some k_ ≠ ((.slice Ao24 t175.length co24) : Value).ownBlock ∧ some k_ ≠ (v192 : Value).ownBlock) (.slice Ao11 t172.length co11) t172) ∧ Aside0 (Kd.R (Kd.int .u8) 5 w' w.heap.size (fun k_ => some k_ ≠ (v8 : Value).ownBlock ∧ some k_ ≠ ((.slice Ao11 t172.length co11) : Value).ownBlock ∧ some k_ ≠ (v192 : Value).ownBlock) (.slice Ao24 t175.length co24) t175) ∧ Aside0 (Kd.R (Kd.int .u8) 5 w' w.heap.size (fun k_ => some k_ ≠ (v8 : Value).ownBlock ∧ some k_ ≠ ((.slice Ao11 t172.length co11) : Value).ownBlock ∧ some k_ ≠ ((.slice Ao24 t175.length co24) : Value).ownBlock) v192 t191) ∧ Aside0 (Below w.heap.size w w'))
          case atStart => exact ⟨(x8_2), (x11_2), (by first | rfl | (simp; done) | (simp [*]; done)), H', ⟨Nat.le_refl _⟩, ⟨by (with_reducible repeat (first | apply Kd.R_alloc | apply Kd.R_drewN | apply Kd.R_drew)); exact Kd.R_mono HO_8.out (fun _ hk => ⟨hk.1.1.1, ⟨hk.1.1.2.1, hk.2⟩⟩)⟩, ⟨by (with_reducible repeat (first | apply Kd.R_alloc | apply Kd.R_drewN | apply Kd.R_drew)); exact Kd.R_mono HO_9.out (fun _ hk => ⟨hk.1.1.1, ⟨hk.1.1.2.1, hk.2⟩⟩)⟩, ⟨by (with_reducible repeat (first | apply Kd.R_alloc | apply Kd.R_drewN | apply Kd.R_drew)); exact Kd.R_mono HO_10.out (fun _ hk => ⟨hk.1.1.1, ⟨hk.1.1.2.1, hk.2⟩⟩)⟩, ⟨by (with_reducible repeat (first | apply Kd.R_alloc | apply Kd.R_drewN | apply Kd.R_drew)); exact Kd.R_mono HO193.out (fun _ hk => ⟨hk.1.1.1.1.2, ⟨hk.1.1.1.2, hk.1.1.2⟩⟩)⟩, ⟨by repeat (first | (with_reducible first | exact HB.out | apply below_alloc | apply pw_below_drewN | apply below_drew1) | exact HB.out)⟩⟩
          case round =>
           clear H'
           try clear c1
           try clear c2
           try clear p2
           try clear c5
           try clear c5b0
           try clear c5b1
           try clear c6
           try clear p6
           try clear c7
           try clear c7b0
           try clear c7b1
           try clear c7b2
           try clear c13
           try clear c13b0
           try clear c15
           try clear c16
           try clear c25
           try clear p2
           obtain ⟨x8_3, x15_3, rfl, HA, HK3, HO_8, HO_9, HO_10, HO_14, HB⟩ := hrel
           cases gk with
           | zero => exact absurd HA.out (by simp [pyxref05_Stream.l1])
           | succ k3 =>
            have H := HA.out
            clear HA
            simp only [pyxref05_Stream.l1] at H
            by_cases c27 : x15_3 < (wrap64 (x11_2 + 16))
            ·rw [if_pos c27] at H
             have c27b0 : decide (x15_3 < (wrap64 (x11_2 + 16))) = true := decide_eq_true c27
             clear c27
             by_cases c28 : x15_3 < (l2.length : Int)
             ·rw [if_pos c28] at H
              have c28b0 : decide (x15_3 < (l2.length : Int)) = true := decide_eq_true c28
              clear c28
              by_cases c29 : 0 ≤ x15_3
              ·rw [if_pos c29] at H
               have c29b0 : decide (0 ≤ x15_3) = true := decide_eq_true c29
               clear c29
               obtain ⟨ji30, hji30⟩ : ∃ j_ : Int, (wrap64 (x15_3 - x11_2)) = j_ := ⟨_, rfl⟩
               replace H : (if 0 ≤ (ji30) then (if (ji30) < (t191.length : Int) then (if x8_3.length < 140737488355328 then (pyxref05_Stream.l1 k3 l1 l2 (x8_3 ++ [Go.bits .xor .u8 (rd l2 x15_3) (rd t191 (ji30))]) t172 t175 x11_2 t191 (wrap64 (x15_3 + 1))) else (none)) else (none)) else (none)) = some (r1, r2) := by first | (rw [hji30] at H; exact H) | (simp only [hji30] at H ⊢; exact H)
               have hji30w : (IntKind.i64.wrap (x15_3 - x11_2)) = ji30 := (i64_w _).trans hji30
               by_cases c31 : 0 ≤ (ji30)
               ·rw [if_pos c31] at H
                have c31b0 : decide (0 ≤ (ji30)) = true := decide_eq_true c31
                clear c31
                by_cases c32 : (ji30) < (t191.length : Int)
                ·rw [if_pos c32] at H
                 have c32b0 : decide ((ji30) < (t191.length : Int)) = true := decide_eq_true c32
                 clear c32
                 by_cases c33 : x8_3.length < 140737488355328
                 ·rw [if_pos c33] at H
                  have LMc33 := Aside0.mk c33
                  clear c33
                  obtain ⟨y196, hy196⟩ : ∃ y_ : List Int, y_ = (x8_3 ++ [Go.bits .xor .u8 (rd l2 x15_3) (rd t191 (ji30))]) := ⟨_, rfl⟩
                  replace H : (pyxref05_Stream.l1 k3 l1 l2 y196 t172 t175 x11_2 t191 (wrap64 (x15_3 + 1))) = some (r1, r2) := by first | (rw [hy196]; with_reducible exact H) | (have H2_ := (Option.bind_some _ _).symm.trans H; rw [hy196]; with_reducible exact H2_) | (have H2_ := (Option.bind_some _ _).symm.trans H; with_reducible exact H2_) | with_reducible exact H | (rw [hy196]; exact H) | exact H
                  have Ny196 := Aside0.mk hy196
                  clear hy196
                  have H' := Aside0.mk H
                  clear H
                  try go_wp2
                  have n0_ := Aside0.mk (Kd.R_drew HO_8.out)
                  have n1_ := Aside0.mk (Kd.R_drew HO_9.out)
                  have n2_ := Aside0.mk (Kd.R_drew HO_10.out)
                  have n3_ := Aside0.mk (Kd.R_drew HO_14.out)
                  have n4_ := Aside0.mk (below_drew1 HB.out)
                  clear HO_8
                  clear HO_9
                  clear HO_10
                  clear HO_14
                  clear HB
                  have HO_8 := n0_
                  have HO_9 := n1_
                  have HO_10 := n2_
                  have HO_14 := n3_
                  have HB := n4_
                  clear n0_ n1_ n2_ n3_ n4_
                  have p194 : 0 ≤ (x15_3 : Int) := of_decide_eq_true (by first | (with_reducible assumption) | assumption)
                  have q194 : x15_3 < (l2.length : Int) := of_decide_eq_true (by first | (with_reducible assumption) | assumption)
                  obtain ⟨ad194, e194, hx194_0⟩ := Kd.at_int HR2.out x15_3 p194 q194
                  have hw194_0 := hx194_0
                  cases e194
                  replace hx194_0 := (HB.out.cell (World.block_lt_of_cell? w _ hx194_0)).trans hx194_0
                  replace p194 := eq_true p194
                  replace q194 := eq_true q194
                  obtain ⟨Ao35, co35, eo35⟩ := Kd.R_slice HO_14.out
                  (first | subst eo35 | (injection eo35 with f1_ f2_ f3_; have f4_ := f1_.symm; have f5_ := f3_.symm; clear f1_ f2_ f3_; subst f4_; subst f5_))
                  have p195 : 0 ≤ ((ji30) : Int) := of_decide_eq_true (by first | (with_reducible assumption) | assumption)
                  have q195 : (ji30) < (t191.length : Int) := of_decide_eq_true (by first | (with_reducible assumption) | assumption)
                  obtain ⟨ad195, e195, hx195_0⟩ := Kd.at_int (Kd.R_reads' HO_14.out).2.2 (ji30) p195 q195
                  cases e195
                  replace p195 := eq_true p195
                  replace q195 := eq_true q195
                  refine start_ (n := 15) (S := fun w' => w'.cell? (ad194.add (x15_3).toNat) = some (.int .u8 (rd l2 x15_3)) ∧ w'.cell? (ad195.add ((ji30)).toNat) = some (.int .u8 (rd t191 (ji30)))) (ds := [12, 13]) #[false, false, false, false, false, false, false, false, false, false, false, false, false, false, false] (by kernel_rfl) rfl rfl ⟨((HB.out.cell (World.block_lt_of_cell? w _ hw194_0)).trans hw194_0), hx195_0⟩ (fun hHeld => ?_); refine with_tabW pyxref05_Stream.tab16 pyxref05_Stream.bits16 (fun HT_ HW_ => ?_)
                  generalize wr.drew = w34 at HO_8 HO_9 HO_10 HO_14 HB hx194_0 hx195_0 hHeld ⊢
                  refine pure_ (i := 0) (N := some 66) (v := ?_) (a' := ?_) #[true, false, false, false, false, false, false, false, false, false, false, false, false, false, false] rfl rfl (any_of HT_.out (by kernel_rfl)) (fun _ _ _ h => h) (Or.inl ⟨by rfl, ?_⟩) ?_ ?_
                  rotate_left
                  ·intro w'
                   go_simp
                   with_reducible rfl
                  rotate_left
                  ·simp only [Act.put, List.setIfInBounds_toArray, List.set_cons_zero, List.set_cons_succ, i64_w, i32_w]
                   rfl
                  refine pure_ (i := 1) (N := some 67) (v := ?_) (a' := ?_) #[true, true, false, false, false, false, false, false, false, false, false, false, false, false, false] rfl rfl (any_of HT_.out (by kernel_rfl)) (fun _ _ _ h => h) (Or.inl ⟨by rfl, ?_⟩) ?_ ?_
                  rotate_left
                  ·intro w'
                   go_simp
                   with_reducible rfl
                  rotate_left
                  ·simp only [Act.put, List.setIfInBounds_toArray, List.set_cons_zero, List.set_cons_succ, i64_w, i32_w]
                   rfl
                  refine pure_ (i := 2) (N := some 68) (v := ?_) (a' := ?_) #[true, true, true, false, false, false, false, false, false, false, false, false, false, false, false] rfl rfl (any_of HT_.out (by kernel_rfl)) (fun _ _ _ h => h) (Or.inl ⟨by rfl, ?_⟩) ?_ ?_
                  rotate_left
                  ·intro w'
                   go_simp
                   with_reducible rfl
                  rotate_left
                  ·simp only [Act.put, List.setIfInBounds_toArray, List.set_cons_zero, List.set_cons_succ, i64_w, i32_w]
                   rfl
                  refine pure_ (i := 3) (N := some 69) (v := ?_) (a' := ?_) #[true, true, true, true, false, false, false, false, false, false, false, false, false, false, false] rfl rfl (any_of HT_.out (by kernel_rfl)) (fun _ _ _ h => h) (Or.inl ⟨by rfl, ?_⟩) ?_ ?_
                  rotate_left
                  ·intro w'
                   go_simp
                   with_reducible rfl
                  rotate_left
                  ·simp only [Act.put, List.setIfInBounds_toArray, List.set_cons_zero, List.set_cons_succ, i64_w, i32_w]
                   rfl
                  refine pure_ (i := 5) (N := some 71) (v := ?_) (a' := ?_) #[true, true, true, true, false, true, false, false, false, false, false, false, false, false, false] rfl rfl (any_of HT_.out (by kernel_rfl)) (fun _ _ _ h => h) (Or.inl ⟨by rfl, ?_⟩) ?_ ?_
                  rotate_left
                  ·intro w'
                   go_simp
                   with_reducible rfl
                  rotate_left
                  ·simp only [Act.put, List.setIfInBounds_toArray, List.set_cons_zero, List.set_cons_succ, i64_w, i32_w]
                   rfl
                  refine pure_ (i := 6) (N := some 72) (v := ?_) (a' := ?_) #[true, true, true, true, false, true, true, false, false, false, false, false, false, false, false] rfl rfl (any_of HT_.out (by kernel_rfl)) (fun _ _ _ h => h) (Or.inl ⟨by rfl, ?_⟩) ?_ ?_
                  rotate_left
                  ·intro w'
                   go_simp
                   with_reducible rfl
                  rotate_left
                  ·simp only [Act.put, List.setIfInBounds_toArray, List.set_cons_zero, List.set_cons_succ, i64_w, i32_w]
                   rfl
                  refine pure_ (i := 7) (N := some 73) (v := ?_) (a' := ?_) #[true, true, true, true, false, true, true, true, false, false, false, false, false, false, false] rfl rfl (any_of HT_.out (by kernel_rfl)) (fun _ _ _ h => h) (Or.inl ⟨by rfl, ?_⟩) ?_ ?_
                  rotate_left
                  ·intro w'
                   go_simp
                   with_reducible rfl
                  rotate_left
                  ·simp only [Act.put, List.setIfInBounds_toArray, List.set_cons_zero, List.set_cons_succ, i64_w, i32_w]
                   rfl
                  refine pure_ (i := 8) (N := some 74) (v := ?_) (a' := ?_) #[true, true, true, true, false, true, true, true, true, false, false, false, false, false, false] rfl rfl (any_of HT_.out (by kernel_rfl)) (fun _ _ _ h => h) (Or.inl ⟨by rfl, ?_⟩) ?_ ?_
                  rotate_left
                  ·intro w'
                   go_simp
                   with_reducible rfl
                  rotate_left
                  ·simp only [Act.put, List.setIfInBounds_toArray, List.set_cons_zero, List.set_cons_succ, i64_w, i32_w]
                   rfl
                  refine pure_ (i := 9) (N := some 75) (v := ?_) (a' := ?_) #[true, true, true, true, false, true, true, true, true, true, false, false, false, false, false] rfl rfl (any_of HT_.out (by kernel_rfl)) (fun _ _ _ h => h) (Or.inl ⟨by rfl, ?_⟩) ?_ ?_
                  rotate_left
                  ·intro w'
                   go_simp
                   with_reducible rfl
                  rotate_left
                  ·simp only [Act.put, List.setIfInBounds_toArray, List.set_cons_zero, List.set_cons_succ, i64_w, i32_w]
                   rfl
                  refine take_ (i := 4) (N := some 70) (v := ?_) (a' := ?_) #[true, true, true, true, true, true, true, true, true, true, false, false, false, false, false] rfl rfl (take_ofW HT_.out HW_.out (by kernel_rfl)) (fun _ _ _ h => h) (Or.inl ⟨by rfl, ?_⟩) hHeld ?_ ?_
                  rotate_left
                  ·rintro w' ⟨s0, s1⟩
                   go_simp
                   with_reducible rfl
                  rotate_left
                  ·simp only [Act.put, List.setIfInBounds_toArray, List.set_cons_zero, List.set_cons_succ, i64_w, i32_w]
                   rfl
                  refine take_ (i := 10) (N := some 76) (v := ?_) (a' := ?_) #[true, true, true, true, true, true, true, true, true, true, true, false, false, false, false] rfl rfl (take_ofW HT_.out HW_.out (by kernel_rfl)) (fun _ _ _ h => h) (Or.inl ⟨by rfl, ?_⟩) hHeld ?_ ?_
                  rotate_left
                  ·rintro w' ⟨s0, s1⟩
                   go_simp
                   with_reducible rfl
                  rotate_left
                  ·simp only [Act.put, List.setIfInBounds_toArray, List.set_cons_zero, List.set_cons_succ, i64_w, i32_w]
                   rfl
                  refine pure_ (i := 11) (N := some 77) (v := ?_) (a' := ?_) #[true, true, true, true, true, true, true, true, true, true, true, true, false, false, false] rfl rfl (any_of HT_.out (by kernel_rfl)) (fun _ _ _ h => h) (Or.inl ⟨by rfl, ?_⟩) ?_ ?_
                  rotate_left
                  ·intro w'
                   go_simp
                   with_reducible rfl
                  rotate_left
                  ·simp only [Act.put, List.setIfInBounds_toArray, List.set_cons_zero, List.set_cons_succ, i64_w, i32_w]
                   rfl
                  refine last_ (i := 12) (N := some 78) #[true, true, true, true, true, true, true, true, true, true, true, true, true, false, false] rfl rfl (one_of HT_.out (by kernel_rfl)) (by decide) (fun K hK => ?_)
                  refine value_ (w1 := ?_) (v := ?_) (by rfl) rfl ?_ ?_
                  rotate_left 2
                  ·go_simp
                   constructor
                   ·rfl
                   ·rfl
                  refine hK.out _ _ ?_
                  clear hK K
                  refine norm_ (a' := ?_) ?_ ?_
                  rotate_left
                  ·show Act.put _ (some 78) _ = _
                   simp only [Act.put, List.setIfInBounds_toArray, List.set_cons_zero, List.set_cons_succ, i64_w, i32_w]
                   rfl
                  refine last_ (i := 13) (N := some 79) #[true, true, true, true, true, true, true, true, true, true, true, true, true, true, false] rfl rfl (one_of HT_.out (by kernel_rfl)) (by decide) (fun K hK => ?_)
                  refine Kd.R_append_step (Kd.int .u8) (w0 := w) w.heap.size (by rfl) (.tmp 66) (.tmp 78) 22 5 (.int .u8 0) 1 rfl Try.underlying22 info5 rfl (by decide) (by omega) u8 x8_3 (Go.bits .xor .u8 (rd l2 x15_3) (rd t191 (ji30))) [.int .u8 (Go.bits .xor .u8 (rd l2 x15_3) (rd t191 (ji30)))] (fun k_ => some k_ ≠ (.slice Ao11 t172.length co11 : Value).ownBlock ∧ some k_ ≠ (.slice Ao24 t175.length co24 : Value).ownBlock ∧ some k_ ≠ (.slice (some ad195) t191.length co35 : Value).ownBlock) (fun _ => False) rfl rfl ?aP (fun _ hk => hk.elim) ?aF ?aO ?aB ?aS ?aL ?_
                  (case aP => exact rfl)
                  (case aB => exact (by repeat (first | (with_reducible first | exact HB.out | apply below_alloc | apply pw_below_drewN | apply below_drew1) | exact HB.out)))
                  (case aF => exact (fun k_ hk => ⟨Kd.fresh' (Kd.R_lt (by (with_reducible repeat (first | apply Kd.R_alloc | apply Kd.R_drewN | apply Kd.R_drew)); exact HO_9.out)) k_ hk, Kd.fresh' (Kd.R_lt (by (with_reducible repeat (first | apply Kd.R_alloc | apply Kd.R_drewN | apply Kd.R_drew)); exact HO_10.out)) k_ hk, Kd.fresh' (Kd.R_lt (by (with_reducible repeat (first | apply Kd.R_alloc | apply Kd.R_drewN | apply Kd.R_drew)); exact HO_14.out)) k_ hk⟩))
                  (case aO => exact (by (with_reducible repeat (first | apply Kd.R_alloc | apply Kd.R_drewN | apply Kd.R_drew)); exact HO_8.out))
                  (case aS => exact (below_size (by repeat (first | (with_reducible first | exact HB.out | apply below_alloc | apply pw_below_drewN | apply below_drew1) | exact HB.out))))
                  (case aL => have := LMc33.out; omega)
                  intro v197 w36 ho hb hg hat
                  rw [← Ny196.out] at ho
                  have n0_ := Aside0.mk (Kd.R_after (ok := (fun k_ => some k_ ≠ (.slice Ao24 t175.length co24 : Value).ownBlock ∧ some k_ ≠ (.slice (some ad195) t191.length co35 : Value).ownBlock)) (by (with_reducible repeat (first | apply Kd.R_alloc | apply Kd.R_drewN | apply Kd.R_drew)); exact Kd.R_mono HO_9.out (fun _ hk => ⟨⟨hk.2.1, hk.2.2⟩, hk.1⟩)) hg hat)
                  have n1_ := Aside0.mk (Kd.R_after (ok := (fun k_ => some k_ ≠ (.slice Ao11 t172.length co11 : Value).ownBlock ∧ some k_ ≠ (.slice (some ad195) t191.length co35 : Value).ownBlock)) (by (with_reducible repeat (first | apply Kd.R_alloc | apply Kd.R_drewN | apply Kd.R_drew)); exact Kd.R_mono HO_10.out (fun _ hk => ⟨⟨hk.2.1, hk.2.2⟩, hk.1⟩)) hg hat)
                  have n2_ := Aside0.mk (Kd.R_after (ok := (fun k_ => some k_ ≠ (.slice Ao11 t172.length co11 : Value).ownBlock ∧ some k_ ≠ (.slice Ao24 t175.length co24 : Value).ownBlock)) (by (with_reducible repeat (first | apply Kd.R_alloc | apply Kd.R_drewN | apply Kd.R_drew)); exact Kd.R_mono HO_14.out (fun _ hk => ⟨⟨hk.2.1, hk.2.2⟩, hk.1⟩)) hg hat)
                  have n3_ := Aside0.mk (hb)
                  have n4_ := Aside0.mk (ho)
                  clear HO_9
                  clear HO_10
                  clear HO_14
                  clear HB
                  clear HO_8
                  have HO_9 := n0_
                  have HO_10 := n1_
                  have HO_14 := n2_
                  have HB := n3_
                  have HO198 := n4_
                  clear n0_ n1_ n2_ n3_ n4_
                  clear ho hb hg hat
                  refine hK.out _ _ ?_
                  clear hK K
                  refine norm_ (a' := ?_) ?_ ?_
                  rotate_left
                  ·show Act.put _ (some 79) _ = _
                   simp only [Act.put, List.setIfInBounds_toArray, List.set_cons_zero, List.set_cons_succ, i64_w, i32_w]
                   rfl
                  refine pure_ (i := 14) (N := some 8) (v := ?_) (a' := ?_) #[true, true, true, true, true, true, true, true, true, true, true, true, true, true, true] rfl rfl (any_of HT_.out (by kernel_rfl)) (fun _ _ _ h => h) (Or.inl ⟨by rfl, ?_⟩) ?_ ?_
                  rotate_left
                  ·intro w'
                   go_simp
                   with_reducible rfl
                  rotate_left
                  ·simp only [Act.put, List.setIfInBounds_toArray, List.set_cons_zero, List.set_cons_succ, i64_w, i32_w]
                   rfl
                  refine done_ (done_of HT_.out (by kernel_rfl)) ?_
                  try go_wp2
                  go_roundg k3
                  case measure => have := HJ3.out; have := HK2.out; have := HK3.out; omega
                  case rel => exact ⟨(y196), (wrap64 (x15_3 + 1)), (by first | rfl | (simp; done) | (simp [*]; done)), H', ⟨by have := HJ3.out; have := HK2.out; have := HK3.out; omega⟩, ⟨by (with_reducible repeat (first | apply Kd.R_alloc | apply Kd.R_drewN | apply Kd.R_drew)); exact HO198.out⟩, ⟨by (with_reducible repeat (first | apply Kd.R_alloc | apply Kd.R_drewN | apply Kd.R_drew)); exact Kd.R_mono HO_9.out (fun _ hk => ⟨hk.2, ⟨hk.1.1, hk.1.2⟩⟩)⟩, ⟨by (with_reducible repeat (first | apply Kd.R_alloc | apply Kd.R_drewN | apply Kd.R_drew)); exact Kd.R_mono HO_10.out (fun _ hk => ⟨hk.2, ⟨hk.1.1, hk.1.2⟩⟩)⟩, ⟨by (with_reducible repeat (first | apply Kd.R_alloc | apply Kd.R_drewN | apply Kd.R_drew)); exact Kd.R_mono HO_14.out (fun _ hk => ⟨hk.2, ⟨hk.1.1, hk.1.2⟩⟩)⟩, ⟨by repeat (first | (with_reducible first | exact HB.out | apply below_alloc | apply pw_below_drewN | apply below_drew1) | exact HB.out)⟩⟩
                 ·rw [if_neg c33] at H
                  exact absurd H (by simp)
                ·rw [if_neg c32] at H
                 exact absurd H (by simp)
               ·rw [if_neg c31] at H
                exact absurd H (by simp)
              ·rw [if_neg c29] at H
               exact absurd H (by simp)
             ·rw [if_neg c28] at H
              have c28b0 : decide (x15_3 < (l2.length : Int)) = false := decide_eq_false c28
              clear c28
              have H' := Aside0.mk H
              clear H
              go_wp2
              go_roundg k3
              case measure => have := HJ3.out; have := HK2.out; have := HK3.out; omega
              case rel => exact ⟨(x8_3), (wrap64 (x11_2 + 16)), (by first | rfl | (simp; done) | (simp [*]; done)), H', ⟨by have := HJ3.out; have := HK2.out; have := HK3.out; omega⟩, ⟨by (with_reducible repeat (first | apply Kd.R_alloc | apply Kd.R_drewN | apply Kd.R_drew)); exact Kd.R_mono HO_8.out (fun _ hk => ⟨hk.1, hk.2.1⟩)⟩, ⟨by (with_reducible repeat (first | apply Kd.R_alloc | apply Kd.R_drewN | apply Kd.R_drew)); exact Kd.R_mono HO_9.out (fun _ hk => ⟨hk.1, hk.2.1⟩)⟩, ⟨by (with_reducible repeat (first | apply Kd.R_alloc | apply Kd.R_drewN | apply Kd.R_drew)); exact Kd.R_mono HO_10.out (fun _ hk => ⟨hk.1, hk.2.1⟩)⟩, ⟨by repeat (first | (with_reducible first | exact HB.out | apply below_alloc | apply pw_below_drewN | apply below_drew1) | exact HB.out)⟩⟩
            ·rw [if_neg c27] at H
             have c27b0 : decide (x15_3 < (wrap64 (x11_2 + 16))) = false := decide_eq_false c27
             clear c27
             have H' := Aside0.mk H
             clear H
             go_wp2
             go_roundg k3
             case measure => have := HJ3.out; have := HK2.out; have := HK3.out; omega
             case rel => exact ⟨(x8_3), (wrap64 (x11_2 + 16)), (by first | rfl | (simp; done) | (simp [*]; done)), H', ⟨by have := HJ3.out; have := HK2.out; have := HK3.out; omega⟩, ⟨by (with_reducible repeat (first | apply Kd.R_alloc | apply Kd.R_drewN | apply Kd.R_drew)); exact Kd.R_mono HO_8.out (fun _ hk => ⟨hk.1, hk.2.1⟩)⟩, ⟨by (with_reducible repeat (first | apply Kd.R_alloc | apply Kd.R_drewN | apply Kd.R_drew)); exact Kd.R_mono HO_9.out (fun _ hk => ⟨hk.1, hk.2.1⟩)⟩, ⟨by (with_reducible repeat (first | apply Kd.R_alloc | apply Kd.R_drewN | apply Kd.R_drew)); exact Kd.R_mono HO_10.out (fun _ hk => ⟨hk.1, hk.2.1⟩)⟩, ⟨by repeat (first | (with_reducible first | exact HB.out | apply below_alloc | apply pw_below_drewN | apply below_drew1) | exact HB.out)⟩⟩
         ·rw [if_neg c16] at H
          exact absurd H (by simp)
        ·rw [if_neg c15] at H
         exact absurd H (by simp)
       ·rw [if_neg c13] at H
        have c13b0 : decide (x11_2 < (l2.length : Int)) = false := decide_eq_false c13
        clear c13
        simp only [Option.some.injEq, Prod.mk.injEq] at H
        obtain ⟨rfl, rfl⟩ := H
        go_wp2
        go_ret2
        exact ⟨_, by first | rfl | (simp [errW_none, errW_some] <;> rfl) | (simp [*, errW_none, errW_some] <;> rfl), by (with_reducible repeat (first | apply Kd.R_alloc | apply Kd.R_drewN | apply Kd.R_drew)); exact Kd.R_mono HO_8.out (fun _ hk => trivial), by repeat (first | (with_reducible first | exact HB.out | apply below_alloc | apply pw_below_drewN | apply below_drew1) | exact HB.out)⟩
end Go.Proofs.Ytifpdpfjhjoieaa.C

/-! AesG -/
namespace Go.Proofs.Ytifpdpfjhjoieaa
set_option linter.unusedVariables false
set_option linter.unusedSimpArgs false
open Go.RowKit Go.Shelf Iter Go.Proofs.YtifpdpfjhjoieaaW.PrintWords
attribute [local go_sem] Oper.semAt_some
theorem range_keys {w : World} {g : Nat} {ty : TypeId} (key : List Int) (h16 : key.length = 16) (t : Nat) (ht : t ≤ 10) (h : Blk w g ty (byV (keysV key))) : w.rangeAt g (t * 16) (valsB (keyT key t)) := by
 have hl := keyT_length key h16 t
 refine range_of h _ _ (by rw [keysV_length, hl]; omega) fun j hj => ?_
 rw [hl] at hj
 unfold keysV
 rw [List.getD_eq_getElem?_getD, List.getElem?_map, List.getElem?_range (by omega), Nat.mul_comm t 16]
 exact keyF_at _ _ _ hj
theorem range_row {w : World} {g : Nat} {ty : TypeId} (l : List Int) (h : Blk w g ty (byV l)) : w.rangeAt g 0 (valsB l) := range_of h _ _ (by omega) fun j hj => by rw [Nat.zero_add]
theorem info_vals (l : List Int) (h : l.length = 16) : (Try.prog.info? 103).map (·.size) = some (valsB l).length := by rw [valsB_length, h]; exact infoState
theorem info_byV (l : List Int) (h : l.length = 16) : (Try.prog.info? 103).map (·.size) = some (byV l).size := by rw [byV_size, h]; exact infoState
theorem size_byV (l l' : List Int) (h : l.length = 16) (h' : l'.length = 16) : (byV l).size = (byV l').size := by rw [byV_size, byV_size, h, h']
theorem one_byV (l : List Int) : (byV l).all (·.oneCell') = true := by simp [byV, Value.oneCell']
theorem wpStill_load_mid {P : Program} {ops : Array Oper} {w : World} {Q : Act → Prop} {rest : List Oper} {o : Oper} {a : Act} (hgd : o.guard = none) (ty : TypeId) (x : Operand) (ho : o.op = .load ty x)
  (b f : Nat) (hx : a.eval x = .pointer (some ⟨b, f, none⟩)) (cs : List Value) (d : TypeDesc) (hc : w.rangeAt b f cs) (hu : P.underlying ty = some d) (hd : d.isRow = true) (hi : (P.info? ty).map (·.size) = some cs.length)
  (h : wpStill P ops w Q rest (a.put o.dst (.agg cs.toArray))) : wpStill P ops w Q (o :: rest) a := by
 unfold wpStill
 rw [if_pos (by simp [Region.wanted, hgd])]
 unfold Oper.still execOp
 simp only [ho, hx, Instr.loadAt, Instr.sureAddr, Sem.run_bind, Sem.run_pure, Result.andThen_ok, run_loadVar_mid w b f ty cs d hc hu hd hi]
 exact ⟨rfl, h⟩
theorem withK_length (s k : List Int) : (withK s k).length = 16 := row16_length _
theorem shiftedS_length (s : List Int) : (shiftedS s).length = 16 := row16_length _
theorem mixedS_length (s : List Int) : (mixedS s).length = 16 := row16_length _
theorem lockT_length (key s : List Int) (n : Nat) : (lockT key s n).length = 16 := by cases n <;> exact row16_length _
theorem byteOk_lockT (key s : List Int) (n : Nat) : byteOk (lockT key s n) = true := by cases n <;> exact byteOk_withK _ _
/-- What a block's walk knows of the world. -/
def LK (w : World) (gl gk : Nat) (key : List Int) (W : World) (x : List Int) : Prop := Blk W w.heap.size 103 (byV x) ∧ Blk W (w.heap.size + 1) 103 (byV z16) ∧ Blk W gl 104 (byV (keysV key)) ∧ Blk W gk 123 (byV boxT) ∧ Below w.heap.size w W
theorem LK.call {w W W' : World} {gl gk : Nat} {key x : List Int} (h : LK w gl gk key W x) (hb : Below W.heap.size W W') : LK w gl gk key W' x :=
 ⟨h.1.below hb h.1.lt, h.2.1.below hb h.2.1.lt, h.2.2.1.below hb h.2.2.1.lt, h.2.2.2.1.below hb h.2.2.2.1.lt, h.2.2.2.2.trans (hb.mono h.2.2.2.2.size)⟩
theorem LK.set {w W : World} {gl gk : Nat} {key x : List Int} (h : LK w gl gk key W x) (hl : gl < w.heap.size) (hk : gk < w.heap.size) (y : List Int) : LK w gl gk key (W.setRow w.heap.size (byV y)) y :=
 ⟨h.1.setRow_ _, h.2.1.farRow (by omega) _, h.2.2.1.farRow (Nat.ne_of_lt hl) _, h.2.2.2.1.farRow (Nat.ne_of_lt hk) _, h.2.2.2.2.trans (Iter.below_setRow _ (Nat.le_refl _))⟩
theorem LK.drew {w W : World} {gl gk : Nat} {key x : List Int} (h : LK w gl gk key W x) : LK w gl gk key W.drew x := ⟨h.1, h.2.1, h.2.2.1, h.2.2.2.1, h.2.2.2.2.drew⟩
set_option maxRecDepth 100000 in
set_option maxHeartbeats 400000 in
theorem aesLocked_calls (gl gk : Nat) (key s : List Int) (w : World) (hkey : key.length = 16) (hs : s.length = 16) (hl : Blk w gl 104 (byV (keysV key))) (hk : Blk w gk 123 (byV boxT)) :
  Calls Try.prog 67 #[.pointer (some ⟨gl, 0, none⟩), .pointer (some ⟨gk, 0, none⟩), .agg (byV s)] w fun e w' => e = .returned (.agg (byV (lockT key s 10))) ∧ Below w.heap.size w w' := by
 have hgk := Lib.hid hk.lt
 have hgl := Lib.hid hl.lt
 have HK := Lib.hid (And.intro hkey (And.intro hs (And.intro hl hk)))
 clear hkey hs hl hk
 go_enter Try.func67, Try.ntmps67
 go_wp2_with fail
 rw [zero16]
 have bs := (Blk.new w 103 (byV s)).alloc (.cells (byV z16) 103)
 have br := Blk.new (w.alloc (.cells (byV s) 103)) 103 (byV z16)
 have bl := (HK.out.2.2.1.alloc (.cells (byV s) 103)).alloc (.cells (byV z16) 103)
 have bk := (HK.out.2.2.2.alloc (.cells (byV s) 103)).alloc (.cells (byV z16) 103)
 have hbl : Below w.heap.size w ((w.alloc (.cells (byV s) 103)).alloc (.cells (byV z16) 103)) := ((Below.refl _ w).alloc (Nat.le_refl _) _).alloc (by simp) _
 simp only [World.size_alloc] at br
 generalize ((w.alloc (.cells (byV s) 103)).alloc (.cells (byV z16) 103)) = W0 at *
 have run1 := (World.rangeAt_drew W0 _ _ _).2 (range_row s bs)
 have run2 := (World.rangeAt_drew W0 _ _ _).2 (by have := range_keys key HK.out.1 0 (by omega) bl; rw [Nat.zero_mul] at this; exact this)
 have hi1 := info_vals s HK.out.2.1
 have hi2 := info_vals key HK.out.1
 have HB : Hid (LK w gl gk key W0 s) := Lib.hid ⟨bs, br, bl, bk, hbl⟩
 clear bs br bl bk hbl
 go_still_tail 5, (by kernel_rfl)
 refine wpStill_load_mid (by rfl) 103 (.tmp 5) (by rfl) w.heap.size 0 (by rfl) _ _ run1 Try.underlying103 rfl hi1 ?_
 repeat still_step
 refine wpStill_load_mid (by rfl) 103 (.tmp 11) (by rfl) gl 0 (by rfl) _ _ run2 Try.underlying103 rfl hi2 ?_
 repeat still_step
 refine wpStill_nil ?_
 have HB2 := Lib.hid (LK.drew HB.out)
 change wpList _ _ _ _ _ W0.drew
 clear HB run1 run2 hi1 hi2
 generalize W0.drew = W1 at *
 clear W0
 go_wp2_with fail
 refine (aesWith_calls s key _ HK.out.2.1 HK.out.1).mono ?_
 rintro e W2 ⟨rfl, hb2⟩
 have HB3 := Lib.hid (LK.call HB2.out hb2)
 clear HB2 hb2
 clear W1
 go_wp2_with (refine wpList_store_row rfl 103 (.tmp 5) (.tmp 13) rfl w.heap.size _ rfl rfl 103 _ HB3.out.1 (info_byV _ (withK_length s key)) (size_byV _ _ HK.out.2.1 (withK_length s key)) (one_byV _) ?_)
 have HB4 : Hid (LK w gl gk key _ (lockT key s 0)) := Lib.hid (LK.set HB3.out hgl.out hgk.out (withK s key))
 clear HB3
 generalize W2.setRow w.heap.size (byV (withK s key)) = W3 at *
 clear W2
 go_loopw [7] (fun vn wr => ∃ t : Nat, t ≤ 10 ∧ vn = .int .i64 ((t + 1 : Nat) : Int) ∧ Hid (LK w gl gk key wr (lockT key s t))) (fun vn _ => 11 - (intOf vn).toNat)
 case atStart => exact ⟨0, by omega, rfl, HB4⟩
 case round =>
  clear HB4
  obtain ⟨t, ht, rfl, HB⟩ := hrel
  obtain ⟨n, hn⟩ : ∃ n, t + 1 = n := ⟨_, rfl⟩
  rw [hn]
  by_cases h10 : n ≤ 10
  ·have n1 : (1 : Int) ≤ (n : Int) := by omega
   have n2 : (n : Int) ≤ 10 := by omega
   have n4 : (0 : Int) ≤ (n : Int) := by omega
   have n5 : (n : Int) < 11 := by omega
   have hn := Lib.hid hn
   have hs0 := lockT_length key s t
   have hs1 := byteOk_lockT key s t
   have H0 := Lib.hid (And.intro hs0 hs1)
   clear hs0 hs1
   by_cases h9 : n < 10
   ·have n3 : (n : Int) < 10 := by omega
    go_wp2_with (refine wpList_load_row rfl 103 (.tmp 5) rfl w.heap.size rfl 103 _ (0, 0) _ HB.out.1 Try.underlying103 rfl (info_byV _ H0.out.1) ?_)
    refine (shifted_calls (lockT key s t) gk _ H0.out.1 H0.out.2 HB.out.2.2.2.1).mono ?_
    rintro e W1 ⟨rfl, hb1⟩
    have L1 := Lib.hid (LK.call HB.out hb1)
    have L2 := Lib.hid (LK.set L1.out hgl.out hgk.out (shiftedS (lockT key s t)))
    clear hb1
    go_wp2_with (first | (refine wpList_store_row rfl 103 (.tmp 5) (.tmp 20) rfl w.heap.size _ rfl rfl 103 _ L1.out.1 (info_byV _ (shiftedS_length _)) (size_byV _ _ H0.out.1 (shiftedS_length _)) (one_byV _) ?_) | (refine wpList_load_row rfl 103 (.tmp 5) rfl w.heap.size rfl 103 _ (0, 0) _ L2.out.1 Try.underlying103 rfl (info_byV _ (shiftedS_length _)) ?_))
    refine (aesMixed_calls (shiftedS (lockT key s t)) _ (shiftedS_length _) (byteOk_shiftedS _)).mono ?_
    rintro e W2 ⟨rfl, hb2⟩
    have L3 := Lib.hid (LK.call L2.out hb2)
    have L4 := Lib.hid (LK.set L3.out hgl.out hgk.out (mixedS (shiftedS (lockT key s t))))
    clear hb2 L1 L2
    go_wp2_with (refine wpList_store_row rfl 103 (.tmp 5) (.tmp 24) rfl w.heap.size _ rfl rfl 103 _ L3.out.1 (info_byV _ (mixedS_length _)) (size_byV _ _ (shiftedS_length _) (mixedS_length _)) (one_byV _) ?_)
    clear L3
    generalize W2.setRow w.heap.size (byV (mixedS (shiftedS (lockT key s t)))) = W3 at *
    have run1 := (World.rangeAt_drew W3 _ _ _).2 (range_row _ L4.out.1)
    have run2 := (World.rangeAt_drew W3 _ _ _).2 (range_keys key HK.out.1 n h10 L4.out.2.2.1)
    have hi1 := info_vals (mixedS (shiftedS (lockT key s t))) (mixedS_length _)
    have hk1 := keyT_length key HK.out.1 n
    have hi2 := info_vals (keyT key n) hk1
    have hw := Lib.hid (aesWith_calls (mixedS (shiftedS (lockT key s t))) (keyT key n) W3.drew (mixedS_length _) hk1)
    have hxl := Lib.hid (mixedS_length (shiftedS (lockT key s t)))
    have he : Hid (withK (mixedS (shiftedS (lockT key s t))) (keyT key n) = lockT key s n) := Lib.hid (by rw [← hn.out, lockT, if_pos (by have := hn.out; omega)])
    have L5 := Lib.hid (LK.drew L4.out)
    clear hk1 L4
    have R1 := Lib.hid run1
    have R2 := Lib.hid run2
    have I1 := Lib.hid hi1
    have I2 := Lib.hid hi2
    clear run1 run2 hi1 hi2
    generalize hX : mixedS (shiftedS (lockT key s t)) = X at *
    generalize hKn : keyT key n = Kn at *
    go_still_tail 6, (by kernel_rfl)
    refine wpStill_load_mid (by rfl) 103 (.tmp 5) (by rfl) w.heap.size 0 (by rfl) _ _ R1.out Try.underlying103 rfl I1.out ?_
    repeat still_step
    refine wpStill_load_mid (by rfl) 103 (.tmp 29) (by rfl) gl (n * 16) (by rfl) _ _ R2.out Try.underlying103 rfl I2.out ?_
    repeat still_step
    refine wpStill_nil ?_
    change wpList _ _ _ _ _ W3.drew
    go_wp2_with fail
    refine hw.out.mono ?_
    rintro e W4 ⟨rfl, hb4⟩
    have L6 := Lib.hid (LK.call L5.out hb4)
    have L7 := Lib.hid (LK.set L6.out hgl.out hgk.out (withK X Kn))
    rw [he.out] at L7
    clear hb4 L5 hw R1 R2
    go_wp2_with (refine wpList_store_row rfl 103 (.tmp 5) (.tmp 31) rfl w.heap.size _ rfl rfl 103 _ L6.out.1 (info_byV _ (withK_length _ _)) (size_byV _ _ hxl.out (withK_length _ _)) (one_byV _) ?_)
    exact ⟨⟨n, by omega, by go_num, by rw [he.out]; exact L7⟩, by simp [intOf]; omega⟩
   ·have n3 : decide ((n : Int) < 10) = false := by simp; omega
    have h9' := Lib.hid h9
    clear h9
    go_wp2_with (refine wpList_load_row rfl 103 (.tmp 5) rfl w.heap.size rfl 103 _ (0, 0) _ HB.out.1 Try.underlying103 rfl (info_byV _ H0.out.1) ?_)
    refine (shifted_calls (lockT key s t) gk _ H0.out.1 H0.out.2 HB.out.2.2.2.1).mono ?_
    rintro e W1 ⟨rfl, hb1⟩
    have L1 := Lib.hid (LK.call HB.out hb1)
    have L2 := Lib.hid (LK.set L1.out hgl.out hgk.out (shiftedS (lockT key s t)))
    clear hb1
    go_wp2_with (refine wpList_store_row rfl 103 (.tmp 5) (.tmp 20) rfl w.heap.size _ rfl rfl 103 _ L1.out.1 (info_byV _ (shiftedS_length _)) (size_byV _ _ H0.out.1 (shiftedS_length _)) (one_byV _) ?_)
    clear L1
    generalize W1.setRow w.heap.size (byV (shiftedS (lockT key s t))) = W3 at *
    have run1 := (World.rangeAt_drew W3 _ _ _).2 (range_row _ L2.out.1)
    have run2 := (World.rangeAt_drew W3 _ _ _).2 (range_keys key HK.out.1 n h10 L2.out.2.2.1)
    have hi1 := info_vals (shiftedS (lockT key s t)) (shiftedS_length _)
    have hk1 := keyT_length key HK.out.1 n
    have hi2 := info_vals (keyT key n) hk1
    have hw := Lib.hid (aesWith_calls (shiftedS (lockT key s t)) (keyT key n) W3.drew (shiftedS_length _) hk1)
    have hxl := Lib.hid (shiftedS_length (lockT key s t))
    have he : Hid (withK (shiftedS (lockT key s t)) (keyT key n) = lockT key s n) := Lib.hid (by rw [← hn.out, lockT, if_neg (by have := hn.out; have := h9'.out; omega)])
    have L5 := Lib.hid (LK.drew L2.out)
    clear hk1 L2
    have R1 := Lib.hid run1
    have R2 := Lib.hid run2
    have I1 := Lib.hid hi1
    have I2 := Lib.hid hi2
    clear run1 run2 hi1 hi2
    generalize hX : shiftedS (lockT key s t) = X at *
    generalize hKn : keyT key n = Kn at *
    go_still_tail 6, (by kernel_rfl)
    refine wpStill_load_mid (by rfl) 103 (.tmp 5) (by rfl) w.heap.size 0 (by rfl) _ _ R1.out Try.underlying103 rfl I1.out ?_
    repeat still_step
    refine wpStill_load_mid (by rfl) 103 (.tmp 29) (by rfl) gl (n * 16) (by rfl) _ _ R2.out Try.underlying103 rfl I2.out ?_
    repeat still_step
    refine wpStill_nil ?_
    change wpList _ _ _ _ _ W3.drew
    go_wp2_with fail
    refine hw.out.mono ?_
    rintro e W4 ⟨rfl, hb4⟩
    have L6 := Lib.hid (LK.call L5.out hb4)
    have L7 := Lib.hid (LK.set L6.out hgl.out hgk.out (withK X Kn))
    rw [he.out] at L7
    clear hb4 L5 hw R1 R2
    go_wp2_with (refine wpList_store_row rfl 103 (.tmp 5) (.tmp 31) rfl w.heap.size _ rfl rfl 103 _ L6.out.1 (info_byV _ (withK_length _ _)) (size_byV _ _ hxl.out (withK_length _ _)) (one_byV _) ?_)
    exact ⟨⟨n, by omega, by go_num, by rw [he.out]; exact L7⟩, by simp [intOf]; omega⟩
  ·obtain rfl : n = 11 := by omega
   obtain rfl : t = 10 := by omega
   have hdj : decide (((11 : Nat) : Int) ≤ 10) = false := by decide
   go_wp2_with (first
    | (refine wpList_load_row rfl 103 (.tmp 5) rfl w.heap.size rfl 103 _ (0, 0) _ HB.out.1 Try.underlying103 rfl (info_byV _ (lockT_length key s 10)) ?_)
    | (refine wpList_store_row rfl 103 (.tmp 6) (.tmp 32) rfl (w.heap.size + 1) _ rfl rfl 103 _ HB.out.2.1 (info_byV _ (lockT_length key s 10)) (size_byV _ _ rfl (lockT_length key s 10)) (one_byV _) ?_))
   exact bodyPost_ret (results_cell_row rfl _ _ (w.heap.size + 1) 103 (byV (lockT key s 10)) (0, 0) _ rfl (setRow_heap wr (w.heap.size + 1) _ _ _ _ HB.out.2.1) Try.underlying103 rfl (info_byV _ (lockT_length key s 10))) rfl ⟨rfl, HB.out.2.2.2.2.trans (Iter.below_setRow _ (by omega))⟩
end Go.Proofs.Ytifpdpfjhjoieaa

/-! AesS -/
namespace Go.Proofs.Ytifpdpfjhjoieaa
set_option linter.unusedVariables false
set_option linter.unusedSimpArgs false
open Go.RowKit Go.Proofs.YtifpdpfjhjoieaaW.PrintWords Go.Proofs.YtifpdpfjhjoieaaW.PrintLast
theorem rd_nat (l : List Int) (i : Nat) : rd l (i : Int) = l.getD i 0 := by unfold rd; rw [Int.toNat_natCast]
theorem we1 (c r : Nat) (hc : c < 4) (hr : r < 4) : wrap64 ((wrap64 (4 * (Int.tmod (wrap64 ((c : Int) + (r : Int))) 4))) + (r : Int)) = ((4 * ((c + r) % 4) + r : Nat) : Int) := by
 rw [show wrap64 ((c : Int) + (r : Int)) = ((c + r : Nat) : Int) from by unfold wrap64; omega, tmod4]
 obtain ⟨q, hq⟩ : ∃ q, (c + r) % 4 = q := ⟨_, rfl⟩
 have : q < 4 := by omega
 rw [hq]
 clear hq
 unfold wrap64
 omega
theorem we2 (c r : Nat) (hc : c < 4) (hr : r < 4) : wrap64 ((wrap64 (4 * (c : Int))) + (r : Int)) = ((4 * c + r : Nat) : Int) := by unfold wrap64; omega
theorem we3 (c r q : Nat) (hc : c < 4) (hr : r < 4) (hq : q < 4) : wrap64 ((wrap64 (4 * (c : Int))) + (Int.tmod (wrap64 ((r : Int) + (q : Int))) 4)) = ((4 * c + (r + q) % 4 : Nat) : Int) := by
 rw [show wrap64 ((r : Int) + (q : Int)) = ((r + q : Nat) : Int) from by unfold wrap64; omega, tmod4]
 exact we2 c _ hc (by omega)
theorem we6 (m i : Nat) (hm : m ≤ 10) (hi : i < 16) : wrap64 ((wrap64 (16 * (m : Int))) + (i : Int)) = ((16 * m + i : Nat) : Int) := by unfold wrap64; omega
theorem rd_keysV (key : List Int) (m : Nat) (h : m < 176) : rd (keysV key) (m : Int) = keyF key m := rd_upTo (keyF key) 176 m h
theorem row16_congr (f g : Nat → Int) (h : ∀ i, i < 16 → f i = g i) : row16 f = row16 g := by
 unfold row16
 exact List.map_congr_left fun i hi => h i (List.mem_range.1 hi)
theorem rowTo_0 (l : List Int) (h : l.length = 16) (f : Nat → Int) : rowTo 16 f (fun i => l.getD i 0) 0 = l := by
 have := rowTo_zero l f
 rwa [h] at this
def shF (s : List Int) (i : Nat) : Int := bx (s.getD ((i + 4 * (i % 4)) % 16) 0)
def wF (key u : List Int) (m i : Nat) : Int := xr (u.getD i 0) (keyF key (16 * m + i))
theorem wF_full (key u : List Int) (m : Nat) : row16 (wF key u m) = withK u (keyT key m) := row16_congr _ _ fun i hi => by
 unfold wF
 rw [keyF_at _ _ _ hi]
section
attribute [local irreducible] rconT m2 m3 xr bx keyF
variable (key : List Int)
theorem rlock_l6 (s u : List Int) (hs : s.length = 16) (hu : u.length = 16) (m : Nat) (hm1 : 1 ≤ m) (hm : m ≤ 10) (r : List Int) (H : EvS (fun k => C.pyxref05_lock.l1 k (keysV key) boxT (withK u (keyT key m)) ((m + 1 : Nat) : Int)) r) :
  ∀ (d i : Nat), i + d = 16 → EvS (fun k => C.pyxref05_lock.l6 k (keysV key) boxT (rowTo 16 (wF key u m) (fun i => s.getD i 0) i) (m : Int) u (i : Int)) r
 | 0, i, h => by
  obtain rfl : i = 16 := by omega
  refine EvS.step (h := fun k => C.pyxref05_lock.l1 k (keysV key) boxT (withK u (keyT key m)) ((m + 1 : Nat) : Int)) (fun k => ?_) H
  rw [C.pyxref05_lock.l6, if_neg (by omega), rowTo_full, wF_full, wd4 m (by omega)]
 | d + 1, i, h => by
  have g1 : ((i : Int)) < ((16 : Nat) : Int) := by omega
  have g2 : ((16 * m + i : Nat) : Int) < ((176 : Nat) : Int) := by omega
  refine EvS.step (h := fun k => C.pyxref05_lock.l6 k (keysV key) boxT (rowTo 16 (wF key u m) (fun i => s.getD i 0) (i + 1)) (m : Int) u ((i + 1 : Nat) : Int)) (fun k => ?_) (rlock_l6 s u hs hu m hm1 hm r H d (i + 1) (by omega))
  rw [C.pyxref05_lock.l6, if_pos (by omega), if_pos (by omega), hu, if_pos g1, we6 m i hm (by omega), if_pos (by omega), keysV_length, if_pos g2, rowTo_length, if_pos g1, rd_nat, rd_keysV _ _ (by omega), xr_bits, wd4 i (by omega), Int.toNat_natCast]
  rw [show xr (u.getD i 0) (keyF key (16 * m + i)) = wF key u m i from rfl, rowTo_set]
theorem rlock_l5s (s t : List Int) (ht : t.length = 16) (hto : byteOk t = true) (m : Nat) (c : Nat) (hc : c < 4) (r : List Int) (j : Nat) (hj : j < 4)
  (ih : EvS (fun k => C.pyxref05_lock.l5 k (keysV key) boxT s (m : Int) t (rowTo 16 (mixF t) (fun i => t.getD i 0) (4 * c + (j + 1))) (c : Int) ((j + 1 : Nat) : Int)) r) :
  EvS (fun k => C.pyxref05_lock.l5 k (keysV key) boxT s (m : Int) t (rowTo 16 (mixF t) (fun i => t.getD i 0) (4 * c + j)) (c : Int) (j : Int)) r := by
 have g1 : ((4 * c + j : Nat) : Int) < ((16 : Nat) : Int) := by omega
 have g2 : ((4 * c + (j + 1) % 4 : Nat) : Int) < ((16 : Nat) : Int) := by omega
 have g3 : ((4 * c + (j + 2) % 4 : Nat) : Int) < ((16 : Nat) : Int) := by omega
 have g4 : ((4 * c + (j + 3) % 4 : Nat) : Int) < ((16 : Nat) : Int) := by omega
 have n1 : (0 : Int) ≤ ((4 * c + j : Nat) : Int) := by omega
 have n2 : (0 : Int) ≤ ((4 * c + (j + 1) % 4 : Nat) : Int) := by omega
 have n3 : (0 : Int) ≤ ((4 * c + (j + 2) % 4 : Nat) : Int) := by omega
 have n4 : (0 : Int) ≤ ((4 * c + (j + 3) % 4 : Nat) : Int) := by omega
 have e : mixF t (4 * c + j) = xr (xr (xr (m2 (t.getD (4 * c + j) 0)) (m3 (t.getD (4 * c + (j + 1) % 4) 0))) (t.getD (4 * c + (j + 2) % 4) 0)) (t.getD (4 * c + (j + 3) % 4) 0) := by
  unfold mixF
  rw [show (4 * c + j) / 4 * 4 + (4 * c + j) % 4 = 4 * c + j from by omega, show (4 * c + j) / 4 * 4 + (4 * c + j + 1) % 4 = 4 * c + (j + 1) % 4 from by omega, show (4 * c + j) / 4 * 4 + (4 * c + j + 2) % 4 = 4 * c + (j + 2) % 4 from by omega, show (4 * c + j) / 4 * 4 + (4 * c + j + 3) % 4 = 4 * c + (j + 3) % 4 from by omega]
 obtain ⟨b0, b1⟩ := byte_getD t hto (4 * c + j)
 obtain ⟨b2, b3⟩ := byte_getD t hto (4 * c + (j + 1) % 4)
 have j4 : (j : Int) < 4 := by omega
 have j5 : j < 1000000 := by omega
 have q0 := we2 c j hc hj
 have q1 := we3 c j 1 hc hj (by decide)
 have q2 := we3 c j 2 hc hj (by decide)
 have q3 := we3 c j 3 hc hj (by decide)
 have q4 := wd4 j j5
 simp only [show ((1 : Nat) : Int) = 1 from rfl, show ((2 : Nat) : Int) = 2 from rfl, show ((3 : Nat) : Int) = 3 from rfl] at q1 q2 q3
 rw [q4] at q1
 refine EvS.step (h := fun k => (C.pyxref05_Mul.f k (t.getD (4 * c + j) 0) 2).bind fun t163 => (C.pyxref05_Mul.f k (t.getD (4 * c + (j + 1) % 4) 0) 3).bind fun t165 => C.pyxref05_lock.l5 k (keysV key) boxT s (m : Int) t ((rowTo 16 (mixF t) (fun i => t.getD i 0) (4 * c + j)).set (4 * c + j) (xr (xr (xr t163 t165) (t.getD (4 * c + (j + 2) % 4) 0)) (t.getD (4 * c + (j + 3) % 4) 0))) (c : Int) ((j + 1 : Nat) : Int)) (fun k => ?_) (EvS.bind_ (rmul2 _ b0 b1) (EvS.bind_ (rmul3 _ b2 b3) ?_))
 ·rw [C.pyxref05_lock.l5, if_pos j4]
  simp only [q0, q1, q2, q3, q4, ht, rowTo_length, if_pos g1, if_pos g2, if_pos g3, if_pos g4, if_pos n1, if_pos n2, if_pos n3, if_pos n4, rd_nat, xr_bits, Int.toNat_natCast]
 ·rw [← e, rowTo_set]
  exact ih
theorem rlock_l5 (s t : List Int) (ht : t.length = 16) (hto : byteOk t = true) (m : Nat) (c : Nat) (hc : c < 4) (r : List Int) (H : EvS (fun k => C.pyxref05_lock.l4 k (keysV key) boxT s (m : Int) t (rowTo 16 (mixF t) (fun i => t.getD i 0) (4 * (c + 1))) ((c + 1 : Nat) : Int)) r) :
  ∀ (d j : Nat), j + d = 4 → EvS (fun k => C.pyxref05_lock.l5 k (keysV key) boxT s (m : Int) t (rowTo 16 (mixF t) (fun i => t.getD i 0) (4 * c + j)) (c : Int) (j : Int)) r
 | 0, j, h => by
  obtain rfl : j = 4 := by omega
  refine EvS.step (h := fun k => C.pyxref05_lock.l4 k (keysV key) boxT s (m : Int) t (rowTo 16 (mixF t) (fun i => t.getD i 0) (4 * (c + 1))) ((c + 1 : Nat) : Int)) (fun k => ?_) H
  rw [C.pyxref05_lock.l5, if_neg (by omega), wd4 c (by omega), show 4 * c + 4 = 4 * (c + 1) from by omega]
 | d + 1, j, h => rlock_l5s key s t ht hto m c hc r j (by omega) (rlock_l5 s t ht hto m c hc r H d (j + 1) (by omega))
theorem rlock_l4 (s t : List Int) (ht : t.length = 16) (hto : byteOk t = true) (m : Nat) (hm : m < 10) (r : List Int) (H : EvS (fun k => C.pyxref05_lock.l6 k (keysV key) boxT s (m : Int) (mixedS t) 0) r) :
  ∀ (d c : Nat), c + d = 4 → EvS (fun k => C.pyxref05_lock.l4 k (keysV key) boxT s (m : Int) t (rowTo 16 (mixF t) (fun i => t.getD i 0) (4 * c)) (c : Int)) r
 | 0, c, h => by
  obtain rfl : c = 4 := by omega
  refine EvS.step (h := fun k => C.pyxref05_lock.j5 k (keysV key) boxT s (m : Int) t (mixedS t) ((4 : Nat) : Int) false) (fun k => ?_) (EvS.step (h := fun k => C.pyxref05_lock.l6 k (keysV key) boxT s (m : Int) (mixedS t) 0) (fun k => ?_) H)
  ·rw [C.pyxref05_lock.l4, if_neg (by omega), rowTo_full]
   rfl
  ·rw [C.pyxref05_lock.j5, if_neg (by simp)]
 | d + 1, c, h => by
  refine EvS.step (h := fun k => C.pyxref05_lock.j5 k (keysV key) boxT s (m : Int) t (rowTo 16 (mixF t) (fun i => t.getD i 0) (4 * c)) (c : Int) true) (fun k => ?_) (EvS.step (h := fun k => C.pyxref05_lock.l5 k (keysV key) boxT s (m : Int) t (rowTo 16 (mixF t) (fun i => t.getD i 0) (4 * c + 0)) (c : Int) ((0 : Nat) : Int)) (fun k => ?_) (rlock_l5 key s t ht hto m c (by omega) r (rlock_l4 s t ht hto m hm r H d (c + 1) (by omega)) 4 0 (by omega)))
  ·rw [C.pyxref05_lock.l4, if_pos (by omega), show decide ((m : Int) < 10) = true from by simp; omega]
  ·rw [C.pyxref05_lock.j5, if_pos rfl]
   rfl
theorem rlock_l3 (s : List Int) (hs : s.length = 16) (hso : byteOk s = true) (m : Nat) (c : Nat) (hc : c < 4) (r : List Int) (H : EvS (fun k => C.pyxref05_lock.l2 k (keysV key) boxT s (m : Int) (rowTo 16 (shF s) (fun _ => 0) (4 * (c + 1))) ((c + 1 : Nat) : Int)) r) :
  ∀ (d j : Nat), j + d = 4 → EvS (fun k => C.pyxref05_lock.l3 k (keysV key) boxT s (m : Int) (rowTo 16 (shF s) (fun _ => 0) (4 * c + j)) (c : Int) (j : Int)) r
 | 0, j, h => by
  obtain rfl : j = 4 := by omega
  refine EvS.step (h := fun k => C.pyxref05_lock.l2 k (keysV key) boxT s (m : Int) (rowTo 16 (shF s) (fun _ => 0) (4 * (c + 1))) ((c + 1 : Nat) : Int)) (fun k => ?_) H
  rw [C.pyxref05_lock.l3, if_neg (by omega), wd4 c (by omega), show 4 * c + 4 = 4 * (c + 1) from by omega]
 | d + 1, j, h => by
  have hj : j < 4 := by omega
  have g1 : ((4 * ((c + j) % 4) + j : Nat) : Int) < ((16 : Nat) : Int) := by omega
  have g2 : ((4 * c + j : Nat) : Int) < ((16 : Nat) : Int) := by omega
  have n1 : (0 : Int) ≤ ((4 * ((c + j) % 4) + j : Nat) : Int) := by omega
  have n2 : (0 : Int) ≤ ((4 * c + j : Nat) : Int) := by omega
  obtain ⟨b0, b1⟩ := byte_getD s hso (4 * ((c + j) % 4) + j)
  have e : shF s (4 * c + j) = bx (s.getD (4 * ((c + j) % 4) + j) 0) := by
   unfold shF
   rw [show (4 * c + j + 4 * ((4 * c + j) % 4)) % 16 = 4 * ((c + j) % 4) + j from by omega]
  refine EvS.step (h := fun k => C.pyxref05_lock.l3 k (keysV key) boxT s (m : Int) (rowTo 16 (shF s) (fun _ => 0) (4 * c + (j + 1))) (c : Int) ((j + 1 : Nat) : Int)) (fun k => ?_) (rlock_l3 s hs hso m c hc r H d (j + 1) (by omega))
  rw [C.pyxref05_lock.l3, if_pos (by omega), we1 c j hc hj, if_pos n1, hs, if_pos g1, rd_nat, wrap_byte _ b0 b1, if_pos b0, boxT_length, if_pos (show s.getD (4 * ((c + j) % 4) + j) 0 < ((256 : Nat) : Int) from b1), we2 c j hc hj, if_pos n2, rowTo_length, if_pos g2, rd_box _ b0 b1, wd4 j (by omega), Int.toNat_natCast, ← e, rowTo_set]
  rfl
theorem rlock_l2 (s : List Int) (hs : s.length = 16) (hso : byteOk s = true) (m : Nat) (r : List Int) (H : EvS (fun k => C.pyxref05_lock.l4 k (keysV key) boxT s (m : Int) (shiftedS s) (shiftedS s) 0) r) :
  ∀ (d c : Nat), c + d = 4 → EvS (fun k => C.pyxref05_lock.l2 k (keysV key) boxT s (m : Int) (rowTo 16 (shF s) (fun _ => 0) (4 * c)) (c : Int)) r
 | 0, c, h => by
  obtain rfl : c = 4 := by omega
  refine EvS.step (h := fun k => C.pyxref05_lock.l4 k (keysV key) boxT s (m : Int) (shiftedS s) (shiftedS s) 0) (fun k => ?_) H
  rw [C.pyxref05_lock.l2, if_neg (by omega), Option.bind_some, rowTo_length, if_pos (by simp), rowTo_full, List.nil_append]
  rfl
 | d + 1, c, h => by
  refine EvS.step (h := fun k => C.pyxref05_lock.l3 k (keysV key) boxT s (m : Int) (rowTo 16 (shF s) (fun _ => 0) (4 * c + 0)) (c : Int) ((0 : Nat) : Int)) (fun k => ?_) (rlock_l3 key s hs hso m c (by omega) r (rlock_l2 s hs hso m r H d (c + 1) (by omega)) 4 0 (by omega))
  rw [C.pyxref05_lock.l2, if_pos (by omega)]
  rfl
theorem rlock_l1 (b : List Int) : ∀ (d n : Nat), n + d = 10 → EvS (fun k => C.pyxref05_lock.l1 k (keysV key) boxT (lockT key b n) ((n + 1 : Nat) : Int)) (lockT key b 10)
 | 0, n, h => EvS.now fun k => by
  obtain rfl : n = 10 := by omega
  rw [C.pyxref05_lock.l1, if_neg (by omega)]
 | d + 1, n, h => by
  have ih := rlock_l1 b d (n + 1) (by omega)
  have hs := lockT_length key b n
  have hso := byteOk_lockT key b n
  refine EvS.step (h := fun k => C.pyxref05_lock.l2 k (keysV key) boxT (lockT key b n) ((n + 1 : Nat) : Int) (rowTo 16 (shF (lockT key b n)) (fun _ => 0) (4 * 0)) ((0 : Nat) : Int)) (fun k => ?_) (rlock_l2 key (lockT key b n) hs hso (n + 1) _ ?_ 4 0 (by omega))
  ·rw [C.pyxref05_lock.l1, if_pos (by omega), if_pos (by omega)]
   rfl
  ·generalize hX : lockT key b n = X at *
   by_cases h10 : n + 1 < 10
   ·have h2 := rlock_l4 key X (shiftedS X) (shiftedS_length X) (byteOk_shiftedS X) (n + 1) h10 (lockT key b 10) ?_ 4 0 (by omega)
    ·rw [Nat.mul_zero, rowTo_0 _ (shiftedS_length X)] at h2
     exact h2
    ·have h3 := rlock_l6 key X (mixedS (shiftedS X)) hs (mixedS_length _) (n + 1) (by omega) (by omega) (lockT key b 10) ?_ 16 0 (by omega)
     ·rw [rowTo_0 _ hs] at h3
      exact h3
     ·rw [show withK (mixedS (shiftedS X)) (keyT key (n + 1)) = lockT key b (n + 1) from by rw [lockT, if_pos h10, hX]]
      exact ih
   ·refine EvS.step (h := fun k => C.pyxref05_lock.j5 k (keysV key) boxT X ((n + 1 : Nat) : Int) (shiftedS X) (shiftedS X) 0 false) (fun k => ?_) (EvS.step (h := fun k => C.pyxref05_lock.l6 k (keysV key) boxT X ((n + 1 : Nat) : Int) (shiftedS X) 0) (fun k => ?_) ?_)
    ·rw [C.pyxref05_lock.l4, if_pos (by omega), show decide (((n + 1 : Nat) : Int) < 10) = false from by simp; omega]
    ·rw [C.pyxref05_lock.j5, if_neg (by simp)]
    ·have h3 := rlock_l6 key X (shiftedS X) hs (shiftedS_length _) (n + 1) (by omega) (by omega) (lockT key b 10) ?_ 16 0 (by omega)
     ·rw [rowTo_0 _ hs] at h3
      exact h3
     ·rw [show withK (shiftedS X) (keyT key (n + 1)) = lockT key b (n + 1) from by rw [lockT, if_neg h10, hX]]
      exact ih
theorem rlock_l0 (b : List Int) (hb : b.length = 16) : ∀ (d i : Nat), i + d = 16 → EvS (fun k => C.pyxref05_lock.l0 k (keysV key) boxT b (rowTo 16 (wF key b 0) (fun _ => 0) i) (i : Int)) (lockT key b 10)
 | 0, i, h => by
  obtain rfl : i = 16 := by omega
  refine EvS.step (h := fun k => C.pyxref05_lock.l1 k (keysV key) boxT (lockT key b 0) ((0 + 1 : Nat) : Int)) (fun k => ?_) (rlock_l1 key b 10 0 (by omega))
  rw [C.pyxref05_lock.l0, if_neg (by omega), rowTo_full, wF_full]
  rfl
 | d + 1, i, h => by
  have g1 : ((i : Int)) < ((16 : Nat) : Int) := by omega
  have g2 : ((i : Int)) < ((176 : Nat) : Int) := by omega
  have e : wF key b 0 i = xr (b.getD i 0) (keyF key i) := by
   unfold wF
   rw [Nat.mul_zero, Nat.zero_add]
  refine EvS.step (h := fun k => C.pyxref05_lock.l0 k (keysV key) boxT b (rowTo 16 (wF key b 0) (fun _ => 0) (i + 1)) ((i + 1 : Nat) : Int)) (fun k => ?_) (rlock_l0 b hb d (i + 1) (by omega))
  rw [C.pyxref05_lock.l0, if_pos (by omega), if_pos (by omega), hb, if_pos g1, keysV_length, if_pos g2, rowTo_length, if_pos g1, rd_nat, rd_keysV _ _ (by omega), xr_bits, wd4 i (by omega), Int.toNat_natCast, ← e, rowTo_set]
theorem rlock (b : List Int) (hb : b.length = 16) : EvS (fun k => C.pyxref05_lock.f k (keysV key) boxT b) (lockT key b 10) := by
 have h := rlock_l0 key b hb 16 0 (by omega)
 refine EvS.congr (fun k => ?_) h
 unfold C.pyxref05_lock.f
 rw [if_pos (by omega)]
 rfl
end
end Go.Proofs.Ytifpdpfjhjoieaa

/-! AesD -/
namespace Go.Proofs.Ytifpdpfjhjoieaa
set_option linter.unusedVariables false
set_option linter.unusedSimpArgs false
open Go.RowKit Go.Shelf Iter
attribute [local go_sem] Oper.semAt_some
def z256 : List Int := List.replicate 256 0
set_option maxRecDepth 100000 in
theorem zero256 : Try.zeroCells123 = byV z256 := by kernel_rfl
theorem rowBox : rowTo 256 (fun i => bx (i : Int)) (fun _ => 0) 256 = boxT := by decide +kernel
theorem rowBox0 : rowTo 256 (fun i => bx (i : Int)) (fun _ => 0) 0 = z256 := by decide +kernel
set_option maxRecDepth 100000 in
set_option maxHeartbeats 1000000 in
theorem boxes_calls (w : World) :
  Calls Try.prog 65 #[] w fun e w' => e = .returned (.pointer (some ⟨w.heap.size, 0, none⟩)) ∧ Blk w' w.heap.size 123 (byV boxT) ∧ Below w.heap.size w w' := by
 go_enter Try.func65, Try.ntmps65
 go_wp2_with fail
 rw [zero256]
 have bo := Blk.new w 123 (byV z256)
 have hbl : Below w.heap.size w (w.alloc (.cells (byV z256) 123)) := (Below.refl _ w).alloc (Nat.le_refl _) _
 generalize (w.alloc (.cells (byV z256) 123)) = W0 at bo hbl ⊢
 go_loopw [3] (fun i wr => ∃ t : Nat, t ≤ 256 ∧ i = .int .i64 t ∧ Blk wr w.heap.size 123 (byV (rowTo 256 (fun i => bx (i : Int)) (fun _ => 0) t)) ∧ Below w.heap.size w wr) (fun i _ => 256 - (intOf i).toNat)
 case atStart => exact ⟨0, by omega, rfl, by rw [rowBox0]; exact bo, hbl⟩
 case round =>
  clear bo hbl
  obtain ⟨j, hj, rfl, bo, hbl⟩ := hrel
  by_cases h16 : j < 256
  ·have j0 : (0 : Int) ≤ (j : Int) := by omega
   have j1 : (j : Int) < 256 := by omega
   have c0 : IntKind.u8.wrap (j : Int) = (j : Int) := by rw [IntKind.wrap_u8']; omega
   go_wp2_with fail
   refine (A.aes_Box.calls 40 _ _ _ (aes_box _ j0 j1)).mono ?_
   rintro e w' ⟨rfl, hd⟩
   obtain ⟨n, rfl⟩ := hd.out
   have bo1 : Blk (wr.drewN n) w.heap.size 123 (byV (rowTo 256 (fun i => bx (i : Int)) (fun _ => 0) j)) := bo
   have hbl1 := Go.Proofs.YtifpdpfjhjoieaaW.PrintWords.pw_below_drewN hbl n
   clear bo hbl
   generalize wr.drewN n = Wd at bo1 hbl1 ⊢
   have fx := bo1.frozen j
   have gx : Wd.cell? ⟨w.heap.size, j, none⟩ = some (.int .u8 0) := by
    refine (bo1.cell j).trans ?_
    rw [byV_at _ _ (by rw [rowTo_length]; exact h16), rowTo_at _ _ _ _ _ h16, if_neg (by omega)]
   have hset := bo1.set_ j (.int .u8 (bx (j : Int)))
   rw [byV_set, rowTo_set 256 (fun i => bx (i : Int)) (fun _ => 0) j] at hset
   have hb2 := hbl1.setCell (p := ⟨w.heap.size, j, none⟩) (Nat.le_refl _) (.int .u8 (bx (j : Int)))
   have HF := Lib.hid (And.intro hset hb2)
   clear hset hb2 bo1 hbl1
   generalize bx (j : Int) = y at HF ⊢
   go_wp2
   exact ⟨⟨j + 1, by omega, by go_num, HF.out.1, HF.out.2⟩, by simp [intOf]; omega⟩
  ·obtain rfl : j = 256 := by omega
   have hdj : decide (((256 : Nat) : Int) < 256) = false := by decide
   rw [rowBox] at bo
   go_wp2
   go_ret
   exact ⟨rfl, bo, hbl⟩
end Go.Proofs.Ytifpdpfjhjoieaa

/-! AesH -/
namespace Go.Proofs.Ytifpdpfjhjoieaa
set_option linter.unusedVariables false
set_option linter.unusedSimpArgs false
open Go.RowKit Go.Shelf Iter Go.Proofs.YtifpdpfjhjoieaaW.PrintWords Go.Proofs.YtifpdpfjhjoieaaW.PrintLast
attribute [local go_sem] Oper.semAt_some
theorem madeB_eq (n : Nat) : madeCells (Value.int IntKind.u8 0).cells (n * 1) = byV (List.replicate n 0) := by
 apply Array.ext
 ·simp [madeCells, byV]
 ·intro i h1 h2
  simp [madeCells, byV, Value.cells, Nat.mod_one]
theorem madeB (L : Nat) (hL : L ≤ 140737488355328) (W : World) : (Instr.makeSlice 22 (.int .i64 (L : Int)) (.int .i64 (L : Int))).run Try.prog W = .ok (.slice (some ⟨W.heap.size, 0, none⟩) L L) (W.alloc (.cells (byV (List.replicate L 0)) 5)) := by
 obtain ⟨i, hi, hz⟩ := Option.map_eq_some_iff.1 (show (Try.prog.info? 5).map (fun i => (i.zero, i.size, i.bytes)) = some (some (.int .u8 0), 1, 1) by kernel_rfl)
 simp only [Prod.mk.injEq] at hz
 obtain ⟨h0, h1, h2⟩ := hz
 have h := run_make (P := Try.prog) (w := W) 22 5 i (.int .u8 0) Try.underlying22 hi h0 .i64 .i64 (L : Int) (L : Int) (by omega) (by omega) (by rw [h2]; omega) (by omega)
 rw [h1, Int.toNat_natCast, madeB_eq] at h
 exact h
theorem own_of_blk {w : World} {base g n : Nat} {e : TypeId} (l : List Int) (h : Blk w g e (byV l)) (hb : base ≤ g) (hn : l.length = n) (hm : n ≤ maxLen) : Kd.R (Kd.int .u8) e w base (fun _ => True) (.slice (some ⟨g, 0, none⟩) n n) l := by
 subst hn
 refine Kd.R_of_own (enc := Value.int .u8) (h1 := fun _ => rfl) ⟨by simp [encs], .inr ⟨g, l.length, byV l, rfl, hb, h, Nat.le_refl _, hm, by simp [byV_size], ?_⟩⟩ (fun _ _ => trivial)
 rw [List.take_of_length_le (by simp [byV])]
 rfl
/-- Bytes laid over others. -/
def over (cur : List Int) (off : Nat) (cs : List Int) : List Int := cur.take off ++ (cs ++ cur.drop (off + cs.length))
theorem over_length (cur cs : List Int) (off : Nat) (h : off + cs.length ≤ cur.length) : (over cur off cs).length = cur.length := by unfold over; simp; omega
theorem over_two (nonce num : List Int) (h1 : nonce.length = 12) (h2 : num.length = 4) : over (over z16 0 nonce) 12 num = nonce ++ num := by
 unfold over
 rw [List.take_zero, List.nil_append, h1, h2, List.take_left' h1]
 rw [List.drop_append, h1, List.drop_eq_nil_of_le (by rw [h1]; decide)]
 show nonce ++ (num ++ ([] ++ _)) = _
 have e : (z16.drop (0 + 12)).drop (12 + 4 - 12) = [] := by decide
 rw [e]
 simp
theorem wpList_copy_bytes {P : Program} {w : World} {ops : Array Oper} {rest : List Oper} {o : Oper} {a : Act} {Q : Exit → Act → World → Prop} (hgd : o.guard = none) (d s : Operand) (dT sT : TypeId)
  (ho : o.op = .call { callee := .builtin .copy, args := #[d, s], argTypes := #[dT, sT] }) (elem : TypeId) (hu : P.underlying dT = some (.slice elem)) (hsz : (P.info? elem).map (·.size) = some 1)
  (g off dLen dCap : Nat) (ad : Addr) (sLen sCap : Nat) (hd : a.eval d = .slice (some ⟨g, off, none⟩) dLen dCap) (hs : a.eval s = .slice (some ad) sLen sCap)
  (cur : List Int) (t : TypeId) (hg : Blk w g t (byV cur)) (cs : List Int) (hn : cs.length = Nat.min sLen dLen)
  (hsrc : ∀ j, j < cs.length → w.cell? (ad.add j) = some (.int .u8 (cs.getD j 0))) (hfit : off + cs.length ≤ cur.length)
  (h : wpList P ops Q rest (a.put o.dst (goInt cs.length)) (w.setRow g (byV (over cur off cs)))) : wpList P ops Q (o :: rest) a w := by
 refine wpList_copy_own hgd d s dT sT ho elem hu hsz g off dLen dCap ad sLen sCap hd hs (byV cur) t hg (valsB cs) (by rw [valsB_length, hn]) (fun j v hj => ?_) (by rw [valsB_length, byV_size]; exact hfit) (valsB_one cs) ?_
 ·obtain ⟨hj', rfl⟩ := valsB_at cs j v hj
  exact hsrc j hj'
 ·rw [valsB_length]
  have e : ((byV cur).toList.take off ++ (valsB cs ++ (byV cur).toList.drop (off + cs.length))).toArray = byV (over cur off cs) := by
   unfold over byV valsB
   simp
  rw [e]
  exact h
theorem i64_sub (a b c : Nat) (hle : b ≤ a) (h : a - b = c) (hc : a < 1000000) : IntKind.i64.wrap ((a : Int) - (b : Int)) = (c : Int) := by rw [IntKind.wrap_i64]; omega
theorem cell_farRow (W : World) (g : Nat) (cs : Array Value) (k j : Nat) (h : k ≠ g) : (W.setRow g cs).cell? ⟨k, j, none⟩ = W.cell? ⟨k, j, none⟩ := World.cell?_of_block (setRow_other W g k cs h)
/-- What a stream's walk knows of the world. -/
def SB (w : World) (gl gout : Nat) (key out : List Int) (W : World) : Prop := Blk W w.heap.size 123 (byV boxT) ∧ Blk W gl 104 (byV (keysV key)) ∧ Blk W gout 5 (byV out) ∧ Below w.heap.size w W
theorem SB.call {w W W' : World} {gl gout : Nat} {key out : List Int} (h : SB w gl gout key out W) (hb : Below W.heap.size W W') : SB w gl gout key out W' :=
 ⟨h.1.below hb h.1.lt, h.2.1.below hb h.2.1.lt, h.2.2.1.below hb h.2.2.1.lt, h.2.2.2.trans (hb.mono h.2.2.2.size)⟩
theorem SB.alloc {w W : World} {gl gout : Nat} {key out : List Int} (h : SB w gl gout key out W) (o : Obj) : SB w gl gout key out (W.alloc o) := h.call ((Below.refl _ _).alloc (Nat.le_refl _) _)
theorem SB.row {w W : World} {gl gout : Nat} {key out : List Int} (h : SB w gl gout key out W) (g : Nat) (cs : Array Value) (h0 : w.heap.size < g) (h1 : gl ≠ g) (h2 : gout ≠ g) : SB w gl gout key out (W.setRow g cs) :=
 ⟨h.1.farRow (by omega) _, h.2.1.farRow h1 _, h.2.2.1.farRow h2 _, h.2.2.2.trans (Iter.below_setRow _ (by omega))⟩
theorem SB.drew {w W : World} {gl gout : Nat} {key out : List Int} (h : SB w gl gout key out W) : SB w gl gout key out W.drew := ⟨h.1, h.2.1, h.2.2.1, h.2.2.2.drew⟩
theorem SB.set {w W : World} {gl gout : Nat} {key out : List Int} (h : SB w gl gout key out W) (h0 : w.heap.size < gout) (h1 : gl ≠ gout) (i : Nat) (x : Int) : SB w gl gout key (out.set i x) (W.setCell ⟨gout, i, none⟩ (.int .u8 x)) :=
 ⟨h.1.far (by simp; omega) _, h.2.1.far (by simpa using h1) _, by have := h.2.2.1.set_ i (.int .u8 x); rwa [byV_set] at this, h.2.2.2.setCell (by simp; omega) _⟩
def strF (key nonce b : List Int) (i : Nat) : Int := xr (b.getD i 0) ((lockT key (nonce ++ numB (i / 16 + 1) 4) 10).getD (i % 16) 0)
theorem str_full (key nonce b : List Int) (g : Nat → Int) : rowTo b.length (strF key nonce b) g b.length = streamOf key nonce b := by
 unfold rowTo streamOf
 apply List.map_congr_left
 intro i hi
 rw [if_pos (List.mem_range.1 hi)]
 rfl
theorem str_none (n : Nat) (f : Nat → Int) : rowTo n f (fun _ => 0) 0 = List.replicate n 0 := by
 unfold rowTo
 apply List.ext_getElem?
 intro i
 rw [List.getElem?_map, List.getElem?_replicate]
 by_cases h : i < n
 ·rw [if_pos h, List.getElem?_range h]
  simp
 ·rw [if_neg h, List.getElem?_eq_none (by simp; omega)]
  rfl
theorem bytes_of_R {w : World} {base e : Nat} {v : Value} {l : List Int} (h : Kd.R (Kd.int .u8) e w base (fun _ => True) v l) (hl : 0 < l.length) : ∃ g cap, v = .slice (some ⟨g, 0, none⟩) l.length cap ∧ base ≤ g ∧ l.length ≤ cap ∧ g < w.heap.size ∧ ∀ j, j < l.length → w.cell? ⟨g, j, none⟩ = some (.int .u8 (l.getD j 0)) := by
 have ho := Kd.own_of_R (enc := Value.int .u8) (h1 := fun _ => rfl) h
 obtain ⟨g, cap, cur, rfl, hb, hg, hcap, -, hs, ht⟩ : ∃ g cap cur, v = .slice (some ⟨g, 0, none⟩) l.length cap ∧ base ≤ g ∧ w.heap[g]? = some (.cells cur e (0, 0)) ∧ l.length ≤ cap ∧ cap ≤ maxLen ∧ cur.size = cap * 1 ∧ cur.toList.take (l.length * 1) = encs (Value.int .u8) l := by
  rcases ho.2 with ⟨_, h0⟩ | h
  ·omega
  ·exact h
 refine ⟨g, cap, rfl, hb, hcap, (Array.getElem?_eq_some_iff.1 hg).1, fun j hj => ?_⟩
 rw [cell_of_row w g j cur e (0, 0) hg, ← Array.getElem?_toList]
 have h1 : (cur.toList.take (l.length * 1))[j]? = cur.toList[j]? := by rw [List.getElem?_take, if_pos (by omega)]
 rw [← h1, ht]
 simp [encs, hj]
namespace P
def aes_Stream.f (key nonce b : List Int) : Option (List Int × Int) :=
 if key.length = 16 then (if nonce.length = 12 then (if byteOk key = true ∧ byteOk nonce = true ∧ byteOk b = true ∧ b.length ≤ 900000 then some (streamOf key nonce b, 0) else none) else some ([], 1)) else some ([], 1)
set_option maxRecDepth 100000 in
set_option maxHeartbeats 4000000 in
theorem aes_Stream.calls (A0 : Option Addr) (c0 : Nat) (l0 : List Int) (A1 : Option Addr) (c1 : Nat) (l1 : List Int) (A2 : Option Addr) (c2 : Nat) (l2 : List Int) (r1 : List Int) (r2 : Int) (w : World) (hr0 : Kd.C (Kd.int .u8) w A0 l0.length l0) (hc0 : l0.length ≤ c0) (hr1 : Kd.C (Kd.int .u8) w A1 l1.length l1) (hc1 : l1.length ≤ c1) (hr2 : Kd.C (Kd.int .u8) w A2 l2.length l2) (hc2 : l2.length ≤ c2) (h : aes_Stream.f l0 l1 l2 = some (r1, r2)) :
  Calls Try.prog 43 #[.slice A0 l0.length c0, .slice A1 l1.length c1, .slice A2 l2.length c2] w fun e w' => ∃ v0_ : Value, e = .returned (.tuple #[v0_, .int .i64 r2]) ∧ Kd.R (Kd.int .u8) 5 w' w.heap.size (fun _ => True) v0_ r1 ∧ Below w.heap.size w w' := by
 unfold aes_Stream.f at h
 by_cases h16 : l0.length = 16
 case neg =>
  rw [if_neg h16] at h
  injection h with h
  injection h with h1 h2
  subst h1 h2
  have d0 : ((l0.length : Int) == 16) = false := by simp; omega
  have d1 : ((l0.length : Int) != 16) = true := by simp; omega
  go_enter Try.func43, Try.ntmps43
  go_wp2
  go_ret2
  exact ⟨_, rfl, Kd.R_nil _ _ _ _ _, Below.refl _ _⟩
 rw [if_pos h16] at h
 by_cases h12 : l1.length = 12
 case neg =>
  rw [if_neg h12] at h
  injection h with h
  injection h with h1 h2
  subst h1 h2
  rw [h16]
  have d0 : ((l1.length : Int) == 12) = false := by simp; omega
  have d1 : ((l1.length : Int) != 12) = true := by simp; omega
  clear h16 hr0
  go_enter Try.func43, Try.ntmps43
  go_wp2
  go_ret2
  exact ⟨_, rfl, Kd.R_nil _ _ _ _ _, Below.refl _ _⟩
 rw [if_pos h12] at h
 split at h
 case isFalse => cases h
 case isTrue hok =>
 injection h with h
 injection h with h1' h2
 subst h1' h2
 obtain ⟨o0, o1, o2, o3⟩ := hok
 rw [h16] at hr0 hc0
 rw [h12] at hr1 hc1
 rw [h16, h12]
 have HK := Lib.hid (And.intro h16 (And.intro h12 (And.intro o0 (And.intro o1 (And.intro o2 (And.intro hr0 (And.intro hr1 hr2)))))))
 clear h16 h12 o0 o1 o2 hr0 hr1 hr2
 obtain ⟨L, hL⟩ : ∃ L, l2.length = L := ⟨_, rfl⟩
 rw [hL] at hc2 o3 ⊢
 have HLL := Lib.hid hL
 clear hL
 have hmk := Lib.hid (madeB L (by omega))
 go_enter Try.func43, Try.ntmps43
 go_wp2_with fail
 refine (boxes_calls w).mono ?_
 rintro e W1 ⟨rfl, hbx, hb1⟩
 have hr0 := Kd.C_below HK.out.2.2.2.2.2.1 hb1
 have H1 := Lib.hid (And.intro hbx (And.intro hb1 hr0))
 clear hbx hb1 hr0
 go_wp2_with fail
 refine (aesKeys_calls A0 c0 l0 w.heap.size W1 HK.out.1 HK.out.2.2.1 H1.out.2.2 hc0 H1.out.1).mono ?_
 rintro e W2 ⟨rfl, hb2⟩
 have H2 := Lib.hid (And.intro (H1.out.1.below hb2 H1.out.1.lt) (And.intro (H1.out.2.1.trans (hb2.mono H1.out.2.1.size)) H1.out.1.lt))
 have hz := Lib.hid (show Try.zeroCells104.size = (byV (keysV l0)).size by rw [zero176, byV_size, byV_size, keysV_length]; rfl)
 have hi := Lib.hid (show (Try.prog.info? 104).map (·.size) = some (byV (keysV l0)).size by rw [byV_size, keysV_length]; exact infoKeys)
 clear hb2 H1
 go_wp2_with (refine wpList_store_row rfl 104 (.tmp 9) (.tmp 27) rfl W2.heap.size _ rfl rfl 104 _ (Blk.new W2 104 Try.zeroCells104) hi.out hz.out (one_byV _) ?_)
 rw [hmk.out]
 go_wp2_with fail
 have hsz : (((W2.alloc (Obj.cells Try.zeroCells104 104)).setRow W2.heap.size (byV (keysV l0)))).heap.size = W2.heap.size + 1 := by rw [size_setRow, World.size_alloc]
 have S0 : SB w W2.heap.size (W2.heap.size + 1) l0 (rowTo L (strF l0 l1 l2) (fun _ => 0) 0) (((W2.alloc (Obj.cells Try.zeroCells104 104)).setRow W2.heap.size (byV (keysV l0))).alloc (Obj.cells (byV (List.replicate L 0)) 5)) := by
  have hlt := H2.out.1.lt
  refine ⟨((H2.out.1.alloc _).farRow (by omega) _).alloc _, ((Blk.new W2 _ _).setRow_ _).alloc _, ?_, ?_⟩
  ·rw [str_none]
   have := Blk.new ((W2.alloc (Obj.cells Try.zeroCells104 104)).setRow W2.heap.size (byV (keysV l0))) 5 (byV (List.replicate L 0))
   rwa [hsz] at this
  ·have h1 := (H2.out.2.1.alloc H2.out.2.1.size (Obj.cells Try.zeroCells104 104)).trans (Iter.below_setRow (g := W2.heap.size) (byV (keysV l0)) H2.out.2.1.size)
   exact h1.alloc h1.size _
 have hg0 : w.heap.size < W2.heap.size := H2.out.1.lt
 generalize (((W2.alloc (Obj.cells Try.zeroCells104 104)).setRow W2.heap.size (byV (keysV l0))).alloc (Obj.cells (byV (List.replicate L 0)) 5)) = W3 at *
 clear hz hi H2 hsz
 generalize W2.heap.size = gl at *
 clear W1 W2
 have HG := Lib.hid hg0
 clear hg0
 have S0 := Lib.hid S0
 go_loopw [11] (fun vat wr => ∃ t : Nat, 16 * t ≤ L + 15 ∧ vat = .int .i64 ((16 * t : Nat) : Int) ∧ Hid (SB w gl (gl + 1) l0 (rowTo L (strF l0 l1 l2) (fun _ => 0) (min (16 * t) L)) wr)) (fun vat _ => L - (intOf vat).toNat)
 case atStart => exact ⟨0, by omega, rfl, by rw [Nat.mul_zero, Nat.zero_min]; exact S0⟩
 case round =>
  clear S0
  obtain ⟨t, ht, rfl, SX⟩ := hrel
  obtain ⟨a, ha⟩ : ∃ a, 16 * t = a := ⟨_, rfl⟩
  rw [ha] at SX ⊢
  by_cases hlt : a < L
  ·have a0 : (0 : Int) ≤ (a : Int) := by omega
   have a1 : (a : Int) ≤ 900000 := by omega
   have a2 : (a : Int) < (L : Int) := by omega
   have t0 : (0 : Int) ≤ (t : Int) := by omega
   have t1 : (t : Int) ≤ 60000 := by omega
   obtain ⟨m, hm⟩ : ∃ m, t + 1 = m := ⟨_, rfl⟩
   obtain ⟨e, he⟩ : ∃ e, min (a + 16) L = e := ⟨_, rfl⟩
   have hmm := Lib.hid (show P.byt_Num.f (m : Int) 4 = some (numB m 4, 0) by unfold P.byt_Num.f; exact congrArg some (numOf_small m 4 (by omega) (by omega) (by omega)))
   have t9 : t < 1000000 := by omega
   have m9 : m < 1000000 := by omega
   have d0 : (a : Int) / 16 = (t : Int) := by omega
   have Ha := Lib.hid ha
   have Hm := Lib.hid hm
   have He := Lib.hid he
   have D1 := Lib.hid (show (t : Int) + 1 = (m : Int) by omega)
   clear ha hm he ht t9 m9
   go_wp2_with fail
   rw [zero16, D1.out]
   clear d0 D1
   refine (P.byt_Num.calls _ _ _ _ _ hmm.out).mono ?_
   rintro e5 W5 ⟨v, rfl, hR, hb5⟩
   obtain ⟨g4, cap4, rfl, hg4, hcap4, hlt4, hc4⟩ := bytes_of_R hR (by rw [numB_length]; decide)
   rw [numB_length] at hcap4 hc4 ⊢
   have S1 := Lib.hid ((SX.out.alloc (Obj.cells (byV z16) 103)).call hb5)
   have B1 := (Blk.new wr 103 (byV z16)).below hb5 (by simp)
   obtain ⟨ak1, rfl, hk1⟩ := byte_cell l1 (by omega) (Kd.C_below HK.out.2.2.2.2.2.2.1 S1.out.2.2.2)
   have hgo := SX.out.2.2.1.lt
   rw [World.size_alloc] at hg4
   have hk1' : ∀ j, j < l1.length → W5.cell? (ak1.add j) = some (.int .u8 (l1.getD j 0)) := fun j hj => hk1 j (by rw [← HK.out.2.1]; exact hj)
   have HC := Lib.hid (And.intro hk1' (And.intro hc4 (And.intro hlt4 (And.intro B1 (And.intro hg4 hgo)))))
   have HL := Lib.hid (show l1.length = Nat.min 12 16 from HK.out.2.1)
   have HF := Lib.hid (show 0 + l1.length ≤ z16.length by rw [HK.out.2.1]; decide)
   clear hk1 hk1' hc4 hlt4 B1 hg4 hgo hb5 hR
   have hgs0 : w.heap.size < wr.heap.size := SX.out.1.lt
   clear SX
   generalize wr.heap.size = gs at *
   have hN := Lib.hid (show (numB m 4).length = Nat.min 4 4 by rw [numB_length]; rfl)
   have hF2 := Lib.hid (show 12 + (numB m 4).length ≤ (over z16 0 l1).length by rw [over_length _ _ _ HF.out, numB_length]; decide)
   have B2 := Blk.setRow_ HC.out.2.2.2.1 (byV (over z16 0 l1))
   have hc2 : ∀ j, j < (numB m 4).length → (W5.setRow gs (byV (over z16 0 l1))).cell? ((⟨g4, 0, none⟩ : Addr).add j) = some (.int .u8 ((numB m 4).getD j 0)) := by
    intro j hj
    have := HC.out.2.2.2.2.1
    rw [Addr.add_mid, Nat.zero_add, cell_farRow _ _ _ _ _ (by omega)]
    exact HC.out.2.1 j (by rw [numB_length] at hj; exact hj)
   have B3 := B2.setRow_ (byV (over (over z16 0 l1) 12 (numB m 4)))
   have S2 := (S1.out.row gs (byV (over z16 0 l1)) hgs0 (by have := HC.out.2.2.2.2.2; omega) (by have := HC.out.2.2.2.2.2; omega)).row gs (byV (over (over z16 0 l1) 12 (numB m 4))) hgs0 (by have := HC.out.2.2.2.2.2; omega) (by have := HC.out.2.2.2.2.2; omega)
   have ho2 := over_two l1 (numB m 4) HK.out.2.1 (numB_length m 4)
   rw [ho2] at B3 S2
   have hl16 : (l1 ++ numB m 4).length = 16 := by rw [List.length_append, HK.out.2.1, numB_length]
   have H3 := Lib.hid (And.intro B2 (And.intro hc2 (And.intro B3 (And.intro S2 (And.intro ho2 hl16)))))
   have HG2 := Lib.hid (And.intro hgs0 HC.out.2.2.2.2.2)
   clear B2 hc2 B3 S2 ho2 hgs0 hl16 S1
   dsimp only
   go_wp2_with (first
    | (with_reducible refine wpList_copy_bytes rfl (.tmp 44) (.tmp 45) 22 22 rfl 5 Try.underlying22 info_u8s gs 0 16 16 ak1 12 c1 rfl rfl z16 103 HC.out.2.2.2.1 l1 HL.out HC.out.1 HF.out ?_)
    | (with_reducible refine wpList_copy_bytes rfl (.tmp 47) (.tmp 48) 22 22 rfl 5 Try.underlying22 info_u8s gs 12 4 4 ⟨g4, 0, none⟩ 4 cap4 rfl rfl (over z16 0 l1) 103 H3.out.1 (numB m 4) hN.out H3.out.2.1 hF2.out ?_; rw [H3.out.2.2.2.2.1])
    | (refine wpList_load_row rfl 103 (.tmp 12) rfl gs rfl 103 _ (0, 0) _ H3.out.2.2.1 Try.underlying103 rfl (info_byV _ H3.out.2.2.2.2.2) ?_))
   refine (aesLocked_calls gl w.heap.size l0 (l1 ++ numB m 4) _ HK.out.1 H3.out.2.2.2.2.2 H3.out.2.2.2.1.2.1 H3.out.2.2.2.1.1).mono ?_
   rintro e6 W6 ⟨rfl, hb6⟩
   have B4 := H3.out.2.2.1.below hb6 H3.out.2.2.1.lt
   have S3 := H3.out.2.2.2.1.call hb6
   have B5 := B4.setRow_ (byV (lockT l0 (l1 ++ numB m 4) 10))
   have S4 := S3.row gs (byV (lockT l0 (l1 ++ numB m 4) 10)) HG2.out.1 (by have := HG2.out.2; omega) (by have := HG2.out.2; omega)
   have H4 := Lib.hid (And.intro B4 (And.intro H3.out.2.2.2.2.2 (And.intro B5 S4)))
   clear B4 S3 B5 S4 hb6 H3 HC HL HF hN hF2 hcap4
   go_wp2_with (refine wpList_store_row rfl 103 (.tmp 12) (.tmp 52) rfl gs _ rfl rfl 103 _ H4.out.1 (info_byV _ (lockT_length _ _ _)) (size_byV _ _ H4.out.2.1 (lockT_length _ _ _)) (one_byV _) ?_)
   have H5 := Lib.hid (And.intro H4.out.2.2.1 H4.out.2.2.2)
   clear H4
   generalize W6.setRow gs (byV (lockT l0 (l1 ++ numB m 4) 10)) = W7 at *
   clear W5 W6
   clear wr
   have hae : a ≤ e := by have := He.out; omega
   have heL : e ≤ L := by have := He.out; omega
   have hea : e ≤ a + 16 := by have := He.out; omega
   have E0 := Lib.hid (show (if (L : Int) < (a : Int) + 16 then (L : Int) else (a : Int) + 16) = (e : Int) by have := He.out; split <;> omega)
   go_loopw [15] (fun vi wr => ∃ i : Nat, a ≤ i ∧ i ≤ e ∧ vi = .int .i64 (i : Int) ∧ Hid (Blk wr gs 103 (byV (lockT l0 (l1 ++ numB m 4) 10)) ∧ SB w gl (gl + 1) l0 (rowTo L (strF l0 l1 l2) (fun _ => 0) i) wr)) (fun vi _ => e - (intOf vi).toNat)
   case atStart => exact ⟨a, Nat.le_refl _, hae, rfl, by rw [Nat.min_eq_left (Nat.le_of_lt hlt)] at H5; exact H5⟩
   case round =>
    clear H5
    obtain ⟨i, hi1, hi2, rfl, H6⟩ := hrel
    by_cases hlt2 : i < e
    ·have i0 : (0 : Int) ≤ (i : Int) := by omega
     have i1 : (i : Int) < (e : Int) := by omega
     have i2 : (i : Int) < (L : Int) := by omega
     have eM := E0.out
     obtain ⟨k, hk⟩ : ∃ k, i - a = k := ⟨_, rfl⟩
     have k0 : (0 : Int) ≤ (k : Int) := by omega
     have k1 : (k : Int) < 16 := by omega
     have k2 := i64_sub i a k hi1 hk (by omega)
     obtain ⟨ad2, rfl, hcb⟩ := byte_cell l2 (by have := HLL.out; omega) (Kd.C_below HK.out.2.2.2.2.2.2.2 H6.out.2.2.2.2)
     have gx := hcb i (by have := HLL.out; omega)
     have gy : wr.cell? ⟨gs, k, none⟩ = some (.int .u8 ((lockT l0 (l1 ++ numB m 4) 10).getD k 0)) := (H6.out.1.cell k).trans (byV_at _ _ (by rw [lockT_length]; omega))
     have gz : wr.cell? ⟨gl + 1, i, none⟩ = some (.int .u8 0) := by
      refine (H6.out.2.2.2.1.cell i).trans ?_
      rw [byV_at _ _ (by rw [rowTo_length]; omega), rowTo_at _ _ _ _ _ (by omega), if_neg (by omega)]
     have fz := H6.out.2.2.2.1.frozen i
     have hF : strF l0 l1 l2 i = xr (l2.getD i 0) ((lockT l0 (l1 ++ numB m 4) 10).getD k 0) := by
      have h1 := Ha.out
      have h2 := Hm.out
      unfold strF
      rw [show i / 16 + 1 = m from by omega, show i % 16 = k from by omega]
     have hs1 := H6.out.2.set (by have := HG.out; omega) (by omega) i (strF l0 l1 l2 i)
     rw [rowTo_set, hF] at hs1
     have hs0 := H6.out.1.far (p := ⟨gl + 1, i, none⟩) (by simp; have := HG2.out.2; omega) (.int .u8 (xr (l2.getD i 0) ((lockT l0 (l1 ++ numB m 4) 10).getD k 0)))
     have HQ := Lib.hid (And.intro hs0 hs1)
     have HJ := Lib.hid (And.intro hi1 (And.intro hi2 hlt2))
     clear hs0 hs1 hF hk hcb H6 hi1 hi2 hlt2
     generalize l2.getD i 0 = x at *
     generalize (lockT l0 (l1 ++ numB m 4) 10).getD k 0 = y at *
     unfold xr at HQ
     go_wp2_with fail
     go_region
     clear k2
     go_wp2
     exact ⟨⟨i + 1, by have := HJ.out; omega, by have := HJ.out; omega, by go_num, HQ.out.1, HQ.out.2.drew⟩, by simp [intOf]; have := HJ.out; omega⟩
    ·have i0 : (0 : Int) ≤ (i : Int) := by omega
     have i1 : ¬ (i : Int) < (e : Int) := by omega
     have eM := E0.out
     obtain rfl : i = e := by omega
     go_wp2_with fail
     have h1 := Ha.out
     have h2 := He.out
     refine ⟨⟨t + 1, by omega, by rw [show ((16 * (t + 1) : Nat) : Int) = (a : Int) + 16 from by omega], ?_⟩, by simp [intOf]; omega⟩
     have h3 := Lib.hid H6.out.2
     rw [show i = min (16 * (t + 1)) L from by omega] at h3
     exact h3
  ·have hat : ¬ (a : Int) < (L : Int) := by omega
   rw [Nat.min_eq_right (by omega)] at SX
   go_wp2
   go_ret2
   refine ⟨_, rfl, own_of_blk (streamOf l0 l1 l2) ?_ (by have := HG.out; omega) (by rw [streamOf_length, HLL.out]) (by unfold maxLen; omega), SX.out.2.2.2⟩
   have h1 := SX.out.2.2.1
   rw [← HLL.out, str_full] at h1
   exact h1
end P
end Go.Proofs.Ytifpdpfjhjoieaa

/-! AesT -/
namespace Go.Proofs.Ytifpdpfjhjoieaa
set_option linter.unusedVariables false
set_option linter.unusedSimpArgs false
open Go.RowKit Go.Proofs.YtifpdpfjhjoieaaW.PrintWords Go.Proofs.YtifpdpfjhjoieaaW.PrintLast
theorem w64_small (t : Nat) (h : t < 1000000) : wrap64 (t : Int) = (t : Int) := by unfold wrap64; omega
section
variable (key nonce b : List Int) (hkey : byteOk key = true) (h16 : key.length = 16) (h12 : nonce.length = 12) (hb : b.length ≤ 900000)
include hb in
theorem rstr_l1 (t : Nat) (hlt : 16 * t < b.length) (r : List Int × Int) (H : EvS (fun k => C.pyxref05_Stream.l0 k nonce b (upTo (strF key nonce b) (min (16 * (t + 1)) b.length)) boxT (keysV key) ((16 * (t + 1) : Nat) : Int)) r) :
  ∀ (d i : Nat), 16 * t ≤ i → i + d = min (16 * (t + 1)) b.length → EvS (fun k => C.pyxref05_Stream.l1 k nonce b (upTo (strF key nonce b) i) boxT (keysV key) ((16 * t : Nat) : Int) (lockT key (nonce ++ numB (t + 1) 4) 10) (i : Int)) r
 | 0, i, hi, h => by
  have e : wrap64 (((16 * t : Nat) : Int) + 16) = ((16 * (t + 1) : Nat) : Int) := by unfold wrap64; omega
  refine EvS.step (h := fun k => C.pyxref05_Stream.l0 k nonce b (upTo (strF key nonce b) (min (16 * (t + 1)) b.length)) boxT (keysV key) ((16 * (t + 1) : Nat) : Int)) (fun k => ?_) H
  have hi' : i = min (16 * (t + 1)) b.length := by omega
  by_cases h1 : i < 16 * (t + 1)
  ·rw [C.pyxref05_Stream.l1, e, if_pos (by omega), if_neg (by omega), ← hi']
  ·rw [C.pyxref05_Stream.l1, e, if_neg (by omega), ← hi']
 | d + 1, i, hi, h => by
  have e : wrap64 (((16 * t : Nat) : Int) + 16) = ((16 * (t + 1) : Nat) : Int) := by unfold wrap64; omega
  have e2 : wrap64 ((i : Int) - ((16 * t : Nat) : Int)) = ((i - 16 * t : Nat) : Int) := by unfold wrap64; omega
  have g1 : (i : Int) < ((16 * (t + 1) : Nat) : Int) := by omega
  have g2 : (i : Int) < (b.length : Int) := by omega
  have g3 : ((i - 16 * t : Nat) : Int) < ((16 : Nat) : Int) := by omega
  have hF : strF key nonce b i = xr (b.getD i 0) ((lockT key (nonce ++ numB (t + 1) 4) 10).getD (i - 16 * t) 0) := by
   unfold strF
   rw [show i / 16 + 1 = t + 1 from by omega, show i % 16 = i - 16 * t from by omega]
  refine EvS.step (h := fun k => C.pyxref05_Stream.l1 k nonce b (upTo (strF key nonce b) (i + 1)) boxT (keysV key) ((16 * t : Nat) : Int) (lockT key (nonce ++ numB (t + 1) 4) 10) ((i + 1 : Nat) : Int)) (fun k => ?_) (rstr_l1 t hlt r H d (i + 1) (by omega) (by omega))
  rw [C.pyxref05_Stream.l1, e, if_pos g1, if_pos g2, if_pos (by omega), e2, if_pos (by omega), lockT_length, if_pos g3, upTo_length, if_pos (by omega), rd_nat, rd_nat, xr_bits, ← hF, upTo_succ, wd4 i (by omega)]
include hb h12 in
theorem rstr_l0 : ∀ (d t : Nat), (b.length + 15) / 16 = t + d → EvS (fun k => C.pyxref05_Stream.l0 k nonce b (upTo (strF key nonce b) (min (16 * t) b.length)) boxT (keysV key) ((16 * t : Nat) : Int)) (streamOf key nonce b, 0)
 | 0, t, h => EvS.now fun k => by
  rw [C.pyxref05_Stream.l0, if_neg (by omega), Nat.min_eq_right (by omega)]
  rfl
 | d + 1, t, h => by
  have ih := rstr_l0 d (t + 1) (by omega)
  have hl : (nonce ++ numB (t + 1) 4).length = 16 := by rw [List.length_append, h12, numB_length]
  have hn : P.pyxref01_Num.f ((t + 1 : Nat) : Int) 4 = some (numB (t + 1) 4, 0) := by
   unfold P.pyxref01_Num.f
   exact congrArg some (numOf_small (t + 1) 4 (by omega) (by omega) (by omega))
  have e1 : Int.tdiv ((16 * t : Nat) : Int) 16 = (t : Int) := by rw [Int.natCast_mul]; simp
  refine EvS.step (h := fun k => (C.pyxref05_lock.f k (keysV key) boxT (nonce ++ numB (t + 1) 4)).bind fun t191 => C.pyxref05_Stream.l1 k nonce b (upTo (strF key nonce b) (min (16 * t) b.length)) boxT (keysV key) ((16 * t : Nat) : Int) t191 ((16 * t : Nat) : Int)) (fun k => ?_) (EvS.bind_ (rlock key _ hl) ?_)
  ·have g8 : ([] : List Int).length + nonce.length < 140737488355328 := by rw [h12]; decide
   have g9 : nonce.length + (numB (t + 1) 4).length < 140737488355328 := by rw [h12, numB_length]; decide
   have g : ((16 * t : Nat) : Int) < (b.length : Int) := by omega
   rw [C.pyxref05_Stream.l0, if_pos g, e1, w64_small t (by omega), wd4 t (by omega), hn, Option.bind_some, Option.bind_some, List.nil_append, if_pos g8, Option.bind_some, if_pos g9]
  ·have h1 := rstr_l1 key nonce b hb t (by omega) _ ih (min (16 * (t + 1)) b.length - 16 * t) (16 * t) (by omega) (by omega)
   rw [Nat.min_eq_left (by omega)]
   exact h1
include hkey hb h16 h12 in
theorem rstr : EvS (fun k => C.pyxref05_Stream.f k key nonce b) (streamOf key nonce b, 0) := by
 by_cases h0 : b = []
 ·subst h0
  refine EvS.step (fun k => ?_) (EvS.now (g := fun k => some (streamOf key nonce [], 0)) fun k => rfl)
  unfold C.pyxref05_Stream.f
  rw [if_pos (by omega), C.pyxref05_Stream.j0, h12, if_neg (by decide), if_pos (by simp)]
  rfl
 ·have hp : 0 < b.length := List.length_pos_iff.2 h0
  refine EvS.step (h := fun k => (C.pyxref05_boxes.f k).bind fun t172 => ((C.pyxref05_keys.f k key t172).bind fun t175 => (C.pyxref05_Stream.l0 k nonce b ([] : List Int) t172 t175 0))) (fun k => ?_) (EvS.bind_ rboxes (EvS.bind_ (rkeys key hkey h16) ?_))
  ·unfold C.pyxref05_Stream.f
   rw [if_pos (by omega), C.pyxref05_Stream.j0, h12, if_neg (by decide), if_neg (by omega)]
  ·have h1 := rstr_l0 key nonce b h12 hb ((b.length + 15) / 16) 0 (by omega)
   rw [Nat.mul_zero, Nat.zero_min] at h1
   exact h1
end
namespace P
def pyxref05_Stream.f (key nonce b : List Int) : Option (List Int × Int) := aes_Stream.f key nonce b
theorem pyxref05_Stream.calls (A0 : Option Addr) (c0 : Nat) (l0 : List Int) (A1 : Option Addr) (c1 : Nat) (l1 : List Int) (A2 : Option Addr) (c2 : Nat) (l2 : List Int) (r1 : List Int) (r2 : Int) (w : World) (hr0 : Kd.C (Kd.int .u8) w A0 l0.length l0) (hc0 : l0.length ≤ c0) (hr1 : Kd.C (Kd.int .u8) w A1 l1.length l1) (hc1 : l1.length ≤ c1) (hr2 : Kd.C (Kd.int .u8) w A2 l2.length l2) (hc2 : l2.length ≤ c2) (h : pyxref05_Stream.f l0 l1 l2 = some (r1, r2)) :
  Calls Try.prog 25 #[.slice A0 l0.length c0, .slice A1 l1.length c1, .slice A2 l2.length c2] w fun e w' => ∃ v0_ : Value, e = .returned (.tuple #[v0_, .int .i64 r2]) ∧ Kd.R (Kd.int .u8) 5 w' w.heap.size (fun _ => True) v0_ r1 ∧ Below w.heap.size w w' := by
 unfold pyxref05_Stream.f aes_Stream.f at h
 have bad : ∀ k, ¬ (l0.length = 16 ∧ l1.length = 12) → C.pyxref05_Stream.f (k + 1) l0 l1 l2 = some ([], 1) := by
  intro k hn
  unfold C.pyxref05_Stream.f
  by_cases h16 : l0.length = 16
  ·rw [if_pos (by omega), C.pyxref05_Stream.j0, show ((l1.length : Int) != 12) = true from by simp; omega, if_pos rfl]
  ·rw [if_neg (by omega), C.pyxref05_Stream.j0, if_pos rfl]
 by_cases h16 : l0.length = 16
 case neg =>
  rw [if_neg h16] at h
  exact C.pyxref05_Stream.calls 1 A0 c0 l0 A1 c1 l1 A2 c2 l2 r1 r2 w hr0 hc0 hr1 hc1 hr2 hc2 ((bad 0 (fun x => h16 x.1)).trans h)
 rw [if_pos h16] at h
 by_cases h12 : l1.length = 12
 case neg =>
  rw [if_neg h12] at h
  exact C.pyxref05_Stream.calls 1 A0 c0 l0 A1 c1 l1 A2 c2 l2 r1 r2 w hr0 hc0 hr1 hc1 hr2 hc2 ((bad 0 (fun x => h12 x.2)).trans h)
 rw [if_pos h12] at h
 split at h
 case isFalse => cases h
 case isTrue hok =>
 obtain ⟨k0, hk⟩ := rstr l0 l1 l2 hok.1 h16 h12 hok.2.2.2
 exact C.pyxref05_Stream.calls k0 A0 c0 l0 A1 c1 l1 A2 c2 l2 r1 r2 w hr0 hc0 hr1 hc1 hr2 hc2 ((hk k0 (Nat.le_refl _)).trans h)
end P
end Go.Proofs.Ytifpdpfjhjoieaa

/-! SealA -/
namespace Go.Proofs.Ytifpdpfjhjoieaa
set_option linter.unusedVariables false
set_option linter.unusedSimpArgs false
open Go.RowKit Go.Shelf Iter Go.Proofs.YtifpdpfjhjoieaaW.PrintWords Go.Proofs.YtifpdpfjhjoieaaW.PrintLast
attribute [local go_sem] Oper.semAt_some
def labLock : ByteArray := ⟨#[108, 111, 99, 107]⟩
def labTag : ByteArray := ⟨#[116, 97, 103]⟩
set_option maxRecDepth 100000 in
set_option maxHeartbeats 1000000 in
theorem half_calls (lab : ByteArray) (n : Nat) (m : Int) (hm : m = (n : Int)) (hn : n ≤ 8160) (hl : lab.size ≤ 100000) (g : Nat) (A0 : Option Addr) (c0 : Nat) (key : List Int) (w : World) (ho : byteOk key = true) (h32 : key.length = 32)
  (hcell : w.cell? ⟨g, 0, none⟩ = some (.slice A0 32 c0)) (hr : Kd.C (Kd.int .u8) w A0 key.length key) (hc : 32 ≤ c0) :
  Calls Try.prog 39 #[.string lab, .int .i64 m, .pointer (some ⟨g, 0, none⟩)] w fun e w' => ∃ v, e = .returned v ∧ Kd.R (Kd.int .u8) 5 w' w.heap.size (fun _ => True) v (labelOf key lab [] n) ∧ Below w.heap.size w w' := by
 have hL := Lib.hid (show P.kdf_Label.f key lab [] m = some (labelOf key lab [] n, 0) by rw [hm]; exact label_some key lab [] n hn ho rfl (by omega) hl (by simp))
 have hr := Lib.hid (And.intro hr (And.intro h32 ho))
 clear hm h32 ho
 go_enter Try.func39, Try.ntmps39
 go_wp2_with fail
 rw [show (32 : Nat) = key.length from hr.out.2.1.symm]
 refine (P.kdf_Label.calls A0 c0 key lab none 0 [] m (labelOf key lab [] n) 0 w hr.out.1 (by rw [hr.out.2.1]; exact hc) (Kd.C_nil _ _) (Nat.le_refl _) hL.out).mono ?_
 rintro e w' ⟨v, rfl, hR, hb⟩
 have HR := Lib.hid (And.intro hR hb)
 clear hR hb
 go_wp2
 go_ret
 exact ⟨_, rfl, HR.out⟩
namespace P
def seal_Halves.f (key : List Int) : Option (List Int × List Int × Int) := if key.length = 32 then (if byteOk key = true then some (labelOf key labLock [] 16, labelOf key labTag [] 32, 0) else none) else some ([], [], 1)
set_option maxRecDepth 100000 in
set_option maxHeartbeats 1000000 in
theorem seal_Halves.calls (A0 : Option Addr) (c0 : Nat) (l0 : List Int) (r1 : List Int) (r2 : List Int) (r3 : Int) (w : World) (hr0 : Kd.C (Kd.int .u8) w A0 l0.length l0) (hc0 : l0.length ≤ c0) (h : seal_Halves.f l0 = some (r1, r2, r3)) :
  Calls Try.prog 14 #[.slice A0 l0.length c0] w fun e w' => ∃ v0_ v1_ : Value, e = .returned (.tuple #[v0_, v1_, .int .i64 r3]) ∧ Kd.R (Kd.int .u8) 5 w' w.heap.size (fun k_ => some k_ ≠ (v1_ : Value).ownBlock) v0_ r1 ∧ Kd.R (Kd.int .u8) 5 w' w.heap.size (fun k_ => some k_ ≠ (v0_ : Value).ownBlock) v1_ r2 ∧ Below w.heap.size w w' := by
 unfold seal_Halves.f at h
 by_cases h32 : l0.length = 32
 case neg =>
  rw [if_neg h32] at h
  injection h with h
  injection h with h1 h2
  injection h2 with h2 h3
  subst h1 h2 h3
  have d0 : ((l0.length : Int) == 32) = false := by simp; omega
  have d1 : ((l0.length : Int) != 32) = true := by simp; omega
  go_enter Try.func14, Try.ntmps14
  go_wp2
  go_ret3
  exact ⟨_, _, rfl, Kd.R_nil _ _ _ _ _, Kd.R_nil _ _ _ _ _, (Below.refl _ _).alloc (Nat.le_refl _) _⟩
 rw [if_pos h32] at h
 split at h
 case isFalse => cases h
 case isTrue ho =>
 injection h with h
 injection h with h1 h2
 injection h2 with h2 h3
 subst h1 h2 h3
 rw [h32] at hc0 ⊢
 have HK := Lib.hid (And.intro h32 (And.intro ho hr0))
 clear h32 ho hr0
 go_enter Try.func14, Try.ntmps14
 go_wp2_with fail
 have b0 := Blk.new w 22 #[.slice A0 32 c0]
 have hb0 : Below w.heap.size w (w.alloc (Obj.cells #[.slice A0 32 c0] 22)) := (Below.refl _ _).alloc (Nat.le_refl _) _
 refine (half_calls labLock 16 16 rfl (by decide) (by decide) w.heap.size A0 c0 l0 _ HK.out.2.1 HK.out.1 (b0.cell 0) (Kd.C_alloc HK.out.2.2 _) hc0).mono ?_
 rintro e W1 ⟨v1, rfl, hR1, hb1⟩
 have H1 := Lib.hid (And.intro (b0.below hb1 b0.lt) (And.intro (Kd.C_below (Kd.C_alloc HK.out.2.2 _) hb1) (And.intro hR1 (hb0.trans (hb1.mono hb0.size)))))
 clear b0 hb0 hR1 hb1
 go_wp2_with fail
 refine (half_calls labTag 32 32 rfl (by decide) (by decide) w.heap.size A0 c0 l0 _ HK.out.2.1 HK.out.1 (H1.out.1.cell 0) H1.out.2.1 hc0).mono ?_
 rintro e W2 ⟨v2, rfl, hR2, hb2⟩
 have hlt := Kd.R_lt H1.out.2.2.1
 have hR1' := Kd.R_elder' H1.out.2.2.1 (v := v2) (fun k hk => own_base (Kd.own_of_R (enc := Value.int .u8) (h1 := fun _ => rfl) hR2) k hk) hb2
 have hR2' := Kd.R_new' hR2 (u := v1) hlt
 have H2 := Lib.hid (And.intro hR1' (And.intro hR2' (And.intro (H1.out.2.2.2.trans (hb2.mono H1.out.2.2.2.size)) H1.out.2.2.2.size)))
 clear hlt hR1' hR2' H1 hR2 hb2
 go_wp2
 go_ret3
 exact ⟨_, _, rfl, Kd.R_mono (Kd.R_lower H2.out.1 (by simp)) (fun _ hk => hk.2), Kd.R_mono (Kd.R_lower H2.out.2.1 H2.out.2.2.2) (fun _ hk => hk.2), H2.out.2.2.1⟩
end P
end Go.Proofs.Ytifpdpfjhjoieaa

/-! H0 -/
namespace Go.Proofs.Ytifpdpfjhjoieaa.H
open Go.Proofs.Ytifpdpfjhjoieaa.P
open Go.RowKit Go.Proofs.YtifpdpfjhjoieaaW.PrintWords Go.Proofs.YtifpdpfjhjoieaaW.PrintLast Go.Proofs.YtifpdpfjhjoieaaW.PrintMore
attribute [local go_sem] max2_int min2_int max_two min_two max_three min_three max_four min_four   -- for this text's walks alone
set_option linter.unusedVariables false
set_option linter.unusedSimpArgs false
def errW : Option Int → Value
 | none => .nilIface
 | some c => .iface 0 (.int .i64 c)
theorem errW_none : errW none = .nilIface := rfl
theorem errW_some (c : Int) : errW (some c) = .iface 0 (.int .i64 c) := rfl
theorem info5 : (Try.prog.info? 5).map (fun i => (i.zero, i.size, i.bytes)) = some (some (.int .u8 0), 1, 1) := by kernel_rfl
-- the values' own types
end Go.Proofs.Ytifpdpfjhjoieaa.H
