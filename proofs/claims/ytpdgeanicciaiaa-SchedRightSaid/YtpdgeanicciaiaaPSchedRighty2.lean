-- Written by xprint.py, this session's driver over the kit's print.py, out of the translation.
import Derived.Test.YtpdgeanicciaiaaPSchedRighty0
namespace Go.Proofs.Ytpdgeanicciaiaa.P
open Go.RowKit Go.Proofs.YtpdgeanicciaiaaW.PrintWords Go.Proofs.YtpdgeanicciaiaaW.PrintLast Go.Proofs.YtpdgeanicciaiaaW.PrintMore
attribute [local go_sem] max2_int min2_int max_two min_two max_three min_three max_four min_four   -- for this text's walks alone
set_option linter.unusedVariables false
set_option linter.unusedSimpArgs false

/-! ### pyxlaw12_SchedRight: function 10 -/
def pyxlaw12_SchedRight.j0 : Nat → List Int → List Int → List Int → List (List Int) → Bool → Bool → Option (Bool)
  | 0, _, _, _, _, _, _ => none
  | k + 1, x3, x4, x5, x6, x7, x51 => if x51 = true then (some x7) else ((sched_Epoch.f x3 x4 x5).bind fun bt104 => ((pyxref04_Extract.f x3 x4).bind fun t121 => ((pyxref04_Label.f t121 (⟨#[101, 112, 111, 99, 104]⟩ : ByteArray) x5 32).bind fun bt124 => (if 0 ≤ (wrap64 ((x6.length : Int) - 1)) then (if (wrap64 ((x6.length : Int) - 1)) < (x6.length : Int) then ((pyxref04_Label.f (rd_L1 x6 (wrap64 ((x6.length : Int) - 1))) (⟨#[115, 104, 97, 114, 101, 100]⟩ : ByteArray) (([0, (wrap64 ((x6.length : Int) - 1)) % 256] : List Int)) 32).bind fun bt132 => (if x7 = true then (if bt104.2.2.2.2.2 = 0 then ((pyxref12_Right.f bt104.1 bt104.2.1 bt104.2.2.1 bt104.2.2.2.1 bt104.2.2.2.2.1).bind fun t136 => (if t136 = true then ((pyxref04_Out.f bt124.1 (⟨#[114, 101, 115, 117, 109, 101]⟩ : ByteArray)).bind fun t137 => ((pyxref01_Same.f bt104.2.2.2.2.1 t137).bind fun t140 => (if t140 = true then ((pyxref04_Out.f bt124.1 (⟨#[99, 111, 110, 102, 105, 114, 109]⟩ : ByteArray)).bind fun t141 => ((pyxref01_Same.f bt104.2.2.2.1 t141).bind fun t144 => (if t144 = true then ((pyxref04_Out.f bt124.1 (⟨#[101, 120, 112, 111, 114, 116]⟩ : ByteArray)).bind fun t145 => ((pyxref01_Same.f bt104.2.2.1 t145).bind fun t148 => (if t148 = true then ((pyxref04_Out.f bt124.1 (⟨#[115, 101, 110, 100]⟩ : ByteArray)).bind fun t149 => ((pyxref01_Same.f bt104.2.1 t149).bind fun t152 => (if t152 = true then ((pyxref04_Out.f bt124.1 (⟨#[105, 110, 105, 116]⟩ : ByteArray)).bind fun t153 => ((pyxref01_Same.f bt104.1 t153).bind fun t156 => (if t156 = true then ((sched_Shared.f x6).bind fun t157 => (if (wrap64 ((x6.length : Int) - 1)) ≤ (x6.length : Int) then ((sched_Shared.f (x6.take ((wrap64 ((x6.length : Int) - 1)) : Int).toNat)).bind fun t164 => ((pyxref04_Extract.f t164 bt132.1).bind fun t167 => ((pyxref01_Same.f t157 t167).bind fun t170 => (some t170)))) else (none))) else (some false)))) else (some false)))) else (some false)))) else (some false)))) else (some false)))) else (some false))) else (some false)) else (some false))) else (none)) else (none)))))
def pyxlaw12_SchedRight.f (k : Nat) (l0_0 : List Int) (l0_1 : List Int) (l0_2 : List Int) (l0_3 : List (List Int)) : Option (Bool) := (pyxlaw12_shown.f).bind fun t102 => (if (l0_0.length : Int) = 32 then (if (l0_1.length : Int) = 32 then (if (l0_2.length : Int) > 200 then (pyxlaw12_SchedRight.j0 k l0_0 l0_1 l0_2 l0_3 t102 true) else (if (l0_3.length : Int) = 0 then (pyxlaw12_SchedRight.j0 k l0_0 l0_1 l0_2 l0_3 t102 true) else (if (l0_3.length : Int) > 5 then (pyxlaw12_SchedRight.j0 k l0_0 l0_1 l0_2 l0_3 t102 true) else ((pyxref03_Long.f l0_3).bind fun t103 => (pyxlaw12_SchedRight.j0 k l0_0 l0_1 l0_2 l0_3 t102 (decide (t103 > 300))))))) else (pyxlaw12_SchedRight.j0 k l0_0 l0_1 l0_2 l0_3 t102 true)) else (pyxlaw12_SchedRight.j0 k l0_0 l0_1 l0_2 l0_3 t102 true))
theorem pyxlaw12_SchedRight.mono_l : ∀ k, (∀ y0 y1 y2 y3 y4 y5, LeO (pyxlaw12_SchedRight.j0 k y0 y1 y2 y3 y4 y5) (pyxlaw12_SchedRight.j0 (k + 1) y0 y1 y2 y3 y4 y5))
  | 0 => fun _ _ _ _ _ _ r h => by simp [pyxlaw12_SchedRight.j0] at h
  | k + 1 => by
    have ih0 := pyxlaw12_SchedRight.mono_l k
    · intro y0 y1 y2 y3 y4 y5
      unfold pyxlaw12_SchedRight.j0
      repeat' first
      | (with_reducible exact ih0 _ _ _ _ _ _)
      | (with_reducible exact LeO.refl _)
      | (with_reducible exact LeO.none _)
      | (with_reducible refine LeO.ite ?_ ?_)
      | (with_reducible refine LeO.bind ?_ (fun _ => ?_))
      | exact ih0 _ _ _ _ _ _
      | exact LeO.none _
      | refine LeO.ite ?_ ?_
      | refine LeO.bind ?_ (fun _ => ?_)
theorem pyxlaw12_SchedRight.mono : ∀ a0 a1 a2 a3 k, LeO (pyxlaw12_SchedRight.f k a0 a1 a2 a3) (pyxlaw12_SchedRight.f (k + 1) a0 a1 a2 a3) := by
  intro a0 a1 a2 a3 k
  have ih0 := pyxlaw12_SchedRight.mono_l k
  unfold pyxlaw12_SchedRight.f
  repeat' first
      | (with_reducible exact ih0 _ _ _ _ _ _)
      | (with_reducible exact LeO.refl _)
      | (with_reducible exact LeO.none _)
      | (with_reducible refine LeO.ite ?_ ?_)
      | (with_reducible refine LeO.bind ?_ (fun _ => ?_))
      | exact ih0 _ _ _ _ _ _
      | exact LeO.none _
      | refine LeO.ite ?_ ?_
      | refine LeO.bind ?_ (fun _ => ?_)
def pyxlaw12_SchedRight.T12 : Bool × List (List Nat × List Nat) := (true, [([], []), ([0], [0]), ([1], [1]), ([2, 1], [1, 2]), ([1, 3], [1, 3]), ([4, 1], [4]), ([5], [5]), ([6, 5, 5], [5, 6]), ([5, 7], [5, 7]), ([8, 7], [8]), ([9], [9]), ([10, 9], [9, 10]), ([9], [9]), ([12, 9, 9], [9, 12]), ([11, 13, 13, 9], [9, 11, 13]), ([9, 14], [9, 14]), ([15, 14], [15]), ([16], [16]), ([17, 16], [16, 17]), ([16], [16]), ([19, 16, 16], [16, 19]), ([18, 20, 20, 16], [16, 18, 20]), ([16, 21], [16, 21]), ([22, 21], [22]), ([23], [23]), ([24, 23], [23, 24]), ([23], [23]), ([26, 23, 23], [23, 26]), ([25, 27, 27, 23], [23, 25, 27]), ([23, 28], [23, 28]), ([29, 28], [29]), ([30], [30]), ([31, 30], [30, 31]), ([30], [30]), ([33, 30, 30], [30, 33]), ([32, 34, 34, 30], [30, 32, 34]), ([30, 35], [30, 35]), ([36, 35], [36]), ([37], [37]), ([38, 37], [37, 38]), ([37], [37]), ([40, 37, 37], [37, 40]), ([39, 41, 41, 37], [37, 39, 41]), ([37, 42], [37, 42]), ([43, 42], [43]), ([44], [44]), ([45, 44, 44], [44, 45]), ([44], [44]), ([44], [44]), ([47, 48, 44], [44, 47, 48]), ([49, 46, 44], [44, 49]), ([44], [44]), ([50, 51, 50, 44], [44, 50, 51]), ([46, 52, 52, 44], [44, 46, 52]), ([44, 53], [44, 53]), ([54, 53, 0, 1, 2, 3, 4, 5, 6, 7, 8, 9, 10, 11, 12, 13, 14, 15, 16, 17, 18, 19, 20, 21, 22, 23, 24, 25, 26, 27, 28, 29, 30, 31, 32, 33, 34, 35, 36, 37, 38, 39, 40, 41, 42, 43, 44, 45, 46, 47, 48, 49, 50, 51, 52, 53, 54], [54])])
def pyxlaw12_SchedRight.B12 : List Nat := [0, 1, 3, 7, 15, 31, 63, 127, 255, 511, 1023, 2047, 1023, 5119, 16383, 32767, 65535, 131071, 262143, 131071, 655359, 2097151, 4194303, 8388607, 16777215, 33554431, 16777215, 83886079, 268435455, 536870911, 1073741823, 2147483647, 4294967295, 2147483647, 10737418239, 34359738367, 68719476735, 137438953471, 274877906943, 549755813887, 274877906943, 1374389534719, 4398046511103, 8796093022207, 17592186044415, 35184372088831, 70368744177663, 35184372088831, 35184372088831, 457396837154815, 1125899906842623, 35184372088831, 4503599627370495, 9007199254740991, 18014398509481983, 36028797018963967]
theorem pyxlaw12_SchedRight.tab12 : rtab .any (opsOf Try.f10 12) = pyxlaw12_SchedRight.T12 := by kernel_rfl
theorem pyxlaw12_SchedRight.bits12 : waitsOk pyxlaw12_SchedRight.T12.2 pyxlaw12_SchedRight.B12 = true := by kernel_rfl
set_option maxHeartbeats 8000000 in
set_option maxRecDepth 100000 in
theorem pyxlaw12_SchedRight.calls (k : Nat) (A0_0 : Option Addr) (c0_0 : Nat) (l0_0 : List Int) (A0_1 : Option Addr) (c0_1 : Nat) (l0_1 : List Int) (A0_2 : Option Addr) (c0_2 : Nat) (l0_2 : List Int) (A0_3 : Option Addr) (c0_3 : Nat) (l0_3 : List (List Int)) (w : World) (hr0_0 : Kd.C (Kd.int .u8) w A0_0 l0_0.length l0_0) (hc0_0 : l0_0.length ≤ c0_0) (hr0_1 : Kd.C (Kd.int .u8) w A0_1 l0_1.length l0_1) (hc0_1 : l0_1.length ≤ c0_1) (hr0_2 : Kd.C (Kd.int .u8) w A0_2 l0_2.length l0_2) (hc0_2 : l0_2.length ≤ c0_2) (hr0_3 : Kd.C (Kd.slice 5 (Kd.int .u8)) w A0_3 l0_3.length l0_3) (hc0_3 : l0_3.length ≤ c0_3) (h : pyxlaw12_SchedRight.f k l0_0 l0_1 l0_2 l0_3 = some true) :
    Calls Try.prog 10 #[.agg #[.slice A0_0 l0_0.length c0_0, .slice A0_1 l0_1.length c0_1, .slice A0_2 l0_2.length c0_2, .slice A0_3 l0_3.length c0_3]] w fun e w' => e = .returned (.bool true) ∧ Below w.heap.size w w' := by
  have hu77 := Try.underlying77
  have hu60 := Try.underlying60
  have HR0_0 := Aside0.mk hr0_0
  have HC0_0 := Aside0.mk hc0_0
  clear hr0_0 hc0_0
  have HR0_1 := Aside0.mk hr0_1
  have HC0_1 := Aside0.mk hc0_1
  clear hr0_1 hc0_1
  have HR0_2 := Aside0.mk hr0_2
  have HC0_2 := Aside0.mk hc0_2
  clear hr0_2 hc0_2
  have HR0_3 := Aside0.mk hr0_3
  have HC0_3 := Aside0.mk hc0_3
  clear hr0_3 hc0_3
  have HB := Aside0.mk (Below.refl w.heap.size w)
  have H : ((pyxlaw12_shown.f).bind fun t102 => (if (l0_0.length : Int) = 32 then (if (l0_1.length : Int) = 32 then (if (l0_2.length : Int) > 200 then (pyxlaw12_SchedRight.j0 k l0_0 l0_1 l0_2 l0_3 t102 true) else (if (l0_3.length : Int) = 0 then (pyxlaw12_SchedRight.j0 k l0_0 l0_1 l0_2 l0_3 t102 true) else (if (l0_3.length : Int) > 5 then (pyxlaw12_SchedRight.j0 k l0_0 l0_1 l0_2 l0_3 t102 true) else ((pyxref03_Long.f l0_3).bind fun t103 => (pyxlaw12_SchedRight.j0 k l0_0 l0_1 l0_2 l0_3 t102 (decide (t103 > 300))))))) else (pyxlaw12_SchedRight.j0 k l0_0 l0_1 l0_2 l0_3 t102 true)) else (pyxlaw12_SchedRight.j0 k l0_0 l0_1 l0_2 l0_3 t102 true))) = some true := h
  clear h
  replace H := Option.bind_eq_some_iff.mp H
  obtain ⟨t102, A20, H⟩ := H
  replace H : (if (l0_0.length : Int) = 32 then (if (l0_1.length : Int) = 32 then (if (l0_2.length : Int) > 200 then (pyxlaw12_SchedRight.j0 k l0_0 l0_1 l0_2 l0_3 t102 true) else (if (l0_3.length : Int) = 0 then (pyxlaw12_SchedRight.j0 k l0_0 l0_1 l0_2 l0_3 t102 true) else (if (l0_3.length : Int) > 5 then (pyxlaw12_SchedRight.j0 k l0_0 l0_1 l0_2 l0_3 t102 true) else ((pyxref03_Long.f l0_3).bind fun t103 => (pyxlaw12_SchedRight.j0 k l0_0 l0_1 l0_2 l0_3 t102 (decide (t103 > 300))))))) else (pyxlaw12_SchedRight.j0 k l0_0 l0_1 l0_2 l0_3 t102 true)) else (pyxlaw12_SchedRight.j0 k l0_0 l0_1 l0_2 l0_3 t102 true)) = some true := H
  have A2 := Aside0.mk A20
  clear A20
  have HC3 := Aside0.mk H
  clear H
  go_enter Try.func10, Try.ntmps10
  go_upto_region 6 with (first | ((with_reducible refine gate_dst (N := 1) rfl ?_); (try (refine gate_guard (by rfl) ?_; dsimp only)); refine box_event ?hg (N := 1) ?hd (cs := #[.slice A0_0 l0_0.length c0_0, .slice A0_1 l0_1.length c0_1, .slice A0_2 l0_2.length c0_2, .slice A0_3 l0_3.length c0_3]) (t := 77) ?hr ?_; (case hd => rfl); (case hg => rfl); (case hr => first | (go_simp; done) | (go_simp; rfl)); intro gb101 hg w4 hbox hb; have n0_ := Aside0.mk (below_step (by repeat (first | (with_reducible first | exact HB.out | apply below_alloc | apply pw_below_drewN | apply below_drew1) | exact HB.out)) hb); have n1_ := Aside0.mk (hbox); have n2_ := Aside0.mk ((by rw [hg]; exact (below_size (by repeat (first | (with_reducible first | exact HB.out | apply below_alloc | apply pw_below_drewN | apply below_drew1) | exact HB.out))) : w.heap.size ≤ gb101)); have n3_ := Aside0.mk ((by rw [hg]; exact (below_size (by repeat (first | (with_reducible first | exact HB.out | apply below_alloc | apply pw_below_drewN | apply below_drew1) | exact HB.out))) : w.heap.size ≤ gb101)); clear HB; have HB := n0_; have BK101 := n1_; have GW101 := n2_; have GE101 := n3_; clear n0_ n1_ n2_ n3_; clear hb hbox hg; have hcz5_0 : w4.cell? ⟨gb101, 0, none⟩ = some (.slice A0_0 l0_0.length c0_0) := (blk_cell BK101.out 0).trans rfl; have hcz5_1 : w4.cell? ⟨gb101, 1, none⟩ = some (.slice A0_1 l0_1.length c0_1) := (blk_cell BK101.out 1).trans rfl; have hcz5_2 : w4.cell? ⟨gb101, 2, none⟩ = some (.slice A0_2 l0_2.length c0_2) := (blk_cell BK101.out 2).trans rfl; have hcz5_3 : w4.cell? ⟨gb101, 3, none⟩ = some (.slice A0_3 l0_3.length c0_3) := (blk_cell BK101.out 3).trans rfl; have hfz5_0 := blk_frozen BK101.out 0; have hfz5_1 := blk_frozen BK101.out 1; have hfz5_2 := blk_frozen BK101.out 2; have hfz5_3 := blk_frozen BK101.out 3) | ((with_reducible refine gate_callee (f := 29) rfl ?_); refine goesL_ (some 23) rfl rfl Try.func29 (by kernel_rfl) rfl #[] rfl (by (try simp only [List.map_toArray, List.map_cons, List.map_nil]); first | done | rfl | (simp only [List.length_drop, List.length_take]; rfl)) ?_; (with_reducible refine (pyxlaw12_shown.calls  t102 _ A2.out).mono ?_); rintro e w6 ⟨rfl, hb⟩; refine ⟨_, rfl, ?_⟩; have n0_ := Aside0.mk (blk_below (g := gb101) (o := .cells #[.slice A0_0 l0_0.length c0_0, .slice A0_1 l0_1.length c0_1, .slice A0_2 l0_2.length c0_2, .slice A0_3 l0_3.length c0_3] 77 (0, 0)) (by (with_reducible repeat (first | refine blk_drewN ?_ _ | refine blk_drew ?_ | refine blk_alloc ?_ _)); exact BK101.out) hb); have n1_ := Aside0.mk (below_step (by repeat (first | (with_reducible first | exact HB.out | apply below_alloc | apply pw_below_drewN | apply below_drew1 | refine below_set ?_ GE101.out) | exact HB.out)) hb); clear BK101; clear HB; have BK101 := n0_; have HB := n1_; clear n0_ n1_; (try clear hb); (try clear hb2); (try clear hk); (try clear hi)))
  (try simp only [Act.put, List.setIfInBounds_toArray, List.set_cons_zero, List.set_cons_succ])
  go_cut [51] (fun v51 wc => ∃ (kq : Nat) (x51_2 : Bool), v51 = .bool x51_2 ∧ Aside0 (pyxlaw12_SchedRight.j0 kq l0_0 l0_1 l0_2 l0_3 t102 x51_2 = some true) ∧ Aside0 (kq ≤ k) ∧ Aside0 (wc.heap[gb101]? = some (.cells #[(.slice A0_0 l0_0.length c0_0), (.slice A0_1 l0_1.length c0_1), (.slice A0_2 l0_2.length c0_2), (.slice A0_3 l0_3.length c0_3)] 77 (0, 0))) ∧ Aside0 (Below w.heap.size w wc))
  case first =>
    have H := HC3.out
    clear HC3
    by_cases c7 : (l0_0.length : Int) = 32
    · rw [if_pos c7] at H
      have c7b0 : ((l0_0.length : Int) == 32) = true := beq_iff_eq.mpr c7
      have c7b1 : ((l0_0.length : Int) != 32) = false := bne_eq_false_iff_eq.mpr c7
      clear c7
      (first | rw [c7b0] | (simp only [i64_w, i32_w]; rw [c7b0]) | skip)
      by_cases c8 : (l0_1.length : Int) = 32
      · rw [if_pos c8] at H
        have c8b0 : ((l0_1.length : Int) == 32) = true := beq_iff_eq.mpr c8
        have c8b1 : ((l0_1.length : Int) != 32) = false := bne_eq_false_iff_eq.mpr c8
        clear c8
        by_cases c9 : (l0_2.length : Int) > 200
        · rw [if_pos c9] at H
          have c9b0 : decide (200 < (l0_2.length : Int)) = true := decide_eq_true c9
          have c9b1 : decide (200 < l0_2.length) = true := decide_eq_true (by omega)
          clear c9
          have H' := Aside0.mk H
          clear H
          go_wp2
          go_meet
          case rel => exact ⟨_, (true), (by first | rfl | (simp; done) | (simp [*]; done)), H', ⟨by first | omega | exact Nat.le_refl _⟩, ⟨by (with_reducible repeat (first | refine blk_drewN ?_ _ | refine blk_drew ?_ | refine blk_alloc ?_ _)); exact BK101.out⟩, ⟨by repeat (first | (with_reducible first | exact HB.out | apply below_alloc | apply pw_below_drewN | apply below_drew1 | refine below_set ?_ GE101.out) | exact HB.out)⟩⟩
        · rw [if_neg c9] at H
          have c9b0 : decide (200 < (l0_2.length : Int)) = false := decide_eq_false c9
          have c9b1 : decide (200 < l0_2.length) = false := decide_eq_false (by omega)
          clear c9
          by_cases c10 : (l0_3.length : Int) = 0
          · rw [if_pos c10] at H
            have c10b0 : ((l0_3.length : Int) == 0) = true := beq_iff_eq.mpr c10
            have c10b1 : ((l0_3.length : Int) != 0) = false := bne_eq_false_iff_eq.mpr c10
            clear c10
            have H' := Aside0.mk H
            clear H
            go_wp2
            go_meet
            case rel => exact ⟨_, (true), (by first | rfl | (simp; done) | (simp [*]; done)), H', ⟨by first | omega | exact Nat.le_refl _⟩, ⟨by (with_reducible repeat (first | refine blk_drewN ?_ _ | refine blk_drew ?_ | refine blk_alloc ?_ _)); exact BK101.out⟩, ⟨by repeat (first | (with_reducible first | exact HB.out | apply below_alloc | apply pw_below_drewN | apply below_drew1 | refine below_set ?_ GE101.out) | exact HB.out)⟩⟩
          · rw [if_neg c10] at H
            have c10b0 : ((l0_3.length : Int) == 0) = false := beq_eq_false_iff_ne.mpr c10
            have c10b1 : ((l0_3.length : Int) != 0) = true := bne_iff_ne.mpr c10
            have c10b2 : ¬ (l0_3 = []) := fun h_ => c10 (by rw [h_]; rfl)
            by_cases c11 : (l0_3.length : Int) > 5
            · rw [if_pos c11] at H
              have c11b0 : decide (5 < (l0_3.length : Int)) = true := decide_eq_true c11
              have c11b1 : decide (5 < l0_3.length) = true := decide_eq_true (by omega)
              clear c11
              have H' := Aside0.mk H
              clear H
              go_wp2
              go_meet
              case rel => exact ⟨_, (true), (by first | rfl | (simp; done) | (simp [*]; done)), H', ⟨by first | omega | exact Nat.le_refl _⟩, ⟨by (with_reducible repeat (first | refine blk_drewN ?_ _ | refine blk_drew ?_ | refine blk_alloc ?_ _)); exact BK101.out⟩, ⟨by repeat (first | (with_reducible first | exact HB.out | apply below_alloc | apply pw_below_drewN | apply below_drew1 | refine below_set ?_ GE101.out) | exact HB.out)⟩⟩
            · rw [if_neg c11] at H
              have c11b0 : decide (5 < (l0_3.length : Int)) = false := decide_eq_false c11
              have c11b1 : decide (5 < l0_3.length) = false := decide_eq_false (by omega)
              clear c11
              replace H := Option.bind_eq_some_iff.mp H
              obtain ⟨t103, A120, H⟩ := H
              replace H : (pyxlaw12_SchedRight.j0 k l0_0 l0_1 l0_2 l0_3 t102 (decide (t103 > 300))) = some true := H
              have A12 := Aside0.mk A120
              clear A120
              have H' := Aside0.mk H
              clear H
              go_wp2_with (first | (go_at_call 30; (with_reducible refine (pyxref03_Long.calls _ _ l0_3 t103 _ ?side1 ?side2 A12.out).mono ?_); (case side1 => repeat (first | exact (Kd.C_below HR0_3.out HB.out) | (with_reducible refine Kd.C_alloc ?_ _) | (with_reducible refine Kd.C_drewN ?_ _) | (with_reducible refine Kd.C_drew ?_))); (case side2 => exact HC0_3.out); rintro e w' ⟨rfl, ⟨nd, rfl⟩⟩))
              go_meet
              case rel => exact ⟨_, (decide (t103 > 300)), (by first | rfl | (simp; done) | (simp [*]; done)), H', ⟨by first | omega | exact Nat.le_refl _⟩, ⟨by (with_reducible repeat (first | refine blk_drewN ?_ _ | refine blk_drew ?_ | refine blk_alloc ?_ _)); exact BK101.out⟩, ⟨by repeat (first | (with_reducible first | exact HB.out | apply below_alloc | apply pw_below_drewN | apply below_drew1 | refine below_set ?_ GE101.out) | exact HB.out)⟩⟩
      · rw [if_neg c8] at H
        have c8b0 : ((l0_1.length : Int) == 32) = false := beq_eq_false_iff_ne.mpr c8
        have c8b1 : ((l0_1.length : Int) != 32) = true := bne_iff_ne.mpr c8
        have H' := Aside0.mk H
        clear H
        go_wp2
        go_meet
        case rel => exact ⟨_, (true), (by first | rfl | (simp; done) | (simp [*]; done)), H', ⟨by first | omega | exact Nat.le_refl _⟩, ⟨by (with_reducible repeat (first | refine blk_drewN ?_ _ | refine blk_drew ?_ | refine blk_alloc ?_ _)); exact BK101.out⟩, ⟨by repeat (first | (with_reducible first | exact HB.out | apply below_alloc | apply pw_below_drewN | apply below_drew1 | refine below_set ?_ GE101.out) | exact HB.out)⟩⟩
    · rw [if_neg c7] at H
      have c7b0 : ((l0_0.length : Int) == 32) = false := beq_eq_false_iff_ne.mpr c7
      have c7b1 : ((l0_0.length : Int) != 32) = true := bne_iff_ne.mpr c7
      (first | rw [c7b0] | (simp only [i64_w, i32_w]; rw [c7b0]) | skip)
      have H' := Aside0.mk H
      clear H
      go_wp2
      go_meet
      case rel => exact ⟨_, (true), (by first | rfl | (simp; done) | (simp [*]; done)), H', ⟨by first | omega | exact Nat.le_refl _⟩, ⟨by (with_reducible repeat (first | refine blk_drewN ?_ _ | refine blk_drew ?_ | refine blk_alloc ?_ _)); exact BK101.out⟩, ⟨by repeat (first | (with_reducible first | exact HB.out | apply below_alloc | apply pw_below_drewN | apply below_drew1 | refine below_set ?_ GE101.out) | exact HB.out)⟩⟩
  case rest =>
    clear HC3
    try clear c1
    try clear c2
    try clear p2
    try clear c7
    try clear c7b0
    try clear c7b1
    try clear c8
    try clear c8b0
    try clear c8b1
    try clear c9
    try clear c9b0
    try clear c9b1
    try clear c10
    try clear c10b0
    try clear c10b1
    try clear c10b2
    try clear c11
    try clear c11b0
    try clear c11b1
    try clear hcz5_0
    try clear hcz5_1
    try clear hcz5_2
    try clear hcz5_3
    try clear hfz5_0
    try clear hfz5_1
    try clear hfz5_2
    try clear hfz5_3
    obtain ⟨kq, x51_2, rfl, HA, HJ2, BK101, HB⟩ := hcut
    cases kq with
    | zero => exact absurd HA.out (by simp [pyxlaw12_SchedRight.j0])
    | succ kj2 =>
      have H := HA.out
      clear HA
      simp only [pyxlaw12_SchedRight.j0] at H
      by_cases c13 : x51_2 = true
      · subst c13
        have H1 : (some t102) = some true := by rw [if_pos rfl] at H; exact H
        clear H
        have H := H1
        clear H1
        have HT_ := Option.some.inj H
        go_wp2
        go_ret
        exact ⟨by first | rfl | (simp [errW_none, errW_some] <;> rfl) | (simp [*, errW_none, errW_some] <;> rfl), by repeat (first | (with_reducible first | exact HB.out | apply below_alloc | apply pw_below_drewN | apply below_drew1 | refine below_set ?_ GE101.out) | exact HB.out)⟩
      · replace c13 := Bool.eq_false_iff.mpr c13
        subst c13
        have H1 : ((sched_Epoch.f l0_0 l0_1 l0_2).bind fun bt104 => ((pyxref04_Extract.f l0_0 l0_1).bind fun t121 => ((pyxref04_Label.f t121 (⟨#[101, 112, 111, 99, 104]⟩ : ByteArray) l0_2 32).bind fun bt124 => (if 0 ≤ (wrap64 ((l0_3.length : Int) - 1)) then (if (wrap64 ((l0_3.length : Int) - 1)) < (l0_3.length : Int) then ((pyxref04_Label.f (rd_L1 l0_3 (wrap64 ((l0_3.length : Int) - 1))) (⟨#[115, 104, 97, 114, 101, 100]⟩ : ByteArray) (([0, (wrap64 ((l0_3.length : Int) - 1)) % 256] : List Int)) 32).bind fun bt132 => (if t102 = true then (if bt104.2.2.2.2.2 = 0 then ((pyxref12_Right.f bt104.1 bt104.2.1 bt104.2.2.1 bt104.2.2.2.1 bt104.2.2.2.2.1).bind fun t136 => (if t136 = true then ((pyxref04_Out.f bt124.1 (⟨#[114, 101, 115, 117, 109, 101]⟩ : ByteArray)).bind fun t137 => ((pyxref01_Same.f bt104.2.2.2.2.1 t137).bind fun t140 => (if t140 = true then ((pyxref04_Out.f bt124.1 (⟨#[99, 111, 110, 102, 105, 114, 109]⟩ : ByteArray)).bind fun t141 => ((pyxref01_Same.f bt104.2.2.2.1 t141).bind fun t144 => (if t144 = true then ((pyxref04_Out.f bt124.1 (⟨#[101, 120, 112, 111, 114, 116]⟩ : ByteArray)).bind fun t145 => ((pyxref01_Same.f bt104.2.2.1 t145).bind fun t148 => (if t148 = true then ((pyxref04_Out.f bt124.1 (⟨#[115, 101, 110, 100]⟩ : ByteArray)).bind fun t149 => ((pyxref01_Same.f bt104.2.1 t149).bind fun t152 => (if t152 = true then ((pyxref04_Out.f bt124.1 (⟨#[105, 110, 105, 116]⟩ : ByteArray)).bind fun t153 => ((pyxref01_Same.f bt104.1 t153).bind fun t156 => (if t156 = true then ((sched_Shared.f l0_3).bind fun t157 => (if (wrap64 ((l0_3.length : Int) - 1)) ≤ (l0_3.length : Int) then ((sched_Shared.f (l0_3.take ((wrap64 ((l0_3.length : Int) - 1)) : Int).toNat)).bind fun t164 => ((pyxref04_Extract.f t164 bt132.1).bind fun t167 => ((pyxref01_Same.f t157 t167).bind fun t170 => (some t170)))) else (none))) else (some false)))) else (some false)))) else (some false)))) else (some false)))) else (some false)))) else (some false))) else (some false)) else (some false))) else (none)) else (none))))) = some true := by rw [if_neg (show ¬ (false = true) by decide)] at H; exact H
        clear H
        have H := H1
        clear H1
        replace H := Option.bind_eq_some_iff.mp H
        obtain ⟨⟨t104, t107, t110, t113, t116, t119⟩, A140, H⟩ := H
        replace H : ((pyxref04_Extract.f l0_0 l0_1).bind fun t121 => ((pyxref04_Label.f t121 (⟨#[101, 112, 111, 99, 104]⟩ : ByteArray) l0_2 32).bind fun bt124 => (if 0 ≤ (wrap64 ((l0_3.length : Int) - 1)) then (if (wrap64 ((l0_3.length : Int) - 1)) < (l0_3.length : Int) then ((pyxref04_Label.f (rd_L1 l0_3 (wrap64 ((l0_3.length : Int) - 1))) (⟨#[115, 104, 97, 114, 101, 100]⟩ : ByteArray) (([0, (wrap64 ((l0_3.length : Int) - 1)) % 256] : List Int)) 32).bind fun bt132 => (if t102 = true then (if t119 = 0 then ((pyxref12_Right.f t104 t107 t110 t113 t116).bind fun t136 => (if t136 = true then ((pyxref04_Out.f bt124.1 (⟨#[114, 101, 115, 117, 109, 101]⟩ : ByteArray)).bind fun t137 => ((pyxref01_Same.f t116 t137).bind fun t140 => (if t140 = true then ((pyxref04_Out.f bt124.1 (⟨#[99, 111, 110, 102, 105, 114, 109]⟩ : ByteArray)).bind fun t141 => ((pyxref01_Same.f t113 t141).bind fun t144 => (if t144 = true then ((pyxref04_Out.f bt124.1 (⟨#[101, 120, 112, 111, 114, 116]⟩ : ByteArray)).bind fun t145 => ((pyxref01_Same.f t110 t145).bind fun t148 => (if t148 = true then ((pyxref04_Out.f bt124.1 (⟨#[115, 101, 110, 100]⟩ : ByteArray)).bind fun t149 => ((pyxref01_Same.f t107 t149).bind fun t152 => (if t152 = true then ((pyxref04_Out.f bt124.1 (⟨#[105, 110, 105, 116]⟩ : ByteArray)).bind fun t153 => ((pyxref01_Same.f t104 t153).bind fun t156 => (if t156 = true then ((sched_Shared.f l0_3).bind fun t157 => (if (wrap64 ((l0_3.length : Int) - 1)) ≤ (l0_3.length : Int) then ((sched_Shared.f (l0_3.take ((wrap64 ((l0_3.length : Int) - 1)) : Int).toNat)).bind fun t164 => ((pyxref04_Extract.f t164 bt132.1).bind fun t167 => ((pyxref01_Same.f t157 t167).bind fun t170 => (some t170)))) else (none))) else (some false)))) else (some false)))) else (some false)))) else (some false)))) else (some false)))) else (some false))) else (some false)) else (some false))) else (none)) else (none)))) = some true := H
        have A14 := Aside0.mk A140
        clear A140
        replace H := Option.bind_eq_some_iff.mp H
        obtain ⟨t121, A150, H⟩ := H
        replace H : ((pyxref04_Label.f t121 (⟨#[101, 112, 111, 99, 104]⟩ : ByteArray) l0_2 32).bind fun bt124 => (if 0 ≤ (wrap64 ((l0_3.length : Int) - 1)) then (if (wrap64 ((l0_3.length : Int) - 1)) < (l0_3.length : Int) then ((pyxref04_Label.f (rd_L1 l0_3 (wrap64 ((l0_3.length : Int) - 1))) (⟨#[115, 104, 97, 114, 101, 100]⟩ : ByteArray) (([0, (wrap64 ((l0_3.length : Int) - 1)) % 256] : List Int)) 32).bind fun bt132 => (if t102 = true then (if t119 = 0 then ((pyxref12_Right.f t104 t107 t110 t113 t116).bind fun t136 => (if t136 = true then ((pyxref04_Out.f bt124.1 (⟨#[114, 101, 115, 117, 109, 101]⟩ : ByteArray)).bind fun t137 => ((pyxref01_Same.f t116 t137).bind fun t140 => (if t140 = true then ((pyxref04_Out.f bt124.1 (⟨#[99, 111, 110, 102, 105, 114, 109]⟩ : ByteArray)).bind fun t141 => ((pyxref01_Same.f t113 t141).bind fun t144 => (if t144 = true then ((pyxref04_Out.f bt124.1 (⟨#[101, 120, 112, 111, 114, 116]⟩ : ByteArray)).bind fun t145 => ((pyxref01_Same.f t110 t145).bind fun t148 => (if t148 = true then ((pyxref04_Out.f bt124.1 (⟨#[115, 101, 110, 100]⟩ : ByteArray)).bind fun t149 => ((pyxref01_Same.f t107 t149).bind fun t152 => (if t152 = true then ((pyxref04_Out.f bt124.1 (⟨#[105, 110, 105, 116]⟩ : ByteArray)).bind fun t153 => ((pyxref01_Same.f t104 t153).bind fun t156 => (if t156 = true then ((sched_Shared.f l0_3).bind fun t157 => (if (wrap64 ((l0_3.length : Int) - 1)) ≤ (l0_3.length : Int) then ((sched_Shared.f (l0_3.take ((wrap64 ((l0_3.length : Int) - 1)) : Int).toNat)).bind fun t164 => ((pyxref04_Extract.f t164 bt132.1).bind fun t167 => ((pyxref01_Same.f t157 t167).bind fun t170 => (some t170)))) else (none))) else (some false)))) else (some false)))) else (some false)))) else (some false)))) else (some false)))) else (some false))) else (some false)) else (some false))) else (none)) else (none))) = some true := H
        have A15 := Aside0.mk A150
        clear A150
        replace H := Option.bind_eq_some_iff.mp H
        obtain ⟨⟨t124, t125⟩, A160, H⟩ := H
        replace H : (if 0 ≤ (wrap64 ((l0_3.length : Int) - 1)) then (if (wrap64 ((l0_3.length : Int) - 1)) < (l0_3.length : Int) then ((pyxref04_Label.f (rd_L1 l0_3 (wrap64 ((l0_3.length : Int) - 1))) (⟨#[115, 104, 97, 114, 101, 100]⟩ : ByteArray) (([0, (wrap64 ((l0_3.length : Int) - 1)) % 256] : List Int)) 32).bind fun bt132 => (if t102 = true then (if t119 = 0 then ((pyxref12_Right.f t104 t107 t110 t113 t116).bind fun t136 => (if t136 = true then ((pyxref04_Out.f t124 (⟨#[114, 101, 115, 117, 109, 101]⟩ : ByteArray)).bind fun t137 => ((pyxref01_Same.f t116 t137).bind fun t140 => (if t140 = true then ((pyxref04_Out.f t124 (⟨#[99, 111, 110, 102, 105, 114, 109]⟩ : ByteArray)).bind fun t141 => ((pyxref01_Same.f t113 t141).bind fun t144 => (if t144 = true then ((pyxref04_Out.f t124 (⟨#[101, 120, 112, 111, 114, 116]⟩ : ByteArray)).bind fun t145 => ((pyxref01_Same.f t110 t145).bind fun t148 => (if t148 = true then ((pyxref04_Out.f t124 (⟨#[115, 101, 110, 100]⟩ : ByteArray)).bind fun t149 => ((pyxref01_Same.f t107 t149).bind fun t152 => (if t152 = true then ((pyxref04_Out.f t124 (⟨#[105, 110, 105, 116]⟩ : ByteArray)).bind fun t153 => ((pyxref01_Same.f t104 t153).bind fun t156 => (if t156 = true then ((sched_Shared.f l0_3).bind fun t157 => (if (wrap64 ((l0_3.length : Int) - 1)) ≤ (l0_3.length : Int) then ((sched_Shared.f (l0_3.take ((wrap64 ((l0_3.length : Int) - 1)) : Int).toNat)).bind fun t164 => ((pyxref04_Extract.f t164 bt132.1).bind fun t167 => ((pyxref01_Same.f t157 t167).bind fun t170 => (some t170)))) else (none))) else (some false)))) else (some false)))) else (some false)))) else (some false)))) else (some false)))) else (some false))) else (some false)) else (some false))) else (none)) else (none)) = some true := H
        have A16 := Aside0.mk A160
        clear A160
        obtain ⟨ji17, hji17⟩ : ∃ j_ : Int, (wrap64 ((l0_3.length : Int) - 1)) = j_ := ⟨_, rfl⟩
        replace H : (if 0 ≤ (ji17) then (if (ji17) < (l0_3.length : Int) then ((pyxref04_Label.f (rd_L1 l0_3 (ji17)) (⟨#[115, 104, 97, 114, 101, 100]⟩ : ByteArray) (([0, (ji17) % 256] : List Int)) 32).bind fun bt132 => (if t102 = true then (if t119 = 0 then ((pyxref12_Right.f t104 t107 t110 t113 t116).bind fun t136 => (if t136 = true then ((pyxref04_Out.f t124 (⟨#[114, 101, 115, 117, 109, 101]⟩ : ByteArray)).bind fun t137 => ((pyxref01_Same.f t116 t137).bind fun t140 => (if t140 = true then ((pyxref04_Out.f t124 (⟨#[99, 111, 110, 102, 105, 114, 109]⟩ : ByteArray)).bind fun t141 => ((pyxref01_Same.f t113 t141).bind fun t144 => (if t144 = true then ((pyxref04_Out.f t124 (⟨#[101, 120, 112, 111, 114, 116]⟩ : ByteArray)).bind fun t145 => ((pyxref01_Same.f t110 t145).bind fun t148 => (if t148 = true then ((pyxref04_Out.f t124 (⟨#[115, 101, 110, 100]⟩ : ByteArray)).bind fun t149 => ((pyxref01_Same.f t107 t149).bind fun t152 => (if t152 = true then ((pyxref04_Out.f t124 (⟨#[105, 110, 105, 116]⟩ : ByteArray)).bind fun t153 => ((pyxref01_Same.f t104 t153).bind fun t156 => (if t156 = true then ((sched_Shared.f l0_3).bind fun t157 => (if (ji17) ≤ (l0_3.length : Int) then ((sched_Shared.f (l0_3.take ((ji17) : Int).toNat)).bind fun t164 => ((pyxref04_Extract.f t164 bt132.1).bind fun t167 => ((pyxref01_Same.f t157 t167).bind fun t170 => (some t170)))) else (none))) else (some false)))) else (some false)))) else (some false)))) else (some false)))) else (some false)))) else (some false))) else (some false)) else (some false))) else (none)) else (none)) = some true := by first | (rw [hji17] at H; exact H) | (simp only [hji17] at H ⊢; exact H)
        (try rw [hji17] at A14)
        (try rw [hji17] at A15)
        (try rw [hji17] at A16)
        have hji17w : (IntKind.i64.wrap ((l0_3.length : Int) - 1)) = ji17 := (i64_w _).trans hji17
        by_cases c18 : 0 ≤ (ji17)
        · rw [if_pos c18] at H
          have c18b0 : decide (0 ≤ (ji17)) = true := decide_eq_true c18
          clear c18
          by_cases c19 : (ji17) < (l0_3.length : Int)
          · rw [if_pos c19] at H
            have c19b0 : decide ((ji17) < (l0_3.length : Int)) = true := decide_eq_true c19
            clear c19
            obtain ⟨y129, hy129⟩ : ∃ y_ : List Int, y_ = (([0, (ji17) % 256] : List Int)) := ⟨_, rfl⟩
            replace H : ((pyxref04_Label.f (rd_L1 l0_3 (ji17)) (⟨#[115, 104, 97, 114, 101, 100]⟩ : ByteArray) y129 32).bind fun bt132 => (if t102 = true then (if t119 = 0 then ((pyxref12_Right.f t104 t107 t110 t113 t116).bind fun t136 => (if t136 = true then ((pyxref04_Out.f t124 (⟨#[114, 101, 115, 117, 109, 101]⟩ : ByteArray)).bind fun t137 => ((pyxref01_Same.f t116 t137).bind fun t140 => (if t140 = true then ((pyxref04_Out.f t124 (⟨#[99, 111, 110, 102, 105, 114, 109]⟩ : ByteArray)).bind fun t141 => ((pyxref01_Same.f t113 t141).bind fun t144 => (if t144 = true then ((pyxref04_Out.f t124 (⟨#[101, 120, 112, 111, 114, 116]⟩ : ByteArray)).bind fun t145 => ((pyxref01_Same.f t110 t145).bind fun t148 => (if t148 = true then ((pyxref04_Out.f t124 (⟨#[115, 101, 110, 100]⟩ : ByteArray)).bind fun t149 => ((pyxref01_Same.f t107 t149).bind fun t152 => (if t152 = true then ((pyxref04_Out.f t124 (⟨#[105, 110, 105, 116]⟩ : ByteArray)).bind fun t153 => ((pyxref01_Same.f t104 t153).bind fun t156 => (if t156 = true then ((sched_Shared.f l0_3).bind fun t157 => (if (ji17) ≤ (l0_3.length : Int) then ((sched_Shared.f (l0_3.take ((ji17) : Int).toNat)).bind fun t164 => ((pyxref04_Extract.f t164 bt132.1).bind fun t167 => ((pyxref01_Same.f t157 t167).bind fun t170 => (some t170)))) else (none))) else (some false)))) else (some false)))) else (some false)))) else (some false)))) else (some false)))) else (some false))) else (some false)) else (some false))) = some true := by first | (rw [hy129]; with_reducible exact H) | (have H2_ := (Option.bind_some _ _).symm.trans H; rw [hy129]; with_reducible exact H2_) | (have H2_ := (Option.bind_some _ _).symm.trans H; with_reducible exact H2_) | with_reducible exact H | (rw [hy129]; exact H) | exact H
            have Ny129 := Aside0.mk hy129
            clear hy129
            replace H := Option.bind_eq_some_iff.mp H
            obtain ⟨⟨t132, t133⟩, A200, H⟩ := H
            replace H : (if t102 = true then (if t119 = 0 then ((pyxref12_Right.f t104 t107 t110 t113 t116).bind fun t136 => (if t136 = true then ((pyxref04_Out.f t124 (⟨#[114, 101, 115, 117, 109, 101]⟩ : ByteArray)).bind fun t137 => ((pyxref01_Same.f t116 t137).bind fun t140 => (if t140 = true then ((pyxref04_Out.f t124 (⟨#[99, 111, 110, 102, 105, 114, 109]⟩ : ByteArray)).bind fun t141 => ((pyxref01_Same.f t113 t141).bind fun t144 => (if t144 = true then ((pyxref04_Out.f t124 (⟨#[101, 120, 112, 111, 114, 116]⟩ : ByteArray)).bind fun t145 => ((pyxref01_Same.f t110 t145).bind fun t148 => (if t148 = true then ((pyxref04_Out.f t124 (⟨#[115, 101, 110, 100]⟩ : ByteArray)).bind fun t149 => ((pyxref01_Same.f t107 t149).bind fun t152 => (if t152 = true then ((pyxref04_Out.f t124 (⟨#[105, 110, 105, 116]⟩ : ByteArray)).bind fun t153 => ((pyxref01_Same.f t104 t153).bind fun t156 => (if t156 = true then ((sched_Shared.f l0_3).bind fun t157 => (if (ji17) ≤ (l0_3.length : Int) then ((sched_Shared.f (l0_3.take ((ji17) : Int).toNat)).bind fun t164 => ((pyxref04_Extract.f t164 t132).bind fun t167 => ((pyxref01_Same.f t157 t167).bind fun t170 => (some t170)))) else (none))) else (some false)))) else (some false)))) else (some false)))) else (some false)))) else (some false)))) else (some false))) else (some false)) else (some false)) = some true := H
            have A20 := Aside0.mk A200
            clear A200
            by_cases c21 : t102 = true
            · subst c21
              have H1 : (if t119 = 0 then ((pyxref12_Right.f t104 t107 t110 t113 t116).bind fun t136 => (if t136 = true then ((pyxref04_Out.f t124 (⟨#[114, 101, 115, 117, 109, 101]⟩ : ByteArray)).bind fun t137 => ((pyxref01_Same.f t116 t137).bind fun t140 => (if t140 = true then ((pyxref04_Out.f t124 (⟨#[99, 111, 110, 102, 105, 114, 109]⟩ : ByteArray)).bind fun t141 => ((pyxref01_Same.f t113 t141).bind fun t144 => (if t144 = true then ((pyxref04_Out.f t124 (⟨#[101, 120, 112, 111, 114, 116]⟩ : ByteArray)).bind fun t145 => ((pyxref01_Same.f t110 t145).bind fun t148 => (if t148 = true then ((pyxref04_Out.f t124 (⟨#[115, 101, 110, 100]⟩ : ByteArray)).bind fun t149 => ((pyxref01_Same.f t107 t149).bind fun t152 => (if t152 = true then ((pyxref04_Out.f t124 (⟨#[105, 110, 105, 116]⟩ : ByteArray)).bind fun t153 => ((pyxref01_Same.f t104 t153).bind fun t156 => (if t156 = true then ((sched_Shared.f l0_3).bind fun t157 => (if (ji17) ≤ (l0_3.length : Int) then ((sched_Shared.f (l0_3.take ((ji17) : Int).toNat)).bind fun t164 => ((pyxref04_Extract.f t164 t132).bind fun t167 => ((pyxref01_Same.f t157 t167).bind fun t170 => (some t170)))) else (none))) else (some false)))) else (some false)))) else (some false)))) else (some false)))) else (some false)))) else (some false))) else (some false)) = some true := by rw [if_pos rfl] at H; exact H
              clear H
              have H := H1
              clear H1
              by_cases c22 : t119 = 0
              · rw [if_pos c22] at H
                have c22b0 : (t119 == 0) = true := beq_iff_eq.mpr c22
                have c22b1 : (t119 != 0) = false := bne_eq_false_iff_eq.mpr c22
                clear c22
                replace H := Option.bind_eq_some_iff.mp H
                obtain ⟨t136, A230, H⟩ := H
                replace H : (if t136 = true then ((pyxref04_Out.f t124 (⟨#[114, 101, 115, 117, 109, 101]⟩ : ByteArray)).bind fun t137 => ((pyxref01_Same.f t116 t137).bind fun t140 => (if t140 = true then ((pyxref04_Out.f t124 (⟨#[99, 111, 110, 102, 105, 114, 109]⟩ : ByteArray)).bind fun t141 => ((pyxref01_Same.f t113 t141).bind fun t144 => (if t144 = true then ((pyxref04_Out.f t124 (⟨#[101, 120, 112, 111, 114, 116]⟩ : ByteArray)).bind fun t145 => ((pyxref01_Same.f t110 t145).bind fun t148 => (if t148 = true then ((pyxref04_Out.f t124 (⟨#[115, 101, 110, 100]⟩ : ByteArray)).bind fun t149 => ((pyxref01_Same.f t107 t149).bind fun t152 => (if t152 = true then ((pyxref04_Out.f t124 (⟨#[105, 110, 105, 116]⟩ : ByteArray)).bind fun t153 => ((pyxref01_Same.f t104 t153).bind fun t156 => (if t156 = true then ((sched_Shared.f l0_3).bind fun t157 => (if (ji17) ≤ (l0_3.length : Int) then ((sched_Shared.f (l0_3.take ((ji17) : Int).toNat)).bind fun t164 => ((pyxref04_Extract.f t164 t132).bind fun t167 => ((pyxref01_Same.f t157 t167).bind fun t170 => (some t170)))) else (none))) else (some false)))) else (some false)))) else (some false)))) else (some false)))) else (some false)))) else (some false)) = some true := H
                have A23 := Aside0.mk A230
                clear A230
                by_cases c24 : t136 = true
                · subst c24
                  have H1 : ((pyxref04_Out.f t124 (⟨#[114, 101, 115, 117, 109, 101]⟩ : ByteArray)).bind fun t137 => ((pyxref01_Same.f t116 t137).bind fun t140 => (if t140 = true then ((pyxref04_Out.f t124 (⟨#[99, 111, 110, 102, 105, 114, 109]⟩ : ByteArray)).bind fun t141 => ((pyxref01_Same.f t113 t141).bind fun t144 => (if t144 = true then ((pyxref04_Out.f t124 (⟨#[101, 120, 112, 111, 114, 116]⟩ : ByteArray)).bind fun t145 => ((pyxref01_Same.f t110 t145).bind fun t148 => (if t148 = true then ((pyxref04_Out.f t124 (⟨#[115, 101, 110, 100]⟩ : ByteArray)).bind fun t149 => ((pyxref01_Same.f t107 t149).bind fun t152 => (if t152 = true then ((pyxref04_Out.f t124 (⟨#[105, 110, 105, 116]⟩ : ByteArray)).bind fun t153 => ((pyxref01_Same.f t104 t153).bind fun t156 => (if t156 = true then ((sched_Shared.f l0_3).bind fun t157 => (if (ji17) ≤ (l0_3.length : Int) then ((sched_Shared.f (l0_3.take ((ji17) : Int).toNat)).bind fun t164 => ((pyxref04_Extract.f t164 t132).bind fun t167 => ((pyxref01_Same.f t157 t167).bind fun t170 => (some t170)))) else (none))) else (some false)))) else (some false)))) else (some false)))) else (some false)))) else (some false)))) = some true := by rw [if_pos rfl] at H; exact H
                  clear H
                  have H := H1
                  clear H1
                  replace H := Option.bind_eq_some_iff.mp H
                  obtain ⟨t137, A250, H⟩ := H
                  replace H : ((pyxref01_Same.f t116 t137).bind fun t140 => (if t140 = true then ((pyxref04_Out.f t124 (⟨#[99, 111, 110, 102, 105, 114, 109]⟩ : ByteArray)).bind fun t141 => ((pyxref01_Same.f t113 t141).bind fun t144 => (if t144 = true then ((pyxref04_Out.f t124 (⟨#[101, 120, 112, 111, 114, 116]⟩ : ByteArray)).bind fun t145 => ((pyxref01_Same.f t110 t145).bind fun t148 => (if t148 = true then ((pyxref04_Out.f t124 (⟨#[115, 101, 110, 100]⟩ : ByteArray)).bind fun t149 => ((pyxref01_Same.f t107 t149).bind fun t152 => (if t152 = true then ((pyxref04_Out.f t124 (⟨#[105, 110, 105, 116]⟩ : ByteArray)).bind fun t153 => ((pyxref01_Same.f t104 t153).bind fun t156 => (if t156 = true then ((sched_Shared.f l0_3).bind fun t157 => (if (ji17) ≤ (l0_3.length : Int) then ((sched_Shared.f (l0_3.take ((ji17) : Int).toNat)).bind fun t164 => ((pyxref04_Extract.f t164 t132).bind fun t167 => ((pyxref01_Same.f t157 t167).bind fun t170 => (some t170)))) else (none))) else (some false)))) else (some false)))) else (some false)))) else (some false)))) else (some false))) = some true := H
                  have A25 := Aside0.mk A250
                  clear A250
                  replace H := Option.bind_eq_some_iff.mp H
                  obtain ⟨t140, A260, H⟩ := H
                  replace H : (if t140 = true then ((pyxref04_Out.f t124 (⟨#[99, 111, 110, 102, 105, 114, 109]⟩ : ByteArray)).bind fun t141 => ((pyxref01_Same.f t113 t141).bind fun t144 => (if t144 = true then ((pyxref04_Out.f t124 (⟨#[101, 120, 112, 111, 114, 116]⟩ : ByteArray)).bind fun t145 => ((pyxref01_Same.f t110 t145).bind fun t148 => (if t148 = true then ((pyxref04_Out.f t124 (⟨#[115, 101, 110, 100]⟩ : ByteArray)).bind fun t149 => ((pyxref01_Same.f t107 t149).bind fun t152 => (if t152 = true then ((pyxref04_Out.f t124 (⟨#[105, 110, 105, 116]⟩ : ByteArray)).bind fun t153 => ((pyxref01_Same.f t104 t153).bind fun t156 => (if t156 = true then ((sched_Shared.f l0_3).bind fun t157 => (if (ji17) ≤ (l0_3.length : Int) then ((sched_Shared.f (l0_3.take ((ji17) : Int).toNat)).bind fun t164 => ((pyxref04_Extract.f t164 t132).bind fun t167 => ((pyxref01_Same.f t157 t167).bind fun t170 => (some t170)))) else (none))) else (some false)))) else (some false)))) else (some false)))) else (some false)))) else (some false)) = some true := H
                  have A26 := Aside0.mk A260
                  clear A260
                  by_cases c27 : t140 = true
                  · subst c27
                    have H1 : ((pyxref04_Out.f t124 (⟨#[99, 111, 110, 102, 105, 114, 109]⟩ : ByteArray)).bind fun t141 => ((pyxref01_Same.f t113 t141).bind fun t144 => (if t144 = true then ((pyxref04_Out.f t124 (⟨#[101, 120, 112, 111, 114, 116]⟩ : ByteArray)).bind fun t145 => ((pyxref01_Same.f t110 t145).bind fun t148 => (if t148 = true then ((pyxref04_Out.f t124 (⟨#[115, 101, 110, 100]⟩ : ByteArray)).bind fun t149 => ((pyxref01_Same.f t107 t149).bind fun t152 => (if t152 = true then ((pyxref04_Out.f t124 (⟨#[105, 110, 105, 116]⟩ : ByteArray)).bind fun t153 => ((pyxref01_Same.f t104 t153).bind fun t156 => (if t156 = true then ((sched_Shared.f l0_3).bind fun t157 => (if (ji17) ≤ (l0_3.length : Int) then ((sched_Shared.f (l0_3.take ((ji17) : Int).toNat)).bind fun t164 => ((pyxref04_Extract.f t164 t132).bind fun t167 => ((pyxref01_Same.f t157 t167).bind fun t170 => (some t170)))) else (none))) else (some false)))) else (some false)))) else (some false)))) else (some false)))) = some true := by rw [if_pos rfl] at H; exact H
                    clear H
                    have H := H1
                    clear H1
                    replace H := Option.bind_eq_some_iff.mp H
                    obtain ⟨t141, A280, H⟩ := H
                    replace H : ((pyxref01_Same.f t113 t141).bind fun t144 => (if t144 = true then ((pyxref04_Out.f t124 (⟨#[101, 120, 112, 111, 114, 116]⟩ : ByteArray)).bind fun t145 => ((pyxref01_Same.f t110 t145).bind fun t148 => (if t148 = true then ((pyxref04_Out.f t124 (⟨#[115, 101, 110, 100]⟩ : ByteArray)).bind fun t149 => ((pyxref01_Same.f t107 t149).bind fun t152 => (if t152 = true then ((pyxref04_Out.f t124 (⟨#[105, 110, 105, 116]⟩ : ByteArray)).bind fun t153 => ((pyxref01_Same.f t104 t153).bind fun t156 => (if t156 = true then ((sched_Shared.f l0_3).bind fun t157 => (if (ji17) ≤ (l0_3.length : Int) then ((sched_Shared.f (l0_3.take ((ji17) : Int).toNat)).bind fun t164 => ((pyxref04_Extract.f t164 t132).bind fun t167 => ((pyxref01_Same.f t157 t167).bind fun t170 => (some t170)))) else (none))) else (some false)))) else (some false)))) else (some false)))) else (some false))) = some true := H
                    have A28 := Aside0.mk A280
                    clear A280
                    replace H := Option.bind_eq_some_iff.mp H
                    obtain ⟨t144, A290, H⟩ := H
                    replace H : (if t144 = true then ((pyxref04_Out.f t124 (⟨#[101, 120, 112, 111, 114, 116]⟩ : ByteArray)).bind fun t145 => ((pyxref01_Same.f t110 t145).bind fun t148 => (if t148 = true then ((pyxref04_Out.f t124 (⟨#[115, 101, 110, 100]⟩ : ByteArray)).bind fun t149 => ((pyxref01_Same.f t107 t149).bind fun t152 => (if t152 = true then ((pyxref04_Out.f t124 (⟨#[105, 110, 105, 116]⟩ : ByteArray)).bind fun t153 => ((pyxref01_Same.f t104 t153).bind fun t156 => (if t156 = true then ((sched_Shared.f l0_3).bind fun t157 => (if (ji17) ≤ (l0_3.length : Int) then ((sched_Shared.f (l0_3.take ((ji17) : Int).toNat)).bind fun t164 => ((pyxref04_Extract.f t164 t132).bind fun t167 => ((pyxref01_Same.f t157 t167).bind fun t170 => (some t170)))) else (none))) else (some false)))) else (some false)))) else (some false)))) else (some false)) = some true := H
                    have A29 := Aside0.mk A290
                    clear A290
                    by_cases c30 : t144 = true
                    · subst c30
                      have H1 : ((pyxref04_Out.f t124 (⟨#[101, 120, 112, 111, 114, 116]⟩ : ByteArray)).bind fun t145 => ((pyxref01_Same.f t110 t145).bind fun t148 => (if t148 = true then ((pyxref04_Out.f t124 (⟨#[115, 101, 110, 100]⟩ : ByteArray)).bind fun t149 => ((pyxref01_Same.f t107 t149).bind fun t152 => (if t152 = true then ((pyxref04_Out.f t124 (⟨#[105, 110, 105, 116]⟩ : ByteArray)).bind fun t153 => ((pyxref01_Same.f t104 t153).bind fun t156 => (if t156 = true then ((sched_Shared.f l0_3).bind fun t157 => (if (ji17) ≤ (l0_3.length : Int) then ((sched_Shared.f (l0_3.take ((ji17) : Int).toNat)).bind fun t164 => ((pyxref04_Extract.f t164 t132).bind fun t167 => ((pyxref01_Same.f t157 t167).bind fun t170 => (some t170)))) else (none))) else (some false)))) else (some false)))) else (some false)))) = some true := by rw [if_pos rfl] at H; exact H
                      clear H
                      have H := H1
                      clear H1
                      replace H := Option.bind_eq_some_iff.mp H
                      obtain ⟨t145, A310, H⟩ := H
                      replace H : ((pyxref01_Same.f t110 t145).bind fun t148 => (if t148 = true then ((pyxref04_Out.f t124 (⟨#[115, 101, 110, 100]⟩ : ByteArray)).bind fun t149 => ((pyxref01_Same.f t107 t149).bind fun t152 => (if t152 = true then ((pyxref04_Out.f t124 (⟨#[105, 110, 105, 116]⟩ : ByteArray)).bind fun t153 => ((pyxref01_Same.f t104 t153).bind fun t156 => (if t156 = true then ((sched_Shared.f l0_3).bind fun t157 => (if (ji17) ≤ (l0_3.length : Int) then ((sched_Shared.f (l0_3.take ((ji17) : Int).toNat)).bind fun t164 => ((pyxref04_Extract.f t164 t132).bind fun t167 => ((pyxref01_Same.f t157 t167).bind fun t170 => (some t170)))) else (none))) else (some false)))) else (some false)))) else (some false))) = some true := H
                      have A31 := Aside0.mk A310
                      clear A310
                      replace H := Option.bind_eq_some_iff.mp H
                      obtain ⟨t148, A320, H⟩ := H
                      replace H : (if t148 = true then ((pyxref04_Out.f t124 (⟨#[115, 101, 110, 100]⟩ : ByteArray)).bind fun t149 => ((pyxref01_Same.f t107 t149).bind fun t152 => (if t152 = true then ((pyxref04_Out.f t124 (⟨#[105, 110, 105, 116]⟩ : ByteArray)).bind fun t153 => ((pyxref01_Same.f t104 t153).bind fun t156 => (if t156 = true then ((sched_Shared.f l0_3).bind fun t157 => (if (ji17) ≤ (l0_3.length : Int) then ((sched_Shared.f (l0_3.take ((ji17) : Int).toNat)).bind fun t164 => ((pyxref04_Extract.f t164 t132).bind fun t167 => ((pyxref01_Same.f t157 t167).bind fun t170 => (some t170)))) else (none))) else (some false)))) else (some false)))) else (some false)) = some true := H
                      have A32 := Aside0.mk A320
                      clear A320
                      by_cases c33 : t148 = true
                      · subst c33
                        have H1 : ((pyxref04_Out.f t124 (⟨#[115, 101, 110, 100]⟩ : ByteArray)).bind fun t149 => ((pyxref01_Same.f t107 t149).bind fun t152 => (if t152 = true then ((pyxref04_Out.f t124 (⟨#[105, 110, 105, 116]⟩ : ByteArray)).bind fun t153 => ((pyxref01_Same.f t104 t153).bind fun t156 => (if t156 = true then ((sched_Shared.f l0_3).bind fun t157 => (if (ji17) ≤ (l0_3.length : Int) then ((sched_Shared.f (l0_3.take ((ji17) : Int).toNat)).bind fun t164 => ((pyxref04_Extract.f t164 t132).bind fun t167 => ((pyxref01_Same.f t157 t167).bind fun t170 => (some t170)))) else (none))) else (some false)))) else (some false)))) = some true := by rw [if_pos rfl] at H; exact H
                        clear H
                        have H := H1
                        clear H1
                        replace H := Option.bind_eq_some_iff.mp H
                        obtain ⟨t149, A340, H⟩ := H
                        replace H : ((pyxref01_Same.f t107 t149).bind fun t152 => (if t152 = true then ((pyxref04_Out.f t124 (⟨#[105, 110, 105, 116]⟩ : ByteArray)).bind fun t153 => ((pyxref01_Same.f t104 t153).bind fun t156 => (if t156 = true then ((sched_Shared.f l0_3).bind fun t157 => (if (ji17) ≤ (l0_3.length : Int) then ((sched_Shared.f (l0_3.take ((ji17) : Int).toNat)).bind fun t164 => ((pyxref04_Extract.f t164 t132).bind fun t167 => ((pyxref01_Same.f t157 t167).bind fun t170 => (some t170)))) else (none))) else (some false)))) else (some false))) = some true := H
                        have A34 := Aside0.mk A340
                        clear A340
                        replace H := Option.bind_eq_some_iff.mp H
                        obtain ⟨t152, A350, H⟩ := H
                        replace H : (if t152 = true then ((pyxref04_Out.f t124 (⟨#[105, 110, 105, 116]⟩ : ByteArray)).bind fun t153 => ((pyxref01_Same.f t104 t153).bind fun t156 => (if t156 = true then ((sched_Shared.f l0_3).bind fun t157 => (if (ji17) ≤ (l0_3.length : Int) then ((sched_Shared.f (l0_3.take ((ji17) : Int).toNat)).bind fun t164 => ((pyxref04_Extract.f t164 t132).bind fun t167 => ((pyxref01_Same.f t157 t167).bind fun t170 => (some t170)))) else (none))) else (some false)))) else (some false)) = some true := H
                        have A35 := Aside0.mk A350
                        clear A350
                        by_cases c36 : t152 = true
                        · subst c36
                          have H1 : ((pyxref04_Out.f t124 (⟨#[105, 110, 105, 116]⟩ : ByteArray)).bind fun t153 => ((pyxref01_Same.f t104 t153).bind fun t156 => (if t156 = true then ((sched_Shared.f l0_3).bind fun t157 => (if (ji17) ≤ (l0_3.length : Int) then ((sched_Shared.f (l0_3.take ((ji17) : Int).toNat)).bind fun t164 => ((pyxref04_Extract.f t164 t132).bind fun t167 => ((pyxref01_Same.f t157 t167).bind fun t170 => (some t170)))) else (none))) else (some false)))) = some true := by rw [if_pos rfl] at H; exact H
                          clear H
                          have H := H1
                          clear H1
                          replace H := Option.bind_eq_some_iff.mp H
                          obtain ⟨t153, A370, H⟩ := H
                          replace H : ((pyxref01_Same.f t104 t153).bind fun t156 => (if t156 = true then ((sched_Shared.f l0_3).bind fun t157 => (if (ji17) ≤ (l0_3.length : Int) then ((sched_Shared.f (l0_3.take ((ji17) : Int).toNat)).bind fun t164 => ((pyxref04_Extract.f t164 t132).bind fun t167 => ((pyxref01_Same.f t157 t167).bind fun t170 => (some t170)))) else (none))) else (some false))) = some true := H
                          have A37 := Aside0.mk A370
                          clear A370
                          replace H := Option.bind_eq_some_iff.mp H
                          obtain ⟨t156, A380, H⟩ := H
                          replace H : (if t156 = true then ((sched_Shared.f l0_3).bind fun t157 => (if (ji17) ≤ (l0_3.length : Int) then ((sched_Shared.f (l0_3.take ((ji17) : Int).toNat)).bind fun t164 => ((pyxref04_Extract.f t164 t132).bind fun t167 => ((pyxref01_Same.f t157 t167).bind fun t170 => (some t170)))) else (none))) else (some false)) = some true := H
                          have A38 := Aside0.mk A380
                          clear A380
                          by_cases c39 : t156 = true
                          · subst c39
                            have H1 : ((sched_Shared.f l0_3).bind fun t157 => (if (ji17) ≤ (l0_3.length : Int) then ((sched_Shared.f (l0_3.take ((ji17) : Int).toNat)).bind fun t164 => ((pyxref04_Extract.f t164 t132).bind fun t167 => ((pyxref01_Same.f t157 t167).bind fun t170 => (some t170)))) else (none))) = some true := by rw [if_pos rfl] at H; exact H
                            clear H
                            have H := H1
                            clear H1
                            replace H := Option.bind_eq_some_iff.mp H
                            obtain ⟨t157, A400, H⟩ := H
                            replace H : (if (ji17) ≤ (l0_3.length : Int) then ((sched_Shared.f (l0_3.take ((ji17) : Int).toNat)).bind fun t164 => ((pyxref04_Extract.f t164 t132).bind fun t167 => ((pyxref01_Same.f t157 t167).bind fun t170 => (some t170)))) else (none)) = some true := H
                            have A40 := Aside0.mk A400
                            clear A400
                            have c41b0 := eq_true (of_decide_eq_true (by first | (with_reducible assumption) | assumption) : 0 ≤ (ji17))
                            by_cases c42 : (ji17) ≤ (l0_3.length : Int)
                            · rw [if_pos c42] at H
                              have c42b0 := eq_true c42
                              have c42b1 : decide ((ji17) ≤ (l0_3.length : Int)) = true := decide_eq_true c42
                              clear c42
                              obtain ⟨y160, hy160⟩ : ∃ y_ : List (List Int), y_ = (l0_3.take ((ji17) : Int).toNat) := ⟨_, rfl⟩
                              replace H : ((sched_Shared.f y160).bind fun t164 => ((pyxref04_Extract.f t164 t132).bind fun t167 => ((pyxref01_Same.f t157 t167).bind fun t170 => (some t170)))) = some true := by first | (rw [hy160]; with_reducible exact H) | (have H2_ := (Option.bind_some _ _).symm.trans H; rw [hy160]; with_reducible exact H2_) | (have H2_ := (Option.bind_some _ _).symm.trans H; with_reducible exact H2_) | with_reducible exact H | (rw [hy160]; exact H) | exact H
                              have Ny160 := Aside0.mk hy160
                              clear hy160
                              replace H := Option.bind_eq_some_iff.mp H
                              obtain ⟨t164, A430, H⟩ := H
                              replace H : ((pyxref04_Extract.f t164 t132).bind fun t167 => ((pyxref01_Same.f t157 t167).bind fun t170 => (some t170))) = some true := H
                              have A43 := Aside0.mk A430
                              clear A430
                              replace H := Option.bind_eq_some_iff.mp H
                              obtain ⟨t167, A440, H⟩ := H
                              replace H : ((pyxref01_Same.f t157 t167).bind fun t170 => (some t170)) = some true := H
                              have A44 := Aside0.mk A440
                              clear A440
                              replace H := Option.bind_eq_some_iff.mp H
                              obtain ⟨t170, A450, H⟩ := H
                              replace H : (some t170) = some true := H
                              have A45 := Aside0.mk A450
                              clear A450
                              have HT_ := Option.some.inj H
                              try go_wp2_with (first | ((with_reducible refine gate_callee (f := 35) rfl ?_); refine goesL_ (some 57) rfl rfl Try.func35 (by kernel_rfl) rfl #[.slice A0_0 l0_0.length c0_0, .slice A0_1 l0_1.length c0_1, .slice A0_2 l0_2.length c0_2] rfl (by (try simp only [List.map_toArray, List.map_cons, List.map_nil]); first | done | rfl | (simp only [List.length_drop, List.length_take]; rfl)) ?_; (with_reducible refine (sched_Epoch.calls _ _ l0_0 _ _ l0_1 _ _ l0_2 t104 t107 t110 t113 t116 t119 _ ?side1 ?side2 ?side3 ?side4 ?side5 ?side6 A14.out).mono ?_); (case side1 => repeat (first | exact (Kd.C_below HR0_0.out HB.out) | (with_reducible refine Kd.C_alloc ?_ _) | (with_reducible refine Kd.C_drewN ?_ _) | (with_reducible refine Kd.C_drew ?_))); (case side2 => exact HC0_0.out); (case side3 => repeat (first | exact (Kd.C_below HR0_1.out HB.out) | (with_reducible refine Kd.C_alloc ?_ _) | (with_reducible refine Kd.C_drewN ?_ _) | (with_reducible refine Kd.C_drew ?_))); (case side4 => exact HC0_1.out); (case side5 => repeat (first | exact (Kd.C_below HR0_2.out HB.out) | (with_reducible refine Kd.C_alloc ?_ _) | (with_reducible refine Kd.C_drewN ?_ _) | (with_reducible refine Kd.C_drew ?_))); (case side6 => exact HC0_2.out); rintro e w46 ⟨v105, v108, v111, v114, v117, rfl, ho0, ho1, ho2, ho3, ho4, hb⟩; refine ⟨_, rfl, ?_⟩; have n0_ := Aside0.mk (Kd.R_lower ho0 (below_size (by repeat (first | (with_reducible first | exact HB.out | apply below_alloc | apply pw_below_drewN | apply below_drew1 | refine below_set ?_ GE101.out) | exact HB.out)))); have n1_ := Aside0.mk (Kd.R_lower ho1 (below_size (by repeat (first | (with_reducible first | exact HB.out | apply below_alloc | apply pw_below_drewN | apply below_drew1 | refine below_set ?_ GE101.out) | exact HB.out)))); have n2_ := Aside0.mk (Kd.R_lower ho2 (below_size (by repeat (first | (with_reducible first | exact HB.out | apply below_alloc | apply pw_below_drewN | apply below_drew1 | refine below_set ?_ GE101.out) | exact HB.out)))); have n3_ := Aside0.mk (Kd.R_lower ho3 (below_size (by repeat (first | (with_reducible first | exact HB.out | apply below_alloc | apply pw_below_drewN | apply below_drew1 | refine below_set ?_ GE101.out) | exact HB.out)))); have n4_ := Aside0.mk (Kd.R_lower ho4 (below_size (by repeat (first | (with_reducible first | exact HB.out | apply below_alloc | apply pw_below_drewN | apply below_drew1 | refine below_set ?_ GE101.out) | exact HB.out)))); have n5_ := Aside0.mk (blk_below (g := gb101) (o := .cells #[.slice A0_0 l0_0.length c0_0, .slice A0_1 l0_1.length c0_1, .slice A0_2 l0_2.length c0_2, .slice A0_3 l0_3.length c0_3] 77 (0, 0)) (by (with_reducible repeat (first | refine blk_drewN ?_ _ | refine blk_drew ?_ | refine blk_alloc ?_ _)); exact BK101.out) hb); have n6_ := Aside0.mk (below_step (by repeat (first | (with_reducible first | exact HB.out | apply below_alloc | apply pw_below_drewN | apply below_drew1 | refine below_set ?_ GE101.out) | exact HB.out)) hb); clear BK101; clear HB; have HO106 := n0_; have HO109 := n1_; have HO112 := n2_; have HO115 := n3_; have HO118 := n4_; have BK101 := n5_; have HB := n6_; clear n0_ n1_ n2_ n3_ n4_ n5_ n6_; (try clear hb); (try clear hb2); (try clear hk); (try clear hi); (try clear ho0); (try clear ho1); (try clear ho2); (try clear ho3); (try clear ho4)) | ((with_reducible refine gate_dst (N := 8) rfl ?_); (try (refine gate_guard (by rfl) ?_; dsimp only)); refine box_event ?hg (N := 8) ?hd (cs := #[.slice none 0 0, .slice none 0 0, .slice none 0 0, .slice none 0 0, .slice none 0 0]) (t := 60) ?hr ?_; (case hd => rfl); (case hg => rfl); (case hr => first | (go_simp; done) | (go_simp; rfl)); intro gb120 hg w47 hbox hb; have n0_ := Aside0.mk (Kd.R_below (by (with_reducible repeat (first | apply Kd.R_alloc | apply Kd.R_drewN | apply Kd.R_drew)); exact HO106.out) hb); have n1_ := Aside0.mk (Kd.R_below (by (with_reducible repeat (first | apply Kd.R_alloc | apply Kd.R_drewN | apply Kd.R_drew)); exact HO109.out) hb); have n2_ := Aside0.mk (Kd.R_below (by (with_reducible repeat (first | apply Kd.R_alloc | apply Kd.R_drewN | apply Kd.R_drew)); exact HO112.out) hb); have n3_ := Aside0.mk (Kd.R_below (by (with_reducible repeat (first | apply Kd.R_alloc | apply Kd.R_drewN | apply Kd.R_drew)); exact HO115.out) hb); have n4_ := Aside0.mk (Kd.R_below (by (with_reducible repeat (first | apply Kd.R_alloc | apply Kd.R_drewN | apply Kd.R_drew)); exact HO118.out) hb); have n5_ := Aside0.mk (blk_below (g := gb101) (o := .cells #[.slice A0_0 l0_0.length c0_0, .slice A0_1 l0_1.length c0_1, .slice A0_2 l0_2.length c0_2, .slice A0_3 l0_3.length c0_3] 77 (0, 0)) (by (with_reducible repeat (first | refine blk_drewN ?_ _ | refine blk_drew ?_ | refine blk_alloc ?_ _)); exact BK101.out) hb); have n6_ := Aside0.mk (below_step (by repeat (first | (with_reducible first | exact HB.out | apply below_alloc | apply pw_below_drewN | apply below_drew1 | refine below_set ?_ GE101.out) | exact HB.out)) hb); have n7_ := Aside0.mk (hbox); have n8_ := Aside0.mk ((by rw [hg]; exact (below_size (by repeat (first | (with_reducible first | exact HB.out | apply below_alloc | apply pw_below_drewN | apply below_drew1 | refine below_set ?_ GE101.out) | exact HB.out))) : w.heap.size ≤ gb120)); have n9_ := Aside0.mk ((by rw [hg]; exact (below_size (by repeat (first | (with_reducible first | exact HB.out | apply below_alloc | apply pw_below_drewN | apply below_drew1 | refine below_set ?_ GE101.out) | exact HB.out))) : w.heap.size ≤ gb120)); have n10_ := Aside0.mk ((by rw [hg]; exact Nat.ne_of_lt (blk_lt (g := gb101) (o := .cells #[.slice A0_0 l0_0.length c0_0, .slice A0_1 l0_1.length c0_1, .slice A0_2 l0_2.length c0_2, .slice A0_3 l0_3.length c0_3] 77 (0, 0)) (by (with_reducible repeat (first | refine blk_drewN ?_ _ | refine blk_drew ?_ | refine blk_alloc ?_ _)); exact BK101.out)) : gb101 ≠ gb120)); have n11_ := Aside0.mk ((by rw [hg]; exact Nat.ne_of_gt (blk_lt (g := gb101) (o := .cells #[.slice A0_0 l0_0.length c0_0, .slice A0_1 l0_1.length c0_1, .slice A0_2 l0_2.length c0_2, .slice A0_3 l0_3.length c0_3] 77 (0, 0)) (by (with_reducible repeat (first | refine blk_drewN ?_ _ | refine blk_drew ?_ | refine blk_alloc ?_ _)); exact BK101.out)) : gb120 ≠ gb101)); clear HO106; clear HO109; clear HO112; clear HO115; clear HO118; clear BK101; clear HB; have HO106 := n0_; have HO109 := n1_; have HO112 := n2_; have HO115 := n3_; have HO118 := n4_; have BK101 := n5_; have HB := n6_; have BK120 := n7_; have GW120 := n8_; have GE120 := n9_; have NB101_120 := n10_; have NB120_101 := n11_; clear n0_ n1_ n2_ n3_ n4_ n5_ n6_ n7_ n8_ n9_ n10_ n11_; clear hb hbox hg; obtain ⟨Ao48, co48, eo48⟩ := Kd.R_slice HO106.out; subst eo48; have hnb49 := NB120_101.out; have hnc49 := NB101_120.out; have hcz50_0 : w47.cell? ⟨gb120, 0, none⟩ = some (.slice none 0 0) := (blk_cell BK120.out 0).trans rfl; have hcz50_1 : w47.cell? ⟨gb120, 1, none⟩ = some (.slice none 0 0) := (blk_cell BK120.out 1).trans rfl; have hcz50_2 : w47.cell? ⟨gb120, 2, none⟩ = some (.slice none 0 0) := (blk_cell BK120.out 2).trans rfl; have hcz50_3 : w47.cell? ⟨gb120, 3, none⟩ = some (.slice none 0 0) := (blk_cell BK120.out 3).trans rfl; have hcz50_4 : w47.cell? ⟨gb120, 4, none⟩ = some (.slice none 0 0) := (blk_cell BK120.out 4).trans rfl; have hfz50_0 := blk_frozen BK120.out 0; have hfz50_1 := blk_frozen BK120.out 1; have hfz50_2 := blk_frozen BK120.out 2; have hfz50_3 := blk_frozen BK120.out 3; have hfz50_4 := blk_frozen BK120.out 4; obtain ⟨Ao51, co51, eo51⟩ := Kd.R_slice HO109.out; subst eo51; obtain ⟨Ao52, co52, eo52⟩ := Kd.R_slice HO112.out; subst eo52; obtain ⟨Ao53, co53, eo53⟩ := Kd.R_slice HO115.out; subst eo53; obtain ⟨Ao54, co54, eo54⟩ := Kd.R_slice HO118.out; subst eo54) | ((with_reducible refine gate_callee (f := 24) rfl ?_); refine goesL_ (some 63) rfl rfl Try.func24 (by kernel_rfl) rfl #[.slice A0_0 l0_0.length c0_0, .slice A0_1 l0_1.length c0_1] rfl (by (try simp only [List.map_toArray, List.map_cons, List.map_nil]); first | done | rfl | (simp only [List.length_drop, List.length_take]; rfl)) ?_; (with_reducible refine (pyxref04_Extract.calls _ _ l0_0 _ _ l0_1 t121 _ ?side1 ?side2 ?side3 ?side4 A15.out).mono ?_); (case side1 => exact Kd.C_below HR0_0.out (by repeat (first | (with_reducible first | exact HB.out | apply below_alloc | apply pw_below_drewN | apply below_drew1 | refine below_set ?_ GE101.out | refine below_set ?_ GE120.out) | exact HB.out))); (case side2 => exact HC0_0.out); (case side3 => exact Kd.C_below HR0_1.out (by repeat (first | (with_reducible first | exact HB.out | apply below_alloc | apply pw_below_drewN | apply below_drew1 | refine below_set ?_ GE101.out | refine below_set ?_ GE120.out) | exact HB.out))); (case side4 => exact HC0_1.out); rintro e w55 ⟨v122, rfl, ho0, hb⟩; refine ⟨_, rfl, ?_⟩; have n0_ := Aside0.mk (Kd.R_elder' (by (with_reducible repeat (first | apply Kd.R_alloc | apply Kd.R_drewN | apply Kd.R_drew)); exact (Kd.R_mono (Kd.R_far (p := ⟨gb120, 4, none⟩) (Kd.R_far (p := ⟨gb120, 3, none⟩) (Kd.R_far (p := ⟨gb120, 2, none⟩) (Kd.R_far (p := ⟨gb120, 1, none⟩) (Kd.R_far (p := ⟨gb120, 0, none⟩) (Kd.R_types HO106.out BK120.out (by decide)) (fun _ hk => hk.2) (.slice Ao48 t104.length co48)) (fun _ hk => hk.2) (.slice Ao51 t107.length co51)) (fun _ hk => hk.2) (.slice Ao52 t110.length co52)) (fun _ hk => hk.2) (.slice Ao53 t113.length co53)) (fun _ hk => hk.2) (.slice Ao54 t116.length co54)) (fun _ h_ => h_.1))) (Kd.R_base ho0) hb); have n1_ := Aside0.mk (Kd.R_elder' (by (with_reducible repeat (first | apply Kd.R_alloc | apply Kd.R_drewN | apply Kd.R_drew)); exact (Kd.R_mono (Kd.R_far (p := ⟨gb120, 4, none⟩) (Kd.R_far (p := ⟨gb120, 3, none⟩) (Kd.R_far (p := ⟨gb120, 2, none⟩) (Kd.R_far (p := ⟨gb120, 1, none⟩) (Kd.R_far (p := ⟨gb120, 0, none⟩) (Kd.R_types HO109.out BK120.out (by decide)) (fun _ hk => hk.2) (.slice Ao48 t104.length co48)) (fun _ hk => hk.2) (.slice Ao51 t107.length co51)) (fun _ hk => hk.2) (.slice Ao52 t110.length co52)) (fun _ hk => hk.2) (.slice Ao53 t113.length co53)) (fun _ hk => hk.2) (.slice Ao54 t116.length co54)) (fun _ h_ => h_.1))) (Kd.R_base ho0) hb); have n2_ := Aside0.mk (Kd.R_elder' (by (with_reducible repeat (first | apply Kd.R_alloc | apply Kd.R_drewN | apply Kd.R_drew)); exact (Kd.R_mono (Kd.R_far (p := ⟨gb120, 4, none⟩) (Kd.R_far (p := ⟨gb120, 3, none⟩) (Kd.R_far (p := ⟨gb120, 2, none⟩) (Kd.R_far (p := ⟨gb120, 1, none⟩) (Kd.R_far (p := ⟨gb120, 0, none⟩) (Kd.R_types HO112.out BK120.out (by decide)) (fun _ hk => hk.2) (.slice Ao48 t104.length co48)) (fun _ hk => hk.2) (.slice Ao51 t107.length co51)) (fun _ hk => hk.2) (.slice Ao52 t110.length co52)) (fun _ hk => hk.2) (.slice Ao53 t113.length co53)) (fun _ hk => hk.2) (.slice Ao54 t116.length co54)) (fun _ h_ => h_.1))) (Kd.R_base ho0) hb); have n3_ := Aside0.mk (Kd.R_elder' (by (with_reducible repeat (first | apply Kd.R_alloc | apply Kd.R_drewN | apply Kd.R_drew)); exact (Kd.R_mono (Kd.R_far (p := ⟨gb120, 4, none⟩) (Kd.R_far (p := ⟨gb120, 3, none⟩) (Kd.R_far (p := ⟨gb120, 2, none⟩) (Kd.R_far (p := ⟨gb120, 1, none⟩) (Kd.R_far (p := ⟨gb120, 0, none⟩) (Kd.R_types HO115.out BK120.out (by decide)) (fun _ hk => hk.2) (.slice Ao48 t104.length co48)) (fun _ hk => hk.2) (.slice Ao51 t107.length co51)) (fun _ hk => hk.2) (.slice Ao52 t110.length co52)) (fun _ hk => hk.2) (.slice Ao53 t113.length co53)) (fun _ hk => hk.2) (.slice Ao54 t116.length co54)) (fun _ h_ => h_.1))) (Kd.R_base ho0) hb); have n4_ := Aside0.mk (Kd.R_elder' (by (with_reducible repeat (first | apply Kd.R_alloc | apply Kd.R_drewN | apply Kd.R_drew)); exact (Kd.R_mono (Kd.R_far (p := ⟨gb120, 4, none⟩) (Kd.R_far (p := ⟨gb120, 3, none⟩) (Kd.R_far (p := ⟨gb120, 2, none⟩) (Kd.R_far (p := ⟨gb120, 1, none⟩) (Kd.R_far (p := ⟨gb120, 0, none⟩) (Kd.R_types HO118.out BK120.out (by decide)) (fun _ hk => hk.2) (.slice Ao48 t104.length co48)) (fun _ hk => hk.2) (.slice Ao51 t107.length co51)) (fun _ hk => hk.2) (.slice Ao52 t110.length co52)) (fun _ hk => hk.2) (.slice Ao53 t113.length co53)) (fun _ hk => hk.2) (.slice Ao54 t116.length co54)) (fun _ h_ => h_.1))) (Kd.R_base ho0) hb); have n5_ := Aside0.mk (Kd.R_lower (Kd.R_new' (Kd.R_new' (Kd.R_new' (Kd.R_new' (Kd.R_new' ho0 (Kd.R_lt (by (with_reducible repeat (first | apply Kd.R_alloc | apply Kd.R_drewN | apply Kd.R_drew)); exact (Kd.R_mono (Kd.R_far (p := ⟨gb120, 4, none⟩) (Kd.R_far (p := ⟨gb120, 3, none⟩) (Kd.R_far (p := ⟨gb120, 2, none⟩) (Kd.R_far (p := ⟨gb120, 1, none⟩) (Kd.R_far (p := ⟨gb120, 0, none⟩) (Kd.R_types HO106.out BK120.out (by decide)) (fun _ hk => hk.2) (.slice Ao48 t104.length co48)) (fun _ hk => hk.2) (.slice Ao51 t107.length co51)) (fun _ hk => hk.2) (.slice Ao52 t110.length co52)) (fun _ hk => hk.2) (.slice Ao53 t113.length co53)) (fun _ hk => hk.2) (.slice Ao54 t116.length co54)) (fun _ h_ => h_.1))))) (Kd.R_lt (by (with_reducible repeat (first | apply Kd.R_alloc | apply Kd.R_drewN | apply Kd.R_drew)); exact (Kd.R_mono (Kd.R_far (p := ⟨gb120, 4, none⟩) (Kd.R_far (p := ⟨gb120, 3, none⟩) (Kd.R_far (p := ⟨gb120, 2, none⟩) (Kd.R_far (p := ⟨gb120, 1, none⟩) (Kd.R_far (p := ⟨gb120, 0, none⟩) (Kd.R_types HO109.out BK120.out (by decide)) (fun _ hk => hk.2) (.slice Ao48 t104.length co48)) (fun _ hk => hk.2) (.slice Ao51 t107.length co51)) (fun _ hk => hk.2) (.slice Ao52 t110.length co52)) (fun _ hk => hk.2) (.slice Ao53 t113.length co53)) (fun _ hk => hk.2) (.slice Ao54 t116.length co54)) (fun _ h_ => h_.1))))) (Kd.R_lt (by (with_reducible repeat (first | apply Kd.R_alloc | apply Kd.R_drewN | apply Kd.R_drew)); exact (Kd.R_mono (Kd.R_far (p := ⟨gb120, 4, none⟩) (Kd.R_far (p := ⟨gb120, 3, none⟩) (Kd.R_far (p := ⟨gb120, 2, none⟩) (Kd.R_far (p := ⟨gb120, 1, none⟩) (Kd.R_far (p := ⟨gb120, 0, none⟩) (Kd.R_types HO112.out BK120.out (by decide)) (fun _ hk => hk.2) (.slice Ao48 t104.length co48)) (fun _ hk => hk.2) (.slice Ao51 t107.length co51)) (fun _ hk => hk.2) (.slice Ao52 t110.length co52)) (fun _ hk => hk.2) (.slice Ao53 t113.length co53)) (fun _ hk => hk.2) (.slice Ao54 t116.length co54)) (fun _ h_ => h_.1))))) (Kd.R_lt (by (with_reducible repeat (first | apply Kd.R_alloc | apply Kd.R_drewN | apply Kd.R_drew)); exact (Kd.R_mono (Kd.R_far (p := ⟨gb120, 4, none⟩) (Kd.R_far (p := ⟨gb120, 3, none⟩) (Kd.R_far (p := ⟨gb120, 2, none⟩) (Kd.R_far (p := ⟨gb120, 1, none⟩) (Kd.R_far (p := ⟨gb120, 0, none⟩) (Kd.R_types HO115.out BK120.out (by decide)) (fun _ hk => hk.2) (.slice Ao48 t104.length co48)) (fun _ hk => hk.2) (.slice Ao51 t107.length co51)) (fun _ hk => hk.2) (.slice Ao52 t110.length co52)) (fun _ hk => hk.2) (.slice Ao53 t113.length co53)) (fun _ hk => hk.2) (.slice Ao54 t116.length co54)) (fun _ h_ => h_.1))))) (Kd.R_lt (by (with_reducible repeat (first | apply Kd.R_alloc | apply Kd.R_drewN | apply Kd.R_drew)); exact (Kd.R_mono (Kd.R_far (p := ⟨gb120, 4, none⟩) (Kd.R_far (p := ⟨gb120, 3, none⟩) (Kd.R_far (p := ⟨gb120, 2, none⟩) (Kd.R_far (p := ⟨gb120, 1, none⟩) (Kd.R_far (p := ⟨gb120, 0, none⟩) (Kd.R_types HO118.out BK120.out (by decide)) (fun _ hk => hk.2) (.slice Ao48 t104.length co48)) (fun _ hk => hk.2) (.slice Ao51 t107.length co51)) (fun _ hk => hk.2) (.slice Ao52 t110.length co52)) (fun _ hk => hk.2) (.slice Ao53 t113.length co53)) (fun _ hk => hk.2) (.slice Ao54 t116.length co54)) (fun _ h_ => h_.1))))) (below_size (by repeat (first | (with_reducible first | exact HB.out | apply below_alloc | apply pw_below_drewN | apply below_drew1 | refine below_set ?_ GE101.out | refine below_set ?_ GE120.out) | exact HB.out)))); have n6_ := Aside0.mk (blk_below (g := gb101) (o := .cells #[.slice A0_0 l0_0.length c0_0, .slice A0_1 l0_1.length c0_1, .slice A0_2 l0_2.length c0_2, .slice A0_3 l0_3.length c0_3] 77 (0, 0)) (by (with_reducible repeat (first | refine blk_drewN ?_ _ | refine blk_drew ?_ | refine blk_alloc ?_ _)); refine blk_far ?_ NB101_120.out _; (with_reducible repeat (first | refine blk_drewN ?_ _ | refine blk_drew ?_ | refine blk_alloc ?_ _)); refine blk_far ?_ NB101_120.out _; (with_reducible repeat (first | refine blk_drewN ?_ _ | refine blk_drew ?_ | refine blk_alloc ?_ _)); refine blk_far ?_ NB101_120.out _; (with_reducible repeat (first | refine blk_drewN ?_ _ | refine blk_drew ?_ | refine blk_alloc ?_ _)); refine blk_far ?_ NB101_120.out _; (with_reducible repeat (first | refine blk_drewN ?_ _ | refine blk_drew ?_ | refine blk_alloc ?_ _)); refine blk_far ?_ NB101_120.out _; (with_reducible repeat (first | refine blk_drewN ?_ _ | refine blk_drew ?_ | refine blk_alloc ?_ _)); exact BK101.out) hb); have n7_ := Aside0.mk (blk_below (g := gb120) (o := .cells #[.slice Ao48 t104.length co48, .slice Ao51 t107.length co51, .slice Ao52 t110.length co52, .slice Ao53 t113.length co53, .slice Ao54 t116.length co54] 60 (0, 0)) (by (with_reducible repeat (first | refine blk_drewN ?_ _ | refine blk_drew ?_ | refine blk_alloc ?_ _)); refine blk_put (cs := #[.slice Ao48 t104.length co48, .slice Ao51 t107.length co51, .slice Ao52 t110.length co52, .slice Ao53 t113.length co53, .slice none 0 0]) ?_ 4 _ rfl; (with_reducible repeat (first | refine blk_drewN ?_ _ | refine blk_drew ?_ | refine blk_alloc ?_ _)); refine blk_put (cs := #[.slice Ao48 t104.length co48, .slice Ao51 t107.length co51, .slice Ao52 t110.length co52, .slice none 0 0, .slice none 0 0]) ?_ 3 _ rfl; (with_reducible repeat (first | refine blk_drewN ?_ _ | refine blk_drew ?_ | refine blk_alloc ?_ _)); refine blk_put (cs := #[.slice Ao48 t104.length co48, .slice Ao51 t107.length co51, .slice none 0 0, .slice none 0 0, .slice none 0 0]) ?_ 2 _ rfl; (with_reducible repeat (first | refine blk_drewN ?_ _ | refine blk_drew ?_ | refine blk_alloc ?_ _)); refine blk_put (cs := #[.slice Ao48 t104.length co48, .slice none 0 0, .slice none 0 0, .slice none 0 0, .slice none 0 0]) ?_ 1 _ rfl; (with_reducible repeat (first | refine blk_drewN ?_ _ | refine blk_drew ?_ | refine blk_alloc ?_ _)); refine blk_put (cs := #[.slice none 0 0, .slice none 0 0, .slice none 0 0, .slice none 0 0, .slice none 0 0]) ?_ 0 _ rfl; (with_reducible repeat (first | refine blk_drewN ?_ _ | refine blk_drew ?_ | refine blk_alloc ?_ _)); exact BK120.out) hb); have n8_ := Aside0.mk (below_step (by repeat (first | (with_reducible first | exact HB.out | apply below_alloc | apply pw_below_drewN | apply below_drew1 | refine below_set ?_ GE101.out | refine below_set ?_ GE120.out) | exact HB.out)) hb); clear HO106; clear HO109; clear HO112; clear HO115; clear HO118; clear BK101; clear BK120; clear HB; have HO106 := n0_; have HO109 := n1_; have HO112 := n2_; have HO115 := n3_; have HO118 := n4_; have HO123 := n5_; have BK101 := n6_; have BK120 := n7_; have HB := n8_; clear n0_ n1_ n2_ n3_ n4_ n5_ n6_ n7_ n8_; (try clear hb); (try clear hb2); (try clear hk); (try clear hi); (try clear ho0); obtain ⟨Ao56, co56, eo56⟩ := Kd.R_slice HO123.out; subst eo56) | ((with_reducible refine gate_callee (f := 19) rfl ?_); refine goesL_ (some 65) rfl rfl Try.func19 (by kernel_rfl) rfl #[.slice Ao56 t121.length co56, .string (⟨#[101, 112, 111, 99, 104]⟩ : ByteArray), .slice A0_2 l0_2.length c0_2, .int .i64 32] rfl (by (try simp only [List.map_toArray, List.map_cons, List.map_nil]); first | done | rfl | (simp only [List.length_drop, List.length_take]; rfl)) ?_; (with_reducible refine (pyxref04_Label.calls _ _ t121 (⟨#[101, 112, 111, 99, 104]⟩ : ByteArray) _ _ l0_2 32 t124 t125 _ ?side1 ?side2 ?side3 ?side4 A16.out).mono ?_); (case side1 => repeat (first | exact (Kd.R_reads' HO123.out).2.2 | (with_reducible refine Kd.C_alloc ?_ _) | (with_reducible refine Kd.C_drewN ?_ _) | (with_reducible refine Kd.C_drew ?_))); (case side2 => exact (Kd.R_reads' HO123.out).2.1); (case side3 => repeat (first | exact (Kd.C_below HR0_2.out HB.out) | (with_reducible refine Kd.C_alloc ?_ _) | (with_reducible refine Kd.C_drewN ?_ _) | (with_reducible refine Kd.C_drew ?_))); (case side4 => exact HC0_2.out); rintro e w57 ⟨v126, rfl, ho0, hb⟩; refine ⟨_, rfl, ?_⟩; have n0_ := Aside0.mk (Kd.R_elder' (by (with_reducible repeat (first | apply Kd.R_alloc | apply Kd.R_drewN | apply Kd.R_drew)); exact HO106.out) (Kd.R_base ho0) hb); have n1_ := Aside0.mk (Kd.R_elder' (by (with_reducible repeat (first | apply Kd.R_alloc | apply Kd.R_drewN | apply Kd.R_drew)); exact HO109.out) (Kd.R_base ho0) hb); have n2_ := Aside0.mk (Kd.R_elder' (by (with_reducible repeat (first | apply Kd.R_alloc | apply Kd.R_drewN | apply Kd.R_drew)); exact HO112.out) (Kd.R_base ho0) hb); have n3_ := Aside0.mk (Kd.R_elder' (by (with_reducible repeat (first | apply Kd.R_alloc | apply Kd.R_drewN | apply Kd.R_drew)); exact HO115.out) (Kd.R_base ho0) hb); have n4_ := Aside0.mk (Kd.R_elder' (by (with_reducible repeat (first | apply Kd.R_alloc | apply Kd.R_drewN | apply Kd.R_drew)); exact HO118.out) (Kd.R_base ho0) hb); have n5_ := Aside0.mk (Kd.R_elder' (by (with_reducible repeat (first | apply Kd.R_alloc | apply Kd.R_drewN | apply Kd.R_drew)); exact HO123.out) (Kd.R_base ho0) hb); have n6_ := Aside0.mk (Kd.R_lower (Kd.R_new' (Kd.R_new' (Kd.R_new' (Kd.R_new' (Kd.R_new' (Kd.R_new' ho0 (Kd.R_lt (by (with_reducible repeat (first | apply Kd.R_alloc | apply Kd.R_drewN | apply Kd.R_drew)); exact HO106.out))) (Kd.R_lt (by (with_reducible repeat (first | apply Kd.R_alloc | apply Kd.R_drewN | apply Kd.R_drew)); exact HO109.out))) (Kd.R_lt (by (with_reducible repeat (first | apply Kd.R_alloc | apply Kd.R_drewN | apply Kd.R_drew)); exact HO112.out))) (Kd.R_lt (by (with_reducible repeat (first | apply Kd.R_alloc | apply Kd.R_drewN | apply Kd.R_drew)); exact HO115.out))) (Kd.R_lt (by (with_reducible repeat (first | apply Kd.R_alloc | apply Kd.R_drewN | apply Kd.R_drew)); exact HO118.out))) (Kd.R_lt (by (with_reducible repeat (first | apply Kd.R_alloc | apply Kd.R_drewN | apply Kd.R_drew)); exact HO123.out))) (below_size (by repeat (first | (with_reducible first | exact HB.out | apply below_alloc | apply pw_below_drewN | apply below_drew1 | refine below_set ?_ GE101.out | refine below_set ?_ GE120.out) | exact HB.out)))); have n7_ := Aside0.mk (blk_below (g := gb101) (o := .cells #[.slice A0_0 l0_0.length c0_0, .slice A0_1 l0_1.length c0_1, .slice A0_2 l0_2.length c0_2, .slice A0_3 l0_3.length c0_3] 77 (0, 0)) (by (with_reducible repeat (first | refine blk_drewN ?_ _ | refine blk_drew ?_ | refine blk_alloc ?_ _)); exact BK101.out) hb); have n8_ := Aside0.mk (blk_below (g := gb120) (o := .cells #[.slice Ao48 t104.length co48, .slice Ao51 t107.length co51, .slice Ao52 t110.length co52, .slice Ao53 t113.length co53, .slice Ao54 t116.length co54] 60 (0, 0)) (by (with_reducible repeat (first | refine blk_drewN ?_ _ | refine blk_drew ?_ | refine blk_alloc ?_ _)); exact BK120.out) hb); have n9_ := Aside0.mk (below_step (by repeat (first | (with_reducible first | exact HB.out | apply below_alloc | apply pw_below_drewN | apply below_drew1 | refine below_set ?_ GE101.out | refine below_set ?_ GE120.out) | exact HB.out)) hb); clear HO106; clear HO109; clear HO112; clear HO115; clear HO118; clear HO123; clear BK101; clear BK120; clear HB; have HO106 := n0_; have HO109 := n1_; have HO112 := n2_; have HO115 := n3_; have HO118 := n4_; have HO123 := n5_; have HO127 := n6_; have BK101 := n7_; have BK120 := n8_; have HB := n9_; clear n0_ n1_ n2_ n3_ n4_ n5_ n6_ n7_ n8_ n9_; (try clear hb); (try clear hb2); (try clear hk); (try clear hi); (try clear ho0); have p128 : 0 ≤ ((ji17) : Int) := of_decide_eq_true (by first | (with_reducible assumption) | assumption); have q128 : (ji17) < (l0_3.length : Int) := of_decide_eq_true (by first | (with_reducible assumption) | assumption); obtain ⟨ad128, A128_0, c128_0, e128, hx128_0, hl128_0, hi128_0⟩ := at_L1 HR0_3.out (ji17) p128 q128; cases e128; replace hx128_0 := (HB.out.cell (World.block_lt_of_cell? w _ hx128_0)).trans hx128_0; have HR128_0 := Aside0.mk hi128_0; have HC128_0 := Aside0.mk hl128_0; clear hi128_0 hl128_0; replace p128 := eq_true p128; replace q128 := eq_true q128) | ((with_reducible refine gate_dst (N := 78) rfl ?_); (try (refine gate_guard (by rfl) ?_; dsimp only)); refine Kd.R_lit (Kd.int .u8) _ 5 ?hg (N := 78) ?hd (xs := ([0, (ji17) % 256] : List Int)) (inner := [.int .u8 0, .int .u8 ((ji17) % 256)]) (ok := fun _ => True) (okp := fun _ => True) ?hr ?hp (fun _ hk => hk) trivial (Below.refl _ _) (Nat.le_refl _) (by simp) ?_; (case hd => rfl); (case hg => rfl); (case hr => first | (go_simp; done) | (go_simp; rfl)); (case hp => exact (Reps.one (show Kd.M (Kd.int .u8) _ _ _ 0 [.int .u8 0] from rfl) (Reps.one (show Kd.M (Kd.int .u8) _ _ _ ((ji17) % 256) [.int .u8 ((ji17) % 256)] from rfl) (Reps.none _ _)))); intro v130 w58 ho59 hb hg_ hnew_; clear hg_ hnew_; (first | rw [← Ny129.out] at ho59 | (simp only [Int.reduceToNat] at ho59; rw [← Ny129.out] at ho59)); have n0_ := Aside0.mk (Kd.R_elder' (by (with_reducible repeat (first | apply Kd.R_alloc | apply Kd.R_drewN | apply Kd.R_drew)); exact HO106.out) (Kd.R_base ho59) hb); have n1_ := Aside0.mk (Kd.R_elder' (by (with_reducible repeat (first | apply Kd.R_alloc | apply Kd.R_drewN | apply Kd.R_drew)); exact HO109.out) (Kd.R_base ho59) hb); have n2_ := Aside0.mk (Kd.R_elder' (by (with_reducible repeat (first | apply Kd.R_alloc | apply Kd.R_drewN | apply Kd.R_drew)); exact HO112.out) (Kd.R_base ho59) hb); have n3_ := Aside0.mk (Kd.R_elder' (by (with_reducible repeat (first | apply Kd.R_alloc | apply Kd.R_drewN | apply Kd.R_drew)); exact HO115.out) (Kd.R_base ho59) hb); have n4_ := Aside0.mk (Kd.R_elder' (by (with_reducible repeat (first | apply Kd.R_alloc | apply Kd.R_drewN | apply Kd.R_drew)); exact HO118.out) (Kd.R_base ho59) hb); have n5_ := Aside0.mk (Kd.R_elder' (by (with_reducible repeat (first | apply Kd.R_alloc | apply Kd.R_drewN | apply Kd.R_drew)); exact HO123.out) (Kd.R_base ho59) hb); have n6_ := Aside0.mk (Kd.R_elder' (by (with_reducible repeat (first | apply Kd.R_alloc | apply Kd.R_drewN | apply Kd.R_drew)); exact HO127.out) (Kd.R_base ho59) hb); have n7_ := Aside0.mk (Kd.R_lower (Kd.R_new' (Kd.R_new' (Kd.R_new' (Kd.R_new' (Kd.R_new' (Kd.R_new' (Kd.R_new' ho59 (Kd.R_lt (by (with_reducible repeat (first | apply Kd.R_alloc | apply Kd.R_drewN | apply Kd.R_drew)); exact HO106.out))) (Kd.R_lt (by (with_reducible repeat (first | apply Kd.R_alloc | apply Kd.R_drewN | apply Kd.R_drew)); exact HO109.out))) (Kd.R_lt (by (with_reducible repeat (first | apply Kd.R_alloc | apply Kd.R_drewN | apply Kd.R_drew)); exact HO112.out))) (Kd.R_lt (by (with_reducible repeat (first | apply Kd.R_alloc | apply Kd.R_drewN | apply Kd.R_drew)); exact HO115.out))) (Kd.R_lt (by (with_reducible repeat (first | apply Kd.R_alloc | apply Kd.R_drewN | apply Kd.R_drew)); exact HO118.out))) (Kd.R_lt (by (with_reducible repeat (first | apply Kd.R_alloc | apply Kd.R_drewN | apply Kd.R_drew)); exact HO123.out))) (Kd.R_lt (by (with_reducible repeat (first | apply Kd.R_alloc | apply Kd.R_drewN | apply Kd.R_drew)); exact HO127.out))) (below_size (by repeat (first | (with_reducible first | exact HB.out | apply below_alloc | apply pw_below_drewN | apply below_drew1 | refine below_set ?_ GE101.out | refine below_set ?_ GE120.out) | exact HB.out)))); have n8_ := Aside0.mk (blk_below (g := gb101) (o := .cells #[.slice A0_0 l0_0.length c0_0, .slice A0_1 l0_1.length c0_1, .slice A0_2 l0_2.length c0_2, .slice (some ad128) l0_3.length c0_3] 77 (0, 0)) (by (with_reducible repeat (first | refine blk_drewN ?_ _ | refine blk_drew ?_ | refine blk_alloc ?_ _)); exact BK101.out) hb); have n9_ := Aside0.mk (blk_below (g := gb120) (o := .cells #[.slice Ao48 t104.length co48, .slice Ao51 t107.length co51, .slice Ao52 t110.length co52, .slice Ao53 t113.length co53, .slice Ao54 t116.length co54] 60 (0, 0)) (by (with_reducible repeat (first | refine blk_drewN ?_ _ | refine blk_drew ?_ | refine blk_alloc ?_ _)); exact BK120.out) hb); have n10_ := Aside0.mk (below_step (by repeat (first | (with_reducible first | exact HB.out | apply below_alloc | apply pw_below_drewN | apply below_drew1 | refine below_set ?_ GE101.out | refine below_set ?_ GE120.out) | exact HB.out)) hb); clear HO106; clear HO109; clear HO112; clear HO115; clear HO118; clear HO123; clear HO127; clear BK101; clear BK120; clear HB; have HO106 := n0_; have HO109 := n1_; have HO112 := n2_; have HO115 := n3_; have HO118 := n4_; have HO123 := n5_; have HO127 := n6_; have HO131 := n7_; have BK101 := n8_; have BK120 := n9_; have HB := n10_; clear n0_ n1_ n2_ n3_ n4_ n5_ n6_ n7_ n8_ n9_ n10_; clear hb ho59; obtain ⟨Ao60, co60, eo60⟩ := Kd.R_slice HO131.out; subst eo60) | ((with_reducible refine gate_callee (f := 19) rfl ?_); refine goesL_ (some 79) rfl rfl Try.func19 (by kernel_rfl) rfl #[.slice A128_0 (rd_L1 l0_3 (ji17)).length c128_0, .string (⟨#[115, 104, 97, 114, 101, 100]⟩ : ByteArray), .slice Ao60 y129.length co60, .int .i64 32] rfl (by (try simp only [List.map_toArray, List.map_cons, List.map_nil]); first | done | (simp only [hji17]; rfl) | rfl | (simp only [List.length_drop, List.length_take]; rfl)) ?_; (with_reducible refine (pyxref04_Label.calls _ _ (rd_L1 l0_3 (ji17)) (⟨#[115, 104, 97, 114, 101, 100]⟩ : ByteArray) _ _ y129 32 t132 t133 _ ?side1 ?side2 ?side3 ?side4 A20.out).mono ?_); (case side1 => repeat (first | exact (Kd.C_below HR128_0.out HB.out) | (with_reducible refine Kd.C_alloc ?_ _) | (with_reducible refine Kd.C_drewN ?_ _) | (with_reducible refine Kd.C_drew ?_))); (case side2 => exact HC128_0.out); (case side3 => repeat (first | exact (Kd.R_reads' HO131.out).2.2 | (with_reducible refine Kd.C_alloc ?_ _) | (with_reducible refine Kd.C_drewN ?_ _) | (with_reducible refine Kd.C_drew ?_))); (case side4 => exact (Kd.R_reads' HO131.out).2.1); rintro e w61 ⟨v134, rfl, ho0, hb⟩; refine ⟨_, rfl, ?_⟩; have n0_ := Aside0.mk (Kd.R_elder' (by (with_reducible repeat (first | apply Kd.R_alloc | apply Kd.R_drewN | apply Kd.R_drew)); exact HO106.out) (Kd.R_base ho0) hb); have n1_ := Aside0.mk (Kd.R_elder' (by (with_reducible repeat (first | apply Kd.R_alloc | apply Kd.R_drewN | apply Kd.R_drew)); exact HO109.out) (Kd.R_base ho0) hb); have n2_ := Aside0.mk (Kd.R_elder' (by (with_reducible repeat (first | apply Kd.R_alloc | apply Kd.R_drewN | apply Kd.R_drew)); exact HO112.out) (Kd.R_base ho0) hb); have n3_ := Aside0.mk (Kd.R_elder' (by (with_reducible repeat (first | apply Kd.R_alloc | apply Kd.R_drewN | apply Kd.R_drew)); exact HO115.out) (Kd.R_base ho0) hb); have n4_ := Aside0.mk (Kd.R_elder' (by (with_reducible repeat (first | apply Kd.R_alloc | apply Kd.R_drewN | apply Kd.R_drew)); exact HO118.out) (Kd.R_base ho0) hb); have n5_ := Aside0.mk (Kd.R_elder' (by (with_reducible repeat (first | apply Kd.R_alloc | apply Kd.R_drewN | apply Kd.R_drew)); exact HO123.out) (Kd.R_base ho0) hb); have n6_ := Aside0.mk (Kd.R_elder' (by (with_reducible repeat (first | apply Kd.R_alloc | apply Kd.R_drewN | apply Kd.R_drew)); exact HO127.out) (Kd.R_base ho0) hb); have n7_ := Aside0.mk (Kd.R_elder' (by (with_reducible repeat (first | apply Kd.R_alloc | apply Kd.R_drewN | apply Kd.R_drew)); exact HO131.out) (Kd.R_base ho0) hb); have n8_ := Aside0.mk (Kd.R_lower (Kd.R_new' (Kd.R_new' (Kd.R_new' (Kd.R_new' (Kd.R_new' (Kd.R_new' (Kd.R_new' (Kd.R_new' ho0 (Kd.R_lt (by (with_reducible repeat (first | apply Kd.R_alloc | apply Kd.R_drewN | apply Kd.R_drew)); exact HO106.out))) (Kd.R_lt (by (with_reducible repeat (first | apply Kd.R_alloc | apply Kd.R_drewN | apply Kd.R_drew)); exact HO109.out))) (Kd.R_lt (by (with_reducible repeat (first | apply Kd.R_alloc | apply Kd.R_drewN | apply Kd.R_drew)); exact HO112.out))) (Kd.R_lt (by (with_reducible repeat (first | apply Kd.R_alloc | apply Kd.R_drewN | apply Kd.R_drew)); exact HO115.out))) (Kd.R_lt (by (with_reducible repeat (first | apply Kd.R_alloc | apply Kd.R_drewN | apply Kd.R_drew)); exact HO118.out))) (Kd.R_lt (by (with_reducible repeat (first | apply Kd.R_alloc | apply Kd.R_drewN | apply Kd.R_drew)); exact HO123.out))) (Kd.R_lt (by (with_reducible repeat (first | apply Kd.R_alloc | apply Kd.R_drewN | apply Kd.R_drew)); exact HO127.out))) (Kd.R_lt (by (with_reducible repeat (first | apply Kd.R_alloc | apply Kd.R_drewN | apply Kd.R_drew)); exact HO131.out))) (below_size (by repeat (first | (with_reducible first | exact HB.out | apply below_alloc | apply pw_below_drewN | apply below_drew1 | refine below_set ?_ GE101.out | refine below_set ?_ GE120.out) | exact HB.out)))); have n9_ := Aside0.mk (blk_below (g := gb101) (o := .cells #[.slice A0_0 l0_0.length c0_0, .slice A0_1 l0_1.length c0_1, .slice A0_2 l0_2.length c0_2, .slice (some ad128) l0_3.length c0_3] 77 (0, 0)) (by (with_reducible repeat (first | refine blk_drewN ?_ _ | refine blk_drew ?_ | refine blk_alloc ?_ _)); exact BK101.out) hb); have n10_ := Aside0.mk (blk_below (g := gb120) (o := .cells #[.slice Ao48 t104.length co48, .slice Ao51 t107.length co51, .slice Ao52 t110.length co52, .slice Ao53 t113.length co53, .slice Ao54 t116.length co54] 60 (0, 0)) (by (with_reducible repeat (first | refine blk_drewN ?_ _ | refine blk_drew ?_ | refine blk_alloc ?_ _)); exact BK120.out) hb); have n11_ := Aside0.mk (below_step (by repeat (first | (with_reducible first | exact HB.out | apply below_alloc | apply pw_below_drewN | apply below_drew1 | refine below_set ?_ GE101.out | refine below_set ?_ GE120.out) | exact HB.out)) hb); clear HO106; clear HO109; clear HO112; clear HO115; clear HO118; clear HO123; clear HO127; clear HO131; clear BK101; clear BK120; clear HB; have HO106 := n0_; have HO109 := n1_; have HO112 := n2_; have HO115 := n3_; have HO118 := n4_; have HO123 := n5_; have HO127 := n6_; have HO131 := n7_; have HO135 := n8_; have BK101 := n9_; have BK120 := n10_; have HB := n11_; clear n0_ n1_ n2_ n3_ n4_ n5_ n6_ n7_ n8_ n9_ n10_ n11_; (try clear hb); (try clear hb2); (try clear hk); (try clear hi); (try clear ho0)))
                              have n0_ := Aside0.mk (Kd.R_drew HO106.out)
                              have n1_ := Aside0.mk (Kd.R_drew HO109.out)
                              have n2_ := Aside0.mk (Kd.R_drew HO112.out)
                              have n3_ := Aside0.mk (Kd.R_drew HO115.out)
                              have n4_ := Aside0.mk (Kd.R_drew HO118.out)
                              have n5_ := Aside0.mk (Kd.R_drew HO123.out)
                              have n6_ := Aside0.mk (Kd.R_drew HO127.out)
                              have n7_ := Aside0.mk (Kd.R_drew HO131.out)
                              have n8_ := Aside0.mk (Kd.R_drew HO135.out)
                              have n9_ := Aside0.mk (blk_drew BK101.out)
                              have n10_ := Aside0.mk (blk_drew BK120.out)
                              have n11_ := Aside0.mk (below_drew1 HB.out)
                              clear HO106
                              clear HO109
                              clear HO112
                              clear HO115
                              clear HO118
                              clear HO123
                              clear HO127
                              clear HO131
                              clear HO135
                              clear BK101
                              clear BK120
                              clear HB
                              have HO106 := n0_
                              have HO109 := n1_
                              have HO112 := n2_
                              have HO115 := n3_
                              have HO118 := n4_
                              have HO123 := n5_
                              have HO127 := n6_
                              have HO131 := n7_
                              have HO135 := n8_
                              have BK101 := n9_
                              have BK120 := n10_
                              have HB := n11_
                              clear n0_ n1_ n2_ n3_ n4_ n5_ n6_ n7_ n8_ n9_ n10_ n11_
                              refine start_ (n := 56) (S := fun w' => w'.cell? ⟨gb120, 0, none⟩ = some (.slice Ao48 t104.length co48) ∧ w'.cell? ⟨gb120, 1, none⟩ = some (.slice Ao51 t107.length co51) ∧ w'.cell? ⟨gb120, 2, none⟩ = some (.slice Ao52 t110.length co52) ∧ w'.cell? ⟨gb120, 3, none⟩ = some (.slice Ao53 t113.length co53) ∧ w'.cell? ⟨gb120, 4, none⟩ = some (.slice Ao54 t116.length co54)) (ds := []) #[false, false, false, false, false, false, false, false, false, false, false, false, false, false, false, false, false, false, false, false, false, false, false, false, false, false, false, false, false, false, false, false, false, false, false, false, false, false, false, false, false, false, false, false, false, false, false, false, false, false, false, false, false, false, false, false] (by kernel_rfl) rfl rfl ⟨(blk_cell BK120.out 0).trans rfl, (blk_cell BK120.out 1).trans rfl, (blk_cell BK120.out 2).trans rfl, (blk_cell BK120.out 3).trans rfl, (blk_cell BK120.out 4).trans rfl⟩ (fun hHeld => ?_); refine with_tabW pyxlaw12_SchedRight.tab12 pyxlaw12_SchedRight.bits12 (fun HT_ HW_ => ?_)
                              generalize w61.drew = w62 at HO106 HO109 HO112 HO115 HO118 HO123 HO127 HO131 HO135 BK101 BK120 HB hHeld ⊢
                              refine pure_ (i := 0) (N := some 82) (v := ?_) (a' := ?_) #[true, false, false, false, false, false, false, false, false, false, false, false, false, false, false, false, false, false, false, false, false, false, false, false, false, false, false, false, false, false, false, false, false, false, false, false, false, false, false, false, false, false, false, false, false, false, false, false, false, false, false, false, false, false, false, false] rfl rfl (any_of HT_.out (by kernel_rfl)) (fun _ _ _ h => h) (Or.inl ⟨by rfl, ?_⟩) ?_ ?_
                              rotate_left
                              · intro w'
                                go_simp
                                with_reducible rfl
                              rotate_left
                              · simp only [Act.put, List.setIfInBounds_toArray, List.set_cons_zero, List.set_cons_succ, i64_w, i32_w]
                                rfl
                              refine pure_ (i := 1) (N := some 83) (v := ?_) (a' := ?_) #[true, true, false, false, false, false, false, false, false, false, false, false, false, false, false, false, false, false, false, false, false, false, false, false, false, false, false, false, false, false, false, false, false, false, false, false, false, false, false, false, false, false, false, false, false, false, false, false, false, false, false, false, false, false, false, false] rfl rfl (any_of HT_.out (by kernel_rfl)) (fun _ _ _ h => h) (Or.inl ⟨by rfl, ?_⟩) ?_ ?_
                              rotate_left
                              · intro w'
                                go_simp
                                with_reducible rfl
                              rotate_left
                              · simp only [Act.put, List.setIfInBounds_toArray, List.set_cons_zero, List.set_cons_succ, i64_w, i32_w]
                                rfl
                              refine pure_ (i := 2) (N := some 84) (v := ?_) (a' := ?_) #[true, true, true, false, false, false, false, false, false, false, false, false, false, false, false, false, false, false, false, false, false, false, false, false, false, false, false, false, false, false, false, false, false, false, false, false, false, false, false, false, false, false, false, false, false, false, false, false, false, false, false, false, false, false, false, false] rfl rfl (any_of HT_.out (by kernel_rfl)) (fun _ _ _ h => h) (Or.inl ⟨by rfl, ?_⟩) ?_ ?_
                              rotate_left
                              · intro w'
                                go_simp
                                with_reducible rfl
                              rotate_left
                              · simp only [Act.put, List.setIfInBounds_toArray, List.set_cons_zero, List.set_cons_succ, i64_w, i32_w]
                                rfl
                              refine pure_ (i := 3) (N := some 85) (v := ?_) (a' := ?_) #[true, true, true, true, false, false, false, false, false, false, false, false, false, false, false, false, false, false, false, false, false, false, false, false, false, false, false, false, false, false, false, false, false, false, false, false, false, false, false, false, false, false, false, false, false, false, false, false, false, false, false, false, false, false, false, false] rfl rfl (any_of HT_.out (by kernel_rfl)) (fun _ _ _ h => h) (Or.inl ⟨by rfl, ?_⟩) ?_ ?_
                              rotate_left
                              · intro w'
                                go_simp
                                with_reducible rfl
                              rotate_left
                              · simp only [Act.put, List.setIfInBounds_toArray, List.set_cons_zero, List.set_cons_succ, i64_w, i32_w]
                                rfl
                              refine pure_ (i := 4) (N := some 86) (v := ?_) (a' := ?_) #[true, true, true, true, true, false, false, false, false, false, false, false, false, false, false, false, false, false, false, false, false, false, false, false, false, false, false, false, false, false, false, false, false, false, false, false, false, false, false, false, false, false, false, false, false, false, false, false, false, false, false, false, false, false, false, false] rfl rfl (any_of HT_.out (by kernel_rfl)) (fun _ _ _ h => h) (Or.inl ⟨by rfl, ?_⟩) ?_ ?_
                              rotate_left
                              · intro w'
                                go_simp
                                with_reducible rfl
                              rotate_left
                              · simp only [Act.put, List.setIfInBounds_toArray, List.set_cons_zero, List.set_cons_succ, i64_w, i32_w]
                                rfl
                              refine pure_ (i := 5) (N := some 87) (v := ?_) (a' := ?_) #[true, true, true, true, true, true, false, false, false, false, false, false, false, false, false, false, false, false, false, false, false, false, false, false, false, false, false, false, false, false, false, false, false, false, false, false, false, false, false, false, false, false, false, false, false, false, false, false, false, false, false, false, false, false, false, false] rfl rfl (any_of HT_.out (by kernel_rfl)) (fun _ _ _ h => h) (Or.inl ⟨by rfl, ?_⟩) ?_ ?_
                              rotate_left
                              · intro w'
                                go_simp
                                with_reducible rfl
                              rotate_left
                              · simp only [Act.put, List.setIfInBounds_toArray, List.set_cons_zero, List.set_cons_succ, i64_w, i32_w]
                                rfl
                              refine take_ (i := 6) (N := some 88) (v := ?_) (a' := ?_) #[true, true, true, true, true, true, true, false, false, false, false, false, false, false, false, false, false, false, false, false, false, false, false, false, false, false, false, false, false, false, false, false, false, false, false, false, false, false, false, false, false, false, false, false, false, false, false, false, false, false, false, false, false, false, false, false] rfl rfl (take_ofW HT_.out HW_.out (by kernel_rfl)) (fun _ _ _ h => h) (Or.inl ⟨by rfl, ?_⟩) hHeld ?_ ?_
                              rotate_left
                              · rintro w' ⟨s0, s1, s2, s3, s4⟩
                                go_simp
                                with_reducible rfl
                              rotate_left
                              · simp only [Act.put, List.setIfInBounds_toArray, List.set_cons_zero, List.set_cons_succ, i64_w, i32_w]
                                rfl
                              refine one_ (i := 7) (N := some 89) #[true, true, true, true, true, true, true, true, false, false, false, false, false, false, false, false, false, false, false, false, false, false, false, false, false, false, false, false, false, false, false, false, false, false, false, false, false, false, false, false, false, false, false, false, false, false, false, false, false, false, false, false, false, false, false, false] rfl rfl (one_of HT_.out (by kernel_rfl)) (by decide) (fun K hK => ?_)
                              refine goes_ Try.func48 (by kernel_rfl) rfl #[.agg #[.slice Ao48 t104.length co48, .slice Ao51 t107.length co51, .slice Ao52 t110.length co52, .slice Ao53 t113.length co53, .slice Ao54 t116.length co54]] (by rfl) rfl rfl (by (try simp only [List.map_toArray, List.map_cons, List.map_nil]); first | done | rfl | (simp only [List.length_drop, List.length_take]; rfl)) ?_
                              with_reducible refine (pyxref12_Right.calls _ _ t104 _ _ t107 _ _ t110 _ _ t113 _ _ t116 true _ ?side1 ?side2 ?side3 ?side4 ?side5 ?side6 ?side7 ?side8 ?side9 ?side10 A23.out).mono ?_
                              (case side1 => repeat (first | exact (Kd.R_reads' HO106.out).2.2 | (with_reducible refine Kd.C_alloc ?_ _) | (with_reducible refine Kd.C_drewN ?_ _) | (with_reducible refine Kd.C_drew ?_)))
                              (case side2 => exact (Kd.R_reads' HO106.out).2.1)
                              (case side3 => repeat (first | exact (Kd.R_reads' HO109.out).2.2 | (with_reducible refine Kd.C_alloc ?_ _) | (with_reducible refine Kd.C_drewN ?_ _) | (with_reducible refine Kd.C_drew ?_)))
                              (case side4 => exact (Kd.R_reads' HO109.out).2.1)
                              (case side5 => repeat (first | exact (Kd.R_reads' HO112.out).2.2 | (with_reducible refine Kd.C_alloc ?_ _) | (with_reducible refine Kd.C_drewN ?_ _) | (with_reducible refine Kd.C_drew ?_)))
                              (case side6 => exact (Kd.R_reads' HO112.out).2.1)
                              (case side7 => repeat (first | exact (Kd.R_reads' HO115.out).2.2 | (with_reducible refine Kd.C_alloc ?_ _) | (with_reducible refine Kd.C_drewN ?_ _) | (with_reducible refine Kd.C_drew ?_)))
                              (case side8 => exact (Kd.R_reads' HO115.out).2.1)
                              (case side9 => repeat (first | exact (Kd.R_reads' HO118.out).2.2 | (with_reducible refine Kd.C_alloc ?_ _) | (with_reducible refine Kd.C_drewN ?_ _) | (with_reducible refine Kd.C_drew ?_)))
                              (case side10 => exact (Kd.R_reads' HO118.out).2.1)
                              rintro e w63 ⟨rfl, hb⟩
                              refine ⟨_, rfl, ?_⟩
                              have n0_ := Aside0.mk (Kd.R_below (by (with_reducible repeat (first | apply Kd.R_alloc | apply Kd.R_drewN | apply Kd.R_drew)); exact HO106.out) hb)
                              have n1_ := Aside0.mk (Kd.R_below (by (with_reducible repeat (first | apply Kd.R_alloc | apply Kd.R_drewN | apply Kd.R_drew)); exact HO109.out) hb)
                              have n2_ := Aside0.mk (Kd.R_below (by (with_reducible repeat (first | apply Kd.R_alloc | apply Kd.R_drewN | apply Kd.R_drew)); exact HO112.out) hb)
                              have n3_ := Aside0.mk (Kd.R_below (by (with_reducible repeat (first | apply Kd.R_alloc | apply Kd.R_drewN | apply Kd.R_drew)); exact HO115.out) hb)
                              have n4_ := Aside0.mk (Kd.R_below (by (with_reducible repeat (first | apply Kd.R_alloc | apply Kd.R_drewN | apply Kd.R_drew)); exact HO118.out) hb)
                              have n5_ := Aside0.mk (Kd.R_below (by (with_reducible repeat (first | apply Kd.R_alloc | apply Kd.R_drewN | apply Kd.R_drew)); exact HO123.out) hb)
                              have n6_ := Aside0.mk (Kd.R_below (by (with_reducible repeat (first | apply Kd.R_alloc | apply Kd.R_drewN | apply Kd.R_drew)); exact HO127.out) hb)
                              have n7_ := Aside0.mk (Kd.R_below (by (with_reducible repeat (first | apply Kd.R_alloc | apply Kd.R_drewN | apply Kd.R_drew)); exact HO131.out) hb)
                              have n8_ := Aside0.mk (Kd.R_below (by (with_reducible repeat (first | apply Kd.R_alloc | apply Kd.R_drewN | apply Kd.R_drew)); exact HO135.out) hb)
                              have n9_ := Aside0.mk (blk_below (g := gb101) (o := .cells #[.slice A0_0 l0_0.length c0_0, .slice A0_1 l0_1.length c0_1, .slice A0_2 l0_2.length c0_2, .slice (some ad128) l0_3.length c0_3] 77 (0, 0)) (by (with_reducible repeat (first | refine blk_drewN ?_ _ | refine blk_drew ?_ | refine blk_alloc ?_ _)); exact BK101.out) hb)
                              have n10_ := Aside0.mk (blk_below (g := gb120) (o := .cells #[.slice Ao48 t104.length co48, .slice Ao51 t107.length co51, .slice Ao52 t110.length co52, .slice Ao53 t113.length co53, .slice Ao54 t116.length co54] 60 (0, 0)) (by (with_reducible repeat (first | refine blk_drewN ?_ _ | refine blk_drew ?_ | refine blk_alloc ?_ _)); exact BK120.out) hb)
                              have n11_ := Aside0.mk (below_step (by repeat (first | (with_reducible first | exact HB.out | apply below_alloc | apply pw_below_drewN | apply below_drew1 | refine below_set ?_ GE101.out | refine below_set ?_ GE120.out) | exact HB.out)) hb)
                              clear HO106
                              clear HO109
                              clear HO112
                              clear HO115
                              clear HO118
                              clear HO123
                              clear HO127
                              clear HO131
                              clear HO135
                              clear BK101
                              clear BK120
                              clear HB
                              have HO106 := n0_
                              have HO109 := n1_
                              have HO112 := n2_
                              have HO115 := n3_
                              have HO118 := n4_
                              have HO123 := n5_
                              have HO127 := n6_
                              have HO131 := n7_
                              have HO135 := n8_
                              have BK101 := n9_
                              have BK120 := n10_
                              have HB := n11_
                              clear n0_ n1_ n2_ n3_ n4_ n5_ n6_ n7_ n8_ n9_ n10_ n11_
                              (try clear hb)
                              (try clear hb2)
                              (try clear hk)
                              (try clear hi)
                              obtain ⟨Ao64, co64, eo64⟩ := Kd.R_slice HO127.out
                              (first | subst eo64 | (injection eo64 with f1_ f2_ f3_; have f4_ := f1_.symm; have f5_ := f3_.symm; clear f1_ f2_ f3_; subst f4_; subst f5_))
                              refine hK.out _ _ ⟨(blk_cell BK120.out 0).trans rfl, (blk_cell BK120.out 1).trans rfl, (blk_cell BK120.out 2).trans rfl, (blk_cell BK120.out 3).trans rfl, (blk_cell BK120.out 4).trans rfl⟩ (fun hHeld => ?_)
                              clear hK K
                              refine norm_ (a' := ?_) ?_ ?_
                              rotate_left
                              · show Act.put _ (some 89) _ = _
                                simp only [Act.put, List.setIfInBounds_toArray, List.set_cons_zero, List.set_cons_succ, i64_w, i32_w]
                                rfl
                              refine pure_ (i := 8) (N := some 90) (v := ?_) (a' := ?_) #[true, true, true, true, true, true, true, true, true, false, false, false, false, false, false, false, false, false, false, false, false, false, false, false, false, false, false, false, false, false, false, false, false, false, false, false, false, false, false, false, false, false, false, false, false, false, false, false, false, false, false, false, false, false, false, false] rfl rfl (any_of HT_.out (by kernel_rfl)) (fun _ _ _ h => h) (Or.inl ⟨by rfl, ?_⟩) ?_ ?_
                              rotate_left
                              · intro w'
                                go_simp
                                with_reducible rfl
                              rotate_left
                              · simp only [Act.put, List.setIfInBounds_toArray, List.set_cons_zero, List.set_cons_succ, i64_w, i32_w]
                                rfl
                              refine pure_ (i := 9) (N := some 91) (v := ?_) (a' := ?_) #[true, true, true, true, true, true, true, true, true, true, false, false, false, false, false, false, false, false, false, false, false, false, false, false, false, false, false, false, false, false, false, false, false, false, false, false, false, false, false, false, false, false, false, false, false, false, false, false, false, false, false, false, false, false, false, false] rfl rfl (any_of HT_.out (by kernel_rfl)) (fun _ _ _ h => h) (Or.inl ⟨by rfl, ?_⟩) ?_ ?_
                              rotate_left
                              · intro w'
                                go_simp
                                with_reducible rfl
                              rotate_left
                              · simp only [Act.put, List.setIfInBounds_toArray, List.set_cons_zero, List.set_cons_succ, i64_w, i32_w]
                                rfl
                              refine pure_ (i := 10) (N := some 92) (v := ?_) (a' := ?_) #[true, true, true, true, true, true, true, true, true, true, true, false, false, false, false, false, false, false, false, false, false, false, false, false, false, false, false, false, false, false, false, false, false, false, false, false, false, false, false, false, false, false, false, false, false, false, false, false, false, false, false, false, false, false, false, false] rfl rfl (any_of HT_.out (by kernel_rfl)) (fun _ _ _ h => h) (Or.inl ⟨by rfl, ?_⟩) ?_ ?_
                              rotate_left
                              · intro w'
                                go_simp
                                with_reducible rfl
                              rotate_left
                              · simp only [Act.put, List.setIfInBounds_toArray, List.set_cons_zero, List.set_cons_succ, i64_w, i32_w]
                                rfl
                              refine pure_ (i := 12) (N := some 94) (v := ?_) (a' := ?_) #[true, true, true, true, true, true, true, true, true, true, true, false, true, false, false, false, false, false, false, false, false, false, false, false, false, false, false, false, false, false, false, false, false, false, false, false, false, false, false, false, false, false, false, false, false, false, false, false, false, false, false, false, false, false, false, false] rfl rfl (any_of HT_.out (by kernel_rfl)) (fun _ _ _ h => h) (Or.inl ⟨by rfl, ?_⟩) ?_ ?_
                              rotate_left
                              · intro w'
                                go_simp
                                with_reducible rfl
                              rotate_left
                              · simp only [Act.put, List.setIfInBounds_toArray, List.set_cons_zero, List.set_cons_succ, i64_w, i32_w]
                                rfl
                              refine take_ (i := 11) (N := some 93) (v := ?_) (a' := ?_) #[true, true, true, true, true, true, true, true, true, true, true, true, true, false, false, false, false, false, false, false, false, false, false, false, false, false, false, false, false, false, false, false, false, false, false, false, false, false, false, false, false, false, false, false, false, false, false, false, false, false, false, false, false, false, false, false] rfl rfl (take_ofW HT_.out HW_.out (by kernel_rfl)) (fun _ _ _ h => h) (Or.inl ⟨by rfl, ?_⟩) hHeld ?_ ?_
                              rotate_left
                              · rintro w' ⟨s0, s1, s2, s3, s4⟩
                                go_simp
                                with_reducible rfl
                              rotate_left
                              · simp only [Act.put, List.setIfInBounds_toArray, List.set_cons_zero, List.set_cons_succ, i64_w, i32_w]
                                rfl
                              refine one_ (i := 13) (N := some 95) #[true, true, true, true, true, true, true, true, true, true, true, true, true, true, false, false, false, false, false, false, false, false, false, false, false, false, false, false, false, false, false, false, false, false, false, false, false, false, false, false, false, false, false, false, false, false, false, false, false, false, false, false, false, false, false, false] rfl rfl (one_of HT_.out (by kernel_rfl)) (by decide) (fun K hK => ?_)
                              refine goes_ Try.func49 (by kernel_rfl) rfl #[.slice Ao64 t124.length co64, .string (⟨#[114, 101, 115, 117, 109, 101]⟩ : ByteArray)] (by rfl) rfl rfl (by (try simp only [List.map_toArray, List.map_cons, List.map_nil]); first | done | rfl | (simp only [List.length_drop, List.length_take]; rfl)) ?_
                              with_reducible refine (pyxref04_Out.calls _ _ t124 (⟨#[114, 101, 115, 117, 109, 101]⟩ : ByteArray) t137 _ ?side1 ?side2 A25.out).mono ?_
                              (case side1 => repeat (first | exact (Kd.R_reads' HO127.out).2.2 | (with_reducible refine Kd.C_alloc ?_ _) | (with_reducible refine Kd.C_drewN ?_ _) | (with_reducible refine Kd.C_drew ?_)))
                              (case side2 => exact (Kd.R_reads' HO127.out).2.1)
                              rintro e w65 ⟨v138, rfl, ho0, hb⟩
                              refine ⟨_, rfl, ?_⟩
                              have n0_ := Aside0.mk (Kd.R_elder' (by (with_reducible repeat (first | apply Kd.R_alloc | apply Kd.R_drewN | apply Kd.R_drew)); exact HO106.out) (Kd.R_base ho0) hb)
                              have n1_ := Aside0.mk (Kd.R_elder' (by (with_reducible repeat (first | apply Kd.R_alloc | apply Kd.R_drewN | apply Kd.R_drew)); exact HO109.out) (Kd.R_base ho0) hb)
                              have n2_ := Aside0.mk (Kd.R_elder' (by (with_reducible repeat (first | apply Kd.R_alloc | apply Kd.R_drewN | apply Kd.R_drew)); exact HO112.out) (Kd.R_base ho0) hb)
                              have n3_ := Aside0.mk (Kd.R_elder' (by (with_reducible repeat (first | apply Kd.R_alloc | apply Kd.R_drewN | apply Kd.R_drew)); exact HO115.out) (Kd.R_base ho0) hb)
                              have n4_ := Aside0.mk (Kd.R_elder' (by (with_reducible repeat (first | apply Kd.R_alloc | apply Kd.R_drewN | apply Kd.R_drew)); exact HO118.out) (Kd.R_base ho0) hb)
                              have n5_ := Aside0.mk (Kd.R_elder' (by (with_reducible repeat (first | apply Kd.R_alloc | apply Kd.R_drewN | apply Kd.R_drew)); exact HO123.out) (Kd.R_base ho0) hb)
                              have n6_ := Aside0.mk (Kd.R_elder' (by (with_reducible repeat (first | apply Kd.R_alloc | apply Kd.R_drewN | apply Kd.R_drew)); exact HO127.out) (Kd.R_base ho0) hb)
                              have n7_ := Aside0.mk (Kd.R_elder' (by (with_reducible repeat (first | apply Kd.R_alloc | apply Kd.R_drewN | apply Kd.R_drew)); exact HO131.out) (Kd.R_base ho0) hb)
                              have n8_ := Aside0.mk (Kd.R_elder' (by (with_reducible repeat (first | apply Kd.R_alloc | apply Kd.R_drewN | apply Kd.R_drew)); exact HO135.out) (Kd.R_base ho0) hb)
                              have n9_ := Aside0.mk (Kd.R_lower (Kd.R_new' (Kd.R_new' (Kd.R_new' (Kd.R_new' (Kd.R_new' (Kd.R_new' (Kd.R_new' (Kd.R_new' (Kd.R_new' ho0 (Kd.R_lt (by (with_reducible repeat (first | apply Kd.R_alloc | apply Kd.R_drewN | apply Kd.R_drew)); exact HO106.out))) (Kd.R_lt (by (with_reducible repeat (first | apply Kd.R_alloc | apply Kd.R_drewN | apply Kd.R_drew)); exact HO109.out))) (Kd.R_lt (by (with_reducible repeat (first | apply Kd.R_alloc | apply Kd.R_drewN | apply Kd.R_drew)); exact HO112.out))) (Kd.R_lt (by (with_reducible repeat (first | apply Kd.R_alloc | apply Kd.R_drewN | apply Kd.R_drew)); exact HO115.out))) (Kd.R_lt (by (with_reducible repeat (first | apply Kd.R_alloc | apply Kd.R_drewN | apply Kd.R_drew)); exact HO118.out))) (Kd.R_lt (by (with_reducible repeat (first | apply Kd.R_alloc | apply Kd.R_drewN | apply Kd.R_drew)); exact HO123.out))) (Kd.R_lt (by (with_reducible repeat (first | apply Kd.R_alloc | apply Kd.R_drewN | apply Kd.R_drew)); exact HO127.out))) (Kd.R_lt (by (with_reducible repeat (first | apply Kd.R_alloc | apply Kd.R_drewN | apply Kd.R_drew)); exact HO131.out))) (Kd.R_lt (by (with_reducible repeat (first | apply Kd.R_alloc | apply Kd.R_drewN | apply Kd.R_drew)); exact HO135.out))) (below_size (by repeat (first | (with_reducible first | exact HB.out | apply below_alloc | apply pw_below_drewN | apply below_drew1 | refine below_set ?_ GE101.out | refine below_set ?_ GE120.out) | exact HB.out))))
                              have n10_ := Aside0.mk (blk_below (g := gb101) (o := .cells #[.slice A0_0 l0_0.length c0_0, .slice A0_1 l0_1.length c0_1, .slice A0_2 l0_2.length c0_2, .slice (some ad128) l0_3.length c0_3] 77 (0, 0)) (by (with_reducible repeat (first | refine blk_drewN ?_ _ | refine blk_drew ?_ | refine blk_alloc ?_ _)); exact BK101.out) hb)
                              have n11_ := Aside0.mk (blk_below (g := gb120) (o := .cells #[.slice Ao48 t104.length co48, .slice Ao51 t107.length co51, .slice Ao52 t110.length co52, .slice Ao53 t113.length co53, .slice Ao54 t116.length co54] 60 (0, 0)) (by (with_reducible repeat (first | refine blk_drewN ?_ _ | refine blk_drew ?_ | refine blk_alloc ?_ _)); exact BK120.out) hb)
                              have n12_ := Aside0.mk (below_step (by repeat (first | (with_reducible first | exact HB.out | apply below_alloc | apply pw_below_drewN | apply below_drew1 | refine below_set ?_ GE101.out | refine below_set ?_ GE120.out) | exact HB.out)) hb)
                              clear HO106
                              clear HO109
                              clear HO112
                              clear HO115
                              clear HO118
                              clear HO123
                              clear HO127
                              clear HO131
                              clear HO135
                              clear BK101
                              clear BK120
                              clear HB
                              have HO106 := n0_
                              have HO109 := n1_
                              have HO112 := n2_
                              have HO115 := n3_
                              have HO118 := n4_
                              have HO123 := n5_
                              have HO127 := n6_
                              have HO131 := n7_
                              have HO135 := n8_
                              have HO139 := n9_
                              have BK101 := n10_
                              have BK120 := n11_
                              have HB := n12_
                              clear n0_ n1_ n2_ n3_ n4_ n5_ n6_ n7_ n8_ n9_ n10_ n11_ n12_
                              (try clear hb)
                              (try clear hb2)
                              (try clear hk)
                              (try clear hi)
                              (try clear ho0)
                              obtain ⟨Ao66, co66, eo66⟩ := Kd.R_slice HO139.out
                              (first | subst eo66 | (injection eo66 with f1_ f2_ f3_; have f4_ := f1_.symm; have f5_ := f3_.symm; clear f1_ f2_ f3_; subst f4_; subst f5_))
                              refine hK.out _ _ ⟨(blk_cell BK120.out 0).trans rfl, (blk_cell BK120.out 1).trans rfl, (blk_cell BK120.out 2).trans rfl, (blk_cell BK120.out 3).trans rfl, (blk_cell BK120.out 4).trans rfl⟩ (fun hHeld => ?_)
                              clear hK K
                              refine norm_ (a' := ?_) ?_ ?_
                              rotate_left
                              · show Act.put _ (some 95) _ = _
                                simp only [Act.put, List.setIfInBounds_toArray, List.set_cons_zero, List.set_cons_succ, i64_w, i32_w]
                                rfl
                              refine one_ (i := 14) (N := some 96) #[true, true, true, true, true, true, true, true, true, true, true, true, true, true, true, false, false, false, false, false, false, false, false, false, false, false, false, false, false, false, false, false, false, false, false, false, false, false, false, false, false, false, false, false, false, false, false, false, false, false, false, false, false, false, false, false] rfl rfl (one_of HT_.out (by kernel_rfl)) (by decide) (fun K hK => ?_)
                              refine goes_ Try.func22 (by kernel_rfl) rfl #[.slice Ao54 t116.length co54, .slice Ao66 t137.length co66] (by rfl) rfl rfl (by (try simp only [List.map_toArray, List.map_cons, List.map_nil]); first | done | rfl | (simp only [List.length_drop, List.length_take]; rfl)) ?_
                              with_reducible refine (pyxref01_Same.calls _ _ t116 _ _ t137 true _ ?side1 ?side2 ?side3 ?side4 A26.out).mono ?_
                              (case side1 => repeat (first | exact (Kd.R_reads' HO118.out).2.2 | (with_reducible refine Kd.C_alloc ?_ _) | (with_reducible refine Kd.C_drewN ?_ _) | (with_reducible refine Kd.C_drew ?_)))
                              (case side2 => exact (Kd.R_reads' HO118.out).2.1)
                              (case side3 => repeat (first | exact (Kd.R_reads' HO139.out).2.2 | (with_reducible refine Kd.C_alloc ?_ _) | (with_reducible refine Kd.C_drewN ?_ _) | (with_reducible refine Kd.C_drew ?_)))
                              (case side4 => exact (Kd.R_reads' HO139.out).2.1)
                              rintro e w' ⟨rfl, ⟨nd, rfl⟩⟩
                              refine ⟨_, rfl, ?_⟩
                              refine hK.out _ _ ⟨(blk_cell BK120.out 0).trans rfl, (blk_cell BK120.out 1).trans rfl, (blk_cell BK120.out 2).trans rfl, (blk_cell BK120.out 3).trans rfl, (blk_cell BK120.out 4).trans rfl⟩ (fun hHeld => ?_)
                              clear hK K
                              refine norm_ (a' := ?_) ?_ ?_
                              rotate_left
                              · show Act.put _ (some 96) _ = _
                                simp only [Act.put, List.setIfInBounds_toArray, List.set_cons_zero, List.set_cons_succ, i64_w, i32_w]
                                rfl
                              refine pure_ (i := 15) (N := some 97) (v := ?_) (a' := ?_) #[true, true, true, true, true, true, true, true, true, true, true, true, true, true, true, true, false, false, false, false, false, false, false, false, false, false, false, false, false, false, false, false, false, false, false, false, false, false, false, false, false, false, false, false, false, false, false, false, false, false, false, false, false, false, false, false] rfl rfl (any_of HT_.out (by kernel_rfl)) (fun _ _ _ h => h) (Or.inl ⟨by rfl, ?_⟩) ?_ ?_
                              rotate_left
                              · intro w'
                                go_simp
                                with_reducible rfl
                              rotate_left
                              · simp only [Act.put, List.setIfInBounds_toArray, List.set_cons_zero, List.set_cons_succ, i64_w, i32_w]
                                rfl
                              refine pure_ (i := 16) (N := some 98) (v := ?_) (a' := ?_) #[true, true, true, true, true, true, true, true, true, true, true, true, true, true, true, true, true, false, false, false, false, false, false, false, false, false, false, false, false, false, false, false, false, false, false, false, false, false, false, false, false, false, false, false, false, false, false, false, false, false, false, false, false, false, false, false] rfl rfl (any_of HT_.out (by kernel_rfl)) (fun _ _ _ h => h) (Or.inl ⟨by rfl, ?_⟩) ?_ ?_
                              rotate_left
                              · intro w'
                                go_simp
                                with_reducible rfl
                              rotate_left
                              · simp only [Act.put, List.setIfInBounds_toArray, List.set_cons_zero, List.set_cons_succ, i64_w, i32_w]
                                rfl
                              refine pure_ (i := 17) (N := some 99) (v := ?_) (a' := ?_) #[true, true, true, true, true, true, true, true, true, true, true, true, true, true, true, true, true, true, false, false, false, false, false, false, false, false, false, false, false, false, false, false, false, false, false, false, false, false, false, false, false, false, false, false, false, false, false, false, false, false, false, false, false, false, false, false] rfl rfl (any_of HT_.out (by kernel_rfl)) (fun _ _ _ h => h) (Or.inl ⟨by rfl, ?_⟩) ?_ ?_
                              rotate_left
                              · intro w'
                                go_simp
                                with_reducible rfl
                              rotate_left
                              · simp only [Act.put, List.setIfInBounds_toArray, List.set_cons_zero, List.set_cons_succ, i64_w, i32_w]
                                rfl
                              refine pure_ (i := 19) (N := some 101) (v := ?_) (a' := ?_) #[true, true, true, true, true, true, true, true, true, true, true, true, true, true, true, true, true, true, false, true, false, false, false, false, false, false, false, false, false, false, false, false, false, false, false, false, false, false, false, false, false, false, false, false, false, false, false, false, false, false, false, false, false, false, false, false] rfl rfl (any_of HT_.out (by kernel_rfl)) (fun _ _ _ h => h) (Or.inl ⟨by rfl, ?_⟩) ?_ ?_
                              rotate_left
                              · intro w'
                                go_simp
                                with_reducible rfl
                              rotate_left
                              · simp only [Act.put, List.setIfInBounds_toArray, List.set_cons_zero, List.set_cons_succ, i64_w, i32_w]
                                rfl
                              refine take_ (i := 18) (N := some 100) (v := ?_) (a' := ?_) #[true, true, true, true, true, true, true, true, true, true, true, true, true, true, true, true, true, true, true, true, false, false, false, false, false, false, false, false, false, false, false, false, false, false, false, false, false, false, false, false, false, false, false, false, false, false, false, false, false, false, false, false, false, false, false, false] rfl rfl (take_ofW HT_.out HW_.out (by kernel_rfl)) (fun _ _ _ h => h) (Or.inl ⟨by rfl, ?_⟩) hHeld ?_ ?_
                              rotate_left
                              · rintro w' ⟨s0, s1, s2, s3, s4⟩
                                go_simp
                                with_reducible rfl
                              rotate_left
                              · simp only [Act.put, List.setIfInBounds_toArray, List.set_cons_zero, List.set_cons_succ, i64_w, i32_w]
                                rfl
                              refine one_ (i := 20) (N := some 102) #[true, true, true, true, true, true, true, true, true, true, true, true, true, true, true, true, true, true, true, true, true, false, false, false, false, false, false, false, false, false, false, false, false, false, false, false, false, false, false, false, false, false, false, false, false, false, false, false, false, false, false, false, false, false, false, false] rfl rfl (one_of HT_.out (by kernel_rfl)) (by decide) (fun K hK => ?_)
                              refine goes_ Try.func49 (by kernel_rfl) rfl #[.slice Ao64 t124.length co64, .string (⟨#[99, 111, 110, 102, 105, 114, 109]⟩ : ByteArray)] (by rfl) rfl rfl (by (try simp only [List.map_toArray, List.map_cons, List.map_nil]); first | done | rfl | (simp only [List.length_drop, List.length_take]; rfl)) ?_
                              with_reducible refine (pyxref04_Out.calls _ _ t124 (⟨#[99, 111, 110, 102, 105, 114, 109]⟩ : ByteArray) t141 _ ?side1 ?side2 A28.out).mono ?_
                              (case side1 => repeat (first | exact (Kd.R_reads' HO127.out).2.2 | (with_reducible refine Kd.C_alloc ?_ _) | (with_reducible refine Kd.C_drewN ?_ _) | (with_reducible refine Kd.C_drew ?_)))
                              (case side2 => exact (Kd.R_reads' HO127.out).2.1)
                              rintro e w67 ⟨v142, rfl, ho0, hb⟩
                              refine ⟨_, rfl, ?_⟩
                              have n0_ := Aside0.mk (Kd.R_elder' (by (with_reducible repeat (first | apply Kd.R_alloc | apply Kd.R_drewN | apply Kd.R_drew)); exact HO106.out) (Kd.R_base ho0) hb)
                              have n1_ := Aside0.mk (Kd.R_elder' (by (with_reducible repeat (first | apply Kd.R_alloc | apply Kd.R_drewN | apply Kd.R_drew)); exact HO109.out) (Kd.R_base ho0) hb)
                              have n2_ := Aside0.mk (Kd.R_elder' (by (with_reducible repeat (first | apply Kd.R_alloc | apply Kd.R_drewN | apply Kd.R_drew)); exact HO112.out) (Kd.R_base ho0) hb)
                              have n3_ := Aside0.mk (Kd.R_elder' (by (with_reducible repeat (first | apply Kd.R_alloc | apply Kd.R_drewN | apply Kd.R_drew)); exact HO115.out) (Kd.R_base ho0) hb)
                              have n4_ := Aside0.mk (Kd.R_elder' (by (with_reducible repeat (first | apply Kd.R_alloc | apply Kd.R_drewN | apply Kd.R_drew)); exact HO118.out) (Kd.R_base ho0) hb)
                              have n5_ := Aside0.mk (Kd.R_elder' (by (with_reducible repeat (first | apply Kd.R_alloc | apply Kd.R_drewN | apply Kd.R_drew)); exact HO123.out) (Kd.R_base ho0) hb)
                              have n6_ := Aside0.mk (Kd.R_elder' (by (with_reducible repeat (first | apply Kd.R_alloc | apply Kd.R_drewN | apply Kd.R_drew)); exact HO127.out) (Kd.R_base ho0) hb)
                              have n7_ := Aside0.mk (Kd.R_elder' (by (with_reducible repeat (first | apply Kd.R_alloc | apply Kd.R_drewN | apply Kd.R_drew)); exact HO131.out) (Kd.R_base ho0) hb)
                              have n8_ := Aside0.mk (Kd.R_elder' (by (with_reducible repeat (first | apply Kd.R_alloc | apply Kd.R_drewN | apply Kd.R_drew)); exact HO135.out) (Kd.R_base ho0) hb)
                              have n9_ := Aside0.mk (Kd.R_elder' (by (with_reducible repeat (first | apply Kd.R_alloc | apply Kd.R_drewN | apply Kd.R_drew)); exact HO139.out) (Kd.R_base ho0) hb)
                              have n10_ := Aside0.mk (Kd.R_lower (Kd.R_new' (Kd.R_new' (Kd.R_new' (Kd.R_new' (Kd.R_new' (Kd.R_new' (Kd.R_new' (Kd.R_new' (Kd.R_new' (Kd.R_new' ho0 (Kd.R_lt (by (with_reducible repeat (first | apply Kd.R_alloc | apply Kd.R_drewN | apply Kd.R_drew)); exact HO106.out))) (Kd.R_lt (by (with_reducible repeat (first | apply Kd.R_alloc | apply Kd.R_drewN | apply Kd.R_drew)); exact HO109.out))) (Kd.R_lt (by (with_reducible repeat (first | apply Kd.R_alloc | apply Kd.R_drewN | apply Kd.R_drew)); exact HO112.out))) (Kd.R_lt (by (with_reducible repeat (first | apply Kd.R_alloc | apply Kd.R_drewN | apply Kd.R_drew)); exact HO115.out))) (Kd.R_lt (by (with_reducible repeat (first | apply Kd.R_alloc | apply Kd.R_drewN | apply Kd.R_drew)); exact HO118.out))) (Kd.R_lt (by (with_reducible repeat (first | apply Kd.R_alloc | apply Kd.R_drewN | apply Kd.R_drew)); exact HO123.out))) (Kd.R_lt (by (with_reducible repeat (first | apply Kd.R_alloc | apply Kd.R_drewN | apply Kd.R_drew)); exact HO127.out))) (Kd.R_lt (by (with_reducible repeat (first | apply Kd.R_alloc | apply Kd.R_drewN | apply Kd.R_drew)); exact HO131.out))) (Kd.R_lt (by (with_reducible repeat (first | apply Kd.R_alloc | apply Kd.R_drewN | apply Kd.R_drew)); exact HO135.out))) (Kd.R_lt (by (with_reducible repeat (first | apply Kd.R_alloc | apply Kd.R_drewN | apply Kd.R_drew)); exact HO139.out))) (below_size (by repeat (first | (with_reducible first | exact HB.out | apply below_alloc | apply pw_below_drewN | apply below_drew1 | refine below_set ?_ GE101.out | refine below_set ?_ GE120.out) | exact HB.out))))
                              have n11_ := Aside0.mk (blk_below (g := gb101) (o := .cells #[.slice A0_0 l0_0.length c0_0, .slice A0_1 l0_1.length c0_1, .slice A0_2 l0_2.length c0_2, .slice (some ad128) l0_3.length c0_3] 77 (0, 0)) (by (with_reducible repeat (first | refine blk_drewN ?_ _ | refine blk_drew ?_ | refine blk_alloc ?_ _)); exact BK101.out) hb)
                              have n12_ := Aside0.mk (blk_below (g := gb120) (o := .cells #[.slice Ao48 t104.length co48, .slice Ao51 t107.length co51, .slice Ao52 t110.length co52, .slice Ao53 t113.length co53, .slice Ao54 t116.length co54] 60 (0, 0)) (by (with_reducible repeat (first | refine blk_drewN ?_ _ | refine blk_drew ?_ | refine blk_alloc ?_ _)); exact BK120.out) hb)
                              have n13_ := Aside0.mk (below_step (by repeat (first | (with_reducible first | exact HB.out | apply below_alloc | apply pw_below_drewN | apply below_drew1 | refine below_set ?_ GE101.out | refine below_set ?_ GE120.out) | exact HB.out)) hb)
                              clear HO106
                              clear HO109
                              clear HO112
                              clear HO115
                              clear HO118
                              clear HO123
                              clear HO127
                              clear HO131
                              clear HO135
                              clear HO139
                              clear BK101
                              clear BK120
                              clear HB
                              have HO106 := n0_
                              have HO109 := n1_
                              have HO112 := n2_
                              have HO115 := n3_
                              have HO118 := n4_
                              have HO123 := n5_
                              have HO127 := n6_
                              have HO131 := n7_
                              have HO135 := n8_
                              have HO139 := n9_
                              have HO143 := n10_
                              have BK101 := n11_
                              have BK120 := n12_
                              have HB := n13_
                              clear n0_ n1_ n2_ n3_ n4_ n5_ n6_ n7_ n8_ n9_ n10_ n11_ n12_ n13_
                              (try clear hb)
                              (try clear hb2)
                              (try clear hk)
                              (try clear hi)
                              (try clear ho0)
                              obtain ⟨Ao68, co68, eo68⟩ := Kd.R_slice HO143.out
                              (first | subst eo68 | (injection eo68 with f1_ f2_ f3_; have f4_ := f1_.symm; have f5_ := f3_.symm; clear f1_ f2_ f3_; subst f4_; subst f5_))
                              refine hK.out _ _ ⟨(blk_cell BK120.out 0).trans rfl, (blk_cell BK120.out 1).trans rfl, (blk_cell BK120.out 2).trans rfl, (blk_cell BK120.out 3).trans rfl, (blk_cell BK120.out 4).trans rfl⟩ (fun hHeld => ?_)
                              clear hK K
                              refine norm_ (a' := ?_) ?_ ?_
                              rotate_left
                              · show Act.put _ (some 102) _ = _
                                simp only [Act.put, List.setIfInBounds_toArray, List.set_cons_zero, List.set_cons_succ, i64_w, i32_w]
                                rfl
                              refine one_ (i := 21) (N := some 103) #[true, true, true, true, true, true, true, true, true, true, true, true, true, true, true, true, true, true, true, true, true, true, false, false, false, false, false, false, false, false, false, false, false, false, false, false, false, false, false, false, false, false, false, false, false, false, false, false, false, false, false, false, false, false, false, false] rfl rfl (one_of HT_.out (by kernel_rfl)) (by decide) (fun K hK => ?_)
                              refine goes_ Try.func22 (by kernel_rfl) rfl #[.slice Ao53 t113.length co53, .slice Ao68 t141.length co68] (by rfl) rfl rfl (by (try simp only [List.map_toArray, List.map_cons, List.map_nil]); first | done | rfl | (simp only [List.length_drop, List.length_take]; rfl)) ?_
                              with_reducible refine (pyxref01_Same.calls _ _ t113 _ _ t141 true _ ?side1 ?side2 ?side3 ?side4 A29.out).mono ?_
                              (case side1 => repeat (first | exact (Kd.R_reads' HO115.out).2.2 | (with_reducible refine Kd.C_alloc ?_ _) | (with_reducible refine Kd.C_drewN ?_ _) | (with_reducible refine Kd.C_drew ?_)))
                              (case side2 => exact (Kd.R_reads' HO115.out).2.1)
                              (case side3 => repeat (first | exact (Kd.R_reads' HO143.out).2.2 | (with_reducible refine Kd.C_alloc ?_ _) | (with_reducible refine Kd.C_drewN ?_ _) | (with_reducible refine Kd.C_drew ?_)))
                              (case side4 => exact (Kd.R_reads' HO143.out).2.1)
                              rintro e w' ⟨rfl, ⟨nd, rfl⟩⟩
                              refine ⟨_, rfl, ?_⟩
                              refine hK.out _ _ ⟨(blk_cell BK120.out 0).trans rfl, (blk_cell BK120.out 1).trans rfl, (blk_cell BK120.out 2).trans rfl, (blk_cell BK120.out 3).trans rfl, (blk_cell BK120.out 4).trans rfl⟩ (fun hHeld => ?_)
                              clear hK K
                              refine norm_ (a' := ?_) ?_ ?_
                              rotate_left
                              · show Act.put _ (some 103) _ = _
                                simp only [Act.put, List.setIfInBounds_toArray, List.set_cons_zero, List.set_cons_succ, i64_w, i32_w]
                                rfl
                              refine pure_ (i := 22) (N := some 104) (v := ?_) (a' := ?_) #[true, true, true, true, true, true, true, true, true, true, true, true, true, true, true, true, true, true, true, true, true, true, true, false, false, false, false, false, false, false, false, false, false, false, false, false, false, false, false, false, false, false, false, false, false, false, false, false, false, false, false, false, false, false, false, false] rfl rfl (any_of HT_.out (by kernel_rfl)) (fun _ _ _ h => h) (Or.inl ⟨by rfl, ?_⟩) ?_ ?_
                              rotate_left
                              · intro w'
                                go_simp
                                with_reducible rfl
                              rotate_left
                              · simp only [Act.put, List.setIfInBounds_toArray, List.set_cons_zero, List.set_cons_succ, i64_w, i32_w]
                                rfl
                              refine pure_ (i := 23) (N := some 105) (v := ?_) (a' := ?_) #[true, true, true, true, true, true, true, true, true, true, true, true, true, true, true, true, true, true, true, true, true, true, true, true, false, false, false, false, false, false, false, false, false, false, false, false, false, false, false, false, false, false, false, false, false, false, false, false, false, false, false, false, false, false, false, false] rfl rfl (any_of HT_.out (by kernel_rfl)) (fun _ _ _ h => h) (Or.inl ⟨by rfl, ?_⟩) ?_ ?_
                              rotate_left
                              · intro w'
                                go_simp
                                with_reducible rfl
                              rotate_left
                              · simp only [Act.put, List.setIfInBounds_toArray, List.set_cons_zero, List.set_cons_succ, i64_w, i32_w]
                                rfl
                              refine pure_ (i := 24) (N := some 106) (v := ?_) (a' := ?_) #[true, true, true, true, true, true, true, true, true, true, true, true, true, true, true, true, true, true, true, true, true, true, true, true, true, false, false, false, false, false, false, false, false, false, false, false, false, false, false, false, false, false, false, false, false, false, false, false, false, false, false, false, false, false, false, false] rfl rfl (any_of HT_.out (by kernel_rfl)) (fun _ _ _ h => h) (Or.inl ⟨by rfl, ?_⟩) ?_ ?_
                              rotate_left
                              · intro w'
                                go_simp
                                with_reducible rfl
                              rotate_left
                              · simp only [Act.put, List.setIfInBounds_toArray, List.set_cons_zero, List.set_cons_succ, i64_w, i32_w]
                                rfl
                              refine pure_ (i := 26) (N := some 108) (v := ?_) (a' := ?_) #[true, true, true, true, true, true, true, true, true, true, true, true, true, true, true, true, true, true, true, true, true, true, true, true, true, false, true, false, false, false, false, false, false, false, false, false, false, false, false, false, false, false, false, false, false, false, false, false, false, false, false, false, false, false, false, false] rfl rfl (any_of HT_.out (by kernel_rfl)) (fun _ _ _ h => h) (Or.inl ⟨by rfl, ?_⟩) ?_ ?_
                              rotate_left
                              · intro w'
                                go_simp
                                with_reducible rfl
                              rotate_left
                              · simp only [Act.put, List.setIfInBounds_toArray, List.set_cons_zero, List.set_cons_succ, i64_w, i32_w]
                                rfl
                              refine take_ (i := 25) (N := some 107) (v := ?_) (a' := ?_) #[true, true, true, true, true, true, true, true, true, true, true, true, true, true, true, true, true, true, true, true, true, true, true, true, true, true, true, false, false, false, false, false, false, false, false, false, false, false, false, false, false, false, false, false, false, false, false, false, false, false, false, false, false, false, false, false] rfl rfl (take_ofW HT_.out HW_.out (by kernel_rfl)) (fun _ _ _ h => h) (Or.inl ⟨by rfl, ?_⟩) hHeld ?_ ?_
                              rotate_left
                              · rintro w' ⟨s0, s1, s2, s3, s4⟩
                                go_simp
                                with_reducible rfl
                              rotate_left
                              · simp only [Act.put, List.setIfInBounds_toArray, List.set_cons_zero, List.set_cons_succ, i64_w, i32_w]
                                rfl
                              refine one_ (i := 27) (N := some 109) #[true, true, true, true, true, true, true, true, true, true, true, true, true, true, true, true, true, true, true, true, true, true, true, true, true, true, true, true, false, false, false, false, false, false, false, false, false, false, false, false, false, false, false, false, false, false, false, false, false, false, false, false, false, false, false, false] rfl rfl (one_of HT_.out (by kernel_rfl)) (by decide) (fun K hK => ?_)
                              refine goes_ Try.func49 (by kernel_rfl) rfl #[.slice Ao64 t124.length co64, .string (⟨#[101, 120, 112, 111, 114, 116]⟩ : ByteArray)] (by rfl) rfl rfl (by (try simp only [List.map_toArray, List.map_cons, List.map_nil]); first | done | rfl | (simp only [List.length_drop, List.length_take]; rfl)) ?_
                              with_reducible refine (pyxref04_Out.calls _ _ t124 (⟨#[101, 120, 112, 111, 114, 116]⟩ : ByteArray) t145 _ ?side1 ?side2 A31.out).mono ?_
                              (case side1 => repeat (first | exact (Kd.R_reads' HO127.out).2.2 | (with_reducible refine Kd.C_alloc ?_ _) | (with_reducible refine Kd.C_drewN ?_ _) | (with_reducible refine Kd.C_drew ?_)))
                              (case side2 => exact (Kd.R_reads' HO127.out).2.1)
                              rintro e w69 ⟨v146, rfl, ho0, hb⟩
                              refine ⟨_, rfl, ?_⟩
                              have n0_ := Aside0.mk (Kd.R_elder' (by (with_reducible repeat (first | apply Kd.R_alloc | apply Kd.R_drewN | apply Kd.R_drew)); exact HO106.out) (Kd.R_base ho0) hb)
                              have n1_ := Aside0.mk (Kd.R_elder' (by (with_reducible repeat (first | apply Kd.R_alloc | apply Kd.R_drewN | apply Kd.R_drew)); exact HO109.out) (Kd.R_base ho0) hb)
                              have n2_ := Aside0.mk (Kd.R_elder' (by (with_reducible repeat (first | apply Kd.R_alloc | apply Kd.R_drewN | apply Kd.R_drew)); exact HO112.out) (Kd.R_base ho0) hb)
                              have n3_ := Aside0.mk (Kd.R_elder' (by (with_reducible repeat (first | apply Kd.R_alloc | apply Kd.R_drewN | apply Kd.R_drew)); exact HO115.out) (Kd.R_base ho0) hb)
                              have n4_ := Aside0.mk (Kd.R_elder' (by (with_reducible repeat (first | apply Kd.R_alloc | apply Kd.R_drewN | apply Kd.R_drew)); exact HO118.out) (Kd.R_base ho0) hb)
                              have n5_ := Aside0.mk (Kd.R_elder' (by (with_reducible repeat (first | apply Kd.R_alloc | apply Kd.R_drewN | apply Kd.R_drew)); exact HO123.out) (Kd.R_base ho0) hb)
                              have n6_ := Aside0.mk (Kd.R_elder' (by (with_reducible repeat (first | apply Kd.R_alloc | apply Kd.R_drewN | apply Kd.R_drew)); exact HO127.out) (Kd.R_base ho0) hb)
                              have n7_ := Aside0.mk (Kd.R_elder' (by (with_reducible repeat (first | apply Kd.R_alloc | apply Kd.R_drewN | apply Kd.R_drew)); exact HO131.out) (Kd.R_base ho0) hb)
                              have n8_ := Aside0.mk (Kd.R_elder' (by (with_reducible repeat (first | apply Kd.R_alloc | apply Kd.R_drewN | apply Kd.R_drew)); exact HO135.out) (Kd.R_base ho0) hb)
                              have n9_ := Aside0.mk (Kd.R_elder' (by (with_reducible repeat (first | apply Kd.R_alloc | apply Kd.R_drewN | apply Kd.R_drew)); exact HO139.out) (Kd.R_base ho0) hb)
                              have n10_ := Aside0.mk (Kd.R_elder' (by (with_reducible repeat (first | apply Kd.R_alloc | apply Kd.R_drewN | apply Kd.R_drew)); exact HO143.out) (Kd.R_base ho0) hb)
                              have n11_ := Aside0.mk (Kd.R_lower (Kd.R_new' (Kd.R_new' (Kd.R_new' (Kd.R_new' (Kd.R_new' (Kd.R_new' (Kd.R_new' (Kd.R_new' (Kd.R_new' (Kd.R_new' (Kd.R_new' ho0 (Kd.R_lt (by (with_reducible repeat (first | apply Kd.R_alloc | apply Kd.R_drewN | apply Kd.R_drew)); exact HO106.out))) (Kd.R_lt (by (with_reducible repeat (first | apply Kd.R_alloc | apply Kd.R_drewN | apply Kd.R_drew)); exact HO109.out))) (Kd.R_lt (by (with_reducible repeat (first | apply Kd.R_alloc | apply Kd.R_drewN | apply Kd.R_drew)); exact HO112.out))) (Kd.R_lt (by (with_reducible repeat (first | apply Kd.R_alloc | apply Kd.R_drewN | apply Kd.R_drew)); exact HO115.out))) (Kd.R_lt (by (with_reducible repeat (first | apply Kd.R_alloc | apply Kd.R_drewN | apply Kd.R_drew)); exact HO118.out))) (Kd.R_lt (by (with_reducible repeat (first | apply Kd.R_alloc | apply Kd.R_drewN | apply Kd.R_drew)); exact HO123.out))) (Kd.R_lt (by (with_reducible repeat (first | apply Kd.R_alloc | apply Kd.R_drewN | apply Kd.R_drew)); exact HO127.out))) (Kd.R_lt (by (with_reducible repeat (first | apply Kd.R_alloc | apply Kd.R_drewN | apply Kd.R_drew)); exact HO131.out))) (Kd.R_lt (by (with_reducible repeat (first | apply Kd.R_alloc | apply Kd.R_drewN | apply Kd.R_drew)); exact HO135.out))) (Kd.R_lt (by (with_reducible repeat (first | apply Kd.R_alloc | apply Kd.R_drewN | apply Kd.R_drew)); exact HO139.out))) (Kd.R_lt (by (with_reducible repeat (first | apply Kd.R_alloc | apply Kd.R_drewN | apply Kd.R_drew)); exact HO143.out))) (below_size (by repeat (first | (with_reducible first | exact HB.out | apply below_alloc | apply pw_below_drewN | apply below_drew1 | refine below_set ?_ GE101.out | refine below_set ?_ GE120.out) | exact HB.out))))
                              have n12_ := Aside0.mk (blk_below (g := gb101) (o := .cells #[.slice A0_0 l0_0.length c0_0, .slice A0_1 l0_1.length c0_1, .slice A0_2 l0_2.length c0_2, .slice (some ad128) l0_3.length c0_3] 77 (0, 0)) (by (with_reducible repeat (first | refine blk_drewN ?_ _ | refine blk_drew ?_ | refine blk_alloc ?_ _)); exact BK101.out) hb)
                              have n13_ := Aside0.mk (blk_below (g := gb120) (o := .cells #[.slice Ao48 t104.length co48, .slice Ao51 t107.length co51, .slice Ao52 t110.length co52, .slice Ao53 t113.length co53, .slice Ao54 t116.length co54] 60 (0, 0)) (by (with_reducible repeat (first | refine blk_drewN ?_ _ | refine blk_drew ?_ | refine blk_alloc ?_ _)); exact BK120.out) hb)
                              have n14_ := Aside0.mk (below_step (by repeat (first | (with_reducible first | exact HB.out | apply below_alloc | apply pw_below_drewN | apply below_drew1 | refine below_set ?_ GE101.out | refine below_set ?_ GE120.out) | exact HB.out)) hb)
                              clear HO106
                              clear HO109
                              clear HO112
                              clear HO115
                              clear HO118
                              clear HO123
                              clear HO127
                              clear HO131
                              clear HO135
                              clear HO139
                              clear HO143
                              clear BK101
                              clear BK120
                              clear HB
                              have HO106 := n0_
                              have HO109 := n1_
                              have HO112 := n2_
                              have HO115 := n3_
                              have HO118 := n4_
                              have HO123 := n5_
                              have HO127 := n6_
                              have HO131 := n7_
                              have HO135 := n8_
                              have HO139 := n9_
                              have HO143 := n10_
                              have HO147 := n11_
                              have BK101 := n12_
                              have BK120 := n13_
                              have HB := n14_
                              clear n0_ n1_ n2_ n3_ n4_ n5_ n6_ n7_ n8_ n9_ n10_ n11_ n12_ n13_ n14_
                              (try clear hb)
                              (try clear hb2)
                              (try clear hk)
                              (try clear hi)
                              (try clear ho0)
                              obtain ⟨Ao70, co70, eo70⟩ := Kd.R_slice HO147.out
                              (first | subst eo70 | (injection eo70 with f1_ f2_ f3_; have f4_ := f1_.symm; have f5_ := f3_.symm; clear f1_ f2_ f3_; subst f4_; subst f5_))
                              refine hK.out _ _ ⟨(blk_cell BK120.out 0).trans rfl, (blk_cell BK120.out 1).trans rfl, (blk_cell BK120.out 2).trans rfl, (blk_cell BK120.out 3).trans rfl, (blk_cell BK120.out 4).trans rfl⟩ (fun hHeld => ?_)
                              clear hK K
                              refine norm_ (a' := ?_) ?_ ?_
                              rotate_left
                              · show Act.put _ (some 109) _ = _
                                simp only [Act.put, List.setIfInBounds_toArray, List.set_cons_zero, List.set_cons_succ, i64_w, i32_w]
                                rfl
                              refine one_ (i := 28) (N := some 110) #[true, true, true, true, true, true, true, true, true, true, true, true, true, true, true, true, true, true, true, true, true, true, true, true, true, true, true, true, true, false, false, false, false, false, false, false, false, false, false, false, false, false, false, false, false, false, false, false, false, false, false, false, false, false, false, false] rfl rfl (one_of HT_.out (by kernel_rfl)) (by decide) (fun K hK => ?_)
                              refine goes_ Try.func22 (by kernel_rfl) rfl #[.slice Ao52 t110.length co52, .slice Ao70 t145.length co70] (by rfl) rfl rfl (by (try simp only [List.map_toArray, List.map_cons, List.map_nil]); first | done | rfl | (simp only [List.length_drop, List.length_take]; rfl)) ?_
                              with_reducible refine (pyxref01_Same.calls _ _ t110 _ _ t145 true _ ?side1 ?side2 ?side3 ?side4 A32.out).mono ?_
                              (case side1 => repeat (first | exact (Kd.R_reads' HO112.out).2.2 | (with_reducible refine Kd.C_alloc ?_ _) | (with_reducible refine Kd.C_drewN ?_ _) | (with_reducible refine Kd.C_drew ?_)))
                              (case side2 => exact (Kd.R_reads' HO112.out).2.1)
                              (case side3 => repeat (first | exact (Kd.R_reads' HO147.out).2.2 | (with_reducible refine Kd.C_alloc ?_ _) | (with_reducible refine Kd.C_drewN ?_ _) | (with_reducible refine Kd.C_drew ?_)))
                              (case side4 => exact (Kd.R_reads' HO147.out).2.1)
                              rintro e w' ⟨rfl, ⟨nd, rfl⟩⟩
                              refine ⟨_, rfl, ?_⟩
                              refine hK.out _ _ ⟨(blk_cell BK120.out 0).trans rfl, (blk_cell BK120.out 1).trans rfl, (blk_cell BK120.out 2).trans rfl, (blk_cell BK120.out 3).trans rfl, (blk_cell BK120.out 4).trans rfl⟩ (fun hHeld => ?_)
                              clear hK K
                              refine norm_ (a' := ?_) ?_ ?_
                              rotate_left
                              · show Act.put _ (some 110) _ = _
                                simp only [Act.put, List.setIfInBounds_toArray, List.set_cons_zero, List.set_cons_succ, i64_w, i32_w]
                                rfl
                              refine pure_ (i := 29) (N := some 111) (v := ?_) (a' := ?_) #[true, true, true, true, true, true, true, true, true, true, true, true, true, true, true, true, true, true, true, true, true, true, true, true, true, true, true, true, true, true, false, false, false, false, false, false, false, false, false, false, false, false, false, false, false, false, false, false, false, false, false, false, false, false, false, false] rfl rfl (any_of HT_.out (by kernel_rfl)) (fun _ _ _ h => h) (Or.inl ⟨by rfl, ?_⟩) ?_ ?_
                              rotate_left
                              · intro w'
                                go_simp
                                with_reducible rfl
                              rotate_left
                              · simp only [Act.put, List.setIfInBounds_toArray, List.set_cons_zero, List.set_cons_succ, i64_w, i32_w]
                                rfl
                              refine pure_ (i := 30) (N := some 112) (v := ?_) (a' := ?_) #[true, true, true, true, true, true, true, true, true, true, true, true, true, true, true, true, true, true, true, true, true, true, true, true, true, true, true, true, true, true, true, false, false, false, false, false, false, false, false, false, false, false, false, false, false, false, false, false, false, false, false, false, false, false, false, false] rfl rfl (any_of HT_.out (by kernel_rfl)) (fun _ _ _ h => h) (Or.inl ⟨by rfl, ?_⟩) ?_ ?_
                              rotate_left
                              · intro w'
                                go_simp
                                with_reducible rfl
                              rotate_left
                              · simp only [Act.put, List.setIfInBounds_toArray, List.set_cons_zero, List.set_cons_succ, i64_w, i32_w]
                                rfl
                              refine pure_ (i := 31) (N := some 113) (v := ?_) (a' := ?_) #[true, true, true, true, true, true, true, true, true, true, true, true, true, true, true, true, true, true, true, true, true, true, true, true, true, true, true, true, true, true, true, true, false, false, false, false, false, false, false, false, false, false, false, false, false, false, false, false, false, false, false, false, false, false, false, false] rfl rfl (any_of HT_.out (by kernel_rfl)) (fun _ _ _ h => h) (Or.inl ⟨by rfl, ?_⟩) ?_ ?_
                              rotate_left
                              · intro w'
                                go_simp
                                with_reducible rfl
                              rotate_left
                              · simp only [Act.put, List.setIfInBounds_toArray, List.set_cons_zero, List.set_cons_succ, i64_w, i32_w]
                                rfl
                              refine pure_ (i := 33) (N := some 115) (v := ?_) (a' := ?_) #[true, true, true, true, true, true, true, true, true, true, true, true, true, true, true, true, true, true, true, true, true, true, true, true, true, true, true, true, true, true, true, true, false, true, false, false, false, false, false, false, false, false, false, false, false, false, false, false, false, false, false, false, false, false, false, false] rfl rfl (any_of HT_.out (by kernel_rfl)) (fun _ _ _ h => h) (Or.inl ⟨by rfl, ?_⟩) ?_ ?_
                              rotate_left
                              · intro w'
                                go_simp
                                with_reducible rfl
                              rotate_left
                              · simp only [Act.put, List.setIfInBounds_toArray, List.set_cons_zero, List.set_cons_succ, i64_w, i32_w]
                                rfl
                              refine take_ (i := 32) (N := some 114) (v := ?_) (a' := ?_) #[true, true, true, true, true, true, true, true, true, true, true, true, true, true, true, true, true, true, true, true, true, true, true, true, true, true, true, true, true, true, true, true, true, true, false, false, false, false, false, false, false, false, false, false, false, false, false, false, false, false, false, false, false, false, false, false] rfl rfl (take_ofW HT_.out HW_.out (by kernel_rfl)) (fun _ _ _ h => h) (Or.inl ⟨by rfl, ?_⟩) hHeld ?_ ?_
                              rotate_left
                              · rintro w' ⟨s0, s1, s2, s3, s4⟩
                                go_simp
                                with_reducible rfl
                              rotate_left
                              · simp only [Act.put, List.setIfInBounds_toArray, List.set_cons_zero, List.set_cons_succ, i64_w, i32_w]
                                rfl
                              refine one_ (i := 34) (N := some 116) #[true, true, true, true, true, true, true, true, true, true, true, true, true, true, true, true, true, true, true, true, true, true, true, true, true, true, true, true, true, true, true, true, true, true, true, false, false, false, false, false, false, false, false, false, false, false, false, false, false, false, false, false, false, false, false, false] rfl rfl (one_of HT_.out (by kernel_rfl)) (by decide) (fun K hK => ?_)
                              refine goes_ Try.func49 (by kernel_rfl) rfl #[.slice Ao64 t124.length co64, .string (⟨#[115, 101, 110, 100]⟩ : ByteArray)] (by rfl) rfl rfl (by (try simp only [List.map_toArray, List.map_cons, List.map_nil]); first | done | rfl | (simp only [List.length_drop, List.length_take]; rfl)) ?_
                              with_reducible refine (pyxref04_Out.calls _ _ t124 (⟨#[115, 101, 110, 100]⟩ : ByteArray) t149 _ ?side1 ?side2 A34.out).mono ?_
                              (case side1 => repeat (first | exact (Kd.R_reads' HO127.out).2.2 | (with_reducible refine Kd.C_alloc ?_ _) | (with_reducible refine Kd.C_drewN ?_ _) | (with_reducible refine Kd.C_drew ?_)))
                              (case side2 => exact (Kd.R_reads' HO127.out).2.1)
                              rintro e w71 ⟨v150, rfl, ho0, hb⟩
                              refine ⟨_, rfl, ?_⟩
                              have n0_ := Aside0.mk (Kd.R_elder' (by (with_reducible repeat (first | apply Kd.R_alloc | apply Kd.R_drewN | apply Kd.R_drew)); exact HO106.out) (Kd.R_base ho0) hb)
                              have n1_ := Aside0.mk (Kd.R_elder' (by (with_reducible repeat (first | apply Kd.R_alloc | apply Kd.R_drewN | apply Kd.R_drew)); exact HO109.out) (Kd.R_base ho0) hb)
                              have n2_ := Aside0.mk (Kd.R_elder' (by (with_reducible repeat (first | apply Kd.R_alloc | apply Kd.R_drewN | apply Kd.R_drew)); exact HO112.out) (Kd.R_base ho0) hb)
                              have n3_ := Aside0.mk (Kd.R_elder' (by (with_reducible repeat (first | apply Kd.R_alloc | apply Kd.R_drewN | apply Kd.R_drew)); exact HO115.out) (Kd.R_base ho0) hb)
                              have n4_ := Aside0.mk (Kd.R_elder' (by (with_reducible repeat (first | apply Kd.R_alloc | apply Kd.R_drewN | apply Kd.R_drew)); exact HO118.out) (Kd.R_base ho0) hb)
                              have n5_ := Aside0.mk (Kd.R_elder' (by (with_reducible repeat (first | apply Kd.R_alloc | apply Kd.R_drewN | apply Kd.R_drew)); exact HO123.out) (Kd.R_base ho0) hb)
                              have n6_ := Aside0.mk (Kd.R_elder' (by (with_reducible repeat (first | apply Kd.R_alloc | apply Kd.R_drewN | apply Kd.R_drew)); exact HO127.out) (Kd.R_base ho0) hb)
                              have n7_ := Aside0.mk (Kd.R_elder' (by (with_reducible repeat (first | apply Kd.R_alloc | apply Kd.R_drewN | apply Kd.R_drew)); exact HO131.out) (Kd.R_base ho0) hb)
                              have n8_ := Aside0.mk (Kd.R_elder' (by (with_reducible repeat (first | apply Kd.R_alloc | apply Kd.R_drewN | apply Kd.R_drew)); exact HO135.out) (Kd.R_base ho0) hb)
                              have n9_ := Aside0.mk (Kd.R_elder' (by (with_reducible repeat (first | apply Kd.R_alloc | apply Kd.R_drewN | apply Kd.R_drew)); exact HO139.out) (Kd.R_base ho0) hb)
                              have n10_ := Aside0.mk (Kd.R_elder' (by (with_reducible repeat (first | apply Kd.R_alloc | apply Kd.R_drewN | apply Kd.R_drew)); exact HO143.out) (Kd.R_base ho0) hb)
                              have n11_ := Aside0.mk (Kd.R_elder' (by (with_reducible repeat (first | apply Kd.R_alloc | apply Kd.R_drewN | apply Kd.R_drew)); exact HO147.out) (Kd.R_base ho0) hb)
                              have n12_ := Aside0.mk (Kd.R_lower (Kd.R_new' (Kd.R_new' (Kd.R_new' (Kd.R_new' (Kd.R_new' (Kd.R_new' (Kd.R_new' (Kd.R_new' (Kd.R_new' (Kd.R_new' (Kd.R_new' (Kd.R_new' ho0 (Kd.R_lt (by (with_reducible repeat (first | apply Kd.R_alloc | apply Kd.R_drewN | apply Kd.R_drew)); exact HO106.out))) (Kd.R_lt (by (with_reducible repeat (first | apply Kd.R_alloc | apply Kd.R_drewN | apply Kd.R_drew)); exact HO109.out))) (Kd.R_lt (by (with_reducible repeat (first | apply Kd.R_alloc | apply Kd.R_drewN | apply Kd.R_drew)); exact HO112.out))) (Kd.R_lt (by (with_reducible repeat (first | apply Kd.R_alloc | apply Kd.R_drewN | apply Kd.R_drew)); exact HO115.out))) (Kd.R_lt (by (with_reducible repeat (first | apply Kd.R_alloc | apply Kd.R_drewN | apply Kd.R_drew)); exact HO118.out))) (Kd.R_lt (by (with_reducible repeat (first | apply Kd.R_alloc | apply Kd.R_drewN | apply Kd.R_drew)); exact HO123.out))) (Kd.R_lt (by (with_reducible repeat (first | apply Kd.R_alloc | apply Kd.R_drewN | apply Kd.R_drew)); exact HO127.out))) (Kd.R_lt (by (with_reducible repeat (first | apply Kd.R_alloc | apply Kd.R_drewN | apply Kd.R_drew)); exact HO131.out))) (Kd.R_lt (by (with_reducible repeat (first | apply Kd.R_alloc | apply Kd.R_drewN | apply Kd.R_drew)); exact HO135.out))) (Kd.R_lt (by (with_reducible repeat (first | apply Kd.R_alloc | apply Kd.R_drewN | apply Kd.R_drew)); exact HO139.out))) (Kd.R_lt (by (with_reducible repeat (first | apply Kd.R_alloc | apply Kd.R_drewN | apply Kd.R_drew)); exact HO143.out))) (Kd.R_lt (by (with_reducible repeat (first | apply Kd.R_alloc | apply Kd.R_drewN | apply Kd.R_drew)); exact HO147.out))) (below_size (by repeat (first | (with_reducible first | exact HB.out | apply below_alloc | apply pw_below_drewN | apply below_drew1 | refine below_set ?_ GE101.out | refine below_set ?_ GE120.out) | exact HB.out))))
                              have n13_ := Aside0.mk (blk_below (g := gb101) (o := .cells #[.slice A0_0 l0_0.length c0_0, .slice A0_1 l0_1.length c0_1, .slice A0_2 l0_2.length c0_2, .slice (some ad128) l0_3.length c0_3] 77 (0, 0)) (by (with_reducible repeat (first | refine blk_drewN ?_ _ | refine blk_drew ?_ | refine blk_alloc ?_ _)); exact BK101.out) hb)
                              have n14_ := Aside0.mk (blk_below (g := gb120) (o := .cells #[.slice Ao48 t104.length co48, .slice Ao51 t107.length co51, .slice Ao52 t110.length co52, .slice Ao53 t113.length co53, .slice Ao54 t116.length co54] 60 (0, 0)) (by (with_reducible repeat (first | refine blk_drewN ?_ _ | refine blk_drew ?_ | refine blk_alloc ?_ _)); exact BK120.out) hb)
                              have n15_ := Aside0.mk (below_step (by repeat (first | (with_reducible first | exact HB.out | apply below_alloc | apply pw_below_drewN | apply below_drew1 | refine below_set ?_ GE101.out | refine below_set ?_ GE120.out) | exact HB.out)) hb)
                              clear HO106
                              clear HO109
                              clear HO112
                              clear HO115
                              clear HO118
                              clear HO123
                              clear HO127
                              clear HO131
                              clear HO135
                              clear HO139
                              clear HO143
                              clear HO147
                              clear BK101
                              clear BK120
                              clear HB
                              have HO106 := n0_
                              have HO109 := n1_
                              have HO112 := n2_
                              have HO115 := n3_
                              have HO118 := n4_
                              have HO123 := n5_
                              have HO127 := n6_
                              have HO131 := n7_
                              have HO135 := n8_
                              have HO139 := n9_
                              have HO143 := n10_
                              have HO147 := n11_
                              have HO151 := n12_
                              have BK101 := n13_
                              have BK120 := n14_
                              have HB := n15_
                              clear n0_ n1_ n2_ n3_ n4_ n5_ n6_ n7_ n8_ n9_ n10_ n11_ n12_ n13_ n14_ n15_
                              (try clear hb)
                              (try clear hb2)
                              (try clear hk)
                              (try clear hi)
                              (try clear ho0)
                              obtain ⟨Ao72, co72, eo72⟩ := Kd.R_slice HO151.out
                              (first | subst eo72 | (injection eo72 with f1_ f2_ f3_; have f4_ := f1_.symm; have f5_ := f3_.symm; clear f1_ f2_ f3_; subst f4_; subst f5_))
                              refine hK.out _ _ ⟨(blk_cell BK120.out 0).trans rfl, (blk_cell BK120.out 1).trans rfl, (blk_cell BK120.out 2).trans rfl, (blk_cell BK120.out 3).trans rfl, (blk_cell BK120.out 4).trans rfl⟩ (fun hHeld => ?_)
                              clear hK K
                              refine norm_ (a' := ?_) ?_ ?_
                              rotate_left
                              · show Act.put _ (some 116) _ = _
                                simp only [Act.put, List.setIfInBounds_toArray, List.set_cons_zero, List.set_cons_succ, i64_w, i32_w]
                                rfl
                              refine one_ (i := 35) (N := some 117) #[true, true, true, true, true, true, true, true, true, true, true, true, true, true, true, true, true, true, true, true, true, true, true, true, true, true, true, true, true, true, true, true, true, true, true, true, false, false, false, false, false, false, false, false, false, false, false, false, false, false, false, false, false, false, false, false] rfl rfl (one_of HT_.out (by kernel_rfl)) (by decide) (fun K hK => ?_)
                              refine goes_ Try.func22 (by kernel_rfl) rfl #[.slice Ao51 t107.length co51, .slice Ao72 t149.length co72] (by rfl) rfl rfl (by (try simp only [List.map_toArray, List.map_cons, List.map_nil]); first | done | rfl | (simp only [List.length_drop, List.length_take]; rfl)) ?_
                              with_reducible refine (pyxref01_Same.calls _ _ t107 _ _ t149 true _ ?side1 ?side2 ?side3 ?side4 A35.out).mono ?_
                              (case side1 => repeat (first | exact (Kd.R_reads' HO109.out).2.2 | (with_reducible refine Kd.C_alloc ?_ _) | (with_reducible refine Kd.C_drewN ?_ _) | (with_reducible refine Kd.C_drew ?_)))
                              (case side2 => exact (Kd.R_reads' HO109.out).2.1)
                              (case side3 => repeat (first | exact (Kd.R_reads' HO151.out).2.2 | (with_reducible refine Kd.C_alloc ?_ _) | (with_reducible refine Kd.C_drewN ?_ _) | (with_reducible refine Kd.C_drew ?_)))
                              (case side4 => exact (Kd.R_reads' HO151.out).2.1)
                              rintro e w' ⟨rfl, ⟨nd, rfl⟩⟩
                              refine ⟨_, rfl, ?_⟩
                              refine hK.out _ _ ⟨(blk_cell BK120.out 0).trans rfl, (blk_cell BK120.out 1).trans rfl, (blk_cell BK120.out 2).trans rfl, (blk_cell BK120.out 3).trans rfl, (blk_cell BK120.out 4).trans rfl⟩ (fun hHeld => ?_)
                              clear hK K
                              refine norm_ (a' := ?_) ?_ ?_
                              rotate_left
                              · show Act.put _ (some 117) _ = _
                                simp only [Act.put, List.setIfInBounds_toArray, List.set_cons_zero, List.set_cons_succ, i64_w, i32_w]
                                rfl
                              refine pure_ (i := 36) (N := some 118) (v := ?_) (a' := ?_) #[true, true, true, true, true, true, true, true, true, true, true, true, true, true, true, true, true, true, true, true, true, true, true, true, true, true, true, true, true, true, true, true, true, true, true, true, true, false, false, false, false, false, false, false, false, false, false, false, false, false, false, false, false, false, false, false] rfl rfl (any_of HT_.out (by kernel_rfl)) (fun _ _ _ h => h) (Or.inl ⟨by rfl, ?_⟩) ?_ ?_
                              rotate_left
                              · intro w'
                                go_simp
                                with_reducible rfl
                              rotate_left
                              · simp only [Act.put, List.setIfInBounds_toArray, List.set_cons_zero, List.set_cons_succ, i64_w, i32_w]
                                rfl
                              refine pure_ (i := 37) (N := some 119) (v := ?_) (a' := ?_) #[true, true, true, true, true, true, true, true, true, true, true, true, true, true, true, true, true, true, true, true, true, true, true, true, true, true, true, true, true, true, true, true, true, true, true, true, true, true, false, false, false, false, false, false, false, false, false, false, false, false, false, false, false, false, false, false] rfl rfl (any_of HT_.out (by kernel_rfl)) (fun _ _ _ h => h) (Or.inl ⟨by rfl, ?_⟩) ?_ ?_
                              rotate_left
                              · intro w'
                                go_simp
                                with_reducible rfl
                              rotate_left
                              · simp only [Act.put, List.setIfInBounds_toArray, List.set_cons_zero, List.set_cons_succ, i64_w, i32_w]
                                rfl
                              refine pure_ (i := 38) (N := some 120) (v := ?_) (a' := ?_) #[true, true, true, true, true, true, true, true, true, true, true, true, true, true, true, true, true, true, true, true, true, true, true, true, true, true, true, true, true, true, true, true, true, true, true, true, true, true, true, false, false, false, false, false, false, false, false, false, false, false, false, false, false, false, false, false] rfl rfl (any_of HT_.out (by kernel_rfl)) (fun _ _ _ h => h) (Or.inl ⟨by rfl, ?_⟩) ?_ ?_
                              rotate_left
                              · intro w'
                                go_simp
                                with_reducible rfl
                              rotate_left
                              · simp only [Act.put, List.setIfInBounds_toArray, List.set_cons_zero, List.set_cons_succ, i64_w, i32_w]
                                rfl
                              refine pure_ (i := 40) (N := some 122) (v := ?_) (a' := ?_) #[true, true, true, true, true, true, true, true, true, true, true, true, true, true, true, true, true, true, true, true, true, true, true, true, true, true, true, true, true, true, true, true, true, true, true, true, true, true, true, false, true, false, false, false, false, false, false, false, false, false, false, false, false, false, false, false] rfl rfl (any_of HT_.out (by kernel_rfl)) (fun _ _ _ h => h) (Or.inl ⟨by rfl, ?_⟩) ?_ ?_
                              rotate_left
                              · intro w'
                                go_simp
                                with_reducible rfl
                              rotate_left
                              · simp only [Act.put, List.setIfInBounds_toArray, List.set_cons_zero, List.set_cons_succ, i64_w, i32_w]
                                rfl
                              refine take_ (i := 39) (N := some 121) (v := ?_) (a' := ?_) #[true, true, true, true, true, true, true, true, true, true, true, true, true, true, true, true, true, true, true, true, true, true, true, true, true, true, true, true, true, true, true, true, true, true, true, true, true, true, true, true, true, false, false, false, false, false, false, false, false, false, false, false, false, false, false, false] rfl rfl (take_ofW HT_.out HW_.out (by kernel_rfl)) (fun _ _ _ h => h) (Or.inl ⟨by rfl, ?_⟩) hHeld ?_ ?_
                              rotate_left
                              · rintro w' ⟨s0, s1, s2, s3, s4⟩
                                go_simp
                                with_reducible rfl
                              rotate_left
                              · simp only [Act.put, List.setIfInBounds_toArray, List.set_cons_zero, List.set_cons_succ, i64_w, i32_w]
                                rfl
                              refine one_ (i := 41) (N := some 123) #[true, true, true, true, true, true, true, true, true, true, true, true, true, true, true, true, true, true, true, true, true, true, true, true, true, true, true, true, true, true, true, true, true, true, true, true, true, true, true, true, true, true, false, false, false, false, false, false, false, false, false, false, false, false, false, false] rfl rfl (one_of HT_.out (by kernel_rfl)) (by decide) (fun K hK => ?_)
                              refine goes_ Try.func49 (by kernel_rfl) rfl #[.slice Ao64 t124.length co64, .string (⟨#[105, 110, 105, 116]⟩ : ByteArray)] (by rfl) rfl rfl (by (try simp only [List.map_toArray, List.map_cons, List.map_nil]); first | done | rfl | (simp only [List.length_drop, List.length_take]; rfl)) ?_
                              with_reducible refine (pyxref04_Out.calls _ _ t124 (⟨#[105, 110, 105, 116]⟩ : ByteArray) t153 _ ?side1 ?side2 A37.out).mono ?_
                              (case side1 => repeat (first | exact (Kd.R_reads' HO127.out).2.2 | (with_reducible refine Kd.C_alloc ?_ _) | (with_reducible refine Kd.C_drewN ?_ _) | (with_reducible refine Kd.C_drew ?_)))
                              (case side2 => exact (Kd.R_reads' HO127.out).2.1)
                              rintro e w73 ⟨v154, rfl, ho0, hb⟩
                              refine ⟨_, rfl, ?_⟩
                              have n0_ := Aside0.mk (Kd.R_elder' (by (with_reducible repeat (first | apply Kd.R_alloc | apply Kd.R_drewN | apply Kd.R_drew)); exact HO106.out) (Kd.R_base ho0) hb)
                              have n1_ := Aside0.mk (Kd.R_elder' (by (with_reducible repeat (first | apply Kd.R_alloc | apply Kd.R_drewN | apply Kd.R_drew)); exact HO109.out) (Kd.R_base ho0) hb)
                              have n2_ := Aside0.mk (Kd.R_elder' (by (with_reducible repeat (first | apply Kd.R_alloc | apply Kd.R_drewN | apply Kd.R_drew)); exact HO112.out) (Kd.R_base ho0) hb)
                              have n3_ := Aside0.mk (Kd.R_elder' (by (with_reducible repeat (first | apply Kd.R_alloc | apply Kd.R_drewN | apply Kd.R_drew)); exact HO115.out) (Kd.R_base ho0) hb)
                              have n4_ := Aside0.mk (Kd.R_elder' (by (with_reducible repeat (first | apply Kd.R_alloc | apply Kd.R_drewN | apply Kd.R_drew)); exact HO118.out) (Kd.R_base ho0) hb)
                              have n5_ := Aside0.mk (Kd.R_elder' (by (with_reducible repeat (first | apply Kd.R_alloc | apply Kd.R_drewN | apply Kd.R_drew)); exact HO123.out) (Kd.R_base ho0) hb)
                              have n6_ := Aside0.mk (Kd.R_elder' (by (with_reducible repeat (first | apply Kd.R_alloc | apply Kd.R_drewN | apply Kd.R_drew)); exact HO127.out) (Kd.R_base ho0) hb)
                              have n7_ := Aside0.mk (Kd.R_elder' (by (with_reducible repeat (first | apply Kd.R_alloc | apply Kd.R_drewN | apply Kd.R_drew)); exact HO131.out) (Kd.R_base ho0) hb)
                              have n8_ := Aside0.mk (Kd.R_elder' (by (with_reducible repeat (first | apply Kd.R_alloc | apply Kd.R_drewN | apply Kd.R_drew)); exact HO135.out) (Kd.R_base ho0) hb)
                              have n9_ := Aside0.mk (Kd.R_elder' (by (with_reducible repeat (first | apply Kd.R_alloc | apply Kd.R_drewN | apply Kd.R_drew)); exact HO139.out) (Kd.R_base ho0) hb)
                              have n10_ := Aside0.mk (Kd.R_elder' (by (with_reducible repeat (first | apply Kd.R_alloc | apply Kd.R_drewN | apply Kd.R_drew)); exact HO143.out) (Kd.R_base ho0) hb)
                              have n11_ := Aside0.mk (Kd.R_elder' (by (with_reducible repeat (first | apply Kd.R_alloc | apply Kd.R_drewN | apply Kd.R_drew)); exact HO147.out) (Kd.R_base ho0) hb)
                              have n12_ := Aside0.mk (Kd.R_elder' (by (with_reducible repeat (first | apply Kd.R_alloc | apply Kd.R_drewN | apply Kd.R_drew)); exact HO151.out) (Kd.R_base ho0) hb)
                              have n13_ := Aside0.mk (Kd.R_lower (Kd.R_new' (Kd.R_new' (Kd.R_new' (Kd.R_new' (Kd.R_new' (Kd.R_new' (Kd.R_new' (Kd.R_new' (Kd.R_new' (Kd.R_new' (Kd.R_new' (Kd.R_new' (Kd.R_new' ho0 (Kd.R_lt (by (with_reducible repeat (first | apply Kd.R_alloc | apply Kd.R_drewN | apply Kd.R_drew)); exact HO106.out))) (Kd.R_lt (by (with_reducible repeat (first | apply Kd.R_alloc | apply Kd.R_drewN | apply Kd.R_drew)); exact HO109.out))) (Kd.R_lt (by (with_reducible repeat (first | apply Kd.R_alloc | apply Kd.R_drewN | apply Kd.R_drew)); exact HO112.out))) (Kd.R_lt (by (with_reducible repeat (first | apply Kd.R_alloc | apply Kd.R_drewN | apply Kd.R_drew)); exact HO115.out))) (Kd.R_lt (by (with_reducible repeat (first | apply Kd.R_alloc | apply Kd.R_drewN | apply Kd.R_drew)); exact HO118.out))) (Kd.R_lt (by (with_reducible repeat (first | apply Kd.R_alloc | apply Kd.R_drewN | apply Kd.R_drew)); exact HO123.out))) (Kd.R_lt (by (with_reducible repeat (first | apply Kd.R_alloc | apply Kd.R_drewN | apply Kd.R_drew)); exact HO127.out))) (Kd.R_lt (by (with_reducible repeat (first | apply Kd.R_alloc | apply Kd.R_drewN | apply Kd.R_drew)); exact HO131.out))) (Kd.R_lt (by (with_reducible repeat (first | apply Kd.R_alloc | apply Kd.R_drewN | apply Kd.R_drew)); exact HO135.out))) (Kd.R_lt (by (with_reducible repeat (first | apply Kd.R_alloc | apply Kd.R_drewN | apply Kd.R_drew)); exact HO139.out))) (Kd.R_lt (by (with_reducible repeat (first | apply Kd.R_alloc | apply Kd.R_drewN | apply Kd.R_drew)); exact HO143.out))) (Kd.R_lt (by (with_reducible repeat (first | apply Kd.R_alloc | apply Kd.R_drewN | apply Kd.R_drew)); exact HO147.out))) (Kd.R_lt (by (with_reducible repeat (first | apply Kd.R_alloc | apply Kd.R_drewN | apply Kd.R_drew)); exact HO151.out))) (below_size (by repeat (first | (with_reducible first | exact HB.out | apply below_alloc | apply pw_below_drewN | apply below_drew1 | refine below_set ?_ GE101.out | refine below_set ?_ GE120.out) | exact HB.out))))
                              have n14_ := Aside0.mk (blk_below (g := gb101) (o := .cells #[.slice A0_0 l0_0.length c0_0, .slice A0_1 l0_1.length c0_1, .slice A0_2 l0_2.length c0_2, .slice (some ad128) l0_3.length c0_3] 77 (0, 0)) (by (with_reducible repeat (first | refine blk_drewN ?_ _ | refine blk_drew ?_ | refine blk_alloc ?_ _)); exact BK101.out) hb)
                              have n15_ := Aside0.mk (blk_below (g := gb120) (o := .cells #[.slice Ao48 t104.length co48, .slice Ao51 t107.length co51, .slice Ao52 t110.length co52, .slice Ao53 t113.length co53, .slice Ao54 t116.length co54] 60 (0, 0)) (by (with_reducible repeat (first | refine blk_drewN ?_ _ | refine blk_drew ?_ | refine blk_alloc ?_ _)); exact BK120.out) hb)
                              have n16_ := Aside0.mk (below_step (by repeat (first | (with_reducible first | exact HB.out | apply below_alloc | apply pw_below_drewN | apply below_drew1 | refine below_set ?_ GE101.out | refine below_set ?_ GE120.out) | exact HB.out)) hb)
                              clear HO106
                              clear HO109
                              clear HO112
                              clear HO115
                              clear HO118
                              clear HO123
                              clear HO127
                              clear HO131
                              clear HO135
                              clear HO139
                              clear HO143
                              clear HO147
                              clear HO151
                              clear BK101
                              clear BK120
                              clear HB
                              have HO106 := n0_
                              have HO109 := n1_
                              have HO112 := n2_
                              have HO115 := n3_
                              have HO118 := n4_
                              have HO123 := n5_
                              have HO127 := n6_
                              have HO131 := n7_
                              have HO135 := n8_
                              have HO139 := n9_
                              have HO143 := n10_
                              have HO147 := n11_
                              have HO151 := n12_
                              have HO155 := n13_
                              have BK101 := n14_
                              have BK120 := n15_
                              have HB := n16_
                              clear n0_ n1_ n2_ n3_ n4_ n5_ n6_ n7_ n8_ n9_ n10_ n11_ n12_ n13_ n14_ n15_ n16_
                              (try clear hb)
                              (try clear hb2)
                              (try clear hk)
                              (try clear hi)
                              (try clear ho0)
                              obtain ⟨Ao74, co74, eo74⟩ := Kd.R_slice HO155.out
                              (first | subst eo74 | (injection eo74 with f1_ f2_ f3_; have f4_ := f1_.symm; have f5_ := f3_.symm; clear f1_ f2_ f3_; subst f4_; subst f5_))
                              refine hK.out _ _ ⟨(blk_cell BK120.out 0).trans rfl, (blk_cell BK120.out 1).trans rfl, (blk_cell BK120.out 2).trans rfl, (blk_cell BK120.out 3).trans rfl, (blk_cell BK120.out 4).trans rfl⟩ (fun hHeld => ?_)
                              clear hK K
                              refine norm_ (a' := ?_) ?_ ?_
                              rotate_left
                              · show Act.put _ (some 123) _ = _
                                simp only [Act.put, List.setIfInBounds_toArray, List.set_cons_zero, List.set_cons_succ, i64_w, i32_w]
                                rfl
                              refine one_ (i := 42) (N := some 124) #[true, true, true, true, true, true, true, true, true, true, true, true, true, true, true, true, true, true, true, true, true, true, true, true, true, true, true, true, true, true, true, true, true, true, true, true, true, true, true, true, true, true, true, false, false, false, false, false, false, false, false, false, false, false, false, false] rfl rfl (one_of HT_.out (by kernel_rfl)) (by decide) (fun K hK => ?_)
                              refine goes_ Try.func22 (by kernel_rfl) rfl #[.slice Ao48 t104.length co48, .slice Ao74 t153.length co74] (by rfl) rfl rfl (by (try simp only [List.map_toArray, List.map_cons, List.map_nil]); first | done | rfl | (simp only [List.length_drop, List.length_take]; rfl)) ?_
                              with_reducible refine (pyxref01_Same.calls _ _ t104 _ _ t153 true _ ?side1 ?side2 ?side3 ?side4 A38.out).mono ?_
                              (case side1 => repeat (first | exact (Kd.R_reads' HO106.out).2.2 | (with_reducible refine Kd.C_alloc ?_ _) | (with_reducible refine Kd.C_drewN ?_ _) | (with_reducible refine Kd.C_drew ?_)))
                              (case side2 => exact (Kd.R_reads' HO106.out).2.1)
                              (case side3 => repeat (first | exact (Kd.R_reads' HO155.out).2.2 | (with_reducible refine Kd.C_alloc ?_ _) | (with_reducible refine Kd.C_drewN ?_ _) | (with_reducible refine Kd.C_drew ?_)))
                              (case side4 => exact (Kd.R_reads' HO155.out).2.1)
                              rintro e w' ⟨rfl, ⟨nd, rfl⟩⟩
                              refine ⟨_, rfl, ?_⟩
                              refine hK.out _ _ ⟨(blk_cell BK120.out 0).trans rfl, (blk_cell BK120.out 1).trans rfl, (blk_cell BK120.out 2).trans rfl, (blk_cell BK120.out 3).trans rfl, (blk_cell BK120.out 4).trans rfl⟩ (fun hHeld => ?_)
                              clear hK K
                              refine norm_ (a' := ?_) ?_ ?_
                              rotate_left
                              · show Act.put _ (some 124) _ = _
                                simp only [Act.put, List.setIfInBounds_toArray, List.set_cons_zero, List.set_cons_succ, i64_w, i32_w]
                                rfl
                              refine pure_ (i := 43) (N := some 125) (v := ?_) (a' := ?_) #[true, true, true, true, true, true, true, true, true, true, true, true, true, true, true, true, true, true, true, true, true, true, true, true, true, true, true, true, true, true, true, true, true, true, true, true, true, true, true, true, true, true, true, true, false, false, false, false, false, false, false, false, false, false, false, false] rfl rfl (any_of HT_.out (by kernel_rfl)) (fun _ _ _ h => h) (Or.inl ⟨by rfl, ?_⟩) ?_ ?_
                              rotate_left
                              · intro w'
                                go_simp
                                with_reducible rfl
                              rotate_left
                              · simp only [Act.put, List.setIfInBounds_toArray, List.set_cons_zero, List.set_cons_succ, i64_w, i32_w]
                                rfl
                              refine pure_ (i := 44) (N := some 126) (v := ?_) (a' := ?_) #[true, true, true, true, true, true, true, true, true, true, true, true, true, true, true, true, true, true, true, true, true, true, true, true, true, true, true, true, true, true, true, true, true, true, true, true, true, true, true, true, true, true, true, true, true, false, false, false, false, false, false, false, false, false, false, false] rfl rfl (any_of HT_.out (by kernel_rfl)) (fun _ _ _ h => h) (Or.inl ⟨by rfl, ?_⟩) ?_ ?_
                              rotate_left
                              · intro w'
                                go_simp
                                with_reducible rfl
                              rotate_left
                              · simp only [Act.put, List.setIfInBounds_toArray, List.set_cons_zero, List.set_cons_succ, i64_w, i32_w]
                                rfl
                              refine pure_ (i := 45) (N := some 127) (v := ?_) (a' := ?_) #[true, true, true, true, true, true, true, true, true, true, true, true, true, true, true, true, true, true, true, true, true, true, true, true, true, true, true, true, true, true, true, true, true, true, true, true, true, true, true, true, true, true, true, true, true, true, false, false, false, false, false, false, false, false, false, false] rfl rfl (any_of HT_.out (by kernel_rfl)) (fun _ _ _ h => h) (Or.inl ⟨by rfl, ?_⟩) ?_ ?_
                              rotate_left
                              · intro w'
                                go_simp
                                with_reducible rfl
                              rotate_left
                              · simp only [Act.put, List.setIfInBounds_toArray, List.set_cons_zero, List.set_cons_succ, i64_w, i32_w]
                                rfl
                              refine pure_ (i := 47) (N := some 129) (v := ?_) (a' := ?_) #[true, true, true, true, true, true, true, true, true, true, true, true, true, true, true, true, true, true, true, true, true, true, true, true, true, true, true, true, true, true, true, true, true, true, true, true, true, true, true, true, true, true, true, true, true, true, false, true, false, false, false, false, false, false, false, false] rfl rfl (any_of HT_.out (by kernel_rfl)) (fun _ _ _ h => h) (Or.inl ⟨by rfl, ?_⟩) ?_ ?_
                              rotate_left
                              · intro w'
                                go_simp
                                with_reducible rfl
                              rotate_left
                              · simp only [Act.put, List.setIfInBounds_toArray, List.set_cons_zero, List.set_cons_succ, i64_w, i32_w]
                                rfl
                              refine pure_ (i := 48) (N := some 130) (v := ?_) (a' := ?_) #[true, true, true, true, true, true, true, true, true, true, true, true, true, true, true, true, true, true, true, true, true, true, true, true, true, true, true, true, true, true, true, true, true, true, true, true, true, true, true, true, true, true, true, true, true, true, false, true, true, false, false, false, false, false, false, false] rfl rfl (any_of HT_.out (by kernel_rfl)) (fun _ _ _ h => h) (Or.inl ⟨by rfl, ?_⟩) ?_ ?_
                              rotate_left
                              · intro w'
                                go_simp
                                with_reducible rfl
                              rotate_left
                              · simp only [Act.put, List.setIfInBounds_toArray, List.set_cons_zero, List.set_cons_succ, i64_w, i32_w]
                                rfl
                              refine pure_ (i := 49) (N := some 131) (v := ?_) (a' := ?_) #[true, true, true, true, true, true, true, true, true, true, true, true, true, true, true, true, true, true, true, true, true, true, true, true, true, true, true, true, true, true, true, true, true, true, true, true, true, true, true, true, true, true, true, true, true, true, false, true, true, true, false, false, false, false, false, false] rfl rfl (any_of HT_.out (by kernel_rfl)) (fun _ _ _ h => h) (Or.inl ⟨by rfl, ?_⟩) ?_ ?_
                              rotate_left
                              · intro w'
                                go_simp
                                rw [if_pos (show ji17 ≤ (c0_3 : Int) by have := HC0_3.out; have := of_decide_eq_true c42b1; omega)]
                              rotate_left
                              · simp only [Act.put, List.setIfInBounds_toArray, List.set_cons_zero, List.set_cons_succ, i64_w, i32_w]
                                rfl
                              refine pure_ (i := 51) (N := some 133) (v := ?_) (a' := ?_) #[true, true, true, true, true, true, true, true, true, true, true, true, true, true, true, true, true, true, true, true, true, true, true, true, true, true, true, true, true, true, true, true, true, true, true, true, true, true, true, true, true, true, true, true, true, true, false, true, true, true, false, true, false, false, false, false] rfl rfl (any_of HT_.out (by kernel_rfl)) (fun _ _ _ h => h) (Or.inl ⟨by rfl, ?_⟩) ?_ ?_
                              rotate_left
                              · intro w'
                                go_simp
                                with_reducible rfl
                              rotate_left
                              · simp only [Act.put, List.setIfInBounds_toArray, List.set_cons_zero, List.set_cons_succ, i64_w, i32_w]
                                rfl
                              refine one_ (i := 46) (N := some 128) #[true, true, true, true, true, true, true, true, true, true, true, true, true, true, true, true, true, true, true, true, true, true, true, true, true, true, true, true, true, true, true, true, true, true, true, true, true, true, true, true, true, true, true, true, true, true, true, true, true, true, false, true, false, false, false, false] rfl rfl (one_of HT_.out (by kernel_rfl)) (by decide) (fun K hK => ?_)
                              refine goes_ Try.func38 (by kernel_rfl) rfl #[.slice (some ad128) l0_3.length c0_3] (by rfl) rfl rfl (by (try simp only [List.map_toArray, List.map_cons, List.map_nil]); first | done | rfl | (simp only [List.length_drop, List.length_take]; rfl)) ?_
                              with_reducible refine (sched_Shared.calls _ _ l0_3 t157 _ ?side1 ?side2 A40.out).mono ?_
                              (case side1 => repeat (first | exact (Kd.C_below HR0_3.out (by repeat (first | (with_reducible first | exact HB.out | apply below_alloc | apply pw_below_drewN | apply below_drew1 | refine below_set ?_ GE101.out | refine below_set ?_ GE120.out) | exact HB.out))) | (with_reducible refine Kd.C_alloc ?_ _) | (with_reducible refine Kd.C_drewN ?_ _) | (with_reducible refine Kd.C_drew ?_)))
                              (case side2 => exact HC0_3.out)
                              rintro e w75 ⟨v158, rfl, ho0, hb⟩
                              refine ⟨_, rfl, ?_⟩
                              have n0_ := Aside0.mk (Kd.R_elder' (by (with_reducible repeat (first | apply Kd.R_alloc | apply Kd.R_drewN | apply Kd.R_drew)); exact HO106.out) (Kd.R_base ho0) hb)
                              have n1_ := Aside0.mk (Kd.R_elder' (by (with_reducible repeat (first | apply Kd.R_alloc | apply Kd.R_drewN | apply Kd.R_drew)); exact HO109.out) (Kd.R_base ho0) hb)
                              have n2_ := Aside0.mk (Kd.R_elder' (by (with_reducible repeat (first | apply Kd.R_alloc | apply Kd.R_drewN | apply Kd.R_drew)); exact HO112.out) (Kd.R_base ho0) hb)
                              have n3_ := Aside0.mk (Kd.R_elder' (by (with_reducible repeat (first | apply Kd.R_alloc | apply Kd.R_drewN | apply Kd.R_drew)); exact HO115.out) (Kd.R_base ho0) hb)
                              have n4_ := Aside0.mk (Kd.R_elder' (by (with_reducible repeat (first | apply Kd.R_alloc | apply Kd.R_drewN | apply Kd.R_drew)); exact HO118.out) (Kd.R_base ho0) hb)
                              have n5_ := Aside0.mk (Kd.R_elder' (by (with_reducible repeat (first | apply Kd.R_alloc | apply Kd.R_drewN | apply Kd.R_drew)); exact HO123.out) (Kd.R_base ho0) hb)
                              have n6_ := Aside0.mk (Kd.R_elder' (by (with_reducible repeat (first | apply Kd.R_alloc | apply Kd.R_drewN | apply Kd.R_drew)); exact HO127.out) (Kd.R_base ho0) hb)
                              have n7_ := Aside0.mk (Kd.R_elder' (by (with_reducible repeat (first | apply Kd.R_alloc | apply Kd.R_drewN | apply Kd.R_drew)); exact HO131.out) (Kd.R_base ho0) hb)
                              have n8_ := Aside0.mk (Kd.R_elder' (by (with_reducible repeat (first | apply Kd.R_alloc | apply Kd.R_drewN | apply Kd.R_drew)); exact HO135.out) (Kd.R_base ho0) hb)
                              have n9_ := Aside0.mk (Kd.R_elder' (by (with_reducible repeat (first | apply Kd.R_alloc | apply Kd.R_drewN | apply Kd.R_drew)); exact HO139.out) (Kd.R_base ho0) hb)
                              have n10_ := Aside0.mk (Kd.R_elder' (by (with_reducible repeat (first | apply Kd.R_alloc | apply Kd.R_drewN | apply Kd.R_drew)); exact HO143.out) (Kd.R_base ho0) hb)
                              have n11_ := Aside0.mk (Kd.R_elder' (by (with_reducible repeat (first | apply Kd.R_alloc | apply Kd.R_drewN | apply Kd.R_drew)); exact HO147.out) (Kd.R_base ho0) hb)
                              have n12_ := Aside0.mk (Kd.R_elder' (by (with_reducible repeat (first | apply Kd.R_alloc | apply Kd.R_drewN | apply Kd.R_drew)); exact HO151.out) (Kd.R_base ho0) hb)
                              have n13_ := Aside0.mk (Kd.R_elder' (by (with_reducible repeat (first | apply Kd.R_alloc | apply Kd.R_drewN | apply Kd.R_drew)); exact HO155.out) (Kd.R_base ho0) hb)
                              have n14_ := Aside0.mk (Kd.R_lower (Kd.R_new' (Kd.R_new' (Kd.R_new' (Kd.R_new' (Kd.R_new' (Kd.R_new' (Kd.R_new' (Kd.R_new' (Kd.R_new' (Kd.R_new' (Kd.R_new' (Kd.R_new' (Kd.R_new' (Kd.R_new' ho0 (Kd.R_lt (by (with_reducible repeat (first | apply Kd.R_alloc | apply Kd.R_drewN | apply Kd.R_drew)); exact HO106.out))) (Kd.R_lt (by (with_reducible repeat (first | apply Kd.R_alloc | apply Kd.R_drewN | apply Kd.R_drew)); exact HO109.out))) (Kd.R_lt (by (with_reducible repeat (first | apply Kd.R_alloc | apply Kd.R_drewN | apply Kd.R_drew)); exact HO112.out))) (Kd.R_lt (by (with_reducible repeat (first | apply Kd.R_alloc | apply Kd.R_drewN | apply Kd.R_drew)); exact HO115.out))) (Kd.R_lt (by (with_reducible repeat (first | apply Kd.R_alloc | apply Kd.R_drewN | apply Kd.R_drew)); exact HO118.out))) (Kd.R_lt (by (with_reducible repeat (first | apply Kd.R_alloc | apply Kd.R_drewN | apply Kd.R_drew)); exact HO123.out))) (Kd.R_lt (by (with_reducible repeat (first | apply Kd.R_alloc | apply Kd.R_drewN | apply Kd.R_drew)); exact HO127.out))) (Kd.R_lt (by (with_reducible repeat (first | apply Kd.R_alloc | apply Kd.R_drewN | apply Kd.R_drew)); exact HO131.out))) (Kd.R_lt (by (with_reducible repeat (first | apply Kd.R_alloc | apply Kd.R_drewN | apply Kd.R_drew)); exact HO135.out))) (Kd.R_lt (by (with_reducible repeat (first | apply Kd.R_alloc | apply Kd.R_drewN | apply Kd.R_drew)); exact HO139.out))) (Kd.R_lt (by (with_reducible repeat (first | apply Kd.R_alloc | apply Kd.R_drewN | apply Kd.R_drew)); exact HO143.out))) (Kd.R_lt (by (with_reducible repeat (first | apply Kd.R_alloc | apply Kd.R_drewN | apply Kd.R_drew)); exact HO147.out))) (Kd.R_lt (by (with_reducible repeat (first | apply Kd.R_alloc | apply Kd.R_drewN | apply Kd.R_drew)); exact HO151.out))) (Kd.R_lt (by (with_reducible repeat (first | apply Kd.R_alloc | apply Kd.R_drewN | apply Kd.R_drew)); exact HO155.out))) (below_size (by repeat (first | (with_reducible first | exact HB.out | apply below_alloc | apply pw_below_drewN | apply below_drew1 | refine below_set ?_ GE101.out | refine below_set ?_ GE120.out) | exact HB.out))))
                              have n15_ := Aside0.mk (blk_below (g := gb101) (o := .cells #[.slice A0_0 l0_0.length c0_0, .slice A0_1 l0_1.length c0_1, .slice A0_2 l0_2.length c0_2, .slice (some ad128) l0_3.length c0_3] 77 (0, 0)) (by (with_reducible repeat (first | refine blk_drewN ?_ _ | refine blk_drew ?_ | refine blk_alloc ?_ _)); exact BK101.out) hb)
                              have n16_ := Aside0.mk (blk_below (g := gb120) (o := .cells #[.slice Ao48 t104.length co48, .slice Ao51 t107.length co51, .slice Ao52 t110.length co52, .slice Ao53 t113.length co53, .slice Ao54 t116.length co54] 60 (0, 0)) (by (with_reducible repeat (first | refine blk_drewN ?_ _ | refine blk_drew ?_ | refine blk_alloc ?_ _)); exact BK120.out) hb)
                              have n17_ := Aside0.mk (below_step (by repeat (first | (with_reducible first | exact HB.out | apply below_alloc | apply pw_below_drewN | apply below_drew1 | refine below_set ?_ GE101.out | refine below_set ?_ GE120.out) | exact HB.out)) hb)
                              clear HO106
                              clear HO109
                              clear HO112
                              clear HO115
                              clear HO118
                              clear HO123
                              clear HO127
                              clear HO131
                              clear HO135
                              clear HO139
                              clear HO143
                              clear HO147
                              clear HO151
                              clear HO155
                              clear BK101
                              clear BK120
                              clear HB
                              have HO106 := n0_
                              have HO109 := n1_
                              have HO112 := n2_
                              have HO115 := n3_
                              have HO118 := n4_
                              have HO123 := n5_
                              have HO127 := n6_
                              have HO131 := n7_
                              have HO135 := n8_
                              have HO139 := n9_
                              have HO143 := n10_
                              have HO147 := n11_
                              have HO151 := n12_
                              have HO155 := n13_
                              have HO159 := n14_
                              have BK101 := n15_
                              have BK120 := n16_
                              have HB := n17_
                              clear n0_ n1_ n2_ n3_ n4_ n5_ n6_ n7_ n8_ n9_ n10_ n11_ n12_ n13_ n14_ n15_ n16_ n17_
                              (try clear hb)
                              (try clear hb2)
                              (try clear hk)
                              (try clear hi)
                              (try clear ho0)
                              have q76 : ((ji17) : Int) ≤ ((l0_3.length : Int) : Int) := of_decide_eq_true (by first | (with_reducible assumption) | assumption)
                              obtain ⟨i076, hi076, _, hsz76, _⟩ := info_parts info22
                              have hroom76 : l0_3.length ≤ c0_3 := HC0_3.out
                              have hC76 : Kd.C (Kd.slice 5 (Kd.int .u8)) _ (some ad128) l0_3.length l0_3 := HR0_3.out
                              have hcut76 := cut_to (P := Try.prog) 51 22 .i64 Try.underlying51 hi076 (some ad128) l0_3.length c0_3 (ji17) (of_decide_eq_true (by first | (with_reducible assumption) | assumption)) q76 hroom76
                              have hr76 := Kd.C_take (m := ((ji17) : Int).toNat) hC76 (by omega)
                              have hy76 : y160.length = ((ji17) : Int).toNat := (by rw [Ny160.out, List.length_take]; omega)
                              rw [← Ny160.out] at hr76
                              rw [← hy76] at hcut76
                              have HR163 := Aside0.mk hr76
                              have HC163 := Aside0.mk (show y160.length ≤ c0_3 from by omega)
                              clear hr76 hC76 hroom76 hi076 hsz76
                              have KY76 := Aside0.mk hy76
                              clear hy76
                              replace q76 := eq_true q76
                              refine hK.out _ _ ⟨(blk_cell BK120.out 0).trans rfl, (blk_cell BK120.out 1).trans rfl, (blk_cell BK120.out 2).trans rfl, (blk_cell BK120.out 3).trans rfl, (blk_cell BK120.out 4).trans rfl⟩ (fun hHeld => ?_)
                              clear hK K
                              refine norm_ (a' := ?_) ?_ ?_
                              rotate_left
                              · show Act.put _ (some 128) _ = _
                                simp only [Act.put, List.setIfInBounds_toArray, List.set_cons_zero, List.set_cons_succ, i64_w, i32_w]
                                rfl
                              refine one_ (i := 50) (N := some 132) #[true, true, true, true, true, true, true, true, true, true, true, true, true, true, true, true, true, true, true, true, true, true, true, true, true, true, true, true, true, true, true, true, true, true, true, true, true, true, true, true, true, true, true, true, true, true, true, true, true, true, true, true, false, false, false, false] rfl rfl (one_of HT_.out (by kernel_rfl)) (by decide) (fun K hK => ?_)
                              refine goes_ Try.func38 (by kernel_rfl) rfl #[.slice (some ad128) y160.length c0_3] (by rfl) rfl rfl (by have e_ : y160.length = ji17.toNat := (by rw [Ny160.out, List.length_take]; have := of_decide_eq_true c42b1; omega); rw [e_]; (try simp only [List.map_toArray, List.map_cons, List.map_nil]); first | done | rfl) ?_
                              with_reducible refine (sched_Shared.calls _ _ y160 t164 _ ?side1 ?side2 A43.out).mono ?_
                              (case side1 => repeat (first | exact (Kd.C_below HR163.out HB.out) | (with_reducible refine Kd.C_alloc ?_ _) | (with_reducible refine Kd.C_drewN ?_ _) | (with_reducible refine Kd.C_drew ?_)))
                              (case side2 => exact HC163.out)
                              rintro e w77 ⟨v165, rfl, ho0, hb⟩
                              refine ⟨_, rfl, ?_⟩
                              have n0_ := Aside0.mk (Kd.R_elder' (by (with_reducible repeat (first | apply Kd.R_alloc | apply Kd.R_drewN | apply Kd.R_drew)); exact HO106.out) (Kd.R_base ho0) hb)
                              have n1_ := Aside0.mk (Kd.R_elder' (by (with_reducible repeat (first | apply Kd.R_alloc | apply Kd.R_drewN | apply Kd.R_drew)); exact HO109.out) (Kd.R_base ho0) hb)
                              have n2_ := Aside0.mk (Kd.R_elder' (by (with_reducible repeat (first | apply Kd.R_alloc | apply Kd.R_drewN | apply Kd.R_drew)); exact HO112.out) (Kd.R_base ho0) hb)
                              have n3_ := Aside0.mk (Kd.R_elder' (by (with_reducible repeat (first | apply Kd.R_alloc | apply Kd.R_drewN | apply Kd.R_drew)); exact HO115.out) (Kd.R_base ho0) hb)
                              have n4_ := Aside0.mk (Kd.R_elder' (by (with_reducible repeat (first | apply Kd.R_alloc | apply Kd.R_drewN | apply Kd.R_drew)); exact HO118.out) (Kd.R_base ho0) hb)
                              have n5_ := Aside0.mk (Kd.R_elder' (by (with_reducible repeat (first | apply Kd.R_alloc | apply Kd.R_drewN | apply Kd.R_drew)); exact HO123.out) (Kd.R_base ho0) hb)
                              have n6_ := Aside0.mk (Kd.R_elder' (by (with_reducible repeat (first | apply Kd.R_alloc | apply Kd.R_drewN | apply Kd.R_drew)); exact HO127.out) (Kd.R_base ho0) hb)
                              have n7_ := Aside0.mk (Kd.R_elder' (by (with_reducible repeat (first | apply Kd.R_alloc | apply Kd.R_drewN | apply Kd.R_drew)); exact HO131.out) (Kd.R_base ho0) hb)
                              have n8_ := Aside0.mk (Kd.R_elder' (by (with_reducible repeat (first | apply Kd.R_alloc | apply Kd.R_drewN | apply Kd.R_drew)); exact HO135.out) (Kd.R_base ho0) hb)
                              have n9_ := Aside0.mk (Kd.R_elder' (by (with_reducible repeat (first | apply Kd.R_alloc | apply Kd.R_drewN | apply Kd.R_drew)); exact HO139.out) (Kd.R_base ho0) hb)
                              have n10_ := Aside0.mk (Kd.R_elder' (by (with_reducible repeat (first | apply Kd.R_alloc | apply Kd.R_drewN | apply Kd.R_drew)); exact HO143.out) (Kd.R_base ho0) hb)
                              have n11_ := Aside0.mk (Kd.R_elder' (by (with_reducible repeat (first | apply Kd.R_alloc | apply Kd.R_drewN | apply Kd.R_drew)); exact HO147.out) (Kd.R_base ho0) hb)
                              have n12_ := Aside0.mk (Kd.R_elder' (by (with_reducible repeat (first | apply Kd.R_alloc | apply Kd.R_drewN | apply Kd.R_drew)); exact HO151.out) (Kd.R_base ho0) hb)
                              have n13_ := Aside0.mk (Kd.R_elder' (by (with_reducible repeat (first | apply Kd.R_alloc | apply Kd.R_drewN | apply Kd.R_drew)); exact HO155.out) (Kd.R_base ho0) hb)
                              have n14_ := Aside0.mk (Kd.R_elder' (by (with_reducible repeat (first | apply Kd.R_alloc | apply Kd.R_drewN | apply Kd.R_drew)); exact HO159.out) (Kd.R_base ho0) hb)
                              have n15_ := Aside0.mk (Kd.R_lower (Kd.R_new' (Kd.R_new' (Kd.R_new' (Kd.R_new' (Kd.R_new' (Kd.R_new' (Kd.R_new' (Kd.R_new' (Kd.R_new' (Kd.R_new' (Kd.R_new' (Kd.R_new' (Kd.R_new' (Kd.R_new' (Kd.R_new' ho0 (Kd.R_lt (by (with_reducible repeat (first | apply Kd.R_alloc | apply Kd.R_drewN | apply Kd.R_drew)); exact HO106.out))) (Kd.R_lt (by (with_reducible repeat (first | apply Kd.R_alloc | apply Kd.R_drewN | apply Kd.R_drew)); exact HO109.out))) (Kd.R_lt (by (with_reducible repeat (first | apply Kd.R_alloc | apply Kd.R_drewN | apply Kd.R_drew)); exact HO112.out))) (Kd.R_lt (by (with_reducible repeat (first | apply Kd.R_alloc | apply Kd.R_drewN | apply Kd.R_drew)); exact HO115.out))) (Kd.R_lt (by (with_reducible repeat (first | apply Kd.R_alloc | apply Kd.R_drewN | apply Kd.R_drew)); exact HO118.out))) (Kd.R_lt (by (with_reducible repeat (first | apply Kd.R_alloc | apply Kd.R_drewN | apply Kd.R_drew)); exact HO123.out))) (Kd.R_lt (by (with_reducible repeat (first | apply Kd.R_alloc | apply Kd.R_drewN | apply Kd.R_drew)); exact HO127.out))) (Kd.R_lt (by (with_reducible repeat (first | apply Kd.R_alloc | apply Kd.R_drewN | apply Kd.R_drew)); exact HO131.out))) (Kd.R_lt (by (with_reducible repeat (first | apply Kd.R_alloc | apply Kd.R_drewN | apply Kd.R_drew)); exact HO135.out))) (Kd.R_lt (by (with_reducible repeat (first | apply Kd.R_alloc | apply Kd.R_drewN | apply Kd.R_drew)); exact HO139.out))) (Kd.R_lt (by (with_reducible repeat (first | apply Kd.R_alloc | apply Kd.R_drewN | apply Kd.R_drew)); exact HO143.out))) (Kd.R_lt (by (with_reducible repeat (first | apply Kd.R_alloc | apply Kd.R_drewN | apply Kd.R_drew)); exact HO147.out))) (Kd.R_lt (by (with_reducible repeat (first | apply Kd.R_alloc | apply Kd.R_drewN | apply Kd.R_drew)); exact HO151.out))) (Kd.R_lt (by (with_reducible repeat (first | apply Kd.R_alloc | apply Kd.R_drewN | apply Kd.R_drew)); exact HO155.out))) (Kd.R_lt (by (with_reducible repeat (first | apply Kd.R_alloc | apply Kd.R_drewN | apply Kd.R_drew)); exact HO159.out))) (below_size (by repeat (first | (with_reducible first | exact HB.out | apply below_alloc | apply pw_below_drewN | apply below_drew1 | refine below_set ?_ GE101.out | refine below_set ?_ GE120.out) | exact HB.out))))
                              have n16_ := Aside0.mk (blk_below (g := gb101) (o := .cells #[.slice A0_0 l0_0.length c0_0, .slice A0_1 l0_1.length c0_1, .slice A0_2 l0_2.length c0_2, .slice (some ad128) l0_3.length c0_3] 77 (0, 0)) (by (with_reducible repeat (first | refine blk_drewN ?_ _ | refine blk_drew ?_ | refine blk_alloc ?_ _)); exact BK101.out) hb)
                              have n17_ := Aside0.mk (blk_below (g := gb120) (o := .cells #[.slice Ao48 t104.length co48, .slice Ao51 t107.length co51, .slice Ao52 t110.length co52, .slice Ao53 t113.length co53, .slice Ao54 t116.length co54] 60 (0, 0)) (by (with_reducible repeat (first | refine blk_drewN ?_ _ | refine blk_drew ?_ | refine blk_alloc ?_ _)); exact BK120.out) hb)
                              have n18_ := Aside0.mk (below_step (by repeat (first | (with_reducible first | exact HB.out | apply below_alloc | apply pw_below_drewN | apply below_drew1 | refine below_set ?_ GE101.out | refine below_set ?_ GE120.out) | exact HB.out)) hb)
                              clear HO106
                              clear HO109
                              clear HO112
                              clear HO115
                              clear HO118
                              clear HO123
                              clear HO127
                              clear HO131
                              clear HO135
                              clear HO139
                              clear HO143
                              clear HO147
                              clear HO151
                              clear HO155
                              clear HO159
                              clear BK101
                              clear BK120
                              clear HB
                              have HO106 := n0_
                              have HO109 := n1_
                              have HO112 := n2_
                              have HO115 := n3_
                              have HO118 := n4_
                              have HO123 := n5_
                              have HO127 := n6_
                              have HO131 := n7_
                              have HO135 := n8_
                              have HO139 := n9_
                              have HO143 := n10_
                              have HO147 := n11_
                              have HO151 := n12_
                              have HO155 := n13_
                              have HO159 := n14_
                              have HO166 := n15_
                              have BK101 := n16_
                              have BK120 := n17_
                              have HB := n18_
                              clear n0_ n1_ n2_ n3_ n4_ n5_ n6_ n7_ n8_ n9_ n10_ n11_ n12_ n13_ n14_ n15_ n16_ n17_ n18_
                              (try clear hb)
                              (try clear hb2)
                              (try clear hk)
                              (try clear hi)
                              (try clear ho0)
                              obtain ⟨Ao78, co78, eo78⟩ := Kd.R_slice HO166.out
                              (first | subst eo78 | (injection eo78 with f1_ f2_ f3_; have f4_ := f1_.symm; have f5_ := f3_.symm; clear f1_ f2_ f3_; subst f4_; subst f5_))
                              obtain ⟨Ao79, co79, eo79⟩ := Kd.R_slice HO135.out
                              (first | subst eo79 | (injection eo79 with f1_ f2_ f3_; have f4_ := f1_.symm; have f5_ := f3_.symm; clear f1_ f2_ f3_; subst f4_; subst f5_))
                              refine hK.out _ _ ⟨(blk_cell BK120.out 0).trans rfl, (blk_cell BK120.out 1).trans rfl, (blk_cell BK120.out 2).trans rfl, (blk_cell BK120.out 3).trans rfl, (blk_cell BK120.out 4).trans rfl⟩ (fun hHeld => ?_)
                              clear hK K
                              refine norm_ (a' := ?_) ?_ ?_
                              rotate_left
                              · show Act.put _ (some 132) _ = _
                                simp only [Act.put, List.setIfInBounds_toArray, List.set_cons_zero, List.set_cons_succ, i64_w, i32_w]
                                rfl
                              refine one_ (i := 52) (N := some 134) #[true, true, true, true, true, true, true, true, true, true, true, true, true, true, true, true, true, true, true, true, true, true, true, true, true, true, true, true, true, true, true, true, true, true, true, true, true, true, true, true, true, true, true, true, true, true, true, true, true, true, true, true, true, false, false, false] rfl rfl (one_of HT_.out (by kernel_rfl)) (by decide) (fun K hK => ?_)
                              refine goes_ Try.func24 (by kernel_rfl) rfl #[.slice Ao78 t164.length co78, .slice Ao79 t132.length co79] (by rfl) rfl rfl (by (try simp only [List.map_toArray, List.map_cons, List.map_nil]); first | done | rfl | (simp only [List.length_drop, List.length_take]; rfl)) ?_
                              with_reducible refine (pyxref04_Extract.calls _ _ t164 _ _ t132 t167 _ ?side1 ?side2 ?side3 ?side4 A44.out).mono ?_
                              (case side1 => repeat (first | exact (Kd.R_reads' HO166.out).2.2 | (with_reducible refine Kd.C_alloc ?_ _) | (with_reducible refine Kd.C_drewN ?_ _) | (with_reducible refine Kd.C_drew ?_)))
                              (case side2 => exact (Kd.R_reads' HO166.out).2.1)
                              (case side3 => repeat (first | exact (Kd.R_reads' HO135.out).2.2 | (with_reducible refine Kd.C_alloc ?_ _) | (with_reducible refine Kd.C_drewN ?_ _) | (with_reducible refine Kd.C_drew ?_)))
                              (case side4 => exact (Kd.R_reads' HO135.out).2.1)
                              rintro e w80 ⟨v168, rfl, ho0, hb⟩
                              refine ⟨_, rfl, ?_⟩
                              have n0_ := Aside0.mk (Kd.R_elder' (by (with_reducible repeat (first | apply Kd.R_alloc | apply Kd.R_drewN | apply Kd.R_drew)); exact HO106.out) (Kd.R_base ho0) hb)
                              have n1_ := Aside0.mk (Kd.R_elder' (by (with_reducible repeat (first | apply Kd.R_alloc | apply Kd.R_drewN | apply Kd.R_drew)); exact HO109.out) (Kd.R_base ho0) hb)
                              have n2_ := Aside0.mk (Kd.R_elder' (by (with_reducible repeat (first | apply Kd.R_alloc | apply Kd.R_drewN | apply Kd.R_drew)); exact HO112.out) (Kd.R_base ho0) hb)
                              have n3_ := Aside0.mk (Kd.R_elder' (by (with_reducible repeat (first | apply Kd.R_alloc | apply Kd.R_drewN | apply Kd.R_drew)); exact HO115.out) (Kd.R_base ho0) hb)
                              have n4_ := Aside0.mk (Kd.R_elder' (by (with_reducible repeat (first | apply Kd.R_alloc | apply Kd.R_drewN | apply Kd.R_drew)); exact HO118.out) (Kd.R_base ho0) hb)
                              have n5_ := Aside0.mk (Kd.R_elder' (by (with_reducible repeat (first | apply Kd.R_alloc | apply Kd.R_drewN | apply Kd.R_drew)); exact HO123.out) (Kd.R_base ho0) hb)
                              have n6_ := Aside0.mk (Kd.R_elder' (by (with_reducible repeat (first | apply Kd.R_alloc | apply Kd.R_drewN | apply Kd.R_drew)); exact HO127.out) (Kd.R_base ho0) hb)
                              have n7_ := Aside0.mk (Kd.R_elder' (by (with_reducible repeat (first | apply Kd.R_alloc | apply Kd.R_drewN | apply Kd.R_drew)); exact HO131.out) (Kd.R_base ho0) hb)
                              have n8_ := Aside0.mk (Kd.R_elder' (by (with_reducible repeat (first | apply Kd.R_alloc | apply Kd.R_drewN | apply Kd.R_drew)); exact HO135.out) (Kd.R_base ho0) hb)
                              have n9_ := Aside0.mk (Kd.R_elder' (by (with_reducible repeat (first | apply Kd.R_alloc | apply Kd.R_drewN | apply Kd.R_drew)); exact HO139.out) (Kd.R_base ho0) hb)
                              have n10_ := Aside0.mk (Kd.R_elder' (by (with_reducible repeat (first | apply Kd.R_alloc | apply Kd.R_drewN | apply Kd.R_drew)); exact HO143.out) (Kd.R_base ho0) hb)
                              have n11_ := Aside0.mk (Kd.R_elder' (by (with_reducible repeat (first | apply Kd.R_alloc | apply Kd.R_drewN | apply Kd.R_drew)); exact HO147.out) (Kd.R_base ho0) hb)
                              have n12_ := Aside0.mk (Kd.R_elder' (by (with_reducible repeat (first | apply Kd.R_alloc | apply Kd.R_drewN | apply Kd.R_drew)); exact HO151.out) (Kd.R_base ho0) hb)
                              have n13_ := Aside0.mk (Kd.R_elder' (by (with_reducible repeat (first | apply Kd.R_alloc | apply Kd.R_drewN | apply Kd.R_drew)); exact HO155.out) (Kd.R_base ho0) hb)
                              have n14_ := Aside0.mk (Kd.R_elder' (by (with_reducible repeat (first | apply Kd.R_alloc | apply Kd.R_drewN | apply Kd.R_drew)); exact HO159.out) (Kd.R_base ho0) hb)
                              have n15_ := Aside0.mk (Kd.R_elder' (by (with_reducible repeat (first | apply Kd.R_alloc | apply Kd.R_drewN | apply Kd.R_drew)); exact HO166.out) (Kd.R_base ho0) hb)
                              have n16_ := Aside0.mk (Kd.R_lower (Kd.R_new' (Kd.R_new' (Kd.R_new' (Kd.R_new' (Kd.R_new' (Kd.R_new' (Kd.R_new' (Kd.R_new' (Kd.R_new' (Kd.R_new' (Kd.R_new' (Kd.R_new' (Kd.R_new' (Kd.R_new' (Kd.R_new' (Kd.R_new' ho0 (Kd.R_lt (by (with_reducible repeat (first | apply Kd.R_alloc | apply Kd.R_drewN | apply Kd.R_drew)); exact HO106.out))) (Kd.R_lt (by (with_reducible repeat (first | apply Kd.R_alloc | apply Kd.R_drewN | apply Kd.R_drew)); exact HO109.out))) (Kd.R_lt (by (with_reducible repeat (first | apply Kd.R_alloc | apply Kd.R_drewN | apply Kd.R_drew)); exact HO112.out))) (Kd.R_lt (by (with_reducible repeat (first | apply Kd.R_alloc | apply Kd.R_drewN | apply Kd.R_drew)); exact HO115.out))) (Kd.R_lt (by (with_reducible repeat (first | apply Kd.R_alloc | apply Kd.R_drewN | apply Kd.R_drew)); exact HO118.out))) (Kd.R_lt (by (with_reducible repeat (first | apply Kd.R_alloc | apply Kd.R_drewN | apply Kd.R_drew)); exact HO123.out))) (Kd.R_lt (by (with_reducible repeat (first | apply Kd.R_alloc | apply Kd.R_drewN | apply Kd.R_drew)); exact HO127.out))) (Kd.R_lt (by (with_reducible repeat (first | apply Kd.R_alloc | apply Kd.R_drewN | apply Kd.R_drew)); exact HO131.out))) (Kd.R_lt (by (with_reducible repeat (first | apply Kd.R_alloc | apply Kd.R_drewN | apply Kd.R_drew)); exact HO135.out))) (Kd.R_lt (by (with_reducible repeat (first | apply Kd.R_alloc | apply Kd.R_drewN | apply Kd.R_drew)); exact HO139.out))) (Kd.R_lt (by (with_reducible repeat (first | apply Kd.R_alloc | apply Kd.R_drewN | apply Kd.R_drew)); exact HO143.out))) (Kd.R_lt (by (with_reducible repeat (first | apply Kd.R_alloc | apply Kd.R_drewN | apply Kd.R_drew)); exact HO147.out))) (Kd.R_lt (by (with_reducible repeat (first | apply Kd.R_alloc | apply Kd.R_drewN | apply Kd.R_drew)); exact HO151.out))) (Kd.R_lt (by (with_reducible repeat (first | apply Kd.R_alloc | apply Kd.R_drewN | apply Kd.R_drew)); exact HO155.out))) (Kd.R_lt (by (with_reducible repeat (first | apply Kd.R_alloc | apply Kd.R_drewN | apply Kd.R_drew)); exact HO159.out))) (Kd.R_lt (by (with_reducible repeat (first | apply Kd.R_alloc | apply Kd.R_drewN | apply Kd.R_drew)); exact HO166.out))) (below_size (by repeat (first | (with_reducible first | exact HB.out | apply below_alloc | apply pw_below_drewN | apply below_drew1 | refine below_set ?_ GE101.out | refine below_set ?_ GE120.out) | exact HB.out))))
                              have n17_ := Aside0.mk (blk_below (g := gb101) (o := .cells #[.slice A0_0 l0_0.length c0_0, .slice A0_1 l0_1.length c0_1, .slice A0_2 l0_2.length c0_2, .slice (some ad128) l0_3.length c0_3] 77 (0, 0)) (by (with_reducible repeat (first | refine blk_drewN ?_ _ | refine blk_drew ?_ | refine blk_alloc ?_ _)); exact BK101.out) hb)
                              have n18_ := Aside0.mk (blk_below (g := gb120) (o := .cells #[.slice Ao48 t104.length co48, .slice Ao51 t107.length co51, .slice Ao52 t110.length co52, .slice Ao53 t113.length co53, .slice Ao54 t116.length co54] 60 (0, 0)) (by (with_reducible repeat (first | refine blk_drewN ?_ _ | refine blk_drew ?_ | refine blk_alloc ?_ _)); exact BK120.out) hb)
                              have n19_ := Aside0.mk (below_step (by repeat (first | (with_reducible first | exact HB.out | apply below_alloc | apply pw_below_drewN | apply below_drew1 | refine below_set ?_ GE101.out | refine below_set ?_ GE120.out) | exact HB.out)) hb)
                              clear HO106
                              clear HO109
                              clear HO112
                              clear HO115
                              clear HO118
                              clear HO123
                              clear HO127
                              clear HO131
                              clear HO135
                              clear HO139
                              clear HO143
                              clear HO147
                              clear HO151
                              clear HO155
                              clear HO159
                              clear HO166
                              clear BK101
                              clear BK120
                              clear HB
                              have HO106 := n0_
                              have HO109 := n1_
                              have HO112 := n2_
                              have HO115 := n3_
                              have HO118 := n4_
                              have HO123 := n5_
                              have HO127 := n6_
                              have HO131 := n7_
                              have HO135 := n8_
                              have HO139 := n9_
                              have HO143 := n10_
                              have HO147 := n11_
                              have HO151 := n12_
                              have HO155 := n13_
                              have HO159 := n14_
                              have HO166 := n15_
                              have HO169 := n16_
                              have BK101 := n17_
                              have BK120 := n18_
                              have HB := n19_
                              clear n0_ n1_ n2_ n3_ n4_ n5_ n6_ n7_ n8_ n9_ n10_ n11_ n12_ n13_ n14_ n15_ n16_ n17_ n18_ n19_
                              (try clear hb)
                              (try clear hb2)
                              (try clear hk)
                              (try clear hi)
                              (try clear ho0)
                              obtain ⟨Ao81, co81, eo81⟩ := Kd.R_slice HO159.out
                              (first | subst eo81 | (injection eo81 with f1_ f2_ f3_; have f4_ := f1_.symm; have f5_ := f3_.symm; clear f1_ f2_ f3_; subst f4_; subst f5_))
                              obtain ⟨Ao82, co82, eo82⟩ := Kd.R_slice HO169.out
                              (first | subst eo82 | (injection eo82 with f1_ f2_ f3_; have f4_ := f1_.symm; have f5_ := f3_.symm; clear f1_ f2_ f3_; subst f4_; subst f5_))
                              refine hK.out _ _ ⟨(blk_cell BK120.out 0).trans rfl, (blk_cell BK120.out 1).trans rfl, (blk_cell BK120.out 2).trans rfl, (blk_cell BK120.out 3).trans rfl, (blk_cell BK120.out 4).trans rfl⟩ (fun hHeld => ?_)
                              clear hK K
                              refine norm_ (a' := ?_) ?_ ?_
                              rotate_left
                              · show Act.put _ (some 134) _ = _
                                simp only [Act.put, List.setIfInBounds_toArray, List.set_cons_zero, List.set_cons_succ, i64_w, i32_w]
                                rfl
                              refine one_ (i := 53) (N := some 135) #[true, true, true, true, true, true, true, true, true, true, true, true, true, true, true, true, true, true, true, true, true, true, true, true, true, true, true, true, true, true, true, true, true, true, true, true, true, true, true, true, true, true, true, true, true, true, true, true, true, true, true, true, true, true, false, false] rfl rfl (one_of HT_.out (by kernel_rfl)) (by decide) (fun K hK => ?_)
                              refine goes_ Try.func22 (by kernel_rfl) rfl #[.slice Ao81 t157.length co81, .slice Ao82 t167.length co82] (by rfl) rfl rfl (by (try simp only [List.map_toArray, List.map_cons, List.map_nil]); first | done | rfl | (simp only [List.length_drop, List.length_take]; rfl)) ?_
                              with_reducible refine (pyxref01_Same.calls _ _ t157 _ _ t167 t170 _ ?side1 ?side2 ?side3 ?side4 A45.out).mono ?_
                              (case side1 => repeat (first | exact (Kd.R_reads' HO159.out).2.2 | (with_reducible refine Kd.C_alloc ?_ _) | (with_reducible refine Kd.C_drewN ?_ _) | (with_reducible refine Kd.C_drew ?_)))
                              (case side2 => exact (Kd.R_reads' HO159.out).2.1)
                              (case side3 => repeat (first | exact (Kd.R_reads' HO169.out).2.2 | (with_reducible refine Kd.C_alloc ?_ _) | (with_reducible refine Kd.C_drewN ?_ _) | (with_reducible refine Kd.C_drew ?_)))
                              (case side4 => exact (Kd.R_reads' HO169.out).2.1)
                              rintro e w' ⟨rfl, ⟨nd, rfl⟩⟩
                              refine ⟨_, rfl, ?_⟩
                              refine hK.out _ _ ⟨(blk_cell BK120.out 0).trans rfl, (blk_cell BK120.out 1).trans rfl, (blk_cell BK120.out 2).trans rfl, (blk_cell BK120.out 3).trans rfl, (blk_cell BK120.out 4).trans rfl⟩ (fun hHeld => ?_)
                              clear hK K
                              refine norm_ (a' := ?_) ?_ ?_
                              rotate_left
                              · show Act.put _ (some 135) _ = _
                                simp only [Act.put, List.setIfInBounds_toArray, List.set_cons_zero, List.set_cons_succ, i64_w, i32_w]
                                rfl
                              refine pure_ (i := 54) (N := some 136) (v := ?_) (a' := ?_) #[true, true, true, true, true, true, true, true, true, true, true, true, true, true, true, true, true, true, true, true, true, true, true, true, true, true, true, true, true, true, true, true, true, true, true, true, true, true, true, true, true, true, true, true, true, true, true, true, true, true, true, true, true, true, true, false] rfl rfl (any_of HT_.out (by kernel_rfl)) (fun _ _ _ h => h) (Or.inl ⟨by rfl, ?_⟩) ?_ ?_
                              rotate_left
                              · intro w'
                                go_simp
                                with_reducible rfl
                              rotate_left
                              · simp only [Act.put, List.setIfInBounds_toArray, List.set_cons_zero, List.set_cons_succ, i64_w, i32_w]
                                rfl
                              refine pure_ (i := 55) (N := some 2) (v := ?_) (a' := ?_) #[true, true, true, true, true, true, true, true, true, true, true, true, true, true, true, true, true, true, true, true, true, true, true, true, true, true, true, true, true, true, true, true, true, true, true, true, true, true, true, true, true, true, true, true, true, true, true, true, true, true, true, true, true, true, true, true] rfl rfl (any_of HT_.out (by kernel_rfl)) (fun _ _ _ h => h) (Or.inl ⟨by rfl, ?_⟩) ?_ ?_
                              rotate_left
                              · intro w'
                                go_simp
                                with_reducible rfl
                              rotate_left
                              · simp only [Act.put, List.setIfInBounds_toArray, List.set_cons_zero, List.set_cons_succ, i64_w, i32_w]
                                rfl
                              refine done_ (done_of HT_.out (by kernel_rfl)) ?_
                              try go_wp2
                              go_ret
                              exact ⟨by first | rfl | (simp [errW_none, errW_some] <;> rfl) | (simp only [← hji17]; first | rfl | (simp [errW_none, errW_some] <;> rfl)) | (simp [*, errW_none, errW_some] <;> rfl), by repeat (first | (with_reducible first | exact HB.out | apply below_alloc | apply pw_below_drewN | apply below_drew1 | refine below_set ?_ GE101.out | refine below_set ?_ GE120.out) | exact HB.out)⟩
                            · rw [if_neg c42] at H
                              exact absurd H (by simp)
                          · replace c39 := Bool.eq_false_iff.mpr c39
                            subst c39
                            have H1 : (some false) = some true := by rw [if_neg (show ¬ (false = true) by decide)] at H; exact H
                            clear H
                            have H := H1
                            clear H1
                            exact absurd (Option.some.inj H) (by decide)
                        · replace c36 := Bool.eq_false_iff.mpr c36
                          subst c36
                          have H1 : (some false) = some true := by rw [if_neg (show ¬ (false = true) by decide)] at H; exact H
                          clear H
                          have H := H1
                          clear H1
                          exact absurd (Option.some.inj H) (by decide)
                      · replace c33 := Bool.eq_false_iff.mpr c33
                        subst c33
                        have H1 : (some false) = some true := by rw [if_neg (show ¬ (false = true) by decide)] at H; exact H
                        clear H
                        have H := H1
                        clear H1
                        exact absurd (Option.some.inj H) (by decide)
                    · replace c30 := Bool.eq_false_iff.mpr c30
                      subst c30
                      have H1 : (some false) = some true := by rw [if_neg (show ¬ (false = true) by decide)] at H; exact H
                      clear H
                      have H := H1
                      clear H1
                      exact absurd (Option.some.inj H) (by decide)
                  · replace c27 := Bool.eq_false_iff.mpr c27
                    subst c27
                    have H1 : (some false) = some true := by rw [if_neg (show ¬ (false = true) by decide)] at H; exact H
                    clear H
                    have H := H1
                    clear H1
                    exact absurd (Option.some.inj H) (by decide)
                · replace c24 := Bool.eq_false_iff.mpr c24
                  subst c24
                  have H1 : (some false) = some true := by rw [if_neg (show ¬ (false = true) by decide)] at H; exact H
                  clear H
                  have H := H1
                  clear H1
                  exact absurd (Option.some.inj H) (by decide)
              · rw [if_neg c22] at H
                have c22b0 : (t119 == 0) = false := beq_eq_false_iff_ne.mpr c22
                have c22b1 : (t119 != 0) = true := bne_iff_ne.mpr c22
                exact absurd (Option.some.inj H) (by decide)
            · replace c21 := Bool.eq_false_iff.mpr c21
              subst c21
              have H1 : (some false) = some true := by rw [if_neg (show ¬ (false = true) by decide)] at H; exact H
              clear H
              have H := H1
              clear H1
              exact absurd (Option.some.inj H) (by decide)
          · rw [if_neg c19] at H
            exact absurd H (by simp)
        · rw [if_neg c18] at H
          exact absurd H (by simp)

end Go.Proofs.Ytpdgeanicciaiaa.P
