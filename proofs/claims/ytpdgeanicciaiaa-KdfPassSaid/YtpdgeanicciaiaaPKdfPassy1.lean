-- Written by xprint.py, this session's driver over the kit's print.py, out of the translation.
import Derived.Test.YtpdgeanicciaiaaPKdfPassy0
namespace Go.Proofs.Ytpdgeanicciaiaa.P
open Go.RowKit Go.Proofs.YtpdgeanicciaiaaW.PrintWords Go.Proofs.YtpdgeanicciaiaaW.PrintLast Go.Proofs.YtpdgeanicciaiaaW.PrintMore
attribute [local go_sem] max2_int min2_int max_two min_two max_three min_three max_four min_four   -- for this text's walks alone
set_option linter.unusedVariables false
set_option linter.unusedSimpArgs false

-- NOT PRINTED: function 53 (kdf_first)

-- NOT PRINTED: function 56 (byt_Num)

-- NOT PRINTED: function 95 (byt_wide)

-- NOT PRINTED: function 81 (byt_Len)

-- NOT PRINTED: function 57 (byt_Row)

-- NOT PRINTED: function 97 (sha_primes)

-- NOT PRINTED: function 104 (bits_Mul64)

-- NOT PRINTED: function 105 (bits_Add64)

-- NOT PRINTED: function 102 (sha_above)

-- NOT PRINTED: function 98 (sha_root)

-- NOT PRINTED: function 89 (sha_keys)

-- NOT PRINTED: function 90 (sha_Start)

-- NOT PRINTED: function 103 (bits_RotateLeft32)

-- NOT PRINTED: function 100 (sha_turned)

-- NOT PRINTED: function 99 (sha_words)

-- NOT PRINTED: function 91 (sha_mixed)

-- NOT PRINTED: function 92 (sha_Pad)

-- NOT PRINTED: function 70 (sha_Sum)

-- NOT PRINTED: function 88 (slices_Grow_byte_byte)

-- NOT PRINTED: function 64 (slices_Concat_byte_byte)

-- NOT PRINTED: function 80 (mac_joined)

-- NOT PRINTED: function 83 (mac_Key)

-- NOT PRINTED: function 59 (mac_Sum)

-- NOT PRINTED: function 79 (pyxref01_figure)

-- NOT PRINTED: function 74 (pyxref02_Pad)

-- NOT PRINTED: function 75 (pyxref02_keys)

-- NOT PRINTED: function 76 (pyxref02_Start)

-- NOT PRINTED: function 93 (pyxref02_word)

-- NOT PRINTED: function 94 (pyxref02_turn)

-- NOT PRINTED: function 77 (pyxref02_step)

-- NOT PRINTED: function 50 (pyxref02_Sum)

-- NOT PRINTED: function 61 (pyxref03_Key)

-- NOT PRINTED: function 62 (pyxref03_with)

-- NOT PRINTED: function 82 (pyxref01_power)

-- NOT PRINTED: function 58 (pyxref01_Num)

/-! ### pyxlaw04_KdfPass: function 4 -/
def pyxlaw04_KdfPass.j0 : Nat → List Int → List Int → Int → Int → Bool → Bool → Option (Bool)
  | 0, _, _, _, _, _, _ => none
  | k + 1, x3, x4, x5, x6, x7, x44 => if x44 = true then (some x7) else ((kdf_Pass.f x3 x4 x5 x6).bind fun bt103 => ((pyxref04_Pass.f x3 x4 x5 x6).bind fun bt107 => (if x7 = true then ((pyxref01_Same.f bt103.1 bt107.1).bind fun t111 => (if t111 = true then (some (bt103.2 == bt107.2)) else (some false))) else (some false))))
def pyxlaw04_KdfPass.f (k : Nat) (l0_0 : List Int) (l0_1 : List Int) (a0_2 : Int) (a0_3 : Int) : Option (Bool) := (pyxlaw04_shown.f).bind fun t102 => (if (l0_0.length : Int) > 200 then (pyxlaw04_KdfPass.j0 k l0_0 l0_1 a0_2 a0_3 t102 true) else (if (l0_1.length : Int) > 200 then (pyxlaw04_KdfPass.j0 k l0_0 l0_1 a0_2 a0_3 t102 true) else (if a0_2 > 6 then (if a0_2 ≤ 1048576 then (pyxlaw04_KdfPass.j0 k l0_0 l0_1 a0_2 a0_3 t102 true) else (if a0_3 > 100 then (pyxlaw04_KdfPass.j0 k l0_0 l0_1 a0_2 a0_3 t102 (decide (a0_3 ≤ 1024))) else (pyxlaw04_KdfPass.j0 k l0_0 l0_1 a0_2 a0_3 t102 false))) else (if a0_3 > 100 then (pyxlaw04_KdfPass.j0 k l0_0 l0_1 a0_2 a0_3 t102 (decide (a0_3 ≤ 1024))) else (pyxlaw04_KdfPass.j0 k l0_0 l0_1 a0_2 a0_3 t102 false)))))
theorem pyxlaw04_KdfPass.mono_l : ∀ k, (∀ y0 y1 y2 y3 y4 y5, LeO (pyxlaw04_KdfPass.j0 k y0 y1 y2 y3 y4 y5) (pyxlaw04_KdfPass.j0 (k + 1) y0 y1 y2 y3 y4 y5))
  | 0 => fun _ _ _ _ _ _ r h => by simp [pyxlaw04_KdfPass.j0] at h
  | k + 1 => by
    have ih0 := pyxlaw04_KdfPass.mono_l k
    · intro y0 y1 y2 y3 y4 y5
      unfold pyxlaw04_KdfPass.j0
      repeat' first
      | (with_reducible exact ih0 _ _ _ _ _ _)
      | (with_reducible exact LeO.refl _)
      | (with_reducible exact LeO.none _)
      | (with_reducible refine LeO.ite ?_ ?_)
      | (with_reducible refine LeO.bind ?_ (fun _ => ?_))
      | exact ih0 _ _ _ _ _ _
      | exact LeO.none _
      | refine LeO.ite ?_ ?_
      | refine LeO.bind ?_ (fun _ => ?_)
theorem pyxlaw04_KdfPass.mono : ∀ a0 a1 a2 a3 k, LeO (pyxlaw04_KdfPass.f k a0 a1 a2 a3) (pyxlaw04_KdfPass.f (k + 1) a0 a1 a2 a3) := by
  intro a0 a1 a2 a3 k
  have ih0 := pyxlaw04_KdfPass.mono_l k
  unfold pyxlaw04_KdfPass.f
  repeat' first
      | (with_reducible exact ih0 _ _ _ _ _ _)
      | (with_reducible exact LeO.refl _)
      | (with_reducible exact LeO.none _)
      | (with_reducible refine LeO.ite ?_ ?_)
      | (with_reducible refine LeO.bind ?_ (fun _ => ?_))
      | exact ih0 _ _ _ _ _ _
      | exact LeO.none _
      | refine LeO.ite ?_ ?_
      | refine LeO.bind ?_ (fun _ => ?_)
set_option maxHeartbeats 8000000 in
set_option maxRecDepth 100000 in
theorem pyxlaw04_KdfPass.calls (k : Nat) (A0_0 : Option Addr) (c0_0 : Nat) (l0_0 : List Int) (A0_1 : Option Addr) (c0_1 : Nat) (l0_1 : List Int) (a0_2 : Int) (a0_3 : Int) (w : World) (hr0_0 : Kd.C (Kd.int .u8) w A0_0 l0_0.length l0_0) (hc0_0 : l0_0.length ≤ c0_0) (hr0_1 : Kd.C (Kd.int .u8) w A0_1 l0_1.length l0_1) (hc0_1 : l0_1.length ≤ c0_1) (h : pyxlaw04_KdfPass.f k l0_0 l0_1 a0_2 a0_3 = some true) :
    Calls Try.prog 4 #[.agg #[.slice A0_0 l0_0.length c0_0, .slice A0_1 l0_1.length c0_1, .int .i64 a0_2, .int .i64 a0_3]] w fun e w' => e = .returned (.bool true) ∧ Below w.heap.size w w' := by
  have hu39 := Try.underlying39
  have HR0_0 := Aside0.mk hr0_0
  have HC0_0 := Aside0.mk hc0_0
  clear hr0_0 hc0_0
  have HR0_1 := Aside0.mk hr0_1
  have HC0_1 := Aside0.mk hc0_1
  clear hr0_1 hc0_1
  have HB := Aside0.mk (Below.refl w.heap.size w)
  have H : ((pyxlaw04_shown.f).bind fun t102 => (if (l0_0.length : Int) > 200 then (pyxlaw04_KdfPass.j0 k l0_0 l0_1 a0_2 a0_3 t102 true) else (if (l0_1.length : Int) > 200 then (pyxlaw04_KdfPass.j0 k l0_0 l0_1 a0_2 a0_3 t102 true) else (if a0_2 > 6 then (if a0_2 ≤ 1048576 then (pyxlaw04_KdfPass.j0 k l0_0 l0_1 a0_2 a0_3 t102 true) else (if a0_3 > 100 then (pyxlaw04_KdfPass.j0 k l0_0 l0_1 a0_2 a0_3 t102 (decide (a0_3 ≤ 1024))) else (pyxlaw04_KdfPass.j0 k l0_0 l0_1 a0_2 a0_3 t102 false))) else (if a0_3 > 100 then (pyxlaw04_KdfPass.j0 k l0_0 l0_1 a0_2 a0_3 t102 (decide (a0_3 ≤ 1024))) else (pyxlaw04_KdfPass.j0 k l0_0 l0_1 a0_2 a0_3 t102 false)))))) = some true := h
  clear h
  replace H := Option.bind_eq_some_iff.mp H
  obtain ⟨t102, A20, H⟩ := H
  replace H : (if (l0_0.length : Int) > 200 then (pyxlaw04_KdfPass.j0 k l0_0 l0_1 a0_2 a0_3 t102 true) else (if (l0_1.length : Int) > 200 then (pyxlaw04_KdfPass.j0 k l0_0 l0_1 a0_2 a0_3 t102 true) else (if a0_2 > 6 then (if a0_2 ≤ 1048576 then (pyxlaw04_KdfPass.j0 k l0_0 l0_1 a0_2 a0_3 t102 true) else (if a0_3 > 100 then (pyxlaw04_KdfPass.j0 k l0_0 l0_1 a0_2 a0_3 t102 (decide (a0_3 ≤ 1024))) else (pyxlaw04_KdfPass.j0 k l0_0 l0_1 a0_2 a0_3 t102 false))) else (if a0_3 > 100 then (pyxlaw04_KdfPass.j0 k l0_0 l0_1 a0_2 a0_3 t102 (decide (a0_3 ≤ 1024))) else (pyxlaw04_KdfPass.j0 k l0_0 l0_1 a0_2 a0_3 t102 false))))) = some true := H
  have A2 := Aside0.mk A20
  clear A20
  have HC3 := Aside0.mk H
  clear H
  go_enter Try.func4, Try.ntmps4
  go_upto_region 6 with (first | ((with_reducible refine gate_dst (N := 1) rfl ?_); (try (refine gate_guard (by rfl) ?_; dsimp only)); refine box_event ?hg (N := 1) ?hd (cs := #[.slice A0_0 l0_0.length c0_0, .slice A0_1 l0_1.length c0_1, .int .i64 a0_2, .int .i64 a0_3]) (t := 39) ?hr ?_; (case hd => rfl); (case hg => rfl); (case hr => first | (go_simp; done) | (go_simp; rfl)); intro gb101 hg w4 hbox hb; have n0_ := Aside0.mk (below_step (by repeat (first | (with_reducible first | exact HB.out | apply below_alloc | apply pw_below_drewN | apply below_drew1) | exact HB.out)) hb); have n1_ := Aside0.mk (hbox); have n2_ := Aside0.mk ((by rw [hg]; exact (below_size (by repeat (first | (with_reducible first | exact HB.out | apply below_alloc | apply pw_below_drewN | apply below_drew1) | exact HB.out))) : w.heap.size ≤ gb101)); have n3_ := Aside0.mk ((by rw [hg]; exact (below_size (by repeat (first | (with_reducible first | exact HB.out | apply below_alloc | apply pw_below_drewN | apply below_drew1) | exact HB.out))) : w.heap.size ≤ gb101)); clear HB; have HB := n0_; have BK101 := n1_; have GW101 := n2_; have GE101 := n3_; clear n0_ n1_ n2_ n3_; clear hb hbox hg; have hcz5_0 : w4.cell? ⟨gb101, 0, none⟩ = some (.slice A0_0 l0_0.length c0_0) := (blk_cell BK101.out 0).trans rfl; have hcz5_1 : w4.cell? ⟨gb101, 1, none⟩ = some (.slice A0_1 l0_1.length c0_1) := (blk_cell BK101.out 1).trans rfl; have hcz5_2 : w4.cell? ⟨gb101, 2, none⟩ = some (.int .i64 a0_2) := (blk_cell BK101.out 2).trans rfl; have hcz5_3 : w4.cell? ⟨gb101, 3, none⟩ = some (.int .i64 a0_3) := (blk_cell BK101.out 3).trans rfl; have hfz5_0 := blk_frozen BK101.out 0; have hfz5_1 := blk_frozen BK101.out 1; have hfz5_2 := blk_frozen BK101.out 2; have hfz5_3 := blk_frozen BK101.out 3) | ((with_reducible refine gate_callee (f := 15) rfl ?_); refine goesL_ (some 20) rfl rfl Try.func15 (by kernel_rfl) rfl #[] rfl (by (try simp only [List.map_toArray, List.map_cons, List.map_nil]); first | done | rfl | (simp only [List.length_drop, List.length_take]; rfl)) ?_; (with_reducible refine (pyxlaw04_shown.calls  t102 _ A2.out).mono ?_); rintro e w6 ⟨rfl, hb⟩; refine ⟨_, rfl, ?_⟩; have n0_ := Aside0.mk (blk_below (g := gb101) (o := .cells #[.slice A0_0 l0_0.length c0_0, .slice A0_1 l0_1.length c0_1, .int .i64 a0_2, .int .i64 a0_3] 39 (0, 0)) (by (with_reducible repeat (first | refine blk_drewN ?_ _ | refine blk_drew ?_ | refine blk_alloc ?_ _)); exact BK101.out) hb); have n1_ := Aside0.mk (below_step (by repeat (first | (with_reducible first | exact HB.out | apply below_alloc | apply pw_below_drewN | apply below_drew1 | refine below_set ?_ GE101.out) | exact HB.out)) hb); clear BK101; clear HB; have BK101 := n0_; have HB := n1_; clear n0_ n1_; (try clear hb); (try clear hb2); (try clear hk); (try clear hi)))
  (try simp only [Act.put, List.setIfInBounds_toArray, List.set_cons_zero, List.set_cons_succ])
  go_cut [44] (fun v44 wc => ∃ (kq : Nat) (x44_2 : Bool), v44 = .bool x44_2 ∧ Aside0 (pyxlaw04_KdfPass.j0 kq l0_0 l0_1 a0_2 a0_3 t102 x44_2 = some true) ∧ Aside0 (kq ≤ k) ∧ Aside0 (wc.heap[gb101]? = some (.cells #[(.slice A0_0 l0_0.length c0_0), (.slice A0_1 l0_1.length c0_1), .int .i64 a0_2, .int .i64 a0_3] 39 (0, 0))) ∧ Aside0 (Below w.heap.size w wc))
  case first =>
    have H := HC3.out
    clear HC3
    by_cases c7 : (l0_0.length : Int) > 200
    · rw [if_pos c7] at H
      have c7b0 : decide (200 < (l0_0.length : Int)) = true := decide_eq_true c7
      have c7b1 : decide (200 < l0_0.length) = true := decide_eq_true (by omega)
      clear c7
      (first | rw [c7b0] | (simp only [i64_w, i32_w]; rw [c7b0]) | skip)
      have H' := Aside0.mk H
      clear H
      go_wp2
      go_meet
      case rel => exact ⟨_, (true), (by first | rfl | (simp; done) | (simp [*]; done)), H', ⟨by first | omega | exact Nat.le_refl _⟩, ⟨by (with_reducible repeat (first | refine blk_drewN ?_ _ | refine blk_drew ?_ | refine blk_alloc ?_ _)); exact BK101.out⟩, ⟨by repeat (first | (with_reducible first | exact HB.out | apply below_alloc | apply pw_below_drewN | apply below_drew1 | refine below_set ?_ GE101.out) | exact HB.out)⟩⟩
    · rw [if_neg c7] at H
      have c7b0 : decide (200 < (l0_0.length : Int)) = false := decide_eq_false c7
      have c7b1 : decide (200 < l0_0.length) = false := decide_eq_false (by omega)
      clear c7
      (first | rw [c7b0] | (simp only [i64_w, i32_w]; rw [c7b0]) | skip)
      by_cases c8 : (l0_1.length : Int) > 200
      · rw [if_pos c8] at H
        have c8b0 : decide (200 < (l0_1.length : Int)) = true := decide_eq_true c8
        have c8b1 : decide (200 < l0_1.length) = true := decide_eq_true (by omega)
        clear c8
        have H' := Aside0.mk H
        clear H
        go_wp2
        go_meet
        case rel => exact ⟨_, (true), (by first | rfl | (simp; done) | (simp [*]; done)), H', ⟨by first | omega | exact Nat.le_refl _⟩, ⟨by (with_reducible repeat (first | refine blk_drewN ?_ _ | refine blk_drew ?_ | refine blk_alloc ?_ _)); exact BK101.out⟩, ⟨by repeat (first | (with_reducible first | exact HB.out | apply below_alloc | apply pw_below_drewN | apply below_drew1 | refine below_set ?_ GE101.out) | exact HB.out)⟩⟩
      · rw [if_neg c8] at H
        have c8b0 : decide (200 < (l0_1.length : Int)) = false := decide_eq_false c8
        have c8b1 : decide (200 < l0_1.length) = false := decide_eq_false (by omega)
        clear c8
        by_cases c9 : a0_2 > 6
        · rw [if_pos c9] at H
          have c9b0 : decide (6 < a0_2) = true := decide_eq_true c9
          clear c9
          by_cases c10 : a0_2 ≤ 1048576
          · rw [if_pos c10] at H
            have c10b0 : decide (a0_2 ≤ 1048576) = true := decide_eq_true c10
            clear c10
            have H' := Aside0.mk H
            clear H
            go_wp2
            go_meet
            case rel => exact ⟨_, (true), (by first | rfl | (simp; done) | (simp [*]; done)), H', ⟨by first | omega | exact Nat.le_refl _⟩, ⟨by (with_reducible repeat (first | refine blk_drewN ?_ _ | refine blk_drew ?_ | refine blk_alloc ?_ _)); exact BK101.out⟩, ⟨by repeat (first | (with_reducible first | exact HB.out | apply below_alloc | apply pw_below_drewN | apply below_drew1 | refine below_set ?_ GE101.out) | exact HB.out)⟩⟩
          · rw [if_neg c10] at H
            have c10b0 : decide (a0_2 ≤ 1048576) = false := decide_eq_false c10
            clear c10
            by_cases c11 : a0_3 > 100
            · rw [if_pos c11] at H
              have c11b0 : decide (100 < a0_3) = true := decide_eq_true c11
              clear c11
              have H' := Aside0.mk H
              clear H
              go_wp2
              go_meet
              case rel => exact ⟨_, (decide (a0_3 ≤ 1024)), (by first | rfl | (simp; done) | (simp [*]; done)), H', ⟨by first | omega | exact Nat.le_refl _⟩, ⟨by (with_reducible repeat (first | refine blk_drewN ?_ _ | refine blk_drew ?_ | refine blk_alloc ?_ _)); exact BK101.out⟩, ⟨by repeat (first | (with_reducible first | exact HB.out | apply below_alloc | apply pw_below_drewN | apply below_drew1 | refine below_set ?_ GE101.out) | exact HB.out)⟩⟩
            · rw [if_neg c11] at H
              have c11b0 : decide (100 < a0_3) = false := decide_eq_false c11
              clear c11
              have H' := Aside0.mk H
              clear H
              go_wp2
              go_meet
              case rel => exact ⟨_, (false), (by first | rfl | (simp; done) | (simp [*]; done)), H', ⟨by first | omega | exact Nat.le_refl _⟩, ⟨by (with_reducible repeat (first | refine blk_drewN ?_ _ | refine blk_drew ?_ | refine blk_alloc ?_ _)); exact BK101.out⟩, ⟨by repeat (first | (with_reducible first | exact HB.out | apply below_alloc | apply pw_below_drewN | apply below_drew1 | refine below_set ?_ GE101.out) | exact HB.out)⟩⟩
        · rw [if_neg c9] at H
          have c9b0 : decide (6 < a0_2) = false := decide_eq_false c9
          clear c9
          by_cases c12 : a0_3 > 100
          · rw [if_pos c12] at H
            have c12b0 : decide (100 < a0_3) = true := decide_eq_true c12
            clear c12
            have H' := Aside0.mk H
            clear H
            go_wp2
            go_meet
            case rel => exact ⟨_, (decide (a0_3 ≤ 1024)), (by first | rfl | (simp; done) | (simp [*]; done)), H', ⟨by first | omega | exact Nat.le_refl _⟩, ⟨by (with_reducible repeat (first | refine blk_drewN ?_ _ | refine blk_drew ?_ | refine blk_alloc ?_ _)); exact BK101.out⟩, ⟨by repeat (first | (with_reducible first | exact HB.out | apply below_alloc | apply pw_below_drewN | apply below_drew1 | refine below_set ?_ GE101.out) | exact HB.out)⟩⟩
          · rw [if_neg c12] at H
            have c12b0 : decide (100 < a0_3) = false := decide_eq_false c12
            clear c12
            have H' := Aside0.mk H
            clear H
            go_wp2
            go_meet
            case rel => exact ⟨_, (false), (by first | rfl | (simp; done) | (simp [*]; done)), H', ⟨by first | omega | exact Nat.le_refl _⟩, ⟨by (with_reducible repeat (first | refine blk_drewN ?_ _ | refine blk_drew ?_ | refine blk_alloc ?_ _)); exact BK101.out⟩, ⟨by repeat (first | (with_reducible first | exact HB.out | apply below_alloc | apply pw_below_drewN | apply below_drew1 | refine below_set ?_ GE101.out) | exact HB.out)⟩⟩
  case rest =>
    clear HC3
    try clear c1
    try clear p2
    try clear c4
    try clear c7
    try clear c7b0
    try clear c7b1
    try clear c8
    try clear c8b0
    try clear c8b1
    try clear c9
    try clear c9b0
    try clear c10
    try clear c10b0
    try clear c11
    try clear c11b0
    try clear c12
    try clear c12b0
    try clear hcz5_0
    try clear hcz5_1
    try clear hcz5_2
    try clear hcz5_3
    try clear hfz5_0
    try clear hfz5_1
    try clear hfz5_2
    try clear hfz5_3
    obtain ⟨kq, x44_2, rfl, HA, HJ2, BK101, HB⟩ := hcut
    cases kq with
    | zero => exact absurd HA.out (by simp [pyxlaw04_KdfPass.j0])
    | succ kj2 =>
      have H := HA.out
      clear HA
      simp only [pyxlaw04_KdfPass.j0] at H
      by_cases c13 : x44_2 = true
      · subst c13
        have H1 : (some t102) = some true := by rw [if_pos rfl] at H; exact H
        clear H
        have H := H1
        clear H1
        have HT_ := Option.some.inj H
        go_wp2
        go_ret
        exact ⟨by first | rfl | (simp [errW_none, errW_some] <;> rfl) | (simp [*, errW_none, errW_some] <;> rfl), by repeat (first | (with_reducible first | exact HB.out | apply below_alloc | apply pw_below_drewN | apply below_drew1 | refine below_set ?_ GE101.out) | exact HB.out)⟩
      · replace c13 := Bool.eq_false_iff.mpr c13
        subst c13
        have H1 : ((kdf_Pass.f l0_0 l0_1 a0_2 a0_3).bind fun bt103 => ((pyxref04_Pass.f l0_0 l0_1 a0_2 a0_3).bind fun bt107 => (if t102 = true then ((pyxref01_Same.f bt103.1 bt107.1).bind fun t111 => (if t111 = true then (some (bt103.2 == bt107.2)) else (some false))) else (some false)))) = some true := by rw [if_neg (show ¬ (false = true) by decide)] at H; exact H
        clear H
        have H := H1
        clear H1
        replace H := Option.bind_eq_some_iff.mp H
        obtain ⟨⟨t103, t104⟩, A140, H⟩ := H
        replace H : ((pyxref04_Pass.f l0_0 l0_1 a0_2 a0_3).bind fun bt107 => (if t102 = true then ((pyxref01_Same.f t103 bt107.1).bind fun t111 => (if t111 = true then (some (t104 == bt107.2)) else (some false))) else (some false))) = some true := H
        have A14 := Aside0.mk A140
        clear A140
        replace H := Option.bind_eq_some_iff.mp H
        obtain ⟨⟨t107, t108⟩, A150, H⟩ := H
        replace H : (if t102 = true then ((pyxref01_Same.f t103 t107).bind fun t111 => (if t111 = true then (some (t104 == t108)) else (some false))) else (some false)) = some true := H
        have A15 := Aside0.mk A150
        clear A150
        by_cases c16 : t102 = true
        · subst c16
          have H1 : ((pyxref01_Same.f t103 t107).bind fun t111 => (if t111 = true then (some (t104 == t108)) else (some false))) = some true := by rw [if_pos rfl] at H; exact H
          clear H
          have H := H1
          clear H1
          replace H := Option.bind_eq_some_iff.mp H
          obtain ⟨t111, A170, H⟩ := H
          replace H : (if t111 = true then (some (t104 == t108)) else (some false)) = some true := H
          have A17 := Aside0.mk A170
          clear A170
          by_cases c18 : t111 = true
          · subst c18
            have H1 : (some (t104 == t108)) = some true := by rw [if_pos rfl] at H; exact H
            clear H
            have H := H1
            clear H1
            have HT_ := Option.some.inj H
            go_wp2_with (first | ((with_reducible refine gate_callee (f := 25) rfl ?_); refine goesL_ (some 51) rfl rfl Try.func25 (by kernel_rfl) rfl #[.slice A0_0 l0_0.length c0_0, .slice A0_1 l0_1.length c0_1, .int .i64 a0_2, .int .i64 a0_3] rfl (by (try simp only [List.map_toArray, List.map_cons, List.map_nil]); first | done | rfl | (simp only [List.length_drop, List.length_take]; rfl)) ?_; (with_reducible refine (kdf_Pass.calls _ _ l0_0 _ _ l0_1 a0_2 a0_3 t103 t104 _ ?side1 ?side2 ?side3 ?side4 A14.out).mono ?_); (case side1 => repeat (first | exact (Kd.C_below HR0_0.out HB.out) | (with_reducible refine Kd.C_alloc ?_ _) | (with_reducible refine Kd.C_drewN ?_ _) | (with_reducible refine Kd.C_drew ?_))); (case side2 => exact HC0_0.out); (case side3 => repeat (first | exact (Kd.C_below HR0_1.out HB.out) | (with_reducible refine Kd.C_alloc ?_ _) | (with_reducible refine Kd.C_drewN ?_ _) | (with_reducible refine Kd.C_drew ?_))); (case side4 => exact HC0_1.out); rintro e w19 ⟨v105, rfl, ho0, hb⟩; refine ⟨_, rfl, ?_⟩; have n0_ := Aside0.mk (Kd.R_lower ho0 (below_size (by repeat (first | (with_reducible first | exact HB.out | apply below_alloc | apply pw_below_drewN | apply below_drew1 | refine below_set ?_ GE101.out) | exact HB.out)))); have n1_ := Aside0.mk (blk_below (g := gb101) (o := .cells #[.slice A0_0 l0_0.length c0_0, .slice A0_1 l0_1.length c0_1, .int .i64 a0_2, .int .i64 a0_3] 39 (0, 0)) (by (with_reducible repeat (first | refine blk_drewN ?_ _ | refine blk_drew ?_ | refine blk_alloc ?_ _)); exact BK101.out) hb); have n2_ := Aside0.mk (below_step (by repeat (first | (with_reducible first | exact HB.out | apply below_alloc | apply pw_below_drewN | apply below_drew1 | refine below_set ?_ GE101.out) | exact HB.out)) hb); clear BK101; clear HB; have HO106 := n0_; have BK101 := n1_; have HB := n2_; clear n0_ n1_ n2_; (try clear hb); (try clear hb2); (try clear hk); (try clear hi); (try clear ho0)) | ((with_reducible refine gate_callee (f := 26) rfl ?_); refine goesL_ (some 59) rfl rfl Try.func26 (by kernel_rfl) rfl #[.slice A0_0 l0_0.length c0_0, .slice A0_1 l0_1.length c0_1, .int .i64 a0_2, .int .i64 a0_3] rfl (by (try simp only [List.map_toArray, List.map_cons, List.map_nil]); first | done | rfl | (simp only [List.length_drop, List.length_take]; rfl)) ?_; (with_reducible refine (pyxref04_Pass.calls _ _ l0_0 _ _ l0_1 a0_2 a0_3 t107 t108 _ ?side1 ?side2 ?side3 ?side4 A15.out).mono ?_); (case side1 => repeat (first | exact (Kd.C_below HR0_0.out HB.out) | (with_reducible refine Kd.C_alloc ?_ _) | (with_reducible refine Kd.C_drewN ?_ _) | (with_reducible refine Kd.C_drew ?_))); (case side2 => exact HC0_0.out); (case side3 => repeat (first | exact (Kd.C_below HR0_1.out HB.out) | (with_reducible refine Kd.C_alloc ?_ _) | (with_reducible refine Kd.C_drewN ?_ _) | (with_reducible refine Kd.C_drew ?_))); (case side4 => exact HC0_1.out); rintro e w20 ⟨v109, rfl, ho0, hb⟩; refine ⟨_, rfl, ?_⟩; have n0_ := Aside0.mk (Kd.R_elder' (by (with_reducible repeat (first | apply Kd.R_alloc | apply Kd.R_drewN | apply Kd.R_drew)); exact HO106.out) (Kd.R_base ho0) hb); have n1_ := Aside0.mk (Kd.R_lower (Kd.R_new' ho0 (Kd.R_lt (by (with_reducible repeat (first | apply Kd.R_alloc | apply Kd.R_drewN | apply Kd.R_drew)); exact HO106.out))) (below_size (by repeat (first | (with_reducible first | exact HB.out | apply below_alloc | apply pw_below_drewN | apply below_drew1 | refine below_set ?_ GE101.out) | exact HB.out)))); have n2_ := Aside0.mk (blk_below (g := gb101) (o := .cells #[.slice A0_0 l0_0.length c0_0, .slice A0_1 l0_1.length c0_1, .int .i64 a0_2, .int .i64 a0_3] 39 (0, 0)) (by (with_reducible repeat (first | refine blk_drewN ?_ _ | refine blk_drew ?_ | refine blk_alloc ?_ _)); exact BK101.out) hb); have n3_ := Aside0.mk (below_step (by repeat (first | (with_reducible first | exact HB.out | apply below_alloc | apply pw_below_drewN | apply below_drew1 | refine below_set ?_ GE101.out) | exact HB.out)) hb); clear HO106; clear BK101; clear HB; have HO106 := n0_; have HO110 := n1_; have BK101 := n2_; have HB := n3_; clear n0_ n1_ n2_ n3_; (try clear hb); (try clear hb2); (try clear hk); (try clear hi); (try clear ho0); obtain ⟨Ao21, co21, eo21⟩ := Kd.R_slice HO106.out; subst eo21; obtain ⟨Ao22, co22, eo22⟩ := Kd.R_slice HO110.out; subst eo22) | (go_at_call 22; (with_reducible refine (pyxref01_Same.calls _ _ t103 _ _ t107 true _ ?side1 ?side2 ?side3 ?side4 A17.out).mono ?_); (case side1 => repeat (first | exact (Kd.R_reads' HO106.out).2.2 | (with_reducible refine Kd.C_alloc ?_ _) | (with_reducible refine Kd.C_drewN ?_ _) | (with_reducible refine Kd.C_drew ?_))); (case side2 => exact (Kd.R_reads' HO106.out).2.1); (case side3 => repeat (first | exact (Kd.R_reads' HO110.out).2.2 | (with_reducible refine Kd.C_alloc ?_ _) | (with_reducible refine Kd.C_drewN ?_ _) | (with_reducible refine Kd.C_drew ?_))); (case side4 => exact (Kd.R_reads' HO110.out).2.1); rintro e w' ⟨rfl, ⟨nd, rfl⟩⟩))
            go_ret
            exact ⟨by first | rfl | (simp [errW_none, errW_some] <;> rfl) | (simp [*, errW_none, errW_some] <;> rfl), by repeat (first | (with_reducible first | exact HB.out | apply below_alloc | apply pw_below_drewN | apply below_drew1 | refine below_set ?_ GE101.out) | exact HB.out)⟩
          · replace c18 := Bool.eq_false_iff.mpr c18
            subst c18
            have H1 : (some false) = some true := by rw [if_neg (show ¬ (false = true) by decide)] at H; exact H
            clear H
            have H := H1
            clear H1
            exact absurd (Option.some.inj H) (by decide)
        · replace c16 := Bool.eq_false_iff.mpr c16
          subst c16
          have H1 : (some false) = some true := by rw [if_neg (show ¬ (false = true) by decide)] at H; exact H
          clear H
          have H := H1
          clear H1
          exact absurd (Option.some.inj H) (by decide)
end Go.Proofs.Ytpdgeanicciaiaa.P
