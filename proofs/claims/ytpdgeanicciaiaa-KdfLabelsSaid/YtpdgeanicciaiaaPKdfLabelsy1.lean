-- Written by xprint.py, this session's driver over the kit's print.py, out of the translation.
import Derived.Test.YtpdgeanicciaiaaPKdfLabelsy0
namespace Go.Proofs.Ytpdgeanicciaiaa.P
open Go.RowKit Go.Proofs.YtpdgeanicciaiaaW.PrintWords Go.Proofs.YtpdgeanicciaiaaW.PrintLast Go.Proofs.YtpdgeanicciaiaaW.PrintMore
attribute [local go_sem] max2_int min2_int max_two min_two max_three min_three max_four min_four   -- for this text's walks alone
set_option linter.unusedVariables false
set_option linter.unusedSimpArgs false

-- NOT PRINTED: function 53 (kdf_first)

-- NOT PRINTED: function 56 (byt_Num)

-- NOT PRINTED: function 95 (byt_wide)

-- NOT PRINTED: function 81 (byt_Len)

-- NOT PRINTED: function 57 (byt_Row)

-- NOT PRINTED: function 97 (sha_primes)

-- NOT PRINTED: function 104 (bits_Mul64)

-- NOT PRINTED: function 105 (bits_Add64)

-- NOT PRINTED: function 102 (sha_above)

-- NOT PRINTED: function 98 (sha_root)

-- NOT PRINTED: function 89 (sha_keys)

-- NOT PRINTED: function 90 (sha_Start)

-- NOT PRINTED: function 103 (bits_RotateLeft32)

-- NOT PRINTED: function 100 (sha_turned)

-- NOT PRINTED: function 99 (sha_words)

-- NOT PRINTED: function 91 (sha_mixed)

-- NOT PRINTED: function 92 (sha_Pad)

-- NOT PRINTED: function 70 (sha_Sum)

-- NOT PRINTED: function 88 (slices_Grow_byte_byte)

-- NOT PRINTED: function 64 (slices_Concat_byte_byte)

-- NOT PRINTED: function 80 (mac_joined)

-- NOT PRINTED: function 83 (mac_Key)

-- NOT PRINTED: function 59 (mac_Sum)

-- NOT PRINTED: function 79 (pyxref01_figure)

-- NOT PRINTED: function 82 (pyxref01_power)

-- NOT PRINTED: function 58 (pyxref01_Num)

-- NOT PRINTED: function 78 (pyxref01_Len)

-- NOT PRINTED: function 51 (pyxref01_Row)

/-! ### pyxlaw04_KdfLabels: function 6 -/
def pyxlaw04_KdfLabels.j0 : Nat → List Int → ByteArray → ByteArray → List Int → List Int → Bool → Bool → Option (Bool)
  | 0, _, _, _, _, _, _, _ => none
  | k + 1, x3, x4, x5, x6, x7, x8, x50 => if x50 = true then (some x8) else ((pyxlaw04_told.f x4 x6 32).bind fun t103 => ((pyxlaw04_told.f x5 x7 32).bind fun t106 => ((pyxlaw04_told.f x4 x6 33).bind fun t109 => ((kdf_Label.f x3 x4 x6 32).bind fun bt112 => ((kdf_Expand.f x3 t103 32).bind fun bt116 => (if x4.toList = x5.toList then ((pyxref01_Same.f x6 x7).bind fun t120 => (if x8 = true then (if bt112.2 = 0 then (if bt116.2 = 0 then ((pyxref01_Same.f bt112.1 bt116.1).bind fun t121 => (if t121 = true then ((pyxref01_Same.f t103 t106).bind fun t122 => (if (t122 == t120) = true then ((pyxref01_Same.f t103 t109).bind fun t123 => (some (!t123))) else (some false))) else (some false))) else (some false)) else (some false)) else (some false))) else (if x8 = true then (if bt112.2 = 0 then (if bt116.2 = 0 then ((pyxref01_Same.f bt112.1 bt116.1).bind fun t124 => (if t124 = true then ((pyxref01_Same.f t103 t106).bind fun t125 => (if (t125 == false) = true then ((pyxref01_Same.f t103 t109).bind fun t126 => (some (!t126))) else (some false))) else (some false))) else (some false)) else (some false)) else (some false))))))))
def pyxlaw04_KdfLabels.f (k : Nat) (l0_0 : List Int) (a0_1 : ByteArray) (a0_2 : ByteArray) (l0_3 : List Int) (l0_4 : List Int) : Option (Bool) := (pyxlaw04_shown.f).bind fun t102 => (if (l0_0.length : Int) > 100 then (pyxlaw04_KdfLabels.j0 k l0_0 a0_1 a0_2 l0_3 l0_4 t102 true) else (if (a0_1.size : Int) > 100 then (pyxlaw04_KdfLabels.j0 k l0_0 a0_1 a0_2 l0_3 l0_4 t102 true) else (if (a0_2.size : Int) > 100 then (pyxlaw04_KdfLabels.j0 k l0_0 a0_1 a0_2 l0_3 l0_4 t102 true) else (if (l0_3.length : Int) > 100 then (pyxlaw04_KdfLabels.j0 k l0_0 a0_1 a0_2 l0_3 l0_4 t102 true) else (pyxlaw04_KdfLabels.j0 k l0_0 a0_1 a0_2 l0_3 l0_4 t102 (decide ((l0_4.length : Int) > 100)))))))
theorem pyxlaw04_KdfLabels.mono_l : ∀ k, (∀ y0 y1 y2 y3 y4 y5 y6, LeO (pyxlaw04_KdfLabels.j0 k y0 y1 y2 y3 y4 y5 y6) (pyxlaw04_KdfLabels.j0 (k + 1) y0 y1 y2 y3 y4 y5 y6))
  | 0 => fun _ _ _ _ _ _ _ r h => by simp [pyxlaw04_KdfLabels.j0] at h
  | k + 1 => by
    have ih0 := pyxlaw04_KdfLabels.mono_l k
    · intro y0 y1 y2 y3 y4 y5 y6
      unfold pyxlaw04_KdfLabels.j0
      repeat' first
      | (with_reducible exact ih0 _ _ _ _ _ _ _)
      | (with_reducible exact LeO.refl _)
      | (with_reducible exact LeO.none _)
      | (with_reducible refine LeO.ite ?_ ?_)
      | (with_reducible refine LeO.bind ?_ (fun _ => ?_))
      | exact ih0 _ _ _ _ _ _ _
      | exact LeO.none _
      | refine LeO.ite ?_ ?_
      | refine LeO.bind ?_ (fun _ => ?_)
theorem pyxlaw04_KdfLabels.mono : ∀ a0 a1 a2 a3 a4 k, LeO (pyxlaw04_KdfLabels.f k a0 a1 a2 a3 a4) (pyxlaw04_KdfLabels.f (k + 1) a0 a1 a2 a3 a4) := by
  intro a0 a1 a2 a3 a4 k
  have ih0 := pyxlaw04_KdfLabels.mono_l k
  unfold pyxlaw04_KdfLabels.f
  repeat' first
      | (with_reducible exact ih0 _ _ _ _ _ _ _)
      | (with_reducible exact LeO.refl _)
      | (with_reducible exact LeO.none _)
      | (with_reducible refine LeO.ite ?_ ?_)
      | (with_reducible refine LeO.bind ?_ (fun _ => ?_))
      | exact ih0 _ _ _ _ _ _ _
      | exact LeO.none _
      | refine LeO.ite ?_ ?_
      | refine LeO.bind ?_ (fun _ => ?_)
set_option maxHeartbeats 8000000 in
set_option maxRecDepth 100000 in
theorem pyxlaw04_KdfLabels.calls (k : Nat) (A0_0 : Option Addr) (c0_0 : Nat) (l0_0 : List Int) (a0_1 : ByteArray) (a0_2 : ByteArray) (A0_3 : Option Addr) (c0_3 : Nat) (l0_3 : List Int) (A0_4 : Option Addr) (c0_4 : Nat) (l0_4 : List Int) (w : World) (hr0_0 : Kd.C (Kd.int .u8) w A0_0 l0_0.length l0_0) (hc0_0 : l0_0.length ≤ c0_0) (hr0_3 : Kd.C (Kd.int .u8) w A0_3 l0_3.length l0_3) (hc0_3 : l0_3.length ≤ c0_3) (hr0_4 : Kd.C (Kd.int .u8) w A0_4 l0_4.length l0_4) (hc0_4 : l0_4.length ≤ c0_4) (h : pyxlaw04_KdfLabels.f k l0_0 a0_1 a0_2 l0_3 l0_4 = some true) :
    Calls Try.prog 6 #[.agg #[.slice A0_0 l0_0.length c0_0, .string a0_1, .string a0_2, .slice A0_3 l0_3.length c0_3, .slice A0_4 l0_4.length c0_4]] w fun e w' => e = .returned (.bool true) ∧ Below w.heap.size w w' := by
  have hu47 := Try.underlying47
  have HR0_0 := Aside0.mk hr0_0
  have HC0_0 := Aside0.mk hc0_0
  clear hr0_0 hc0_0
  have HR0_3 := Aside0.mk hr0_3
  have HC0_3 := Aside0.mk hc0_3
  clear hr0_3 hc0_3
  have HR0_4 := Aside0.mk hr0_4
  have HC0_4 := Aside0.mk hc0_4
  clear hr0_4 hc0_4
  have HB := Aside0.mk (Below.refl w.heap.size w)
  have H : ((pyxlaw04_shown.f).bind fun t102 => (if (l0_0.length : Int) > 100 then (pyxlaw04_KdfLabels.j0 k l0_0 a0_1 a0_2 l0_3 l0_4 t102 true) else (if (a0_1.size : Int) > 100 then (pyxlaw04_KdfLabels.j0 k l0_0 a0_1 a0_2 l0_3 l0_4 t102 true) else (if (a0_2.size : Int) > 100 then (pyxlaw04_KdfLabels.j0 k l0_0 a0_1 a0_2 l0_3 l0_4 t102 true) else (if (l0_3.length : Int) > 100 then (pyxlaw04_KdfLabels.j0 k l0_0 a0_1 a0_2 l0_3 l0_4 t102 true) else (pyxlaw04_KdfLabels.j0 k l0_0 a0_1 a0_2 l0_3 l0_4 t102 (decide ((l0_4.length : Int) > 100)))))))) = some true := h
  clear h
  replace H := Option.bind_eq_some_iff.mp H
  obtain ⟨t102, A20, H⟩ := H
  replace H : (if (l0_0.length : Int) > 100 then (pyxlaw04_KdfLabels.j0 k l0_0 a0_1 a0_2 l0_3 l0_4 t102 true) else (if (a0_1.size : Int) > 100 then (pyxlaw04_KdfLabels.j0 k l0_0 a0_1 a0_2 l0_3 l0_4 t102 true) else (if (a0_2.size : Int) > 100 then (pyxlaw04_KdfLabels.j0 k l0_0 a0_1 a0_2 l0_3 l0_4 t102 true) else (if (l0_3.length : Int) > 100 then (pyxlaw04_KdfLabels.j0 k l0_0 a0_1 a0_2 l0_3 l0_4 t102 true) else (pyxlaw04_KdfLabels.j0 k l0_0 a0_1 a0_2 l0_3 l0_4 t102 (decide ((l0_4.length : Int) > 100))))))) = some true := H
  have A2 := Aside0.mk A20
  clear A20
  have HC3 := Aside0.mk H
  clear H
  go_enter Try.func6, Try.ntmps6
  go_upto_region 7 with (first | ((with_reducible refine gate_dst (N := 1) rfl ?_); (try (refine gate_guard (by rfl) ?_; dsimp only)); refine box_event ?hg (N := 1) ?hd (cs := #[.slice A0_0 l0_0.length c0_0, .string a0_1, .string a0_2, .slice A0_3 l0_3.length c0_3, .slice A0_4 l0_4.length c0_4]) (t := 47) ?hr ?_; (case hd => rfl); (case hg => rfl); (case hr => first | (go_simp; done) | (go_simp; rfl)); intro gb101 hg w4 hbox hb; have n0_ := Aside0.mk (below_step (by repeat (first | (with_reducible first | exact HB.out | apply below_alloc | apply pw_below_drewN | apply below_drew1) | exact HB.out)) hb); have n1_ := Aside0.mk (hbox); have n2_ := Aside0.mk ((by rw [hg]; exact (below_size (by repeat (first | (with_reducible first | exact HB.out | apply below_alloc | apply pw_below_drewN | apply below_drew1) | exact HB.out))) : w.heap.size ≤ gb101)); have n3_ := Aside0.mk ((by rw [hg]; exact (below_size (by repeat (first | (with_reducible first | exact HB.out | apply below_alloc | apply pw_below_drewN | apply below_drew1) | exact HB.out))) : w.heap.size ≤ gb101)); clear HB; have HB := n0_; have BK101 := n1_; have GW101 := n2_; have GE101 := n3_; clear n0_ n1_ n2_ n3_; clear hb hbox hg; have hcz5_0 : w4.cell? ⟨gb101, 0, none⟩ = some (.slice A0_0 l0_0.length c0_0) := (blk_cell BK101.out 0).trans rfl; have hcz5_1 : w4.cell? ⟨gb101, 1, none⟩ = some (.string a0_1) := (blk_cell BK101.out 1).trans rfl; have hcz5_2 : w4.cell? ⟨gb101, 2, none⟩ = some (.string a0_2) := (blk_cell BK101.out 2).trans rfl; have hcz5_3 : w4.cell? ⟨gb101, 3, none⟩ = some (.slice A0_3 l0_3.length c0_3) := (blk_cell BK101.out 3).trans rfl; have hcz5_4 : w4.cell? ⟨gb101, 4, none⟩ = some (.slice A0_4 l0_4.length c0_4) := (blk_cell BK101.out 4).trans rfl; have hfz5_0 := blk_frozen BK101.out 0; have hfz5_1 := blk_frozen BK101.out 1; have hfz5_2 := blk_frozen BK101.out 2; have hfz5_3 := blk_frozen BK101.out 3; have hfz5_4 := blk_frozen BK101.out 4) | ((with_reducible refine gate_callee (f := 15) rfl ?_); refine goesL_ (some 27) rfl rfl Try.func15 (by kernel_rfl) rfl #[] rfl (by (try simp only [List.map_toArray, List.map_cons, List.map_nil]); first | done | rfl | (simp only [List.length_drop, List.length_take]; rfl)) ?_; (with_reducible refine (pyxlaw04_shown.calls  t102 _ A2.out).mono ?_); rintro e w6 ⟨rfl, hb⟩; refine ⟨_, rfl, ?_⟩; have n0_ := Aside0.mk (blk_below (g := gb101) (o := .cells #[.slice A0_0 l0_0.length c0_0, .string a0_1, .string a0_2, .slice A0_3 l0_3.length c0_3, .slice A0_4 l0_4.length c0_4] 47 (0, 0)) (by (with_reducible repeat (first | refine blk_drewN ?_ _ | refine blk_drew ?_ | refine blk_alloc ?_ _)); exact BK101.out) hb); have n1_ := Aside0.mk (below_step (by repeat (first | (with_reducible first | exact HB.out | apply below_alloc | apply pw_below_drewN | apply below_drew1 | refine below_set ?_ GE101.out) | exact HB.out)) hb); clear BK101; clear HB; have BK101 := n0_; have HB := n1_; clear n0_ n1_; (try clear hb); (try clear hb2); (try clear hk); (try clear hi)))
  (try simp only [Act.put, List.setIfInBounds_toArray, List.set_cons_zero, List.set_cons_succ])
  go_cut [50] (fun v50 wc => ∃ (kq : Nat) (x50_2 : Bool), v50 = .bool x50_2 ∧ Aside0 (pyxlaw04_KdfLabels.j0 kq l0_0 a0_1 a0_2 l0_3 l0_4 t102 x50_2 = some true) ∧ Aside0 (kq ≤ k) ∧ Aside0 (wc.heap[gb101]? = some (.cells #[(.slice A0_0 l0_0.length c0_0), .string a0_1, .string a0_2, (.slice A0_3 l0_3.length c0_3), (.slice A0_4 l0_4.length c0_4)] 47 (0, 0))) ∧ Aside0 (Below w.heap.size w wc))
  case first =>
    have H := HC3.out
    clear HC3
    by_cases c7 : (l0_0.length : Int) > 100
    · rw [if_pos c7] at H
      have c7b0 : decide (100 < (l0_0.length : Int)) = true := decide_eq_true c7
      have c7b1 : decide (100 < l0_0.length) = true := decide_eq_true (by omega)
      clear c7
      (first | rw [c7b0] | (simp only [i64_w, i32_w]; rw [c7b0]) | skip)
      have H' := Aside0.mk H
      clear H
      go_wp2
      go_meet
      case rel => exact ⟨_, (true), (by first | rfl | (simp; done) | (simp [*]; done)), H', ⟨by first | omega | exact Nat.le_refl _⟩, ⟨by (with_reducible repeat (first | refine blk_drewN ?_ _ | refine blk_drew ?_ | refine blk_alloc ?_ _)); exact BK101.out⟩, ⟨by repeat (first | (with_reducible first | exact HB.out | apply below_alloc | apply pw_below_drewN | apply below_drew1 | refine below_set ?_ GE101.out) | exact HB.out)⟩⟩
    · rw [if_neg c7] at H
      have c7b0 : decide (100 < (l0_0.length : Int)) = false := decide_eq_false c7
      have c7b1 : decide (100 < l0_0.length) = false := decide_eq_false (by omega)
      clear c7
      (first | rw [c7b0] | (simp only [i64_w, i32_w]; rw [c7b0]) | skip)
      by_cases c8 : (a0_1.size : Int) > 100
      · rw [if_pos c8] at H
        have c8b0 : decide (100 < (a0_1.size : Int)) = true := decide_eq_true c8
        have c8b1 : decide (100 < a0_1.size) = true := decide_eq_true (by omega)
        clear c8
        have H' := Aside0.mk H
        clear H
        go_wp2
        go_meet
        case rel => exact ⟨_, (true), (by first | rfl | (simp; done) | (simp [*]; done)), H', ⟨by first | omega | exact Nat.le_refl _⟩, ⟨by (with_reducible repeat (first | refine blk_drewN ?_ _ | refine blk_drew ?_ | refine blk_alloc ?_ _)); exact BK101.out⟩, ⟨by repeat (first | (with_reducible first | exact HB.out | apply below_alloc | apply pw_below_drewN | apply below_drew1 | refine below_set ?_ GE101.out) | exact HB.out)⟩⟩
      · rw [if_neg c8] at H
        have c8b0 : decide (100 < (a0_1.size : Int)) = false := decide_eq_false c8
        have c8b1 : decide (100 < a0_1.size) = false := decide_eq_false (by omega)
        clear c8
        by_cases c9 : (a0_2.size : Int) > 100
        · rw [if_pos c9] at H
          have c9b0 : decide (100 < (a0_2.size : Int)) = true := decide_eq_true c9
          have c9b1 : decide (100 < a0_2.size) = true := decide_eq_true (by omega)
          clear c9
          have H' := Aside0.mk H
          clear H
          go_wp2
          go_meet
          case rel => exact ⟨_, (true), (by first | rfl | (simp; done) | (simp [*]; done)), H', ⟨by first | omega | exact Nat.le_refl _⟩, ⟨by (with_reducible repeat (first | refine blk_drewN ?_ _ | refine blk_drew ?_ | refine blk_alloc ?_ _)); exact BK101.out⟩, ⟨by repeat (first | (with_reducible first | exact HB.out | apply below_alloc | apply pw_below_drewN | apply below_drew1 | refine below_set ?_ GE101.out) | exact HB.out)⟩⟩
        · rw [if_neg c9] at H
          have c9b0 : decide (100 < (a0_2.size : Int)) = false := decide_eq_false c9
          have c9b1 : decide (100 < a0_2.size) = false := decide_eq_false (by omega)
          clear c9
          by_cases c10 : (l0_3.length : Int) > 100
          · rw [if_pos c10] at H
            have c10b0 : decide (100 < (l0_3.length : Int)) = true := decide_eq_true c10
            have c10b1 : decide (100 < l0_3.length) = true := decide_eq_true (by omega)
            clear c10
            have H' := Aside0.mk H
            clear H
            go_wp2
            go_meet
            case rel => exact ⟨_, (true), (by first | rfl | (simp; done) | (simp [*]; done)), H', ⟨by first | omega | exact Nat.le_refl _⟩, ⟨by (with_reducible repeat (first | refine blk_drewN ?_ _ | refine blk_drew ?_ | refine blk_alloc ?_ _)); exact BK101.out⟩, ⟨by repeat (first | (with_reducible first | exact HB.out | apply below_alloc | apply pw_below_drewN | apply below_drew1 | refine below_set ?_ GE101.out) | exact HB.out)⟩⟩
          · rw [if_neg c10] at H
            have c10b0 : decide (100 < (l0_3.length : Int)) = false := decide_eq_false c10
            have c10b1 : decide (100 < l0_3.length) = false := decide_eq_false (by omega)
            clear c10
            have H' := Aside0.mk H
            clear H
            go_wp2
            go_meet
            case rel => exact ⟨_, (decide ((l0_4.length : Int) > 100)), (by first | rfl | (simp; done) | (simp [*]; done)), H', ⟨by first | omega | exact Nat.le_refl _⟩, ⟨by (with_reducible repeat (first | refine blk_drewN ?_ _ | refine blk_drew ?_ | refine blk_alloc ?_ _)); exact BK101.out⟩, ⟨by repeat (first | (with_reducible first | exact HB.out | apply below_alloc | apply pw_below_drewN | apply below_drew1 | refine below_set ?_ GE101.out) | exact HB.out)⟩⟩
  case rest =>
    clear HC3
    try clear c1
    try clear p2
    try clear c6
    try clear c7
    try clear c7b0
    try clear c7b1
    try clear c8
    try clear c8b0
    try clear c8b1
    try clear c9
    try clear c9b0
    try clear c9b1
    try clear c10
    try clear c10b0
    try clear c10b1
    try clear hcz5_0
    try clear hcz5_1
    try clear hcz5_2
    try clear hcz5_3
    try clear hcz5_4
    try clear hfz5_0
    try clear hfz5_1
    try clear hfz5_2
    try clear hfz5_3
    try clear hfz5_4
    obtain ⟨kq, x50_2, rfl, HA, HJ2, BK101, HB⟩ := hcut
    cases kq with
    | zero => exact absurd HA.out (by simp [pyxlaw04_KdfLabels.j0])
    | succ kj2 =>
      have H := HA.out
      clear HA
      simp only [pyxlaw04_KdfLabels.j0] at H
      by_cases c11 : x50_2 = true
      · subst c11
        have H1 : (some t102) = some true := by rw [if_pos rfl] at H; exact H
        clear H
        have H := H1
        clear H1
        have HT_ := Option.some.inj H
        go_wp2
        go_ret
        exact ⟨by first | rfl | (simp [errW_none, errW_some] <;> rfl) | (simp [*, errW_none, errW_some] <;> rfl), by repeat (first | (with_reducible first | exact HB.out | apply below_alloc | apply pw_below_drewN | apply below_drew1 | refine below_set ?_ GE101.out) | exact HB.out)⟩
      · replace c11 := Bool.eq_false_iff.mpr c11
        subst c11
        have H1 : ((pyxlaw04_told.f a0_1 l0_3 32).bind fun t103 => ((pyxlaw04_told.f a0_2 l0_4 32).bind fun t106 => ((pyxlaw04_told.f a0_1 l0_3 33).bind fun t109 => ((kdf_Label.f l0_0 a0_1 l0_3 32).bind fun bt112 => ((kdf_Expand.f l0_0 t103 32).bind fun bt116 => (if a0_1.toList = a0_2.toList then ((pyxref01_Same.f l0_3 l0_4).bind fun t120 => (if t102 = true then (if bt112.2 = 0 then (if bt116.2 = 0 then ((pyxref01_Same.f bt112.1 bt116.1).bind fun t121 => (if t121 = true then ((pyxref01_Same.f t103 t106).bind fun t122 => (if (t122 == t120) = true then ((pyxref01_Same.f t103 t109).bind fun t123 => (some (!t123))) else (some false))) else (some false))) else (some false)) else (some false)) else (some false))) else (if t102 = true then (if bt112.2 = 0 then (if bt116.2 = 0 then ((pyxref01_Same.f bt112.1 bt116.1).bind fun t124 => (if t124 = true then ((pyxref01_Same.f t103 t106).bind fun t125 => (if (t125 == false) = true then ((pyxref01_Same.f t103 t109).bind fun t126 => (some (!t126))) else (some false))) else (some false))) else (some false)) else (some false)) else (some false)))))))) = some true := by rw [if_neg (show ¬ (false = true) by decide)] at H; exact H
        clear H
        have H := H1
        clear H1
        replace H := Option.bind_eq_some_iff.mp H
        obtain ⟨t103, A120, H⟩ := H
        replace H : ((pyxlaw04_told.f a0_2 l0_4 32).bind fun t106 => ((pyxlaw04_told.f a0_1 l0_3 33).bind fun t109 => ((kdf_Label.f l0_0 a0_1 l0_3 32).bind fun bt112 => ((kdf_Expand.f l0_0 t103 32).bind fun bt116 => (if a0_1.toList = a0_2.toList then ((pyxref01_Same.f l0_3 l0_4).bind fun t120 => (if t102 = true then (if bt112.2 = 0 then (if bt116.2 = 0 then ((pyxref01_Same.f bt112.1 bt116.1).bind fun t121 => (if t121 = true then ((pyxref01_Same.f t103 t106).bind fun t122 => (if (t122 == t120) = true then ((pyxref01_Same.f t103 t109).bind fun t123 => (some (!t123))) else (some false))) else (some false))) else (some false)) else (some false)) else (some false))) else (if t102 = true then (if bt112.2 = 0 then (if bt116.2 = 0 then ((pyxref01_Same.f bt112.1 bt116.1).bind fun t124 => (if t124 = true then ((pyxref01_Same.f t103 t106).bind fun t125 => (if (t125 == false) = true then ((pyxref01_Same.f t103 t109).bind fun t126 => (some (!t126))) else (some false))) else (some false))) else (some false)) else (some false)) else (some false))))))) = some true := H
        have A12 := Aside0.mk A120
        clear A120
        replace H := Option.bind_eq_some_iff.mp H
        obtain ⟨t106, A130, H⟩ := H
        replace H : ((pyxlaw04_told.f a0_1 l0_3 33).bind fun t109 => ((kdf_Label.f l0_0 a0_1 l0_3 32).bind fun bt112 => ((kdf_Expand.f l0_0 t103 32).bind fun bt116 => (if a0_1.toList = a0_2.toList then ((pyxref01_Same.f l0_3 l0_4).bind fun t120 => (if t102 = true then (if bt112.2 = 0 then (if bt116.2 = 0 then ((pyxref01_Same.f bt112.1 bt116.1).bind fun t121 => (if t121 = true then ((pyxref01_Same.f t103 t106).bind fun t122 => (if (t122 == t120) = true then ((pyxref01_Same.f t103 t109).bind fun t123 => (some (!t123))) else (some false))) else (some false))) else (some false)) else (some false)) else (some false))) else (if t102 = true then (if bt112.2 = 0 then (if bt116.2 = 0 then ((pyxref01_Same.f bt112.1 bt116.1).bind fun t124 => (if t124 = true then ((pyxref01_Same.f t103 t106).bind fun t125 => (if (t125 == false) = true then ((pyxref01_Same.f t103 t109).bind fun t126 => (some (!t126))) else (some false))) else (some false))) else (some false)) else (some false)) else (some false)))))) = some true := H
        have A13 := Aside0.mk A130
        clear A130
        replace H := Option.bind_eq_some_iff.mp H
        obtain ⟨t109, A140, H⟩ := H
        replace H : ((kdf_Label.f l0_0 a0_1 l0_3 32).bind fun bt112 => ((kdf_Expand.f l0_0 t103 32).bind fun bt116 => (if a0_1.toList = a0_2.toList then ((pyxref01_Same.f l0_3 l0_4).bind fun t120 => (if t102 = true then (if bt112.2 = 0 then (if bt116.2 = 0 then ((pyxref01_Same.f bt112.1 bt116.1).bind fun t121 => (if t121 = true then ((pyxref01_Same.f t103 t106).bind fun t122 => (if (t122 == t120) = true then ((pyxref01_Same.f t103 t109).bind fun t123 => (some (!t123))) else (some false))) else (some false))) else (some false)) else (some false)) else (some false))) else (if t102 = true then (if bt112.2 = 0 then (if bt116.2 = 0 then ((pyxref01_Same.f bt112.1 bt116.1).bind fun t124 => (if t124 = true then ((pyxref01_Same.f t103 t106).bind fun t125 => (if (t125 == false) = true then ((pyxref01_Same.f t103 t109).bind fun t126 => (some (!t126))) else (some false))) else (some false))) else (some false)) else (some false)) else (some false))))) = some true := H
        have A14 := Aside0.mk A140
        clear A140
        replace H := Option.bind_eq_some_iff.mp H
        obtain ⟨⟨t112, t113⟩, A150, H⟩ := H
        replace H : ((kdf_Expand.f l0_0 t103 32).bind fun bt116 => (if a0_1.toList = a0_2.toList then ((pyxref01_Same.f l0_3 l0_4).bind fun t120 => (if t102 = true then (if t113 = 0 then (if bt116.2 = 0 then ((pyxref01_Same.f t112 bt116.1).bind fun t121 => (if t121 = true then ((pyxref01_Same.f t103 t106).bind fun t122 => (if (t122 == t120) = true then ((pyxref01_Same.f t103 t109).bind fun t123 => (some (!t123))) else (some false))) else (some false))) else (some false)) else (some false)) else (some false))) else (if t102 = true then (if t113 = 0 then (if bt116.2 = 0 then ((pyxref01_Same.f t112 bt116.1).bind fun t124 => (if t124 = true then ((pyxref01_Same.f t103 t106).bind fun t125 => (if (t125 == false) = true then ((pyxref01_Same.f t103 t109).bind fun t126 => (some (!t126))) else (some false))) else (some false))) else (some false)) else (some false)) else (some false)))) = some true := H
        have A15 := Aside0.mk A150
        clear A150
        replace H := Option.bind_eq_some_iff.mp H
        obtain ⟨⟨t116, t117⟩, A160, H⟩ := H
        replace H : (if a0_1.toList = a0_2.toList then ((pyxref01_Same.f l0_3 l0_4).bind fun t120 => (if t102 = true then (if t113 = 0 then (if t117 = 0 then ((pyxref01_Same.f t112 t116).bind fun t121 => (if t121 = true then ((pyxref01_Same.f t103 t106).bind fun t122 => (if (t122 == t120) = true then ((pyxref01_Same.f t103 t109).bind fun t123 => (some (!t123))) else (some false))) else (some false))) else (some false)) else (some false)) else (some false))) else (if t102 = true then (if t113 = 0 then (if t117 = 0 then ((pyxref01_Same.f t112 t116).bind fun t124 => (if t124 = true then ((pyxref01_Same.f t103 t106).bind fun t125 => (if (t125 == false) = true then ((pyxref01_Same.f t103 t109).bind fun t126 => (some (!t126))) else (some false))) else (some false))) else (some false)) else (some false)) else (some false))) = some true := H
        have A16 := Aside0.mk A160
        clear A160
        by_cases c17 : a0_1.toList = a0_2.toList
        · rw [if_pos c17] at H
          have c17b0 : (a0_1.toList == a0_2.toList) = true := beq_iff_eq.mpr c17
          have c17b1 : (a0_1.toList != a0_2.toList) = false := bne_eq_false_iff_eq.mpr c17
          clear c17
          replace H := Option.bind_eq_some_iff.mp H
          obtain ⟨t120, A180, H⟩ := H
          replace H : (if t102 = true then (if t113 = 0 then (if t117 = 0 then ((pyxref01_Same.f t112 t116).bind fun t121 => (if t121 = true then ((pyxref01_Same.f t103 t106).bind fun t122 => (if (t122 == t120) = true then ((pyxref01_Same.f t103 t109).bind fun t123 => (some (!t123))) else (some false))) else (some false))) else (some false)) else (some false)) else (some false)) = some true := H
          have A18 := Aside0.mk A180
          clear A180
          by_cases c19 : t102 = true
          · subst c19
            have H1 : (if t113 = 0 then (if t117 = 0 then ((pyxref01_Same.f t112 t116).bind fun t121 => (if t121 = true then ((pyxref01_Same.f t103 t106).bind fun t122 => (if (t122 == t120) = true then ((pyxref01_Same.f t103 t109).bind fun t123 => (some (!t123))) else (some false))) else (some false))) else (some false)) else (some false)) = some true := by rw [if_pos rfl] at H; exact H
            clear H
            have H := H1
            clear H1
            by_cases c20 : t113 = 0
            · rw [if_pos c20] at H
              have c20b0 : (t113 == 0) = true := beq_iff_eq.mpr c20
              have c20b1 : (t113 != 0) = false := bne_eq_false_iff_eq.mpr c20
              clear c20
              by_cases c21 : t117 = 0
              · rw [if_pos c21] at H
                have c21b0 : (t117 == 0) = true := beq_iff_eq.mpr c21
                have c21b1 : (t117 != 0) = false := bne_eq_false_iff_eq.mpr c21
                clear c21
                replace H := Option.bind_eq_some_iff.mp H
                obtain ⟨t121, A220, H⟩ := H
                replace H : (if t121 = true then ((pyxref01_Same.f t103 t106).bind fun t122 => (if (t122 == t120) = true then ((pyxref01_Same.f t103 t109).bind fun t123 => (some (!t123))) else (some false))) else (some false)) = some true := H
                have A22 := Aside0.mk A220
                clear A220
                by_cases c23 : t121 = true
                · subst c23
                  have H1 : ((pyxref01_Same.f t103 t106).bind fun t122 => (if (t122 == t120) = true then ((pyxref01_Same.f t103 t109).bind fun t123 => (some (!t123))) else (some false))) = some true := by rw [if_pos rfl] at H; exact H
                  clear H
                  have H := H1
                  clear H1
                  replace H := Option.bind_eq_some_iff.mp H
                  obtain ⟨t122, A240, H⟩ := H
                  replace H : (if (t122 == t120) = true then ((pyxref01_Same.f t103 t109).bind fun t123 => (some (!t123))) else (some false)) = some true := H
                  have A24 := Aside0.mk A240
                  clear A240
                  by_cases c25 : (t122 == t120) = true
                  · rw [if_pos c25] at H
                    have c25b0 : (t122 == t120) = true := c25
                    (try (have c25b1 : decide (t122 = t120) = true := by simpa using c25))
                    (try (have c25b2 : (t122 == t120) = true := by simpa using c25))
                    clear c25
                    replace H := Option.bind_eq_some_iff.mp H
                    obtain ⟨t123, A260, H⟩ := H
                    replace H : (some (!t123)) = some true := H
                    have A26 := Aside0.mk A260
                    clear A260
                    have HT_ := Option.some.inj H
                    go_wp2_with (first | ((with_reducible refine gate_callee (f := 27) rfl ?_); refine goesL_ (some 54) rfl rfl Try.func27 (by kernel_rfl) rfl #[.string a0_1, .slice A0_3 l0_3.length c0_3, .int .i64 32] rfl (by (try simp only [List.map_toArray, List.map_cons, List.map_nil]); first | done | rfl | (simp only [List.length_drop, List.length_take]; rfl)) ?_; (with_reducible refine (pyxlaw04_told.calls a0_1 _ _ l0_3 32 t103 _ ?side1 ?side2 A12.out).mono ?_); (case side1 => repeat (first | exact (Kd.C_below HR0_3.out HB.out) | (with_reducible refine Kd.C_alloc ?_ _) | (with_reducible refine Kd.C_drewN ?_ _) | (with_reducible refine Kd.C_drew ?_))); (case side2 => exact HC0_3.out); rintro e w27 ⟨v104, rfl, ho0, hb⟩; refine ⟨_, rfl, ?_⟩; have n0_ := Aside0.mk (Kd.R_lower ho0 (below_size (by repeat (first | (with_reducible first | exact HB.out | apply below_alloc | apply pw_below_drewN | apply below_drew1 | refine below_set ?_ GE101.out) | exact HB.out)))); have n1_ := Aside0.mk (blk_below (g := gb101) (o := .cells #[.slice A0_0 l0_0.length c0_0, .string a0_1, .string a0_2, .slice A0_3 l0_3.length c0_3, .slice A0_4 l0_4.length c0_4] 47 (0, 0)) (by (with_reducible repeat (first | refine blk_drewN ?_ _ | refine blk_drew ?_ | refine blk_alloc ?_ _)); exact BK101.out) hb); have n2_ := Aside0.mk (below_step (by repeat (first | (with_reducible first | exact HB.out | apply below_alloc | apply pw_below_drewN | apply below_drew1 | refine below_set ?_ GE101.out) | exact HB.out)) hb); clear BK101; clear HB; have HO105 := n0_; have BK101 := n1_; have HB := n2_; clear n0_ n1_ n2_; (try clear hb); (try clear hb2); (try clear hk); (try clear hi); (try clear ho0)) | ((with_reducible refine gate_callee (f := 27) rfl ?_); refine goesL_ (some 57) rfl rfl Try.func27 (by kernel_rfl) rfl #[.string a0_2, .slice A0_4 l0_4.length c0_4, .int .i64 32] rfl (by (try simp only [List.map_toArray, List.map_cons, List.map_nil]); first | done | rfl | (simp only [List.length_drop, List.length_take]; rfl)) ?_; (with_reducible refine (pyxlaw04_told.calls a0_2 _ _ l0_4 32 t106 _ ?side1 ?side2 A13.out).mono ?_); (case side1 => repeat (first | exact (Kd.C_below HR0_4.out HB.out) | (with_reducible refine Kd.C_alloc ?_ _) | (with_reducible refine Kd.C_drewN ?_ _) | (with_reducible refine Kd.C_drew ?_))); (case side2 => exact HC0_4.out); rintro e w28 ⟨v107, rfl, ho0, hb⟩; refine ⟨_, rfl, ?_⟩; have n0_ := Aside0.mk (Kd.R_elder' (by (with_reducible repeat (first | apply Kd.R_alloc | apply Kd.R_drewN | apply Kd.R_drew)); exact HO105.out) (Kd.R_base ho0) hb); have n1_ := Aside0.mk (Kd.R_lower (Kd.R_new' ho0 (Kd.R_lt (by (with_reducible repeat (first | apply Kd.R_alloc | apply Kd.R_drewN | apply Kd.R_drew)); exact HO105.out))) (below_size (by repeat (first | (with_reducible first | exact HB.out | apply below_alloc | apply pw_below_drewN | apply below_drew1 | refine below_set ?_ GE101.out) | exact HB.out)))); have n2_ := Aside0.mk (blk_below (g := gb101) (o := .cells #[.slice A0_0 l0_0.length c0_0, .string a0_1, .string a0_2, .slice A0_3 l0_3.length c0_3, .slice A0_4 l0_4.length c0_4] 47 (0, 0)) (by (with_reducible repeat (first | refine blk_drewN ?_ _ | refine blk_drew ?_ | refine blk_alloc ?_ _)); exact BK101.out) hb); have n3_ := Aside0.mk (below_step (by repeat (first | (with_reducible first | exact HB.out | apply below_alloc | apply pw_below_drewN | apply below_drew1 | refine below_set ?_ GE101.out) | exact HB.out)) hb); clear HO105; clear BK101; clear HB; have HO105 := n0_; have HO108 := n1_; have BK101 := n2_; have HB := n3_; clear n0_ n1_ n2_ n3_; (try clear hb); (try clear hb2); (try clear hk); (try clear hi); (try clear ho0)) | ((with_reducible refine gate_callee (f := 27) rfl ?_); refine goesL_ (some 60) rfl rfl Try.func27 (by kernel_rfl) rfl #[.string a0_1, .slice A0_3 l0_3.length c0_3, .int .i64 33] rfl (by (try simp only [List.map_toArray, List.map_cons, List.map_nil]); first | done | rfl | (simp only [List.length_drop, List.length_take]; rfl)) ?_; (with_reducible refine (pyxlaw04_told.calls a0_1 _ _ l0_3 33 t109 _ ?side1 ?side2 A14.out).mono ?_); (case side1 => repeat (first | exact (Kd.C_below HR0_3.out HB.out) | (with_reducible refine Kd.C_alloc ?_ _) | (with_reducible refine Kd.C_drewN ?_ _) | (with_reducible refine Kd.C_drew ?_))); (case side2 => exact HC0_3.out); rintro e w29 ⟨v110, rfl, ho0, hb⟩; refine ⟨_, rfl, ?_⟩; have n0_ := Aside0.mk (Kd.R_elder' (by (with_reducible repeat (first | apply Kd.R_alloc | apply Kd.R_drewN | apply Kd.R_drew)); exact HO105.out) (Kd.R_base ho0) hb); have n1_ := Aside0.mk (Kd.R_elder' (by (with_reducible repeat (first | apply Kd.R_alloc | apply Kd.R_drewN | apply Kd.R_drew)); exact HO108.out) (Kd.R_base ho0) hb); have n2_ := Aside0.mk (Kd.R_lower (Kd.R_new' (Kd.R_new' ho0 (Kd.R_lt (by (with_reducible repeat (first | apply Kd.R_alloc | apply Kd.R_drewN | apply Kd.R_drew)); exact HO105.out))) (Kd.R_lt (by (with_reducible repeat (first | apply Kd.R_alloc | apply Kd.R_drewN | apply Kd.R_drew)); exact HO108.out))) (below_size (by repeat (first | (with_reducible first | exact HB.out | apply below_alloc | apply pw_below_drewN | apply below_drew1 | refine below_set ?_ GE101.out) | exact HB.out)))); have n3_ := Aside0.mk (blk_below (g := gb101) (o := .cells #[.slice A0_0 l0_0.length c0_0, .string a0_1, .string a0_2, .slice A0_3 l0_3.length c0_3, .slice A0_4 l0_4.length c0_4] 47 (0, 0)) (by (with_reducible repeat (first | refine blk_drewN ?_ _ | refine blk_drew ?_ | refine blk_alloc ?_ _)); exact BK101.out) hb); have n4_ := Aside0.mk (below_step (by repeat (first | (with_reducible first | exact HB.out | apply below_alloc | apply pw_below_drewN | apply below_drew1 | refine below_set ?_ GE101.out) | exact HB.out)) hb); clear HO105; clear HO108; clear BK101; clear HB; have HO105 := n0_; have HO108 := n1_; have HO111 := n2_; have BK101 := n3_; have HB := n4_; clear n0_ n1_ n2_ n3_ n4_; (try clear hb); (try clear hb2); (try clear hk); (try clear hi); (try clear ho0)) | ((with_reducible refine gate_callee (f := 18) rfl ?_); refine goesL_ (some 65) rfl rfl Try.func18 (by kernel_rfl) rfl #[.slice A0_0 l0_0.length c0_0, .string a0_1, .slice A0_3 l0_3.length c0_3, .int .i64 32] rfl (by (try simp only [List.map_toArray, List.map_cons, List.map_nil]); first | done | rfl | (simp only [List.length_drop, List.length_take]; rfl)) ?_; (with_reducible refine (kdf_Label.calls _ _ l0_0 a0_1 _ _ l0_3 32 t112 t113 _ ?side1 ?side2 ?side3 ?side4 A15.out).mono ?_); (case side1 => repeat (first | exact (Kd.C_below HR0_0.out HB.out) | (with_reducible refine Kd.C_alloc ?_ _) | (with_reducible refine Kd.C_drewN ?_ _) | (with_reducible refine Kd.C_drew ?_))); (case side2 => exact HC0_0.out); (case side3 => repeat (first | exact (Kd.C_below HR0_3.out HB.out) | (with_reducible refine Kd.C_alloc ?_ _) | (with_reducible refine Kd.C_drewN ?_ _) | (with_reducible refine Kd.C_drew ?_))); (case side4 => exact HC0_3.out); rintro e w30 ⟨v114, rfl, ho0, hb⟩; refine ⟨_, rfl, ?_⟩; have n0_ := Aside0.mk (Kd.R_elder' (by (with_reducible repeat (first | apply Kd.R_alloc | apply Kd.R_drewN | apply Kd.R_drew)); exact HO105.out) (Kd.R_base ho0) hb); have n1_ := Aside0.mk (Kd.R_elder' (by (with_reducible repeat (first | apply Kd.R_alloc | apply Kd.R_drewN | apply Kd.R_drew)); exact HO108.out) (Kd.R_base ho0) hb); have n2_ := Aside0.mk (Kd.R_elder' (by (with_reducible repeat (first | apply Kd.R_alloc | apply Kd.R_drewN | apply Kd.R_drew)); exact HO111.out) (Kd.R_base ho0) hb); have n3_ := Aside0.mk (Kd.R_lower (Kd.R_new' (Kd.R_new' (Kd.R_new' ho0 (Kd.R_lt (by (with_reducible repeat (first | apply Kd.R_alloc | apply Kd.R_drewN | apply Kd.R_drew)); exact HO105.out))) (Kd.R_lt (by (with_reducible repeat (first | apply Kd.R_alloc | apply Kd.R_drewN | apply Kd.R_drew)); exact HO108.out))) (Kd.R_lt (by (with_reducible repeat (first | apply Kd.R_alloc | apply Kd.R_drewN | apply Kd.R_drew)); exact HO111.out))) (below_size (by repeat (first | (with_reducible first | exact HB.out | apply below_alloc | apply pw_below_drewN | apply below_drew1 | refine below_set ?_ GE101.out) | exact HB.out)))); have n4_ := Aside0.mk (blk_below (g := gb101) (o := .cells #[.slice A0_0 l0_0.length c0_0, .string a0_1, .string a0_2, .slice A0_3 l0_3.length c0_3, .slice A0_4 l0_4.length c0_4] 47 (0, 0)) (by (with_reducible repeat (first | refine blk_drewN ?_ _ | refine blk_drew ?_ | refine blk_alloc ?_ _)); exact BK101.out) hb); have n5_ := Aside0.mk (below_step (by repeat (first | (with_reducible first | exact HB.out | apply below_alloc | apply pw_below_drewN | apply below_drew1 | refine below_set ?_ GE101.out) | exact HB.out)) hb); clear HO105; clear HO108; clear HO111; clear BK101; clear HB; have HO105 := n0_; have HO108 := n1_; have HO111 := n2_; have HO115 := n3_; have BK101 := n4_; have HB := n5_; clear n0_ n1_ n2_ n3_ n4_ n5_; (try clear hb); (try clear hb2); (try clear hk); (try clear hi); (try clear ho0); obtain ⟨Ao31, co31, eo31⟩ := Kd.R_slice HO105.out; subst eo31) | ((with_reducible refine gate_callee (f := 16) rfl ?_); refine goesL_ (some 71) rfl rfl Try.func16 (by kernel_rfl) rfl #[.slice A0_0 l0_0.length c0_0, .slice Ao31 t103.length co31, .int .i64 32] rfl (by (try simp only [List.map_toArray, List.map_cons, List.map_nil]); first | done | rfl | (simp only [List.length_drop, List.length_take]; rfl)) ?_; (with_reducible refine (kdf_Expand.calls _ _ l0_0 _ _ t103 32 t116 t117 _ ?side1 ?side2 ?side3 ?side4 A16.out).mono ?_); (case side1 => repeat (first | exact (Kd.C_below HR0_0.out HB.out) | (with_reducible refine Kd.C_alloc ?_ _) | (with_reducible refine Kd.C_drewN ?_ _) | (with_reducible refine Kd.C_drew ?_))); (case side2 => exact HC0_0.out); (case side3 => repeat (first | exact (Kd.R_reads' HO105.out).2.2 | (with_reducible refine Kd.C_alloc ?_ _) | (with_reducible refine Kd.C_drewN ?_ _) | (with_reducible refine Kd.C_drew ?_))); (case side4 => exact (Kd.R_reads' HO105.out).2.1); rintro e w32 ⟨v118, rfl, ho0, hb⟩; refine ⟨_, rfl, ?_⟩; have n0_ := Aside0.mk (Kd.R_elder' (by (with_reducible repeat (first | apply Kd.R_alloc | apply Kd.R_drewN | apply Kd.R_drew)); exact HO105.out) (Kd.R_base ho0) hb); have n1_ := Aside0.mk (Kd.R_elder' (by (with_reducible repeat (first | apply Kd.R_alloc | apply Kd.R_drewN | apply Kd.R_drew)); exact HO108.out) (Kd.R_base ho0) hb); have n2_ := Aside0.mk (Kd.R_elder' (by (with_reducible repeat (first | apply Kd.R_alloc | apply Kd.R_drewN | apply Kd.R_drew)); exact HO111.out) (Kd.R_base ho0) hb); have n3_ := Aside0.mk (Kd.R_elder' (by (with_reducible repeat (first | apply Kd.R_alloc | apply Kd.R_drewN | apply Kd.R_drew)); exact HO115.out) (Kd.R_base ho0) hb); have n4_ := Aside0.mk (Kd.R_lower (Kd.R_new' (Kd.R_new' (Kd.R_new' (Kd.R_new' ho0 (Kd.R_lt (by (with_reducible repeat (first | apply Kd.R_alloc | apply Kd.R_drewN | apply Kd.R_drew)); exact HO105.out))) (Kd.R_lt (by (with_reducible repeat (first | apply Kd.R_alloc | apply Kd.R_drewN | apply Kd.R_drew)); exact HO108.out))) (Kd.R_lt (by (with_reducible repeat (first | apply Kd.R_alloc | apply Kd.R_drewN | apply Kd.R_drew)); exact HO111.out))) (Kd.R_lt (by (with_reducible repeat (first | apply Kd.R_alloc | apply Kd.R_drewN | apply Kd.R_drew)); exact HO115.out))) (below_size (by repeat (first | (with_reducible first | exact HB.out | apply below_alloc | apply pw_below_drewN | apply below_drew1 | refine below_set ?_ GE101.out) | exact HB.out)))); have n5_ := Aside0.mk (blk_below (g := gb101) (o := .cells #[.slice A0_0 l0_0.length c0_0, .string a0_1, .string a0_2, .slice A0_3 l0_3.length c0_3, .slice A0_4 l0_4.length c0_4] 47 (0, 0)) (by (with_reducible repeat (first | refine blk_drewN ?_ _ | refine blk_drew ?_ | refine blk_alloc ?_ _)); exact BK101.out) hb); have n6_ := Aside0.mk (below_step (by repeat (first | (with_reducible first | exact HB.out | apply below_alloc | apply pw_below_drewN | apply below_drew1 | refine below_set ?_ GE101.out) | exact HB.out)) hb); clear HO105; clear HO108; clear HO111; clear HO115; clear BK101; clear HB; have HO105 := n0_; have HO108 := n1_; have HO111 := n2_; have HO115 := n3_; have HO119 := n4_; have BK101 := n5_; have HB := n6_; clear n0_ n1_ n2_ n3_ n4_ n5_ n6_; (try clear hb); (try clear hb2); (try clear hk); (try clear hi); (try clear ho0)) | (go_at_call 22; (with_reducible refine (pyxref01_Same.calls _ _ l0_3 _ _ l0_4 t120 _ ?side1 ?side2 ?side3 ?side4 A18.out).mono ?_); (case side1 => repeat (first | exact (Kd.C_below HR0_3.out HB.out) | (with_reducible refine Kd.C_alloc ?_ _) | (with_reducible refine Kd.C_drewN ?_ _) | (with_reducible refine Kd.C_drew ?_))); (case side2 => exact HC0_3.out); (case side3 => repeat (first | exact (Kd.C_below HR0_4.out HB.out) | (with_reducible refine Kd.C_alloc ?_ _) | (with_reducible refine Kd.C_drewN ?_ _) | (with_reducible refine Kd.C_drew ?_))); (case side4 => exact HC0_4.out); rintro e w' ⟨rfl, ⟨nd, rfl⟩⟩; obtain ⟨Ao33, co33, eo33⟩ := Kd.R_slice HO115.out; subst eo33; obtain ⟨Ao34, co34, eo34⟩ := Kd.R_slice HO119.out; subst eo34) | (go_at_call 22; (with_reducible refine (pyxref01_Same.calls _ _ t112 _ _ t116 true _ ?side1 ?side2 ?side3 ?side4 A22.out).mono ?_); (case side1 => repeat (first | exact (Kd.R_reads' HO115.out).2.2 | (with_reducible refine Kd.C_alloc ?_ _) | (with_reducible refine Kd.C_drewN ?_ _) | (with_reducible refine Kd.C_drew ?_))); (case side2 => exact (Kd.R_reads' HO115.out).2.1); (case side3 => repeat (first | exact (Kd.R_reads' HO119.out).2.2 | (with_reducible refine Kd.C_alloc ?_ _) | (with_reducible refine Kd.C_drewN ?_ _) | (with_reducible refine Kd.C_drew ?_))); (case side4 => exact (Kd.R_reads' HO119.out).2.1); rintro e w' ⟨rfl, ⟨nd, rfl⟩⟩; obtain ⟨Ao35, co35, eo35⟩ := Kd.R_slice HO108.out; subst eo35) | (go_at_call 22; (with_reducible refine (pyxref01_Same.calls _ _ t103 _ _ t106 t122 _ ?side1 ?side2 ?side3 ?side4 A24.out).mono ?_); (case side1 => repeat (first | exact (Kd.R_reads' HO105.out).2.2 | (with_reducible refine Kd.C_alloc ?_ _) | (with_reducible refine Kd.C_drewN ?_ _) | (with_reducible refine Kd.C_drew ?_))); (case side2 => exact (Kd.R_reads' HO105.out).2.1); (case side3 => repeat (first | exact (Kd.R_reads' HO108.out).2.2 | (with_reducible refine Kd.C_alloc ?_ _) | (with_reducible refine Kd.C_drewN ?_ _) | (with_reducible refine Kd.C_drew ?_))); (case side4 => exact (Kd.R_reads' HO108.out).2.1); rintro e w' ⟨rfl, ⟨nd, rfl⟩⟩; obtain ⟨Ao36, co36, eo36⟩ := Kd.R_slice HO111.out; subst eo36) | (go_at_call 22; (with_reducible refine (pyxref01_Same.calls _ _ t103 _ _ t109 t123 _ ?side1 ?side2 ?side3 ?side4 A26.out).mono ?_); (case side1 => repeat (first | exact (Kd.R_reads' HO105.out).2.2 | (with_reducible refine Kd.C_alloc ?_ _) | (with_reducible refine Kd.C_drewN ?_ _) | (with_reducible refine Kd.C_drew ?_))); (case side2 => exact (Kd.R_reads' HO105.out).2.1); (case side3 => repeat (first | exact (Kd.R_reads' HO111.out).2.2 | (with_reducible refine Kd.C_alloc ?_ _) | (with_reducible refine Kd.C_drewN ?_ _) | (with_reducible refine Kd.C_drew ?_))); (case side4 => exact (Kd.R_reads' HO111.out).2.1); rintro e w' ⟨rfl, ⟨nd, rfl⟩⟩))
                    go_ret
                    exact ⟨by first | rfl | (simp [errW_none, errW_some] <;> rfl) | (simp [*, errW_none, errW_some] <;> rfl), by repeat (first | (with_reducible first | exact HB.out | apply below_alloc | apply pw_below_drewN | apply below_drew1 | refine below_set ?_ GE101.out) | exact HB.out)⟩
                  · rw [if_neg c25] at H
                    have c25b0 : (t122 == t120) = false := by simpa using c25
                    (try (have c25b1 : decide (t122 = t120) = false := by simpa using c25))
                    (try (have c25b2 : (t122 == t120) = false := by simpa using c25))
                    (try (have c25b3 : ¬ (t122 = t120) := by simpa using c25))
                    clear c25
                    exact absurd (Option.some.inj H) (by decide)
                · replace c23 := Bool.eq_false_iff.mpr c23
                  subst c23
                  have H1 : (some false) = some true := by rw [if_neg (show ¬ (false = true) by decide)] at H; exact H
                  clear H
                  have H := H1
                  clear H1
                  exact absurd (Option.some.inj H) (by decide)
              · rw [if_neg c21] at H
                have c21b0 : (t117 == 0) = false := beq_eq_false_iff_ne.mpr c21
                have c21b1 : (t117 != 0) = true := bne_iff_ne.mpr c21
                exact absurd (Option.some.inj H) (by decide)
            · rw [if_neg c20] at H
              have c20b0 : (t113 == 0) = false := beq_eq_false_iff_ne.mpr c20
              have c20b1 : (t113 != 0) = true := bne_iff_ne.mpr c20
              exact absurd (Option.some.inj H) (by decide)
          · replace c19 := Bool.eq_false_iff.mpr c19
            subst c19
            have H1 : (some false) = some true := by rw [if_neg (show ¬ (false = true) by decide)] at H; exact H
            clear H
            have H := H1
            clear H1
            exact absurd (Option.some.inj H) (by decide)
        · rw [if_neg c17] at H
          have c17b0 : (a0_1.toList == a0_2.toList) = false := beq_eq_false_iff_ne.mpr c17
          have c17b1 : (a0_1.toList != a0_2.toList) = true := bne_iff_ne.mpr c17
          by_cases c72 : t102 = true
          · subst c72
            have H1 : (if t113 = 0 then (if t117 = 0 then ((pyxref01_Same.f t112 t116).bind fun t124 => (if t124 = true then ((pyxref01_Same.f t103 t106).bind fun t125 => (if (t125 == false) = true then ((pyxref01_Same.f t103 t109).bind fun t126 => (some (!t126))) else (some false))) else (some false))) else (some false)) else (some false)) = some true := by rw [if_pos rfl] at H; exact H
            clear H
            have H := H1
            clear H1
            by_cases c73 : t113 = 0
            · rw [if_pos c73] at H
              have c73b0 : (t113 == 0) = true := beq_iff_eq.mpr c73
              have c73b1 : (t113 != 0) = false := bne_eq_false_iff_eq.mpr c73
              clear c73
              by_cases c74 : t117 = 0
              · rw [if_pos c74] at H
                have c74b0 : (t117 == 0) = true := beq_iff_eq.mpr c74
                have c74b1 : (t117 != 0) = false := bne_eq_false_iff_eq.mpr c74
                clear c74
                replace H := Option.bind_eq_some_iff.mp H
                obtain ⟨t124, A750, H⟩ := H
                replace H : (if t124 = true then ((pyxref01_Same.f t103 t106).bind fun t125 => (if (t125 == false) = true then ((pyxref01_Same.f t103 t109).bind fun t126 => (some (!t126))) else (some false))) else (some false)) = some true := H
                have A75 := Aside0.mk A750
                clear A750
                by_cases c76 : t124 = true
                · subst c76
                  have H1 : ((pyxref01_Same.f t103 t106).bind fun t125 => (if (t125 == false) = true then ((pyxref01_Same.f t103 t109).bind fun t126 => (some (!t126))) else (some false))) = some true := by rw [if_pos rfl] at H; exact H
                  clear H
                  have H := H1
                  clear H1
                  replace H := Option.bind_eq_some_iff.mp H
                  obtain ⟨t125, A770, H⟩ := H
                  replace H : (if (t125 == false) = true then ((pyxref01_Same.f t103 t109).bind fun t126 => (some (!t126))) else (some false)) = some true := H
                  have A77 := Aside0.mk A770
                  clear A770
                  by_cases c78 : (t125 == false) = true
                  · rw [if_pos c78] at H
                    have c78b0 : (t125 == false) = true := c78
                    (try (have c78b1 : decide (t125 = false) = true := by simpa using c78))
                    (try (have c78b2 : (t125 == false) = true := by simpa using c78))
                    clear c78
                    replace H := Option.bind_eq_some_iff.mp H
                    obtain ⟨t126, A790, H⟩ := H
                    replace H : (some (!t126)) = some true := H
                    have A79 := Aside0.mk A790
                    clear A790
                    have HT_ := Option.some.inj H
                    go_wp2_with (first | ((with_reducible refine gate_callee (f := 27) rfl ?_); refine goesL_ (some 54) rfl rfl Try.func27 (by kernel_rfl) rfl #[.string a0_1, .slice A0_3 l0_3.length c0_3, .int .i64 32] rfl (by (try simp only [List.map_toArray, List.map_cons, List.map_nil]); first | done | rfl | (simp only [List.length_drop, List.length_take]; rfl)) ?_; (with_reducible refine (pyxlaw04_told.calls a0_1 _ _ l0_3 32 t103 _ ?side1 ?side2 A12.out).mono ?_); (case side1 => repeat (first | exact (Kd.C_below HR0_3.out HB.out) | (with_reducible refine Kd.C_alloc ?_ _) | (with_reducible refine Kd.C_drewN ?_ _) | (with_reducible refine Kd.C_drew ?_))); (case side2 => exact HC0_3.out); rintro e w80 ⟨v104, rfl, ho0, hb⟩; refine ⟨_, rfl, ?_⟩; have n0_ := Aside0.mk (Kd.R_lower ho0 (below_size (by repeat (first | (with_reducible first | exact HB.out | apply below_alloc | apply pw_below_drewN | apply below_drew1 | refine below_set ?_ GE101.out) | exact HB.out)))); have n1_ := Aside0.mk (blk_below (g := gb101) (o := .cells #[.slice A0_0 l0_0.length c0_0, .string a0_1, .string a0_2, .slice A0_3 l0_3.length c0_3, .slice A0_4 l0_4.length c0_4] 47 (0, 0)) (by (with_reducible repeat (first | refine blk_drewN ?_ _ | refine blk_drew ?_ | refine blk_alloc ?_ _)); exact BK101.out) hb); have n2_ := Aside0.mk (below_step (by repeat (first | (with_reducible first | exact HB.out | apply below_alloc | apply pw_below_drewN | apply below_drew1 | refine below_set ?_ GE101.out) | exact HB.out)) hb); clear BK101; clear HB; have HO105 := n0_; have BK101 := n1_; have HB := n2_; clear n0_ n1_ n2_; (try clear hb); (try clear hb2); (try clear hk); (try clear hi); (try clear ho0)) | ((with_reducible refine gate_callee (f := 27) rfl ?_); refine goesL_ (some 57) rfl rfl Try.func27 (by kernel_rfl) rfl #[.string a0_2, .slice A0_4 l0_4.length c0_4, .int .i64 32] rfl (by (try simp only [List.map_toArray, List.map_cons, List.map_nil]); first | done | rfl | (simp only [List.length_drop, List.length_take]; rfl)) ?_; (with_reducible refine (pyxlaw04_told.calls a0_2 _ _ l0_4 32 t106 _ ?side1 ?side2 A13.out).mono ?_); (case side1 => repeat (first | exact (Kd.C_below HR0_4.out HB.out) | (with_reducible refine Kd.C_alloc ?_ _) | (with_reducible refine Kd.C_drewN ?_ _) | (with_reducible refine Kd.C_drew ?_))); (case side2 => exact HC0_4.out); rintro e w81 ⟨v107, rfl, ho0, hb⟩; refine ⟨_, rfl, ?_⟩; have n0_ := Aside0.mk (Kd.R_elder' (by (with_reducible repeat (first | apply Kd.R_alloc | apply Kd.R_drewN | apply Kd.R_drew)); exact HO105.out) (Kd.R_base ho0) hb); have n1_ := Aside0.mk (Kd.R_lower (Kd.R_new' ho0 (Kd.R_lt (by (with_reducible repeat (first | apply Kd.R_alloc | apply Kd.R_drewN | apply Kd.R_drew)); exact HO105.out))) (below_size (by repeat (first | (with_reducible first | exact HB.out | apply below_alloc | apply pw_below_drewN | apply below_drew1 | refine below_set ?_ GE101.out) | exact HB.out)))); have n2_ := Aside0.mk (blk_below (g := gb101) (o := .cells #[.slice A0_0 l0_0.length c0_0, .string a0_1, .string a0_2, .slice A0_3 l0_3.length c0_3, .slice A0_4 l0_4.length c0_4] 47 (0, 0)) (by (with_reducible repeat (first | refine blk_drewN ?_ _ | refine blk_drew ?_ | refine blk_alloc ?_ _)); exact BK101.out) hb); have n3_ := Aside0.mk (below_step (by repeat (first | (with_reducible first | exact HB.out | apply below_alloc | apply pw_below_drewN | apply below_drew1 | refine below_set ?_ GE101.out) | exact HB.out)) hb); clear HO105; clear BK101; clear HB; have HO105 := n0_; have HO108 := n1_; have BK101 := n2_; have HB := n3_; clear n0_ n1_ n2_ n3_; (try clear hb); (try clear hb2); (try clear hk); (try clear hi); (try clear ho0)) | ((with_reducible refine gate_callee (f := 27) rfl ?_); refine goesL_ (some 60) rfl rfl Try.func27 (by kernel_rfl) rfl #[.string a0_1, .slice A0_3 l0_3.length c0_3, .int .i64 33] rfl (by (try simp only [List.map_toArray, List.map_cons, List.map_nil]); first | done | rfl | (simp only [List.length_drop, List.length_take]; rfl)) ?_; (with_reducible refine (pyxlaw04_told.calls a0_1 _ _ l0_3 33 t109 _ ?side1 ?side2 A14.out).mono ?_); (case side1 => repeat (first | exact (Kd.C_below HR0_3.out HB.out) | (with_reducible refine Kd.C_alloc ?_ _) | (with_reducible refine Kd.C_drewN ?_ _) | (with_reducible refine Kd.C_drew ?_))); (case side2 => exact HC0_3.out); rintro e w82 ⟨v110, rfl, ho0, hb⟩; refine ⟨_, rfl, ?_⟩; have n0_ := Aside0.mk (Kd.R_elder' (by (with_reducible repeat (first | apply Kd.R_alloc | apply Kd.R_drewN | apply Kd.R_drew)); exact HO105.out) (Kd.R_base ho0) hb); have n1_ := Aside0.mk (Kd.R_elder' (by (with_reducible repeat (first | apply Kd.R_alloc | apply Kd.R_drewN | apply Kd.R_drew)); exact HO108.out) (Kd.R_base ho0) hb); have n2_ := Aside0.mk (Kd.R_lower (Kd.R_new' (Kd.R_new' ho0 (Kd.R_lt (by (with_reducible repeat (first | apply Kd.R_alloc | apply Kd.R_drewN | apply Kd.R_drew)); exact HO105.out))) (Kd.R_lt (by (with_reducible repeat (first | apply Kd.R_alloc | apply Kd.R_drewN | apply Kd.R_drew)); exact HO108.out))) (below_size (by repeat (first | (with_reducible first | exact HB.out | apply below_alloc | apply pw_below_drewN | apply below_drew1 | refine below_set ?_ GE101.out) | exact HB.out)))); have n3_ := Aside0.mk (blk_below (g := gb101) (o := .cells #[.slice A0_0 l0_0.length c0_0, .string a0_1, .string a0_2, .slice A0_3 l0_3.length c0_3, .slice A0_4 l0_4.length c0_4] 47 (0, 0)) (by (with_reducible repeat (first | refine blk_drewN ?_ _ | refine blk_drew ?_ | refine blk_alloc ?_ _)); exact BK101.out) hb); have n4_ := Aside0.mk (below_step (by repeat (first | (with_reducible first | exact HB.out | apply below_alloc | apply pw_below_drewN | apply below_drew1 | refine below_set ?_ GE101.out) | exact HB.out)) hb); clear HO105; clear HO108; clear BK101; clear HB; have HO105 := n0_; have HO108 := n1_; have HO111 := n2_; have BK101 := n3_; have HB := n4_; clear n0_ n1_ n2_ n3_ n4_; (try clear hb); (try clear hb2); (try clear hk); (try clear hi); (try clear ho0)) | ((with_reducible refine gate_callee (f := 18) rfl ?_); refine goesL_ (some 65) rfl rfl Try.func18 (by kernel_rfl) rfl #[.slice A0_0 l0_0.length c0_0, .string a0_1, .slice A0_3 l0_3.length c0_3, .int .i64 32] rfl (by (try simp only [List.map_toArray, List.map_cons, List.map_nil]); first | done | rfl | (simp only [List.length_drop, List.length_take]; rfl)) ?_; (with_reducible refine (kdf_Label.calls _ _ l0_0 a0_1 _ _ l0_3 32 t112 t113 _ ?side1 ?side2 ?side3 ?side4 A15.out).mono ?_); (case side1 => repeat (first | exact (Kd.C_below HR0_0.out HB.out) | (with_reducible refine Kd.C_alloc ?_ _) | (with_reducible refine Kd.C_drewN ?_ _) | (with_reducible refine Kd.C_drew ?_))); (case side2 => exact HC0_0.out); (case side3 => repeat (first | exact (Kd.C_below HR0_3.out HB.out) | (with_reducible refine Kd.C_alloc ?_ _) | (with_reducible refine Kd.C_drewN ?_ _) | (with_reducible refine Kd.C_drew ?_))); (case side4 => exact HC0_3.out); rintro e w83 ⟨v114, rfl, ho0, hb⟩; refine ⟨_, rfl, ?_⟩; have n0_ := Aside0.mk (Kd.R_elder' (by (with_reducible repeat (first | apply Kd.R_alloc | apply Kd.R_drewN | apply Kd.R_drew)); exact HO105.out) (Kd.R_base ho0) hb); have n1_ := Aside0.mk (Kd.R_elder' (by (with_reducible repeat (first | apply Kd.R_alloc | apply Kd.R_drewN | apply Kd.R_drew)); exact HO108.out) (Kd.R_base ho0) hb); have n2_ := Aside0.mk (Kd.R_elder' (by (with_reducible repeat (first | apply Kd.R_alloc | apply Kd.R_drewN | apply Kd.R_drew)); exact HO111.out) (Kd.R_base ho0) hb); have n3_ := Aside0.mk (Kd.R_lower (Kd.R_new' (Kd.R_new' (Kd.R_new' ho0 (Kd.R_lt (by (with_reducible repeat (first | apply Kd.R_alloc | apply Kd.R_drewN | apply Kd.R_drew)); exact HO105.out))) (Kd.R_lt (by (with_reducible repeat (first | apply Kd.R_alloc | apply Kd.R_drewN | apply Kd.R_drew)); exact HO108.out))) (Kd.R_lt (by (with_reducible repeat (first | apply Kd.R_alloc | apply Kd.R_drewN | apply Kd.R_drew)); exact HO111.out))) (below_size (by repeat (first | (with_reducible first | exact HB.out | apply below_alloc | apply pw_below_drewN | apply below_drew1 | refine below_set ?_ GE101.out) | exact HB.out)))); have n4_ := Aside0.mk (blk_below (g := gb101) (o := .cells #[.slice A0_0 l0_0.length c0_0, .string a0_1, .string a0_2, .slice A0_3 l0_3.length c0_3, .slice A0_4 l0_4.length c0_4] 47 (0, 0)) (by (with_reducible repeat (first | refine blk_drewN ?_ _ | refine blk_drew ?_ | refine blk_alloc ?_ _)); exact BK101.out) hb); have n5_ := Aside0.mk (below_step (by repeat (first | (with_reducible first | exact HB.out | apply below_alloc | apply pw_below_drewN | apply below_drew1 | refine below_set ?_ GE101.out) | exact HB.out)) hb); clear HO105; clear HO108; clear HO111; clear BK101; clear HB; have HO105 := n0_; have HO108 := n1_; have HO111 := n2_; have HO115 := n3_; have BK101 := n4_; have HB := n5_; clear n0_ n1_ n2_ n3_ n4_ n5_; (try clear hb); (try clear hb2); (try clear hk); (try clear hi); (try clear ho0); obtain ⟨Ao84, co84, eo84⟩ := Kd.R_slice HO105.out; subst eo84) | ((with_reducible refine gate_callee (f := 16) rfl ?_); refine goesL_ (some 71) rfl rfl Try.func16 (by kernel_rfl) rfl #[.slice A0_0 l0_0.length c0_0, .slice Ao84 t103.length co84, .int .i64 32] rfl (by (try simp only [List.map_toArray, List.map_cons, List.map_nil]); first | done | rfl | (simp only [List.length_drop, List.length_take]; rfl)) ?_; (with_reducible refine (kdf_Expand.calls _ _ l0_0 _ _ t103 32 t116 t117 _ ?side1 ?side2 ?side3 ?side4 A16.out).mono ?_); (case side1 => repeat (first | exact (Kd.C_below HR0_0.out HB.out) | (with_reducible refine Kd.C_alloc ?_ _) | (with_reducible refine Kd.C_drewN ?_ _) | (with_reducible refine Kd.C_drew ?_))); (case side2 => exact HC0_0.out); (case side3 => repeat (first | exact (Kd.R_reads' HO105.out).2.2 | (with_reducible refine Kd.C_alloc ?_ _) | (with_reducible refine Kd.C_drewN ?_ _) | (with_reducible refine Kd.C_drew ?_))); (case side4 => exact (Kd.R_reads' HO105.out).2.1); rintro e w85 ⟨v118, rfl, ho0, hb⟩; refine ⟨_, rfl, ?_⟩; have n0_ := Aside0.mk (Kd.R_elder' (by (with_reducible repeat (first | apply Kd.R_alloc | apply Kd.R_drewN | apply Kd.R_drew)); exact HO105.out) (Kd.R_base ho0) hb); have n1_ := Aside0.mk (Kd.R_elder' (by (with_reducible repeat (first | apply Kd.R_alloc | apply Kd.R_drewN | apply Kd.R_drew)); exact HO108.out) (Kd.R_base ho0) hb); have n2_ := Aside0.mk (Kd.R_elder' (by (with_reducible repeat (first | apply Kd.R_alloc | apply Kd.R_drewN | apply Kd.R_drew)); exact HO111.out) (Kd.R_base ho0) hb); have n3_ := Aside0.mk (Kd.R_elder' (by (with_reducible repeat (first | apply Kd.R_alloc | apply Kd.R_drewN | apply Kd.R_drew)); exact HO115.out) (Kd.R_base ho0) hb); have n4_ := Aside0.mk (Kd.R_lower (Kd.R_new' (Kd.R_new' (Kd.R_new' (Kd.R_new' ho0 (Kd.R_lt (by (with_reducible repeat (first | apply Kd.R_alloc | apply Kd.R_drewN | apply Kd.R_drew)); exact HO105.out))) (Kd.R_lt (by (with_reducible repeat (first | apply Kd.R_alloc | apply Kd.R_drewN | apply Kd.R_drew)); exact HO108.out))) (Kd.R_lt (by (with_reducible repeat (first | apply Kd.R_alloc | apply Kd.R_drewN | apply Kd.R_drew)); exact HO111.out))) (Kd.R_lt (by (with_reducible repeat (first | apply Kd.R_alloc | apply Kd.R_drewN | apply Kd.R_drew)); exact HO115.out))) (below_size (by repeat (first | (with_reducible first | exact HB.out | apply below_alloc | apply pw_below_drewN | apply below_drew1 | refine below_set ?_ GE101.out) | exact HB.out)))); have n5_ := Aside0.mk (blk_below (g := gb101) (o := .cells #[.slice A0_0 l0_0.length c0_0, .string a0_1, .string a0_2, .slice A0_3 l0_3.length c0_3, .slice A0_4 l0_4.length c0_4] 47 (0, 0)) (by (with_reducible repeat (first | refine blk_drewN ?_ _ | refine blk_drew ?_ | refine blk_alloc ?_ _)); exact BK101.out) hb); have n6_ := Aside0.mk (below_step (by repeat (first | (with_reducible first | exact HB.out | apply below_alloc | apply pw_below_drewN | apply below_drew1 | refine below_set ?_ GE101.out) | exact HB.out)) hb); clear HO105; clear HO108; clear HO111; clear HO115; clear BK101; clear HB; have HO105 := n0_; have HO108 := n1_; have HO111 := n2_; have HO115 := n3_; have HO119 := n4_; have BK101 := n5_; have HB := n6_; clear n0_ n1_ n2_ n3_ n4_ n5_ n6_; (try clear hb); (try clear hb2); (try clear hk); (try clear hi); (try clear ho0); obtain ⟨Ao86, co86, eo86⟩ := Kd.R_slice HO115.out; subst eo86; obtain ⟨Ao87, co87, eo87⟩ := Kd.R_slice HO119.out; subst eo87) | (go_at_call 22; (with_reducible refine (pyxref01_Same.calls _ _ t112 _ _ t116 true _ ?side1 ?side2 ?side3 ?side4 A75.out).mono ?_); (case side1 => repeat (first | exact (Kd.R_reads' HO115.out).2.2 | (with_reducible refine Kd.C_alloc ?_ _) | (with_reducible refine Kd.C_drewN ?_ _) | (with_reducible refine Kd.C_drew ?_))); (case side2 => exact (Kd.R_reads' HO115.out).2.1); (case side3 => repeat (first | exact (Kd.R_reads' HO119.out).2.2 | (with_reducible refine Kd.C_alloc ?_ _) | (with_reducible refine Kd.C_drewN ?_ _) | (with_reducible refine Kd.C_drew ?_))); (case side4 => exact (Kd.R_reads' HO119.out).2.1); rintro e w' ⟨rfl, ⟨nd, rfl⟩⟩; obtain ⟨Ao88, co88, eo88⟩ := Kd.R_slice HO108.out; subst eo88) | (go_at_call 22; (with_reducible refine (pyxref01_Same.calls _ _ t103 _ _ t106 t125 _ ?side1 ?side2 ?side3 ?side4 A77.out).mono ?_); (case side1 => repeat (first | exact (Kd.R_reads' HO105.out).2.2 | (with_reducible refine Kd.C_alloc ?_ _) | (with_reducible refine Kd.C_drewN ?_ _) | (with_reducible refine Kd.C_drew ?_))); (case side2 => exact (Kd.R_reads' HO105.out).2.1); (case side3 => repeat (first | exact (Kd.R_reads' HO108.out).2.2 | (with_reducible refine Kd.C_alloc ?_ _) | (with_reducible refine Kd.C_drewN ?_ _) | (with_reducible refine Kd.C_drew ?_))); (case side4 => exact (Kd.R_reads' HO108.out).2.1); rintro e w' ⟨rfl, ⟨nd, rfl⟩⟩; obtain ⟨Ao89, co89, eo89⟩ := Kd.R_slice HO111.out; subst eo89) | (go_at_call 22; (with_reducible refine (pyxref01_Same.calls _ _ t103 _ _ t109 t126 _ ?side1 ?side2 ?side3 ?side4 A79.out).mono ?_); (case side1 => repeat (first | exact (Kd.R_reads' HO105.out).2.2 | (with_reducible refine Kd.C_alloc ?_ _) | (with_reducible refine Kd.C_drewN ?_ _) | (with_reducible refine Kd.C_drew ?_))); (case side2 => exact (Kd.R_reads' HO105.out).2.1); (case side3 => repeat (first | exact (Kd.R_reads' HO111.out).2.2 | (with_reducible refine Kd.C_alloc ?_ _) | (with_reducible refine Kd.C_drewN ?_ _) | (with_reducible refine Kd.C_drew ?_))); (case side4 => exact (Kd.R_reads' HO111.out).2.1); rintro e w' ⟨rfl, ⟨nd, rfl⟩⟩))
                    go_ret
                    exact ⟨by first | rfl | (simp [errW_none, errW_some] <;> rfl) | (simp [*, errW_none, errW_some] <;> rfl), by repeat (first | (with_reducible first | exact HB.out | apply below_alloc | apply pw_below_drewN | apply below_drew1 | refine below_set ?_ GE101.out) | exact HB.out)⟩
                  · rw [if_neg c78] at H
                    have c78b0 : (t125 == false) = false := by simpa using c78
                    (try (have c78b1 : decide (t125 = false) = false := by simpa using c78))
                    (try (have c78b2 : (t125 == false) = false := by simpa using c78))
                    (try (have c78b3 : ¬ (t125 = false) := by simpa using c78))
                    clear c78
                    exact absurd (Option.some.inj H) (by decide)
                · replace c76 := Bool.eq_false_iff.mpr c76
                  subst c76
                  have H1 : (some false) = some true := by rw [if_neg (show ¬ (false = true) by decide)] at H; exact H
                  clear H
                  have H := H1
                  clear H1
                  exact absurd (Option.some.inj H) (by decide)
              · rw [if_neg c74] at H
                have c74b0 : (t117 == 0) = false := beq_eq_false_iff_ne.mpr c74
                have c74b1 : (t117 != 0) = true := bne_iff_ne.mpr c74
                exact absurd (Option.some.inj H) (by decide)
            · rw [if_neg c73] at H
              have c73b0 : (t113 == 0) = false := beq_eq_false_iff_ne.mpr c73
              have c73b1 : (t113 != 0) = true := bne_iff_ne.mpr c73
              exact absurd (Option.some.inj H) (by decide)
          · replace c72 := Bool.eq_false_iff.mpr c72
            subst c72
            have H1 : (some false) = some true := by rw [if_neg (show ¬ (false = true) by decide)] at H; exact H
            clear H
            have H := H1
            clear H1
            exact absurd (Option.some.inj H) (by decide)
end Go.Proofs.Ytpdgeanicciaiaa.P
