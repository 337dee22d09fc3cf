-- Written by xprint.py, this session's driver over the kit's print.py, out of the translation.
import Derived.Test.YtifpdpfjhjoieaaPSigBacky0
namespace Go.Proofs.Ytifpdpfjhjoieaa.P
open Go.RowKit Go.Proofs.YtifpdpfjhjoieaaW.PrintWords Go.Proofs.YtifpdpfjhjoieaaW.PrintLast Go.Proofs.YtifpdpfjhjoieaaW.PrintMore
attribute [local go_sem] max2_int min2_int max_two min_two max_three min_three max_four min_four   -- for this text's walks alone
set_option linter.unusedVariables false
set_option linter.unusedSimpArgs false

-- NOT PRINTED: function 56 (sig_right)

-- NOT PRINTED: function 47 (byt_Num)

-- NOT PRINTED: function 95 (byt_wide)

-- NOT PRINTED: function 79 (byt_Len)

-- NOT PRINTED: function 62 (byt_Row)

-- NOT PRINTED: function 80 (kdf_first)

-- NOT PRINTED: function 63 (kdf_Expand)

-- NOT PRINTED: function 40 (kdf_Label)

-- NOT PRINTED: function 57 (sig_secret_label)

-- NOT PRINTED: function 104 (slices_Grow_byte_byte)

-- NOT PRINTED: function 99 (slices_Concat_byte_byte)

-- NOT PRINTED: function 87 (mac_joined)

-- NOT PRINTED: function 105 (sha_primes)

-- NOT PRINTED: function 112 (bits_Mul64)

-- NOT PRINTED: function 113 (bits_Add64)

-- NOT PRINTED: function 110 (sha_above)

-- NOT PRINTED: function 106 (sha_root)

-- NOT PRINTED: function 100 (sha_keys)

-- NOT PRINTED: function 101 (sha_Start)

-- NOT PRINTED: function 111 (bits_RotateLeft32)

-- NOT PRINTED: function 108 (sha_turned)

-- NOT PRINTED: function 107 (sha_words)

-- NOT PRINTED: function 102 (sha_mixed)

-- NOT PRINTED: function 103 (sha_Pad)

-- NOT PRINTED: function 94 (sha_Sum)

-- NOT PRINTED: function 91 (mac_Key)

-- NOT PRINTED: function 78 (mac_Sum)

-- NOT PRINTED: function 68 (mac_All)

-- NOT PRINTED: function 58 (sig_tag)

-- NOT PRINTED: function 46 (mac_Same)

-- NOT PRINTED: function 14 (seal_Halves)

-- NOT PRINTED: function 42 (seal_ready)

-- NOT PRINTED: function 83 (aes_Mul)

-- NOT PRINTED: function 96 (aes_inverse)

-- NOT PRINTED: function 97 (bits_RotateLeft8)

-- NOT PRINTED: function 82 (aes_Box)

-- NOT PRINTED: function 65 (aes_boxes)

-- NOT PRINTED: function 66 (aes_keys)

-- NOT PRINTED: function 84 (aes_state_with)

-- NOT PRINTED: function 85 (aes_state_shifted)

-- NOT PRINTED: function 86 (aes_state_mixed)

-- NOT PRINTED: function 67 (aes_locked)

-- NOT PRINTED: function 43 (aes_Stream)

-- NOT PRINTED: function 44 (seal_tag)

-- NOT PRINTED: function 16 (seal_Seal)

-- NOT PRINTED: function 60 (sig_shared)

-- NOT PRINTED: function 19 (seal_Open)

/-! ### pyxlaw07_SigBack: function 10 -/
def pyxlaw07_SigBack.j0 : Nat → List Int → List Int → ByteArray → List Int → List Int → Bool → Bool → Option (Bool)
  | 0, _, _, _, _, _, _, _ => none
  | k + 1, x3, x4, x5, x6, x7, x8, x53 => if x53 = true then (some x8) else ((sig_Public.f x3).bind fun bt103 => ((sig_Sign.f x3 x5 x7).bind fun bt107 => ((sig_Wrap.f bt103.1 x4 x6 x7).bind fun bt111 => ((sig_Unwrap.f x3 bt111.1 x6 bt111.2.1).bind fun bt118 => ((sig_Public.f x4).bind fun bt122 => (if x8 = true then (if bt103.2 = 0 then (if bt107.2 = 0 then (if bt111.2.2 = 0 then (if bt118.2 = 0 then (if bt122.2 = 0 then ((sig_Verify.f bt103.1 x5 x7 bt107.1).bind fun t126 => (if t126 = 0 then ((pyxref01_Same.f bt118.1 x7).bind fun t127 => (if t127 = true then ((pyxref01_Same.f bt111.1 bt122.1).bind fun t128 => (if t128 = true then (some ((bt111.2.1.length : Int) == (wrap64 ((x7.length : Int) + 32)))) else (some false))) else (some false))) else (some false))) else (some false)) else (some false)) else (some false)) else (some false)) else (some false)) else (some false)))))))
def pyxlaw07_SigBack.f (k : Nat) (l0_0 : List Int) (l0_1 : List Int) (a0_2 : ByteArray) (l0_3 : List Int) (l0_4 : List Int) : Option (Bool) := (pyxlaw07_shown.f).bind fun t102 => (if (l0_0.length : Int) = 32 then (if (l0_1.length : Int) = 32 then (if (a0_2.size : Int) > 100 then (pyxlaw07_SigBack.j0 k l0_0 l0_1 a0_2 l0_3 l0_4 t102 true) else (if (l0_3.length : Int) > 100 then (pyxlaw07_SigBack.j0 k l0_0 l0_1 a0_2 l0_3 l0_4 t102 true) else (pyxlaw07_SigBack.j0 k l0_0 l0_1 a0_2 l0_3 l0_4 t102 (decide ((l0_4.length : Int) > 200))))) else (pyxlaw07_SigBack.j0 k l0_0 l0_1 a0_2 l0_3 l0_4 t102 true)) else (pyxlaw07_SigBack.j0 k l0_0 l0_1 a0_2 l0_3 l0_4 t102 true))
theorem pyxlaw07_SigBack.mono_l : ∀ k, (∀ y0 y1 y2 y3 y4 y5 y6, LeO (pyxlaw07_SigBack.j0 k y0 y1 y2 y3 y4 y5 y6) (pyxlaw07_SigBack.j0 (k + 1) y0 y1 y2 y3 y4 y5 y6))
  | 0 => fun _ _ _ _ _ _ _ r h => by simp [pyxlaw07_SigBack.j0] at h
  | k + 1 => by
    have ih0 := pyxlaw07_SigBack.mono_l k
    · intro y0 y1 y2 y3 y4 y5 y6
      unfold pyxlaw07_SigBack.j0
      repeat' first
      | (with_reducible exact ih0 _ _ _ _ _ _ _)
      | (with_reducible exact LeO.refl _)
      | (with_reducible exact LeO.none _)
      | (with_reducible refine LeO.ite ?_ ?_)
      | (with_reducible refine LeO.bind ?_ (fun _ => ?_))
      | exact ih0 _ _ _ _ _ _ _
      | exact LeO.none _
      | refine LeO.ite ?_ ?_
      | refine LeO.bind ?_ (fun _ => ?_)
theorem pyxlaw07_SigBack.mono : ∀ a0 a1 a2 a3 a4 k, LeO (pyxlaw07_SigBack.f k a0 a1 a2 a3 a4) (pyxlaw07_SigBack.f (k + 1) a0 a1 a2 a3 a4) := by
  intro a0 a1 a2 a3 a4 k
  have ih0 := pyxlaw07_SigBack.mono_l k
  unfold pyxlaw07_SigBack.f
  repeat' first
      | (with_reducible exact ih0 _ _ _ _ _ _ _)
      | (with_reducible exact LeO.refl _)
      | (with_reducible exact LeO.none _)
      | (with_reducible refine LeO.ite ?_ ?_)
      | (with_reducible refine LeO.bind ?_ (fun _ => ?_))
      | exact ih0 _ _ _ _ _ _ _
      | exact LeO.none _
      | refine LeO.ite ?_ ?_
      | refine LeO.bind ?_ (fun _ => ?_)
set_option maxHeartbeats 8000000 in
set_option maxRecDepth 100000 in
theorem pyxlaw07_SigBack.calls (k : Nat) (A0_0 : Option Addr) (c0_0 : Nat) (l0_0 : List Int) (A0_1 : Option Addr) (c0_1 : Nat) (l0_1 : List Int) (a0_2 : ByteArray) (A0_3 : Option Addr) (c0_3 : Nat) (l0_3 : List Int) (A0_4 : Option Addr) (c0_4 : Nat) (l0_4 : List Int) (w : World) (hr0_0 : Kd.C (Kd.int .u8) w A0_0 l0_0.length l0_0) (hc0_0 : l0_0.length ≤ c0_0) (hr0_1 : Kd.C (Kd.int .u8) w A0_1 l0_1.length l0_1) (hc0_1 : l0_1.length ≤ c0_1) (hr0_3 : Kd.C (Kd.int .u8) w A0_3 l0_3.length l0_3) (hc0_3 : l0_3.length ≤ c0_3) (hr0_4 : Kd.C (Kd.int .u8) w A0_4 l0_4.length l0_4) (hc0_4 : l0_4.length ≤ c0_4) (h : pyxlaw07_SigBack.f k l0_0 l0_1 a0_2 l0_3 l0_4 = some true) :
    Calls Try.prog 10 #[.agg #[.slice A0_0 l0_0.length c0_0, .slice A0_1 l0_1.length c0_1, .string a0_2, .slice A0_3 l0_3.length c0_3, .slice A0_4 l0_4.length c0_4]] w fun e w' => e = .returned (.bool true) ∧ Below w.heap.size w w' := by
  have hu69 := Try.underlying69
  have HR0_0 := Aside0.mk hr0_0
  have HC0_0 := Aside0.mk hc0_0
  clear hr0_0 hc0_0
  have HR0_1 := Aside0.mk hr0_1
  have HC0_1 := Aside0.mk hc0_1
  clear hr0_1 hc0_1
  have HR0_3 := Aside0.mk hr0_3
  have HC0_3 := Aside0.mk hc0_3
  clear hr0_3 hc0_3
  have HR0_4 := Aside0.mk hr0_4
  have HC0_4 := Aside0.mk hc0_4
  clear hr0_4 hc0_4
  have HB := Aside0.mk (Below.refl w.heap.size w)
  have H : ((pyxlaw07_shown.f).bind fun t102 => (if (l0_0.length : Int) = 32 then (if (l0_1.length : Int) = 32 then (if (a0_2.size : Int) > 100 then (pyxlaw07_SigBack.j0 k l0_0 l0_1 a0_2 l0_3 l0_4 t102 true) else (if (l0_3.length : Int) > 100 then (pyxlaw07_SigBack.j0 k l0_0 l0_1 a0_2 l0_3 l0_4 t102 true) else (pyxlaw07_SigBack.j0 k l0_0 l0_1 a0_2 l0_3 l0_4 t102 (decide ((l0_4.length : Int) > 200))))) else (pyxlaw07_SigBack.j0 k l0_0 l0_1 a0_2 l0_3 l0_4 t102 true)) else (pyxlaw07_SigBack.j0 k l0_0 l0_1 a0_2 l0_3 l0_4 t102 true))) = some true := h
  clear h
  replace H := Option.bind_eq_some_iff.mp H
  obtain ⟨t102, A20, H⟩ := H
  replace H : (if (l0_0.length : Int) = 32 then (if (l0_1.length : Int) = 32 then (if (a0_2.size : Int) > 100 then (pyxlaw07_SigBack.j0 k l0_0 l0_1 a0_2 l0_3 l0_4 t102 true) else (if (l0_3.length : Int) > 100 then (pyxlaw07_SigBack.j0 k l0_0 l0_1 a0_2 l0_3 l0_4 t102 true) else (pyxlaw07_SigBack.j0 k l0_0 l0_1 a0_2 l0_3 l0_4 t102 (decide ((l0_4.length : Int) > 200))))) else (pyxlaw07_SigBack.j0 k l0_0 l0_1 a0_2 l0_3 l0_4 t102 true)) else (pyxlaw07_SigBack.j0 k l0_0 l0_1 a0_2 l0_3 l0_4 t102 true)) = some true := H
  have A2 := Aside0.mk A20
  clear A20
  have HC3 := Aside0.mk H
  clear H
  go_enter Try.func10, Try.ntmps10
  go_upto_region 7 with (first | ((with_reducible refine gate_dst (N := 1) rfl ?_); (try (refine gate_guard (by rfl) ?_; dsimp only)); refine box_event ?hg (N := 1) ?hd (cs := #[.slice A0_0 l0_0.length c0_0, .slice A0_1 l0_1.length c0_1, .string a0_2, .slice A0_3 l0_3.length c0_3, .slice A0_4 l0_4.length c0_4]) (t := 69) ?hr ?_; (case hd => rfl); (case hg => rfl); (case hr => first | (go_simp; done) | (go_simp; rfl)); intro gb101 hg w4 hbox hb; have n0_ := Aside0.mk (below_step (by repeat (first | (with_reducible first | exact HB.out | apply below_alloc | apply pw_below_drewN | apply below_drew1) | exact HB.out)) hb); have n1_ := Aside0.mk (hbox); have n2_ := Aside0.mk ((by rw [hg]; exact (below_size (by repeat (first | (with_reducible first | exact HB.out | apply below_alloc | apply pw_below_drewN | apply below_drew1) | exact HB.out))) : w.heap.size ≤ gb101)); have n3_ := Aside0.mk ((by rw [hg]; exact (below_size (by repeat (first | (with_reducible first | exact HB.out | apply below_alloc | apply pw_below_drewN | apply below_drew1) | exact HB.out))) : w.heap.size ≤ gb101)); clear HB; have HB := n0_; have BK101 := n1_; have GW101 := n2_; have GE101 := n3_; clear n0_ n1_ n2_ n3_; clear hb hbox hg; have hcz5_0 : w4.cell? ⟨gb101, 0, none⟩ = some (.slice A0_0 l0_0.length c0_0) := (blk_cell BK101.out 0).trans rfl; have hcz5_1 : w4.cell? ⟨gb101, 1, none⟩ = some (.slice A0_1 l0_1.length c0_1) := (blk_cell BK101.out 1).trans rfl; have hcz5_2 : w4.cell? ⟨gb101, 2, none⟩ = some (.string a0_2) := (blk_cell BK101.out 2).trans rfl; have hcz5_3 : w4.cell? ⟨gb101, 3, none⟩ = some (.slice A0_3 l0_3.length c0_3) := (blk_cell BK101.out 3).trans rfl; have hcz5_4 : w4.cell? ⟨gb101, 4, none⟩ = some (.slice A0_4 l0_4.length c0_4) := (blk_cell BK101.out 4).trans rfl; have hfz5_0 := blk_frozen BK101.out 0; have hfz5_1 := blk_frozen BK101.out 1; have hfz5_2 := blk_frozen BK101.out 2; have hfz5_3 := blk_frozen BK101.out 3; have hfz5_4 := blk_frozen BK101.out 4) | ((with_reducible refine gate_callee (f := 26) rfl ?_); refine goesL_ (some 30) rfl rfl Try.func26 (by kernel_rfl) rfl #[] rfl (by (try simp only [List.map_toArray, List.map_cons, List.map_nil]); first | done | rfl | (simp only [List.length_drop, List.length_take]; rfl)) ?_; (with_reducible refine (pyxlaw07_shown.calls  t102 _ A2.out).mono ?_); rintro e w6 ⟨rfl, hb⟩; refine ⟨_, rfl, ?_⟩; have n0_ := Aside0.mk (blk_below (g := gb101) (o := .cells #[.slice A0_0 l0_0.length c0_0, .slice A0_1 l0_1.length c0_1, .string a0_2, .slice A0_3 l0_3.length c0_3, .slice A0_4 l0_4.length c0_4] 69 (0, 0)) (by (with_reducible repeat (first | refine blk_drewN ?_ _ | refine blk_drew ?_ | refine blk_alloc ?_ _)); exact BK101.out) hb); have n1_ := Aside0.mk (below_step (by repeat (first | (with_reducible first | exact HB.out | apply below_alloc | apply pw_below_drewN | apply below_drew1 | refine below_set ?_ GE101.out) | exact HB.out)) hb); clear BK101; clear HB; have BK101 := n0_; have HB := n1_; clear n0_ n1_; (try clear hb); (try clear hb2); (try clear hk); (try clear hi)))
  (try simp only [Act.put, List.setIfInBounds_toArray, List.set_cons_zero, List.set_cons_succ])
  go_cut [53] (fun v53 wc => ∃ (kq : Nat) (x53_2 : Bool), v53 = .bool x53_2 ∧ Aside0 (pyxlaw07_SigBack.j0 kq l0_0 l0_1 a0_2 l0_3 l0_4 t102 x53_2 = some true) ∧ Aside0 (kq ≤ k) ∧ Aside0 (wc.heap[gb101]? = some (.cells #[(.slice A0_0 l0_0.length c0_0), (.slice A0_1 l0_1.length c0_1), .string a0_2, (.slice A0_3 l0_3.length c0_3), (.slice A0_4 l0_4.length c0_4)] 69 (0, 0))) ∧ Aside0 (Below w.heap.size w wc))
  case first =>
    have H := HC3.out
    clear HC3
    by_cases c7 : (l0_0.length : Int) = 32
    · rw [if_pos c7] at H
      have c7b0 : ((l0_0.length : Int) == 32) = true := beq_iff_eq.mpr c7
      have c7b1 : ((l0_0.length : Int) != 32) = false := bne_eq_false_iff_eq.mpr c7
      clear c7
      (first | rw [c7b0] | (simp only [i64_w, i32_w]; rw [c7b0]) | skip)
      by_cases c8 : (l0_1.length : Int) = 32
      · rw [if_pos c8] at H
        have c8b0 : ((l0_1.length : Int) == 32) = true := beq_iff_eq.mpr c8
        have c8b1 : ((l0_1.length : Int) != 32) = false := bne_eq_false_iff_eq.mpr c8
        clear c8
        by_cases c9 : (a0_2.size : Int) > 100
        · rw [if_pos c9] at H
          have c9b0 : decide (100 < (a0_2.size : Int)) = true := decide_eq_true c9
          have c9b1 : decide (100 < a0_2.size) = true := decide_eq_true (by omega)
          clear c9
          have H' := Aside0.mk H
          clear H
          go_wp2
          go_meet
          case rel => exact ⟨_, (true), (by first | rfl | (simp; done) | (simp [*]; done)), H', ⟨by first | omega | exact Nat.le_refl _⟩, ⟨by (with_reducible repeat (first | refine blk_drewN ?_ _ | refine blk_drew ?_ | refine blk_alloc ?_ _)); exact BK101.out⟩, ⟨by repeat (first | (with_reducible first | exact HB.out | apply below_alloc | apply pw_below_drewN | apply below_drew1 | refine below_set ?_ GE101.out) | exact HB.out)⟩⟩
        · rw [if_neg c9] at H
          have c9b0 : decide (100 < (a0_2.size : Int)) = false := decide_eq_false c9
          have c9b1 : decide (100 < a0_2.size) = false := decide_eq_false (by omega)
          clear c9
          by_cases c10 : (l0_3.length : Int) > 100
          · rw [if_pos c10] at H
            have c10b0 : decide (100 < (l0_3.length : Int)) = true := decide_eq_true c10
            have c10b1 : decide (100 < l0_3.length) = true := decide_eq_true (by omega)
            clear c10
            have H' := Aside0.mk H
            clear H
            go_wp2
            go_meet
            case rel => exact ⟨_, (true), (by first | rfl | (simp; done) | (simp [*]; done)), H', ⟨by first | omega | exact Nat.le_refl _⟩, ⟨by (with_reducible repeat (first | refine blk_drewN ?_ _ | refine blk_drew ?_ | refine blk_alloc ?_ _)); exact BK101.out⟩, ⟨by repeat (first | (with_reducible first | exact HB.out | apply below_alloc | apply pw_below_drewN | apply below_drew1 | refine below_set ?_ GE101.out) | exact HB.out)⟩⟩
          · rw [if_neg c10] at H
            have c10b0 : decide (100 < (l0_3.length : Int)) = false := decide_eq_false c10
            have c10b1 : decide (100 < l0_3.length) = false := decide_eq_false (by omega)
            clear c10
            have H' := Aside0.mk H
            clear H
            go_wp2
            go_meet
            case rel => exact ⟨_, (decide ((l0_4.length : Int) > 200)), (by first | rfl | (simp; done) | (simp [*]; done)), H', ⟨by first | omega | exact Nat.le_refl _⟩, ⟨by (with_reducible repeat (first | refine blk_drewN ?_ _ | refine blk_drew ?_ | refine blk_alloc ?_ _)); exact BK101.out⟩, ⟨by repeat (first | (with_reducible first | exact HB.out | apply below_alloc | apply pw_below_drewN | apply below_drew1 | refine below_set ?_ GE101.out) | exact HB.out)⟩⟩
      · rw [if_neg c8] at H
        have c8b0 : ((l0_1.length : Int) == 32) = false := beq_eq_false_iff_ne.mpr c8
        have c8b1 : ((l0_1.length : Int) != 32) = true := bne_iff_ne.mpr c8
        have H' := Aside0.mk H
        clear H
        go_wp2
        go_meet
        case rel => exact ⟨_, (true), (by first | rfl | (simp; done) | (simp [*]; done)), H', ⟨by first | omega | exact Nat.le_refl _⟩, ⟨by (with_reducible repeat (first | refine blk_drewN ?_ _ | refine blk_drew ?_ | refine blk_alloc ?_ _)); exact BK101.out⟩, ⟨by repeat (first | (with_reducible first | exact HB.out | apply below_alloc | apply pw_below_drewN | apply below_drew1 | refine below_set ?_ GE101.out) | exact HB.out)⟩⟩
    · rw [if_neg c7] at H
      have c7b0 : ((l0_0.length : Int) == 32) = false := beq_eq_false_iff_ne.mpr c7
      have c7b1 : ((l0_0.length : Int) != 32) = true := bne_iff_ne.mpr c7
      (first | rw [c7b0] | (simp only [i64_w, i32_w]; rw [c7b0]) | skip)
      have H' := Aside0.mk H
      clear H
      go_wp2
      go_meet
      case rel => exact ⟨_, (true), (by first | rfl | (simp; done) | (simp [*]; done)), H', ⟨by first | omega | exact Nat.le_refl _⟩, ⟨by (with_reducible repeat (first | refine blk_drewN ?_ _ | refine blk_drew ?_ | refine blk_alloc ?_ _)); exact BK101.out⟩, ⟨by repeat (first | (with_reducible first | exact HB.out | apply below_alloc | apply pw_below_drewN | apply below_drew1 | refine below_set ?_ GE101.out) | exact HB.out)⟩⟩
  case rest =>
    clear HC3
    try clear c1
    try clear c2
    try clear p2
    try clear c7
    try clear c7b0
    try clear c7b1
    try clear c8
    try clear c8b0
    try clear c8b1
    try clear c9
    try clear c9b0
    try clear c9b1
    try clear c10
    try clear c10b0
    try clear c10b1
    try clear hcz5_0
    try clear hcz5_1
    try clear hcz5_2
    try clear hcz5_3
    try clear hcz5_4
    try clear hfz5_0
    try clear hfz5_1
    try clear hfz5_2
    try clear hfz5_3
    try clear hfz5_4
    obtain ⟨kq, x53_2, rfl, HA, HJ2, BK101, HB⟩ := hcut
    cases kq with
    | zero => exact absurd HA.out (by simp [pyxlaw07_SigBack.j0])
    | succ kj2 =>
      have H := HA.out
      clear HA
      simp only [pyxlaw07_SigBack.j0] at H
      by_cases c11 : x53_2 = true
      · subst c11
        have H1 : (some t102) = some true := by rw [if_pos rfl] at H; exact H
        clear H
        have H := H1
        clear H1
        have HT_ := Option.some.inj H
        go_wp2
        go_ret
        exact ⟨by first | rfl | (simp [errW_none, errW_some] <;> rfl) | (simp [*, errW_none, errW_some] <;> rfl), by repeat (first | (with_reducible first | exact HB.out | apply below_alloc | apply pw_below_drewN | apply below_drew1 | refine below_set ?_ GE101.out) | exact HB.out)⟩
      · replace c11 := Bool.eq_false_iff.mpr c11
        subst c11
        have H1 : ((sig_Public.f l0_0).bind fun bt103 => ((sig_Sign.f l0_0 a0_2 l0_4).bind fun bt107 => ((sig_Wrap.f bt103.1 l0_1 l0_3 l0_4).bind fun bt111 => ((sig_Unwrap.f l0_0 bt111.1 l0_3 bt111.2.1).bind fun bt118 => ((sig_Public.f l0_1).bind fun bt122 => (if t102 = true then (if bt103.2 = 0 then (if bt107.2 = 0 then (if bt111.2.2 = 0 then (if bt118.2 = 0 then (if bt122.2 = 0 then ((sig_Verify.f bt103.1 a0_2 l0_4 bt107.1).bind fun t126 => (if t126 = 0 then ((pyxref01_Same.f bt118.1 l0_4).bind fun t127 => (if t127 = true then ((pyxref01_Same.f bt111.1 bt122.1).bind fun t128 => (if t128 = true then (some ((bt111.2.1.length : Int) == (wrap64 ((l0_4.length : Int) + 32)))) else (some false))) else (some false))) else (some false))) else (some false)) else (some false)) else (some false)) else (some false)) else (some false)) else (some false))))))) = some true := by rw [if_neg (show ¬ (false = true) by decide)] at H; exact H
        clear H
        have H := H1
        clear H1
        replace H := Option.bind_eq_some_iff.mp H
        obtain ⟨⟨t103, t104⟩, A120, H⟩ := H
        replace H : ((sig_Sign.f l0_0 a0_2 l0_4).bind fun bt107 => ((sig_Wrap.f t103 l0_1 l0_3 l0_4).bind fun bt111 => ((sig_Unwrap.f l0_0 bt111.1 l0_3 bt111.2.1).bind fun bt118 => ((sig_Public.f l0_1).bind fun bt122 => (if t102 = true then (if t104 = 0 then (if bt107.2 = 0 then (if bt111.2.2 = 0 then (if bt118.2 = 0 then (if bt122.2 = 0 then ((sig_Verify.f t103 a0_2 l0_4 bt107.1).bind fun t126 => (if t126 = 0 then ((pyxref01_Same.f bt118.1 l0_4).bind fun t127 => (if t127 = true then ((pyxref01_Same.f bt111.1 bt122.1).bind fun t128 => (if t128 = true then (some ((bt111.2.1.length : Int) == (wrap64 ((l0_4.length : Int) + 32)))) else (some false))) else (some false))) else (some false))) else (some false)) else (some false)) else (some false)) else (some false)) else (some false)) else (some false)))))) = some true := H
        have A12 := Aside0.mk A120
        clear A120
        replace H := Option.bind_eq_some_iff.mp H
        obtain ⟨⟨t107, t108⟩, A130, H⟩ := H
        replace H : ((sig_Wrap.f t103 l0_1 l0_3 l0_4).bind fun bt111 => ((sig_Unwrap.f l0_0 bt111.1 l0_3 bt111.2.1).bind fun bt118 => ((sig_Public.f l0_1).bind fun bt122 => (if t102 = true then (if t104 = 0 then (if t108 = 0 then (if bt111.2.2 = 0 then (if bt118.2 = 0 then (if bt122.2 = 0 then ((sig_Verify.f t103 a0_2 l0_4 t107).bind fun t126 => (if t126 = 0 then ((pyxref01_Same.f bt118.1 l0_4).bind fun t127 => (if t127 = true then ((pyxref01_Same.f bt111.1 bt122.1).bind fun t128 => (if t128 = true then (some ((bt111.2.1.length : Int) == (wrap64 ((l0_4.length : Int) + 32)))) else (some false))) else (some false))) else (some false))) else (some false)) else (some false)) else (some false)) else (some false)) else (some false)) else (some false))))) = some true := H
        have A13 := Aside0.mk A130
        clear A130
        replace H := Option.bind_eq_some_iff.mp H
        obtain ⟨⟨t111, t112, t113⟩, A140, H⟩ := H
        replace H : ((sig_Unwrap.f l0_0 t111 l0_3 t112).bind fun bt118 => ((sig_Public.f l0_1).bind fun bt122 => (if t102 = true then (if t104 = 0 then (if t108 = 0 then (if t113 = 0 then (if bt118.2 = 0 then (if bt122.2 = 0 then ((sig_Verify.f t103 a0_2 l0_4 t107).bind fun t126 => (if t126 = 0 then ((pyxref01_Same.f bt118.1 l0_4).bind fun t127 => (if t127 = true then ((pyxref01_Same.f t111 bt122.1).bind fun t128 => (if t128 = true then (some ((t112.length : Int) == (wrap64 ((l0_4.length : Int) + 32)))) else (some false))) else (some false))) else (some false))) else (some false)) else (some false)) else (some false)) else (some false)) else (some false)) else (some false)))) = some true := H
        have A14 := Aside0.mk A140
        clear A140
        replace H := Option.bind_eq_some_iff.mp H
        obtain ⟨⟨t118, t119⟩, A150, H⟩ := H
        replace H : ((sig_Public.f l0_1).bind fun bt122 => (if t102 = true then (if t104 = 0 then (if t108 = 0 then (if t113 = 0 then (if t119 = 0 then (if bt122.2 = 0 then ((sig_Verify.f t103 a0_2 l0_4 t107).bind fun t126 => (if t126 = 0 then ((pyxref01_Same.f t118 l0_4).bind fun t127 => (if t127 = true then ((pyxref01_Same.f t111 bt122.1).bind fun t128 => (if t128 = true then (some ((t112.length : Int) == (wrap64 ((l0_4.length : Int) + 32)))) else (some false))) else (some false))) else (some false))) else (some false)) else (some false)) else (some false)) else (some false)) else (some false)) else (some false))) = some true := H
        have A15 := Aside0.mk A150
        clear A150
        replace H := Option.bind_eq_some_iff.mp H
        obtain ⟨⟨t122, t123⟩, A160, H⟩ := H
        replace H : (if t102 = true then (if t104 = 0 then (if t108 = 0 then (if t113 = 0 then (if t119 = 0 then (if t123 = 0 then ((sig_Verify.f t103 a0_2 l0_4 t107).bind fun t126 => (if t126 = 0 then ((pyxref01_Same.f t118 l0_4).bind fun t127 => (if t127 = true then ((pyxref01_Same.f t111 t122).bind fun t128 => (if t128 = true then (some ((t112.length : Int) == (wrap64 ((l0_4.length : Int) + 32)))) else (some false))) else (some false))) else (some false))) else (some false)) else (some false)) else (some false)) else (some false)) else (some false)) else (some false)) = some true := H
        have A16 := Aside0.mk A160
        clear A160
        by_cases c17 : t102 = true
        · subst c17
          have H1 : (if t104 = 0 then (if t108 = 0 then (if t113 = 0 then (if t119 = 0 then (if t123 = 0 then ((sig_Verify.f t103 a0_2 l0_4 t107).bind fun t126 => (if t126 = 0 then ((pyxref01_Same.f t118 l0_4).bind fun t127 => (if t127 = true then ((pyxref01_Same.f t111 t122).bind fun t128 => (if t128 = true then (some ((t112.length : Int) == (wrap64 ((l0_4.length : Int) + 32)))) else (some false))) else (some false))) else (some false))) else (some false)) else (some false)) else (some false)) else (some false)) else (some false)) = some true := by rw [if_pos rfl] at H; exact H
          clear H
          have H := H1
          clear H1
          by_cases c18 : t104 = 0
          · rw [if_pos c18] at H
            have c18b0 : (t104 == 0) = true := beq_iff_eq.mpr c18
            have c18b1 : (t104 != 0) = false := bne_eq_false_iff_eq.mpr c18
            clear c18
            by_cases c19 : t108 = 0
            · rw [if_pos c19] at H
              have c19b0 : (t108 == 0) = true := beq_iff_eq.mpr c19
              have c19b1 : (t108 != 0) = false := bne_eq_false_iff_eq.mpr c19
              clear c19
              by_cases c20 : t113 = 0
              · rw [if_pos c20] at H
                have c20b0 : (t113 == 0) = true := beq_iff_eq.mpr c20
                have c20b1 : (t113 != 0) = false := bne_eq_false_iff_eq.mpr c20
                clear c20
                by_cases c21 : t119 = 0
                · rw [if_pos c21] at H
                  have c21b0 : (t119 == 0) = true := beq_iff_eq.mpr c21
                  have c21b1 : (t119 != 0) = false := bne_eq_false_iff_eq.mpr c21
                  clear c21
                  by_cases c22 : t123 = 0
                  · rw [if_pos c22] at H
                    have c22b0 : (t123 == 0) = true := beq_iff_eq.mpr c22
                    have c22b1 : (t123 != 0) = false := bne_eq_false_iff_eq.mpr c22
                    clear c22
                    replace H := Option.bind_eq_some_iff.mp H
                    obtain ⟨t126, A230, H⟩ := H
                    replace H : (if t126 = 0 then ((pyxref01_Same.f t118 l0_4).bind fun t127 => (if t127 = true then ((pyxref01_Same.f t111 t122).bind fun t128 => (if t128 = true then (some ((t112.length : Int) == (wrap64 ((l0_4.length : Int) + 32)))) else (some false))) else (some false))) else (some false)) = some true := H
                    have A23 := Aside0.mk A230
                    clear A230
                    by_cases c24 : t126 = 0
                    · rw [if_pos c24] at H
                      have c24b0 : (t126 == 0) = true := beq_iff_eq.mpr c24
                      have c24b1 : (t126 != 0) = false := bne_eq_false_iff_eq.mpr c24
                      clear c24
                      replace H := Option.bind_eq_some_iff.mp H
                      obtain ⟨t127, A250, H⟩ := H
                      replace H : (if t127 = true then ((pyxref01_Same.f t111 t122).bind fun t128 => (if t128 = true then (some ((t112.length : Int) == (wrap64 ((l0_4.length : Int) + 32)))) else (some false))) else (some false)) = some true := H
                      have A25 := Aside0.mk A250
                      clear A250
                      by_cases c26 : t127 = true
                      · subst c26
                        have H1 : ((pyxref01_Same.f t111 t122).bind fun t128 => (if t128 = true then (some ((t112.length : Int) == (wrap64 ((l0_4.length : Int) + 32)))) else (some false))) = some true := by rw [if_pos rfl] at H; exact H
                        clear H
                        have H := H1
                        clear H1
                        replace H := Option.bind_eq_some_iff.mp H
                        obtain ⟨t128, A270, H⟩ := H
                        replace H : (if t128 = true then (some ((t112.length : Int) == (wrap64 ((l0_4.length : Int) + 32)))) else (some false)) = some true := H
                        have A27 := Aside0.mk A270
                        clear A270
                        by_cases c28 : t128 = true
                        · subst c28
                          have H1 : (some ((t112.length : Int) == (wrap64 ((l0_4.length : Int) + 32)))) = some true := by rw [if_pos rfl] at H; exact H
                          clear H
                          have H := H1
                          clear H1
                          have HT_ := Option.some.inj H
                          go_wp2_with (first | ((with_reducible refine gate_callee (f := 27) rfl ?_); refine goesL_ (some 57) rfl rfl Try.func27 (by kernel_rfl) rfl #[.slice A0_0 l0_0.length c0_0] rfl (by (try simp only [List.map_toArray, List.map_cons, List.map_nil]); first | done | rfl | (simp only [List.length_drop, List.length_take]; rfl)) ?_; (with_reducible refine (sig_Public.calls _ _ l0_0 t103 t104 _ ?side1 ?side2 A12.out).mono ?_); (case side1 => repeat (first | exact (Kd.C_below HR0_0.out HB.out) | (with_reducible refine Kd.C_alloc ?_ _) | (with_reducible refine Kd.C_drewN ?_ _) | (with_reducible refine Kd.C_drew ?_))); (case side2 => exact HC0_0.out); rintro e w29 ⟨v105, rfl, ho0, hb⟩; refine ⟨_, rfl, ?_⟩; have n0_ := Aside0.mk (Kd.R_lower ho0 (below_size (by repeat (first | (with_reducible first | exact HB.out | apply below_alloc | apply pw_below_drewN | apply below_drew1 | refine below_set ?_ GE101.out) | exact HB.out)))); have n1_ := Aside0.mk (blk_below (g := gb101) (o := .cells #[.slice A0_0 l0_0.length c0_0, .slice A0_1 l0_1.length c0_1, .string a0_2, .slice A0_3 l0_3.length c0_3, .slice A0_4 l0_4.length c0_4] 69 (0, 0)) (by (with_reducible repeat (first | refine blk_drewN ?_ _ | refine blk_drew ?_ | refine blk_alloc ?_ _)); exact BK101.out) hb); have n2_ := Aside0.mk (below_step (by repeat (first | (with_reducible first | exact HB.out | apply below_alloc | apply pw_below_drewN | apply below_drew1 | refine below_set ?_ GE101.out) | exact HB.out)) hb); clear BK101; clear HB; have HO106 := n0_; have BK101 := n1_; have HB := n2_; clear n0_ n1_ n2_; (try clear hb); (try clear hb2); (try clear hk); (try clear hi); (try clear ho0)) | ((with_reducible refine gate_callee (f := 29) rfl ?_); refine goesL_ (some 64) rfl rfl Try.func29 (by kernel_rfl) rfl #[.slice A0_0 l0_0.length c0_0, .string a0_2, .slice A0_4 l0_4.length c0_4] rfl (by (try simp only [List.map_toArray, List.map_cons, List.map_nil]); first | done | rfl | (simp only [List.length_drop, List.length_take]; rfl)) ?_; (with_reducible refine (sig_Sign.calls _ _ l0_0 a0_2 _ _ l0_4 t107 t108 _ ?side1 ?side2 ?side3 ?side4 A13.out).mono ?_); (case side1 => repeat (first | exact (Kd.C_below HR0_0.out HB.out) | (with_reducible refine Kd.C_alloc ?_ _) | (with_reducible refine Kd.C_drewN ?_ _) | (with_reducible refine Kd.C_drew ?_))); (case side2 => exact HC0_0.out); (case side3 => repeat (first | exact (Kd.C_below HR0_4.out HB.out) | (with_reducible refine Kd.C_alloc ?_ _) | (with_reducible refine Kd.C_drewN ?_ _) | (with_reducible refine Kd.C_drew ?_))); (case side4 => exact HC0_4.out); rintro e w30 ⟨v109, rfl, ho0, hb⟩; refine ⟨_, rfl, ?_⟩; have n0_ := Aside0.mk (Kd.R_elder' (by (with_reducible repeat (first | apply Kd.R_alloc | apply Kd.R_drewN | apply Kd.R_drew)); exact HO106.out) (Kd.R_base ho0) hb); have n1_ := Aside0.mk (Kd.R_lower (Kd.R_new' ho0 (Kd.R_lt (by (with_reducible repeat (first | apply Kd.R_alloc | apply Kd.R_drewN | apply Kd.R_drew)); exact HO106.out))) (below_size (by repeat (first | (with_reducible first | exact HB.out | apply below_alloc | apply pw_below_drewN | apply below_drew1 | refine below_set ?_ GE101.out) | exact HB.out)))); have n2_ := Aside0.mk (blk_below (g := gb101) (o := .cells #[.slice A0_0 l0_0.length c0_0, .slice A0_1 l0_1.length c0_1, .string a0_2, .slice A0_3 l0_3.length c0_3, .slice A0_4 l0_4.length c0_4] 69 (0, 0)) (by (with_reducible repeat (first | refine blk_drewN ?_ _ | refine blk_drew ?_ | refine blk_alloc ?_ _)); exact BK101.out) hb); have n3_ := Aside0.mk (below_step (by repeat (first | (with_reducible first | exact HB.out | apply below_alloc | apply pw_below_drewN | apply below_drew1 | refine below_set ?_ GE101.out) | exact HB.out)) hb); clear HO106; clear BK101; clear HB; have HO106 := n0_; have HO110 := n1_; have BK101 := n2_; have HB := n3_; clear n0_ n1_ n2_ n3_; (try clear hb); (try clear hb2); (try clear hk); (try clear hi); (try clear ho0); obtain ⟨Ao31, co31, eo31⟩ := Kd.R_slice HO106.out; subst eo31) | ((with_reducible refine gate_callee (f := 33) rfl ?_); refine goesL_ (some 72) rfl rfl Try.func33 (by kernel_rfl) rfl #[.slice Ao31 t103.length co31, .slice A0_1 l0_1.length c0_1, .slice A0_3 l0_3.length c0_3, .slice A0_4 l0_4.length c0_4] rfl (by (try simp only [List.map_toArray, List.map_cons, List.map_nil]); first | done | rfl | (simp only [List.length_drop, List.length_take]; rfl)) ?_; (with_reducible refine (sig_Wrap.calls _ _ t103 _ _ l0_1 _ _ l0_3 _ _ l0_4 t111 t112 t113 _ ?side1 ?side2 ?side3 ?side4 ?side5 ?side6 ?side7 ?side8 A14.out).mono ?_); (case side1 => repeat (first | exact (Kd.R_reads' HO106.out).2.2 | (with_reducible refine Kd.C_alloc ?_ _) | (with_reducible refine Kd.C_drewN ?_ _) | (with_reducible refine Kd.C_drew ?_))); (case side2 => exact (Kd.R_reads' HO106.out).2.1); (case side3 => repeat (first | exact (Kd.C_below HR0_1.out HB.out) | (with_reducible refine Kd.C_alloc ?_ _) | (with_reducible refine Kd.C_drewN ?_ _) | (with_reducible refine Kd.C_drew ?_))); (case side4 => exact HC0_1.out); (case side5 => repeat (first | exact (Kd.C_below HR0_3.out HB.out) | (with_reducible refine Kd.C_alloc ?_ _) | (with_reducible refine Kd.C_drewN ?_ _) | (with_reducible refine Kd.C_drew ?_))); (case side6 => exact HC0_3.out); (case side7 => repeat (first | exact (Kd.C_below HR0_4.out HB.out) | (with_reducible refine Kd.C_alloc ?_ _) | (with_reducible refine Kd.C_drewN ?_ _) | (with_reducible refine Kd.C_drew ?_))); (case side8 => exact HC0_4.out); rintro e w32 ⟨v114, v116, rfl, ho0, ho1, hb⟩; refine ⟨_, rfl, ?_⟩; have n0_ := Aside0.mk (Kd.R_mono (Kd.R_told (Kd.R_told (Kd.R_old (by (with_reducible repeat (first | apply Kd.R_alloc | apply Kd.R_drewN | apply Kd.R_drew)); exact HO106.out) hb) (Kd.R_base ho0)) (Kd.R_base ho1)) (fun _ h_ => h_.1)); have n1_ := Aside0.mk (Kd.R_mono (Kd.R_told (Kd.R_told (Kd.R_old (by (with_reducible repeat (first | apply Kd.R_alloc | apply Kd.R_drewN | apply Kd.R_drew)); exact HO110.out) hb) (Kd.R_base ho0)) (Kd.R_base ho1)) (fun _ h_ => h_.1)); have n2_ := Aside0.mk (Kd.R_lower (Kd.R_new' (Kd.R_new' ho0 (Kd.R_lt (by (with_reducible repeat (first | apply Kd.R_alloc | apply Kd.R_drewN | apply Kd.R_drew)); exact HO106.out))) (Kd.R_lt (by (with_reducible repeat (first | apply Kd.R_alloc | apply Kd.R_drewN | apply Kd.R_drew)); exact HO110.out))) (below_size (by repeat (first | (with_reducible first | exact HB.out | apply below_alloc | apply pw_below_drewN | apply below_drew1 | refine below_set ?_ GE101.out) | exact HB.out)))); have n3_ := Aside0.mk (Kd.R_lower (Kd.R_new' (Kd.R_new' ho1 (Kd.R_lt (by (with_reducible repeat (first | apply Kd.R_alloc | apply Kd.R_drewN | apply Kd.R_drew)); exact HO106.out))) (Kd.R_lt (by (with_reducible repeat (first | apply Kd.R_alloc | apply Kd.R_drewN | apply Kd.R_drew)); exact HO110.out))) (below_size (by repeat (first | (with_reducible first | exact HB.out | apply below_alloc | apply pw_below_drewN | apply below_drew1 | refine below_set ?_ GE101.out) | exact HB.out)))); have n4_ := Aside0.mk (blk_below (g := gb101) (o := .cells #[.slice A0_0 l0_0.length c0_0, .slice A0_1 l0_1.length c0_1, .string a0_2, .slice A0_3 l0_3.length c0_3, .slice A0_4 l0_4.length c0_4] 69 (0, 0)) (by (with_reducible repeat (first | refine blk_drewN ?_ _ | refine blk_drew ?_ | refine blk_alloc ?_ _)); exact BK101.out) hb); have n5_ := Aside0.mk (below_step (by repeat (first | (with_reducible first | exact HB.out | apply below_alloc | apply pw_below_drewN | apply below_drew1 | refine below_set ?_ GE101.out) | exact HB.out)) hb); clear HO106; clear HO110; clear BK101; clear HB; have HO106 := n0_; have HO110 := n1_; have HO115 := n2_; have HO117 := n3_; have BK101 := n4_; have HB := n5_; clear n0_ n1_ n2_ n3_ n4_ n5_; (try clear hb); (try clear hb2); (try clear hk); (try clear hi); (try clear ho0); (try clear ho1); obtain ⟨Ao33, co33, eo33⟩ := Kd.R_slice HO115.out; subst eo33; obtain ⟨Ao34, co34, eo34⟩ := Kd.R_slice HO117.out; subst eo34) | ((with_reducible refine gate_callee (f := 35) rfl ?_); refine goesL_ (some 81) rfl rfl Try.func35 (by kernel_rfl) rfl #[.slice A0_0 l0_0.length c0_0, .slice Ao33 t111.length co33, .slice A0_3 l0_3.length c0_3, .slice Ao34 t112.length co34] rfl (by (try simp only [List.map_toArray, List.map_cons, List.map_nil]); first | done | rfl | (simp only [List.length_drop, List.length_take]; rfl)) ?_; (with_reducible refine (sig_Unwrap.calls _ _ l0_0 _ _ t111 _ _ l0_3 _ _ t112 t118 t119 _ ?side1 ?side2 ?side3 ?side4 ?side5 ?side6 ?side7 ?side8 A15.out).mono ?_); (case side1 => repeat (first | exact (Kd.C_below HR0_0.out HB.out) | (with_reducible refine Kd.C_alloc ?_ _) | (with_reducible refine Kd.C_drewN ?_ _) | (with_reducible refine Kd.C_drew ?_))); (case side2 => exact HC0_0.out); (case side3 => repeat (first | exact (Kd.R_reads' HO115.out).2.2 | (with_reducible refine Kd.C_alloc ?_ _) | (with_reducible refine Kd.C_drewN ?_ _) | (with_reducible refine Kd.C_drew ?_))); (case side4 => exact (Kd.R_reads' HO115.out).2.1); (case side5 => repeat (first | exact (Kd.C_below HR0_3.out HB.out) | (with_reducible refine Kd.C_alloc ?_ _) | (with_reducible refine Kd.C_drewN ?_ _) | (with_reducible refine Kd.C_drew ?_))); (case side6 => exact HC0_3.out); (case side7 => repeat (first | exact (Kd.R_reads' HO117.out).2.2 | (with_reducible refine Kd.C_alloc ?_ _) | (with_reducible refine Kd.C_drewN ?_ _) | (with_reducible refine Kd.C_drew ?_))); (case side8 => exact (Kd.R_reads' HO117.out).2.1); rintro e w35 ⟨v120, rfl, ho0, hb⟩; refine ⟨_, rfl, ?_⟩; have n0_ := Aside0.mk (Kd.R_elder' (by (with_reducible repeat (first | apply Kd.R_alloc | apply Kd.R_drewN | apply Kd.R_drew)); exact HO106.out) (Kd.R_base ho0) hb); have n1_ := Aside0.mk (Kd.R_elder' (by (with_reducible repeat (first | apply Kd.R_alloc | apply Kd.R_drewN | apply Kd.R_drew)); exact HO110.out) (Kd.R_base ho0) hb); have n2_ := Aside0.mk (Kd.R_elder' (by (with_reducible repeat (first | apply Kd.R_alloc | apply Kd.R_drewN | apply Kd.R_drew)); exact HO115.out) (Kd.R_base ho0) hb); have n3_ := Aside0.mk (Kd.R_elder' (by (with_reducible repeat (first | apply Kd.R_alloc | apply Kd.R_drewN | apply Kd.R_drew)); exact HO117.out) (Kd.R_base ho0) hb); have n4_ := Aside0.mk (Kd.R_lower (Kd.R_new' (Kd.R_new' (Kd.R_new' (Kd.R_new' ho0 (Kd.R_lt (by (with_reducible repeat (first | apply Kd.R_alloc | apply Kd.R_drewN | apply Kd.R_drew)); exact HO106.out))) (Kd.R_lt (by (with_reducible repeat (first | apply Kd.R_alloc | apply Kd.R_drewN | apply Kd.R_drew)); exact HO110.out))) (Kd.R_lt (by (with_reducible repeat (first | apply Kd.R_alloc | apply Kd.R_drewN | apply Kd.R_drew)); exact HO115.out))) (Kd.R_lt (by (with_reducible repeat (first | apply Kd.R_alloc | apply Kd.R_drewN | apply Kd.R_drew)); exact HO117.out))) (below_size (by repeat (first | (with_reducible first | exact HB.out | apply below_alloc | apply pw_below_drewN | apply below_drew1 | refine below_set ?_ GE101.out) | exact HB.out)))); have n5_ := Aside0.mk (blk_below (g := gb101) (o := .cells #[.slice A0_0 l0_0.length c0_0, .slice A0_1 l0_1.length c0_1, .string a0_2, .slice A0_3 l0_3.length c0_3, .slice A0_4 l0_4.length c0_4] 69 (0, 0)) (by (with_reducible repeat (first | refine blk_drewN ?_ _ | refine blk_drew ?_ | refine blk_alloc ?_ _)); exact BK101.out) hb); have n6_ := Aside0.mk (below_step (by repeat (first | (with_reducible first | exact HB.out | apply below_alloc | apply pw_below_drewN | apply below_drew1 | refine below_set ?_ GE101.out) | exact HB.out)) hb); clear HO106; clear HO110; clear HO115; clear HO117; clear BK101; clear HB; have HO106 := n0_; have HO110 := n1_; have HO115 := n2_; have HO117 := n3_; have HO121 := n4_; have BK101 := n5_; have HB := n6_; clear n0_ n1_ n2_ n3_ n4_ n5_ n6_; (try clear hb); (try clear hb2); (try clear hk); (try clear hi); (try clear ho0)) | ((with_reducible refine gate_callee (f := 27) rfl ?_); refine goesL_ (some 86) rfl rfl Try.func27 (by kernel_rfl) rfl #[.slice A0_1 l0_1.length c0_1] rfl (by (try simp only [List.map_toArray, List.map_cons, List.map_nil]); first | done | rfl | (simp only [List.length_drop, List.length_take]; rfl)) ?_; (with_reducible refine (sig_Public.calls _ _ l0_1 t122 t123 _ ?side1 ?side2 A16.out).mono ?_); (case side1 => repeat (first | exact (Kd.C_below HR0_1.out HB.out) | (with_reducible refine Kd.C_alloc ?_ _) | (with_reducible refine Kd.C_drewN ?_ _) | (with_reducible refine Kd.C_drew ?_))); (case side2 => exact HC0_1.out); rintro e w36 ⟨v124, rfl, ho0, hb⟩; refine ⟨_, rfl, ?_⟩; have n0_ := Aside0.mk (Kd.R_elder' (by (with_reducible repeat (first | apply Kd.R_alloc | apply Kd.R_drewN | apply Kd.R_drew)); exact HO106.out) (Kd.R_base ho0) hb); have n1_ := Aside0.mk (Kd.R_elder' (by (with_reducible repeat (first | apply Kd.R_alloc | apply Kd.R_drewN | apply Kd.R_drew)); exact HO110.out) (Kd.R_base ho0) hb); have n2_ := Aside0.mk (Kd.R_elder' (by (with_reducible repeat (first | apply Kd.R_alloc | apply Kd.R_drewN | apply Kd.R_drew)); exact HO115.out) (Kd.R_base ho0) hb); have n3_ := Aside0.mk (Kd.R_elder' (by (with_reducible repeat (first | apply Kd.R_alloc | apply Kd.R_drewN | apply Kd.R_drew)); exact HO117.out) (Kd.R_base ho0) hb); have n4_ := Aside0.mk (Kd.R_elder' (by (with_reducible repeat (first | apply Kd.R_alloc | apply Kd.R_drewN | apply Kd.R_drew)); exact HO121.out) (Kd.R_base ho0) hb); have n5_ := Aside0.mk (Kd.R_lower (Kd.R_new' (Kd.R_new' (Kd.R_new' (Kd.R_new' (Kd.R_new' ho0 (Kd.R_lt (by (with_reducible repeat (first | apply Kd.R_alloc | apply Kd.R_drewN | apply Kd.R_drew)); exact HO106.out))) (Kd.R_lt (by (with_reducible repeat (first | apply Kd.R_alloc | apply Kd.R_drewN | apply Kd.R_drew)); exact HO110.out))) (Kd.R_lt (by (with_reducible repeat (first | apply Kd.R_alloc | apply Kd.R_drewN | apply Kd.R_drew)); exact HO115.out))) (Kd.R_lt (by (with_reducible repeat (first | apply Kd.R_alloc | apply Kd.R_drewN | apply Kd.R_drew)); exact HO117.out))) (Kd.R_lt (by (with_reducible repeat (first | apply Kd.R_alloc | apply Kd.R_drewN | apply Kd.R_drew)); exact HO121.out))) (below_size (by repeat (first | (with_reducible first | exact HB.out | apply below_alloc | apply pw_below_drewN | apply below_drew1 | refine below_set ?_ GE101.out) | exact HB.out)))); have n6_ := Aside0.mk (blk_below (g := gb101) (o := .cells #[.slice A0_0 l0_0.length c0_0, .slice A0_1 l0_1.length c0_1, .string a0_2, .slice A0_3 l0_3.length c0_3, .slice A0_4 l0_4.length c0_4] 69 (0, 0)) (by (with_reducible repeat (first | refine blk_drewN ?_ _ | refine blk_drew ?_ | refine blk_alloc ?_ _)); exact BK101.out) hb); have n7_ := Aside0.mk (below_step (by repeat (first | (with_reducible first | exact HB.out | apply below_alloc | apply pw_below_drewN | apply below_drew1 | refine below_set ?_ GE101.out) | exact HB.out)) hb); clear HO106; clear HO110; clear HO115; clear HO117; clear HO121; clear BK101; clear HB; have HO106 := n0_; have HO110 := n1_; have HO115 := n2_; have HO117 := n3_; have HO121 := n4_; have HO125 := n5_; have BK101 := n6_; have HB := n7_; clear n0_ n1_ n2_ n3_ n4_ n5_ n6_ n7_; (try clear hb); (try clear hb2); (try clear hk); (try clear hi); (try clear ho0); obtain ⟨Ao37, co37, eo37⟩ := Kd.R_slice HO110.out; subst eo37) | (go_at_call 31; (with_reducible refine (sig_Verify.calls _ _ t103 a0_2 _ _ l0_4 _ _ t107 t126 _ ?side1 ?side2 ?side3 ?side4 ?side5 ?side6 A23.out).mono ?_); (case side1 => repeat (first | exact (Kd.R_reads' HO106.out).2.2 | (with_reducible refine Kd.C_alloc ?_ _) | (with_reducible refine Kd.C_drewN ?_ _) | (with_reducible refine Kd.C_drew ?_))); (case side2 => exact (Kd.R_reads' HO106.out).2.1); (case side3 => repeat (first | exact (Kd.C_below HR0_4.out HB.out) | (with_reducible refine Kd.C_alloc ?_ _) | (with_reducible refine Kd.C_drewN ?_ _) | (with_reducible refine Kd.C_drew ?_))); (case side4 => exact HC0_4.out); (case side5 => repeat (first | exact (Kd.R_reads' HO110.out).2.2 | (with_reducible refine Kd.C_alloc ?_ _) | (with_reducible refine Kd.C_drewN ?_ _) | (with_reducible refine Kd.C_drew ?_))); (case side6 => exact (Kd.R_reads' HO110.out).2.1); rintro e w38 ⟨rfl, hb⟩; have n0_ := Aside0.mk (Kd.R_below (by (with_reducible repeat (first | apply Kd.R_alloc | apply Kd.R_drewN | apply Kd.R_drew)); exact HO106.out) hb); have n1_ := Aside0.mk (Kd.R_below (by (with_reducible repeat (first | apply Kd.R_alloc | apply Kd.R_drewN | apply Kd.R_drew)); exact HO110.out) hb); have n2_ := Aside0.mk (Kd.R_below (by (with_reducible repeat (first | apply Kd.R_alloc | apply Kd.R_drewN | apply Kd.R_drew)); exact HO115.out) hb); have n3_ := Aside0.mk (Kd.R_below (by (with_reducible repeat (first | apply Kd.R_alloc | apply Kd.R_drewN | apply Kd.R_drew)); exact HO117.out) hb); have n4_ := Aside0.mk (Kd.R_below (by (with_reducible repeat (first | apply Kd.R_alloc | apply Kd.R_drewN | apply Kd.R_drew)); exact HO121.out) hb); have n5_ := Aside0.mk (Kd.R_below (by (with_reducible repeat (first | apply Kd.R_alloc | apply Kd.R_drewN | apply Kd.R_drew)); exact HO125.out) hb); have n6_ := Aside0.mk (blk_below (g := gb101) (o := .cells #[.slice A0_0 l0_0.length c0_0, .slice A0_1 l0_1.length c0_1, .string a0_2, .slice A0_3 l0_3.length c0_3, .slice A0_4 l0_4.length c0_4] 69 (0, 0)) (by (with_reducible repeat (first | refine blk_drewN ?_ _ | refine blk_drew ?_ | refine blk_alloc ?_ _)); exact BK101.out) hb); have n7_ := Aside0.mk (below_step (by repeat (first | (with_reducible first | exact HB.out | apply below_alloc | apply pw_below_drewN | apply below_drew1 | refine below_set ?_ GE101.out) | exact HB.out)) hb); clear HO106; clear HO110; clear HO115; clear HO117; clear HO121; clear HO125; clear BK101; clear HB; have HO106 := n0_; have HO110 := n1_; have HO115 := n2_; have HO117 := n3_; have HO121 := n4_; have HO125 := n5_; have BK101 := n6_; have HB := n7_; clear n0_ n1_ n2_ n3_ n4_ n5_ n6_ n7_; (try clear hb); (try clear hb2); (try clear hk); (try clear hi); obtain ⟨Ao39, co39, eo39⟩ := Kd.R_slice HO121.out; subst eo39) | (go_at_call 18; (with_reducible refine (pyxref01_Same.calls _ _ t118 _ _ l0_4 true _ ?side1 ?side2 ?side3 ?side4 A25.out).mono ?_); (case side1 => repeat (first | exact (Kd.R_reads' HO121.out).2.2 | (with_reducible refine Kd.C_alloc ?_ _) | (with_reducible refine Kd.C_drewN ?_ _) | (with_reducible refine Kd.C_drew ?_))); (case side2 => exact (Kd.R_reads' HO121.out).2.1); (case side3 => repeat (first | exact (Kd.C_below HR0_4.out HB.out) | (with_reducible refine Kd.C_alloc ?_ _) | (with_reducible refine Kd.C_drewN ?_ _) | (with_reducible refine Kd.C_drew ?_))); (case side4 => exact HC0_4.out); rintro e w' ⟨rfl, ⟨nd, rfl⟩⟩; obtain ⟨Ao40, co40, eo40⟩ := Kd.R_slice HO125.out; subst eo40) | (go_at_call 18; (with_reducible refine (pyxref01_Same.calls _ _ t111 _ _ t122 true _ ?side1 ?side2 ?side3 ?side4 A27.out).mono ?_); (case side1 => repeat (first | exact (Kd.R_reads' HO115.out).2.2 | (with_reducible refine Kd.C_alloc ?_ _) | (with_reducible refine Kd.C_drewN ?_ _) | (with_reducible refine Kd.C_drew ?_))); (case side2 => exact (Kd.R_reads' HO115.out).2.1); (case side3 => repeat (first | exact (Kd.R_reads' HO125.out).2.2 | (with_reducible refine Kd.C_alloc ?_ _) | (with_reducible refine Kd.C_drewN ?_ _) | (with_reducible refine Kd.C_drew ?_))); (case side4 => exact (Kd.R_reads' HO125.out).2.1); rintro e w' ⟨rfl, ⟨nd, rfl⟩⟩))
                          go_ret
                          exact ⟨by first | rfl | (simp [errW_none, errW_some] <;> rfl) | (simp [*, errW_none, errW_some] <;> rfl), by repeat (first | (with_reducible first | exact HB.out | apply below_alloc | apply pw_below_drewN | apply below_drew1 | refine below_set ?_ GE101.out) | exact HB.out)⟩
                        · replace c28 := Bool.eq_false_iff.mpr c28
                          subst c28
                          have H1 : (some false) = some true := by rw [if_neg (show ¬ (false = true) by decide)] at H; exact H
                          clear H
                          have H := H1
                          clear H1
                          exact absurd (Option.some.inj H) (by decide)
                      · replace c26 := Bool.eq_false_iff.mpr c26
                        subst c26
                        have H1 : (some false) = some true := by rw [if_neg (show ¬ (false = true) by decide)] at H; exact H
                        clear H
                        have H := H1
                        clear H1
                        exact absurd (Option.some.inj H) (by decide)
                    · rw [if_neg c24] at H
                      have c24b0 : (t126 == 0) = false := beq_eq_false_iff_ne.mpr c24
                      have c24b1 : (t126 != 0) = true := bne_iff_ne.mpr c24
                      exact absurd (Option.some.inj H) (by decide)
                  · rw [if_neg c22] at H
                    have c22b0 : (t123 == 0) = false := beq_eq_false_iff_ne.mpr c22
                    have c22b1 : (t123 != 0) = true := bne_iff_ne.mpr c22
                    exact absurd (Option.some.inj H) (by decide)
                · rw [if_neg c21] at H
                  have c21b0 : (t119 == 0) = false := beq_eq_false_iff_ne.mpr c21
                  have c21b1 : (t119 != 0) = true := bne_iff_ne.mpr c21
                  exact absurd (Option.some.inj H) (by decide)
              · rw [if_neg c20] at H
                have c20b0 : (t113 == 0) = false := beq_eq_false_iff_ne.mpr c20
                have c20b1 : (t113 != 0) = true := bne_iff_ne.mpr c20
                exact absurd (Option.some.inj H) (by decide)
            · rw [if_neg c19] at H
              have c19b0 : (t108 == 0) = false := beq_eq_false_iff_ne.mpr c19
              have c19b1 : (t108 != 0) = true := bne_iff_ne.mpr c19
              exact absurd (Option.some.inj H) (by decide)
          · rw [if_neg c18] at H
            have c18b0 : (t104 == 0) = false := beq_eq_false_iff_ne.mpr c18
            have c18b1 : (t104 != 0) = true := bne_iff_ne.mpr c18
            exact absurd (Option.some.inj H) (by decide)
        · replace c17 := Bool.eq_false_iff.mpr c17
          subst c17
          have H1 : (some false) = some true := by rw [if_neg (show ¬ (false = true) by decide)] at H; exact H
          clear H
          have H := H1
          clear H1
          exact absurd (Option.some.inj H) (by decide)
end Go.Proofs.Ytifpdpfjhjoieaa.P
