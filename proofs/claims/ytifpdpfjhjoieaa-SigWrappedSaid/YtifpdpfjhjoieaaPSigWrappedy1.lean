-- Written by xprint.py, this session's driver over the kit's print.py, out of the translation.
import Derived.Test.YtifpdpfjhjoieaaPSigWrappedy0
namespace Go.Proofs.Ytifpdpfjhjoieaa.P
open Go.RowKit Go.Proofs.YtifpdpfjhjoieaaW.PrintWords Go.Proofs.YtifpdpfjhjoieaaW.PrintLast Go.Proofs.YtifpdpfjhjoieaaW.PrintMore
attribute [local go_sem] max2_int min2_int max_two min_two max_three min_three max_four min_four   -- for this text's walks alone
set_option linter.unusedVariables false
set_option linter.unusedSimpArgs false

-- NOT PRINTED: function 56 (sig_right)

-- NOT PRINTED: function 47 (byt_Num)

-- NOT PRINTED: function 95 (byt_wide)

-- NOT PRINTED: function 79 (byt_Len)

-- NOT PRINTED: function 62 (byt_Row)

-- NOT PRINTED: function 80 (kdf_first)

-- NOT PRINTED: function 63 (kdf_Expand)

-- NOT PRINTED: function 40 (kdf_Label)

-- NOT PRINTED: function 57 (sig_secret_label)

-- NOT PRINTED: function 104 (slices_Grow_byte_byte)

-- NOT PRINTED: function 99 (slices_Concat_byte_byte)

-- NOT PRINTED: function 87 (mac_joined)

-- NOT PRINTED: function 105 (sha_primes)

-- NOT PRINTED: function 112 (bits_Mul64)

-- NOT PRINTED: function 113 (bits_Add64)

-- NOT PRINTED: function 110 (sha_above)

-- NOT PRINTED: function 106 (sha_root)

-- NOT PRINTED: function 100 (sha_keys)

-- NOT PRINTED: function 101 (sha_Start)

-- NOT PRINTED: function 111 (bits_RotateLeft32)

-- NOT PRINTED: function 108 (sha_turned)

-- NOT PRINTED: function 107 (sha_words)

-- NOT PRINTED: function 102 (sha_mixed)

-- NOT PRINTED: function 103 (sha_Pad)

-- NOT PRINTED: function 94 (sha_Sum)

-- NOT PRINTED: function 91 (mac_Key)

-- NOT PRINTED: function 78 (mac_Sum)

-- NOT PRINTED: function 68 (mac_All)

-- NOT PRINTED: function 58 (sig_tag)

-- NOT PRINTED: function 46 (mac_Same)

-- NOT PRINTED: function 14 (seal_Halves)

-- NOT PRINTED: function 42 (seal_ready)

-- NOT PRINTED: function 83 (aes_Mul)

-- NOT PRINTED: function 96 (aes_inverse)

-- NOT PRINTED: function 97 (bits_RotateLeft8)

-- NOT PRINTED: function 82 (aes_Box)

-- NOT PRINTED: function 65 (aes_boxes)

-- NOT PRINTED: function 66 (aes_keys)

-- NOT PRINTED: function 84 (aes_state_with)

-- NOT PRINTED: function 85 (aes_state_shifted)

-- NOT PRINTED: function 86 (aes_state_mixed)

-- NOT PRINTED: function 67 (aes_locked)

-- NOT PRINTED: function 43 (aes_Stream)

-- NOT PRINTED: function 44 (seal_tag)

-- NOT PRINTED: function 16 (seal_Seal)

-- NOT PRINTED: function 60 (sig_shared)

-- NOT PRINTED: function 19 (seal_Open)

-- NOT PRINTED: function 77 (pyxref01_power)

-- NOT PRINTED: function 54 (pyxref01_Num)

-- NOT PRINTED: function 70 (pyxref01_Len)

-- NOT PRINTED: function 48 (pyxref01_Row)

-- NOT PRINTED: function 71 (pyxref02_Pad)

-- NOT PRINTED: function 72 (pyxref02_keys)

-- NOT PRINTED: function 73 (pyxref02_Start)

-- NOT PRINTED: function 88 (pyxref02_word)

-- NOT PRINTED: function 89 (pyxref02_turn)

-- NOT PRINTED: function 74 (pyxref02_step)

-- NOT PRINTED: function 50 (pyxref02_Sum)

-- NOT PRINTED: function 49 (pyxref03_Key)

-- NOT PRINTED: function 51 (pyxref03_with)

-- NOT PRINTED: function 64 (pyxref04_Expand)

-- NOT PRINTED: function 41 (pyxref04_Label)

/-! ### pyxlaw07_SigWrapped: function 12 -/
def pyxlaw07_SigWrapped.j0 : Nat → List Int → List Int → List Int → List Int → Int → Bool → Bool → Option (Bool)
  | 0, _, _, _, _, _, _, _ => none
  | k + 1, x3, x4, x5, x6, x7, x8, x48 => if x48 = true then (some x8) else ((pyxref07_Half.f x3).bind fun t103 => ((sig_Wrap.f t103 x4 x5 x5).bind fun bt106 => ((sig_Wrap.f t103 x4 x6 x6).bind fun bt113 => (if 0 ≤ (mn (Int.tmod (wrap64 (x7)) 32) (bt106.1.length : Int)) then (if (mn (Int.tmod (wrap64 (x7)) 32) (bt106.1.length : Int)) ≤ (bt106.1.length : Int) then ((sig_Unwrap.f x3 (bt106.1.take ((mn (Int.tmod (wrap64 (x7)) 32) (bt106.1.length : Int)) : Int).toNat) x5 bt106.2.1).bind fun bt124 => (if 0 ≤ (mn (Int.tmod (wrap64 (x7)) 32) (bt106.2.1.length : Int)) then (if (mn (Int.tmod (wrap64 (x7)) 32) (bt106.2.1.length : Int)) ≤ (bt106.2.1.length : Int) then ((sig_Unwrap.f x3 bt106.1 x5 (bt106.2.1.take ((mn (Int.tmod (wrap64 (x7)) 32) (bt106.2.1.length : Int)) : Int).toNat)).bind fun bt132 => (if x8 = true then (if bt106.2.2 = 0 then (if bt113.2.2 = 0 then ((pyxref01_Same.f bt106.1 bt113.1).bind fun t136 => (if t136 = true then ((pyxref07_Half.f x4).bind fun t137 => ((pyxref01_Same.f bt106.1 t137).bind fun t140 => (if t140 = true then (if (bt106.2.1.length : Int) = (wrap64 ((x5.length : Int) + 32)) then (if (bt113.2.1.length : Int) = (wrap64 ((x6.length : Int) + 32)) then (if bt124.2 = 1 then (some (bt132.2 == 3)) else (some false)) else (some false)) else (some false)) else (some false)))) else (some false))) else (some false)) else (some false)) else (some false))) else (none)) else (none))) else (none)) else (none)))))
def pyxlaw07_SigWrapped.f (k : Nat) (l0_0 : List Int) (l0_1 : List Int) (l0_2 : List Int) (l0_3 : List Int) (a0_4 : Int) : Option (Bool) := (pyxlaw07_shown.f).bind fun t102 => (if (l0_0.length : Int) = 32 then (if (l0_1.length : Int) = 32 then (if (l0_2.length : Int) > 200 then (pyxlaw07_SigWrapped.j0 k l0_0 l0_1 l0_2 l0_3 a0_4 t102 true) else (pyxlaw07_SigWrapped.j0 k l0_0 l0_1 l0_2 l0_3 a0_4 t102 (decide ((l0_3.length : Int) > 200)))) else (pyxlaw07_SigWrapped.j0 k l0_0 l0_1 l0_2 l0_3 a0_4 t102 true)) else (pyxlaw07_SigWrapped.j0 k l0_0 l0_1 l0_2 l0_3 a0_4 t102 true))
theorem pyxlaw07_SigWrapped.mono_l : ∀ k, (∀ y0 y1 y2 y3 y4 y5 y6, LeO (pyxlaw07_SigWrapped.j0 k y0 y1 y2 y3 y4 y5 y6) (pyxlaw07_SigWrapped.j0 (k + 1) y0 y1 y2 y3 y4 y5 y6))
  | 0 => fun _ _ _ _ _ _ _ r h => by simp [pyxlaw07_SigWrapped.j0] at h
  | k + 1 => by
    have ih0 := pyxlaw07_SigWrapped.mono_l k
    · intro y0 y1 y2 y3 y4 y5 y6
      unfold pyxlaw07_SigWrapped.j0
      repeat' first
      | (with_reducible exact ih0 _ _ _ _ _ _ _)
      | (with_reducible exact LeO.refl _)
      | (with_reducible exact LeO.none _)
      | (with_reducible refine LeO.ite ?_ ?_)
      | (with_reducible refine LeO.bind ?_ (fun _ => ?_))
      | exact ih0 _ _ _ _ _ _ _
      | exact LeO.none _
      | refine LeO.ite ?_ ?_
      | refine LeO.bind ?_ (fun _ => ?_)
theorem pyxlaw07_SigWrapped.mono : ∀ a0 a1 a2 a3 a4 k, LeO (pyxlaw07_SigWrapped.f k a0 a1 a2 a3 a4) (pyxlaw07_SigWrapped.f (k + 1) a0 a1 a2 a3 a4) := by
  intro a0 a1 a2 a3 a4 k
  have ih0 := pyxlaw07_SigWrapped.mono_l k
  unfold pyxlaw07_SigWrapped.f
  repeat' first
      | (with_reducible exact ih0 _ _ _ _ _ _ _)
      | (with_reducible exact LeO.refl _)
      | (with_reducible exact LeO.none _)
      | (with_reducible refine LeO.ite ?_ ?_)
      | (with_reducible refine LeO.bind ?_ (fun _ => ?_))
      | exact ih0 _ _ _ _ _ _ _
      | exact LeO.none _
      | refine LeO.ite ?_ ?_
      | refine LeO.bind ?_ (fun _ => ?_)
set_option maxHeartbeats 8000000 in
set_option maxRecDepth 100000 in
theorem pyxlaw07_SigWrapped.calls (k : Nat) (A0_0 : Option Addr) (c0_0 : Nat) (l0_0 : List Int) (A0_1 : Option Addr) (c0_1 : Nat) (l0_1 : List Int) (A0_2 : Option Addr) (c0_2 : Nat) (l0_2 : List Int) (A0_3 : Option Addr) (c0_3 : Nat) (l0_3 : List Int) (a0_4 : Int) (w : World) (hr0_0 : Kd.C (Kd.int .u8) w A0_0 l0_0.length l0_0) (hc0_0 : l0_0.length ≤ c0_0) (hr0_1 : Kd.C (Kd.int .u8) w A0_1 l0_1.length l0_1) (hc0_1 : l0_1.length ≤ c0_1) (hr0_2 : Kd.C (Kd.int .u8) w A0_2 l0_2.length l0_2) (hc0_2 : l0_2.length ≤ c0_2) (hr0_3 : Kd.C (Kd.int .u8) w A0_3 l0_3.length l0_3) (hc0_3 : l0_3.length ≤ c0_3) (h : pyxlaw07_SigWrapped.f k l0_0 l0_1 l0_2 l0_3 a0_4 = some true) :
    Calls Try.prog 12 #[.agg #[.slice A0_0 l0_0.length c0_0, .slice A0_1 l0_1.length c0_1, .slice A0_2 l0_2.length c0_2, .slice A0_3 l0_3.length c0_3, .int .u8 a0_4]] w fun e w' => e = .returned (.bool true) ∧ Below w.heap.size w w' := by
  have hu76 := Try.underlying76
  have HR0_0 := Aside0.mk hr0_0
  have HC0_0 := Aside0.mk hc0_0
  clear hr0_0 hc0_0
  have HR0_1 := Aside0.mk hr0_1
  have HC0_1 := Aside0.mk hc0_1
  clear hr0_1 hc0_1
  have HR0_2 := Aside0.mk hr0_2
  have HC0_2 := Aside0.mk hc0_2
  clear hr0_2 hc0_2
  have HR0_3 := Aside0.mk hr0_3
  have HC0_3 := Aside0.mk hc0_3
  clear hr0_3 hc0_3
  have HB := Aside0.mk (Below.refl w.heap.size w)
  have H : ((pyxlaw07_shown.f).bind fun t102 => (if (l0_0.length : Int) = 32 then (if (l0_1.length : Int) = 32 then (if (l0_2.length : Int) > 200 then (pyxlaw07_SigWrapped.j0 k l0_0 l0_1 l0_2 l0_3 a0_4 t102 true) else (pyxlaw07_SigWrapped.j0 k l0_0 l0_1 l0_2 l0_3 a0_4 t102 (decide ((l0_3.length : Int) > 200)))) else (pyxlaw07_SigWrapped.j0 k l0_0 l0_1 l0_2 l0_3 a0_4 t102 true)) else (pyxlaw07_SigWrapped.j0 k l0_0 l0_1 l0_2 l0_3 a0_4 t102 true))) = some true := h
  clear h
  replace H := Option.bind_eq_some_iff.mp H
  obtain ⟨t102, A20, H⟩ := H
  replace H : (if (l0_0.length : Int) = 32 then (if (l0_1.length : Int) = 32 then (if (l0_2.length : Int) > 200 then (pyxlaw07_SigWrapped.j0 k l0_0 l0_1 l0_2 l0_3 a0_4 t102 true) else (pyxlaw07_SigWrapped.j0 k l0_0 l0_1 l0_2 l0_3 a0_4 t102 (decide ((l0_3.length : Int) > 200)))) else (pyxlaw07_SigWrapped.j0 k l0_0 l0_1 l0_2 l0_3 a0_4 t102 true)) else (pyxlaw07_SigWrapped.j0 k l0_0 l0_1 l0_2 l0_3 a0_4 t102 true)) = some true := H
  have A2 := Aside0.mk A20
  clear A20
  have HC3 := Aside0.mk H
  clear H
  go_enter Try.func12, Try.ntmps12
  go_upto_region 7 with (first | ((with_reducible refine gate_dst (N := 1) rfl ?_); (try (refine gate_guard (by rfl) ?_; dsimp only)); refine box_event ?hg (N := 1) ?hd (cs := #[.slice A0_0 l0_0.length c0_0, .slice A0_1 l0_1.length c0_1, .slice A0_2 l0_2.length c0_2, .slice A0_3 l0_3.length c0_3, .int .u8 a0_4]) (t := 76) ?hr ?_; (case hd => rfl); (case hg => rfl); (case hr => first | (go_simp; done) | (go_simp; rfl)); intro gb101 hg w4 hbox hb; have n0_ := Aside0.mk (below_step (by repeat (first | (with_reducible first | exact HB.out | apply below_alloc | apply pw_below_drewN | apply below_drew1) | exact HB.out)) hb); have n1_ := Aside0.mk (hbox); have n2_ := Aside0.mk ((by rw [hg]; exact (below_size (by repeat (first | (with_reducible first | exact HB.out | apply below_alloc | apply pw_below_drewN | apply below_drew1) | exact HB.out))) : w.heap.size ≤ gb101)); have n3_ := Aside0.mk ((by rw [hg]; exact (below_size (by repeat (first | (with_reducible first | exact HB.out | apply below_alloc | apply pw_below_drewN | apply below_drew1) | exact HB.out))) : w.heap.size ≤ gb101)); clear HB; have HB := n0_; have BK101 := n1_; have GW101 := n2_; have GE101 := n3_; clear n0_ n1_ n2_ n3_; clear hb hbox hg; have hcz5_0 : w4.cell? ⟨gb101, 0, none⟩ = some (.slice A0_0 l0_0.length c0_0) := (blk_cell BK101.out 0).trans rfl; have hcz5_1 : w4.cell? ⟨gb101, 1, none⟩ = some (.slice A0_1 l0_1.length c0_1) := (blk_cell BK101.out 1).trans rfl; have hcz5_2 : w4.cell? ⟨gb101, 2, none⟩ = some (.slice A0_2 l0_2.length c0_2) := (blk_cell BK101.out 2).trans rfl; have hcz5_3 : w4.cell? ⟨gb101, 3, none⟩ = some (.slice A0_3 l0_3.length c0_3) := (blk_cell BK101.out 3).trans rfl; have hcz5_4 : w4.cell? ⟨gb101, 4, none⟩ = some (.int .u8 a0_4) := (blk_cell BK101.out 4).trans rfl; have hfz5_0 := blk_frozen BK101.out 0; have hfz5_1 := blk_frozen BK101.out 1; have hfz5_2 := blk_frozen BK101.out 2; have hfz5_3 := blk_frozen BK101.out 3; have hfz5_4 := blk_frozen BK101.out 4) | ((with_reducible refine gate_callee (f := 26) rfl ?_); refine goesL_ (some 30) rfl rfl Try.func26 (by kernel_rfl) rfl #[] rfl (by (try simp only [List.map_toArray, List.map_cons, List.map_nil]); first | done | rfl | (simp only [List.length_drop, List.length_take]; rfl)) ?_; (with_reducible refine (pyxlaw07_shown.calls  t102 _ A2.out).mono ?_); rintro e w6 ⟨rfl, hb⟩; refine ⟨_, rfl, ?_⟩; have n0_ := Aside0.mk (blk_below (g := gb101) (o := .cells #[.slice A0_0 l0_0.length c0_0, .slice A0_1 l0_1.length c0_1, .slice A0_2 l0_2.length c0_2, .slice A0_3 l0_3.length c0_3, .int .u8 a0_4] 76 (0, 0)) (by (with_reducible repeat (first | refine blk_drewN ?_ _ | refine blk_drew ?_ | refine blk_alloc ?_ _)); exact BK101.out) hb); have n1_ := Aside0.mk (below_step (by repeat (first | (with_reducible first | exact HB.out | apply below_alloc | apply pw_below_drewN | apply below_drew1 | refine below_set ?_ GE101.out) | exact HB.out)) hb); clear BK101; clear HB; have BK101 := n0_; have HB := n1_; clear n0_ n1_; (try clear hb); (try clear hb2); (try clear hk); (try clear hi)))
  (try simp only [Act.put, List.setIfInBounds_toArray, List.set_cons_zero, List.set_cons_succ])
  go_cut [48] (fun v48 wc => ∃ (kq : Nat) (x48_2 : Bool), v48 = .bool x48_2 ∧ Aside0 (pyxlaw07_SigWrapped.j0 kq l0_0 l0_1 l0_2 l0_3 a0_4 t102 x48_2 = some true) ∧ Aside0 (kq ≤ k) ∧ Aside0 (wc.heap[gb101]? = some (.cells #[(.slice A0_0 l0_0.length c0_0), (.slice A0_1 l0_1.length c0_1), (.slice A0_2 l0_2.length c0_2), (.slice A0_3 l0_3.length c0_3), .int .u8 a0_4] 76 (0, 0))) ∧ Aside0 (Below w.heap.size w wc))
  case first =>
    have H := HC3.out
    clear HC3
    by_cases c7 : (l0_0.length : Int) = 32
    · rw [if_pos c7] at H
      have c7b0 : ((l0_0.length : Int) == 32) = true := beq_iff_eq.mpr c7
      have c7b1 : ((l0_0.length : Int) != 32) = false := bne_eq_false_iff_eq.mpr c7
      clear c7
      (first | rw [c7b0] | (simp only [i64_w, i32_w]; rw [c7b0]) | skip)
      by_cases c8 : (l0_1.length : Int) = 32
      · rw [if_pos c8] at H
        have c8b0 : ((l0_1.length : Int) == 32) = true := beq_iff_eq.mpr c8
        have c8b1 : ((l0_1.length : Int) != 32) = false := bne_eq_false_iff_eq.mpr c8
        clear c8
        by_cases c9 : (l0_2.length : Int) > 200
        · rw [if_pos c9] at H
          have c9b0 : decide (200 < (l0_2.length : Int)) = true := decide_eq_true c9
          have c9b1 : decide (200 < l0_2.length) = true := decide_eq_true (by omega)
          clear c9
          have H' := Aside0.mk H
          clear H
          go_wp2
          go_meet
          case rel => exact ⟨_, (true), (by first | rfl | (simp; done) | (simp [*]; done)), H', ⟨by first | omega | exact Nat.le_refl _⟩, ⟨by (with_reducible repeat (first | refine blk_drewN ?_ _ | refine blk_drew ?_ | refine blk_alloc ?_ _)); exact BK101.out⟩, ⟨by repeat (first | (with_reducible first | exact HB.out | apply below_alloc | apply pw_below_drewN | apply below_drew1 | refine below_set ?_ GE101.out) | exact HB.out)⟩⟩
        · rw [if_neg c9] at H
          have c9b0 : decide (200 < (l0_2.length : Int)) = false := decide_eq_false c9
          have c9b1 : decide (200 < l0_2.length) = false := decide_eq_false (by omega)
          clear c9
          have H' := Aside0.mk H
          clear H
          go_wp2
          go_meet
          case rel => exact ⟨_, (decide ((l0_3.length : Int) > 200)), (by first | rfl | (simp; done) | (simp [*]; done)), H', ⟨by first | omega | exact Nat.le_refl _⟩, ⟨by (with_reducible repeat (first | refine blk_drewN ?_ _ | refine blk_drew ?_ | refine blk_alloc ?_ _)); exact BK101.out⟩, ⟨by repeat (first | (with_reducible first | exact HB.out | apply below_alloc | apply pw_below_drewN | apply below_drew1 | refine below_set ?_ GE101.out) | exact HB.out)⟩⟩
      · rw [if_neg c8] at H
        have c8b0 : ((l0_1.length : Int) == 32) = false := beq_eq_false_iff_ne.mpr c8
        have c8b1 : ((l0_1.length : Int) != 32) = true := bne_iff_ne.mpr c8
        have H' := Aside0.mk H
        clear H
        go_wp2
        go_meet
        case rel => exact ⟨_, (true), (by first | rfl | (simp; done) | (simp [*]; done)), H', ⟨by first | omega | exact Nat.le_refl _⟩, ⟨by (with_reducible repeat (first | refine blk_drewN ?_ _ | refine blk_drew ?_ | refine blk_alloc ?_ _)); exact BK101.out⟩, ⟨by repeat (first | (with_reducible first | exact HB.out | apply below_alloc | apply pw_below_drewN | apply below_drew1 | refine below_set ?_ GE101.out) | exact HB.out)⟩⟩
    · rw [if_neg c7] at H
      have c7b0 : ((l0_0.length : Int) == 32) = false := beq_eq_false_iff_ne.mpr c7
      have c7b1 : ((l0_0.length : Int) != 32) = true := bne_iff_ne.mpr c7
      (first | rw [c7b0] | (simp only [i64_w, i32_w]; rw [c7b0]) | skip)
      have H' := Aside0.mk H
      clear H
      go_wp2
      go_meet
      case rel => exact ⟨_, (true), (by first | rfl | (simp; done) | (simp [*]; done)), H', ⟨by first | omega | exact Nat.le_refl _⟩, ⟨by (with_reducible repeat (first | refine blk_drewN ?_ _ | refine blk_drew ?_ | refine blk_alloc ?_ _)); exact BK101.out⟩, ⟨by repeat (first | (with_reducible first | exact HB.out | apply below_alloc | apply pw_below_drewN | apply below_drew1 | refine below_set ?_ GE101.out) | exact HB.out)⟩⟩
  case rest =>
    clear HC3
    try clear c1
    try clear c2
    try clear p2
    try clear c7
    try clear c7b0
    try clear c7b1
    try clear c8
    try clear c8b0
    try clear c8b1
    try clear c9
    try clear c9b0
    try clear c9b1
    try clear hcz5_0
    try clear hcz5_1
    try clear hcz5_2
    try clear hcz5_3
    try clear hcz5_4
    try clear hfz5_0
    try clear hfz5_1
    try clear hfz5_2
    try clear hfz5_3
    try clear hfz5_4
    obtain ⟨kq, x48_2, rfl, HA, HJ2, BK101, HB⟩ := hcut
    cases kq with
    | zero => exact absurd HA.out (by simp [pyxlaw07_SigWrapped.j0])
    | succ kj2 =>
      have H := HA.out
      clear HA
      simp only [pyxlaw07_SigWrapped.j0] at H
      by_cases c10 : x48_2 = true
      · subst c10
        have H1 : (some t102) = some true := by rw [if_pos rfl] at H; exact H
        clear H
        have H := H1
        clear H1
        have HT_ := Option.some.inj H
        go_wp2
        go_ret
        exact ⟨by first | rfl | (simp [errW_none, errW_some] <;> rfl) | (simp [*, errW_none, errW_some] <;> rfl), by repeat (first | (with_reducible first | exact HB.out | apply below_alloc | apply pw_below_drewN | apply below_drew1 | refine below_set ?_ GE101.out) | exact HB.out)⟩
      · replace c10 := Bool.eq_false_iff.mpr c10
        subst c10
        have H1 : ((pyxref07_Half.f l0_0).bind fun t103 => ((sig_Wrap.f t103 l0_1 l0_2 l0_2).bind fun bt106 => ((sig_Wrap.f t103 l0_1 l0_3 l0_3).bind fun bt113 => (if 0 ≤ (mn (Int.tmod (wrap64 (a0_4)) 32) (bt106.1.length : Int)) then (if (mn (Int.tmod (wrap64 (a0_4)) 32) (bt106.1.length : Int)) ≤ (bt106.1.length : Int) then ((sig_Unwrap.f l0_0 (bt106.1.take ((mn (Int.tmod (wrap64 (a0_4)) 32) (bt106.1.length : Int)) : Int).toNat) l0_2 bt106.2.1).bind fun bt124 => (if 0 ≤ (mn (Int.tmod (wrap64 (a0_4)) 32) (bt106.2.1.length : Int)) then (if (mn (Int.tmod (wrap64 (a0_4)) 32) (bt106.2.1.length : Int)) ≤ (bt106.2.1.length : Int) then ((sig_Unwrap.f l0_0 bt106.1 l0_2 (bt106.2.1.take ((mn (Int.tmod (wrap64 (a0_4)) 32) (bt106.2.1.length : Int)) : Int).toNat)).bind fun bt132 => (if t102 = true then (if bt106.2.2 = 0 then (if bt113.2.2 = 0 then ((pyxref01_Same.f bt106.1 bt113.1).bind fun t136 => (if t136 = true then ((pyxref07_Half.f l0_1).bind fun t137 => ((pyxref01_Same.f bt106.1 t137).bind fun t140 => (if t140 = true then (if (bt106.2.1.length : Int) = (wrap64 ((l0_2.length : Int) + 32)) then (if (bt113.2.1.length : Int) = (wrap64 ((l0_3.length : Int) + 32)) then (if bt124.2 = 1 then (some (bt132.2 == 3)) else (some false)) else (some false)) else (some false)) else (some false)))) else (some false))) else (some false)) else (some false)) else (some false))) else (none)) else (none))) else (none)) else (none))))) = some true := by rw [if_neg (show ¬ (false = true) by decide)] at H; exact H
        clear H
        have H := H1
        clear H1
        replace H := Option.bind_eq_some_iff.mp H
        obtain ⟨t103, A110, H⟩ := H
        replace H : ((sig_Wrap.f t103 l0_1 l0_2 l0_2).bind fun bt106 => ((sig_Wrap.f t103 l0_1 l0_3 l0_3).bind fun bt113 => (if 0 ≤ (mn (Int.tmod (wrap64 (a0_4)) 32) (bt106.1.length : Int)) then (if (mn (Int.tmod (wrap64 (a0_4)) 32) (bt106.1.length : Int)) ≤ (bt106.1.length : Int) then ((sig_Unwrap.f l0_0 (bt106.1.take ((mn (Int.tmod (wrap64 (a0_4)) 32) (bt106.1.length : Int)) : Int).toNat) l0_2 bt106.2.1).bind fun bt124 => (if 0 ≤ (mn (Int.tmod (wrap64 (a0_4)) 32) (bt106.2.1.length : Int)) then (if (mn (Int.tmod (wrap64 (a0_4)) 32) (bt106.2.1.length : Int)) ≤ (bt106.2.1.length : Int) then ((sig_Unwrap.f l0_0 bt106.1 l0_2 (bt106.2.1.take ((mn (Int.tmod (wrap64 (a0_4)) 32) (bt106.2.1.length : Int)) : Int).toNat)).bind fun bt132 => (if t102 = true then (if bt106.2.2 = 0 then (if bt113.2.2 = 0 then ((pyxref01_Same.f bt106.1 bt113.1).bind fun t136 => (if t136 = true then ((pyxref07_Half.f l0_1).bind fun t137 => ((pyxref01_Same.f bt106.1 t137).bind fun t140 => (if t140 = true then (if (bt106.2.1.length : Int) = (wrap64 ((l0_2.length : Int) + 32)) then (if (bt113.2.1.length : Int) = (wrap64 ((l0_3.length : Int) + 32)) then (if bt124.2 = 1 then (some (bt132.2 == 3)) else (some false)) else (some false)) else (some false)) else (some false)))) else (some false))) else (some false)) else (some false)) else (some false))) else (none)) else (none))) else (none)) else (none)))) = some true := H
        have A11 := Aside0.mk A110
        clear A110
        replace H := Option.bind_eq_some_iff.mp H
        obtain ⟨⟨t106, t107, t108⟩, A120, H⟩ := H
        replace H : ((sig_Wrap.f t103 l0_1 l0_3 l0_3).bind fun bt113 => (if 0 ≤ (mn (Int.tmod (wrap64 (a0_4)) 32) (t106.length : Int)) then (if (mn (Int.tmod (wrap64 (a0_4)) 32) (t106.length : Int)) ≤ (t106.length : Int) then ((sig_Unwrap.f l0_0 (t106.take ((mn (Int.tmod (wrap64 (a0_4)) 32) (t106.length : Int)) : Int).toNat) l0_2 t107).bind fun bt124 => (if 0 ≤ (mn (Int.tmod (wrap64 (a0_4)) 32) (t107.length : Int)) then (if (mn (Int.tmod (wrap64 (a0_4)) 32) (t107.length : Int)) ≤ (t107.length : Int) then ((sig_Unwrap.f l0_0 t106 l0_2 (t107.take ((mn (Int.tmod (wrap64 (a0_4)) 32) (t107.length : Int)) : Int).toNat)).bind fun bt132 => (if t102 = true then (if t108 = 0 then (if bt113.2.2 = 0 then ((pyxref01_Same.f t106 bt113.1).bind fun t136 => (if t136 = true then ((pyxref07_Half.f l0_1).bind fun t137 => ((pyxref01_Same.f t106 t137).bind fun t140 => (if t140 = true then (if (t107.length : Int) = (wrap64 ((l0_2.length : Int) + 32)) then (if (bt113.2.1.length : Int) = (wrap64 ((l0_3.length : Int) + 32)) then (if bt124.2 = 1 then (some (bt132.2 == 3)) else (some false)) else (some false)) else (some false)) else (some false)))) else (some false))) else (some false)) else (some false)) else (some false))) else (none)) else (none))) else (none)) else (none))) = some true := H
        have A12 := Aside0.mk A120
        clear A120
        replace H := Option.bind_eq_some_iff.mp H
        obtain ⟨⟨t113, t114, t115⟩, A130, H⟩ := H
        replace H : (if 0 ≤ (mn (Int.tmod (wrap64 (a0_4)) 32) (t106.length : Int)) then (if (mn (Int.tmod (wrap64 (a0_4)) 32) (t106.length : Int)) ≤ (t106.length : Int) then ((sig_Unwrap.f l0_0 (t106.take ((mn (Int.tmod (wrap64 (a0_4)) 32) (t106.length : Int)) : Int).toNat) l0_2 t107).bind fun bt124 => (if 0 ≤ (mn (Int.tmod (wrap64 (a0_4)) 32) (t107.length : Int)) then (if (mn (Int.tmod (wrap64 (a0_4)) 32) (t107.length : Int)) ≤ (t107.length : Int) then ((sig_Unwrap.f l0_0 t106 l0_2 (t107.take ((mn (Int.tmod (wrap64 (a0_4)) 32) (t107.length : Int)) : Int).toNat)).bind fun bt132 => (if t102 = true then (if t108 = 0 then (if t115 = 0 then ((pyxref01_Same.f t106 t113).bind fun t136 => (if t136 = true then ((pyxref07_Half.f l0_1).bind fun t137 => ((pyxref01_Same.f t106 t137).bind fun t140 => (if t140 = true then (if (t107.length : Int) = (wrap64 ((l0_2.length : Int) + 32)) then (if (t114.length : Int) = (wrap64 ((l0_3.length : Int) + 32)) then (if bt124.2 = 1 then (some (bt132.2 == 3)) else (some false)) else (some false)) else (some false)) else (some false)))) else (some false))) else (some false)) else (some false)) else (some false))) else (none)) else (none))) else (none)) else (none)) = some true := H
        have A13 := Aside0.mk A130
        clear A130
        obtain ⟨ji14, hji14⟩ : ∃ j_ : Int, (mn (Int.tmod (wrap64 (a0_4)) 32) (t106.length : Int)) = j_ := ⟨_, rfl⟩
        replace H : (if 0 ≤ (ji14) then (if (ji14) ≤ (t106.length : Int) then ((sig_Unwrap.f l0_0 (t106.take ((ji14) : Int).toNat) l0_2 t107).bind fun bt124 => (if 0 ≤ (mn (Int.tmod (wrap64 (a0_4)) 32) (t107.length : Int)) then (if (mn (Int.tmod (wrap64 (a0_4)) 32) (t107.length : Int)) ≤ (t107.length : Int) then ((sig_Unwrap.f l0_0 t106 l0_2 (t107.take ((mn (Int.tmod (wrap64 (a0_4)) 32) (t107.length : Int)) : Int).toNat)).bind fun bt132 => (if t102 = true then (if t108 = 0 then (if t115 = 0 then ((pyxref01_Same.f t106 t113).bind fun t136 => (if t136 = true then ((pyxref07_Half.f l0_1).bind fun t137 => ((pyxref01_Same.f t106 t137).bind fun t140 => (if t140 = true then (if (t107.length : Int) = (wrap64 ((l0_2.length : Int) + 32)) then (if (t114.length : Int) = (wrap64 ((l0_3.length : Int) + 32)) then (if bt124.2 = 1 then (some (bt132.2 == 3)) else (some false)) else (some false)) else (some false)) else (some false)))) else (some false))) else (some false)) else (some false)) else (some false))) else (none)) else (none))) else (none)) else (none)) = some true := by first | (rw [hji14] at H; exact H) | (simp only [hji14] at H ⊢; exact H)
        (try rw [hji14] at A11)
        (try rw [hji14] at A12)
        (try rw [hji14] at A13)
        have hji14_ : (if (t106.length : Int) < (Int.tmod (wrap64 (a0_4)) 32) then (t106.length : Int) else (Int.tmod (wrap64 (a0_4)) 32)) = ji14 := hji14
        by_cases c15 : 0 ≤ (ji14)
        · rw [if_pos c15] at H
          have c15b0 := eq_true c15
          have c15b1 : decide (0 ≤ (ji14)) = true := decide_eq_true c15
          clear c15
          by_cases c16 : (ji14) ≤ (t106.length : Int)
          · rw [if_pos c16] at H
            have c16b0 := eq_true c16
            have c16b1 : decide ((ji14) ≤ (t106.length : Int)) = true := decide_eq_true c16
            clear c16
            obtain ⟨y120, hy120⟩ : ∃ y_ : List Int, y_ = (t106.take ((ji14) : Int).toNat) := ⟨_, rfl⟩
            replace H : ((sig_Unwrap.f l0_0 y120 l0_2 t107).bind fun bt124 => (if 0 ≤ (mn (Int.tmod (wrap64 (a0_4)) 32) (t107.length : Int)) then (if (mn (Int.tmod (wrap64 (a0_4)) 32) (t107.length : Int)) ≤ (t107.length : Int) then ((sig_Unwrap.f l0_0 t106 l0_2 (t107.take ((mn (Int.tmod (wrap64 (a0_4)) 32) (t107.length : Int)) : Int).toNat)).bind fun bt132 => (if t102 = true then (if t108 = 0 then (if t115 = 0 then ((pyxref01_Same.f t106 t113).bind fun t136 => (if t136 = true then ((pyxref07_Half.f l0_1).bind fun t137 => ((pyxref01_Same.f t106 t137).bind fun t140 => (if t140 = true then (if (t107.length : Int) = (wrap64 ((l0_2.length : Int) + 32)) then (if (t114.length : Int) = (wrap64 ((l0_3.length : Int) + 32)) then (if bt124.2 = 1 then (some (bt132.2 == 3)) else (some false)) else (some false)) else (some false)) else (some false)))) else (some false))) else (some false)) else (some false)) else (some false))) else (none)) else (none))) = some true := by first | (rw [hy120]; with_reducible exact H) | (have H2_ := (Option.bind_some _ _).symm.trans H; rw [hy120]; with_reducible exact H2_) | (have H2_ := (Option.bind_some _ _).symm.trans H; with_reducible exact H2_) | with_reducible exact H | (rw [hy120]; exact H) | exact H
            have Ny120 := Aside0.mk hy120
            clear hy120
            replace H := Option.bind_eq_some_iff.mp H
            obtain ⟨⟨t124, t125⟩, A170, H⟩ := H
            replace H : (if 0 ≤ (mn (Int.tmod (wrap64 (a0_4)) 32) (t107.length : Int)) then (if (mn (Int.tmod (wrap64 (a0_4)) 32) (t107.length : Int)) ≤ (t107.length : Int) then ((sig_Unwrap.f l0_0 t106 l0_2 (t107.take ((mn (Int.tmod (wrap64 (a0_4)) 32) (t107.length : Int)) : Int).toNat)).bind fun bt132 => (if t102 = true then (if t108 = 0 then (if t115 = 0 then ((pyxref01_Same.f t106 t113).bind fun t136 => (if t136 = true then ((pyxref07_Half.f l0_1).bind fun t137 => ((pyxref01_Same.f t106 t137).bind fun t140 => (if t140 = true then (if (t107.length : Int) = (wrap64 ((l0_2.length : Int) + 32)) then (if (t114.length : Int) = (wrap64 ((l0_3.length : Int) + 32)) then (if t125 = 1 then (some (bt132.2 == 3)) else (some false)) else (some false)) else (some false)) else (some false)))) else (some false))) else (some false)) else (some false)) else (some false))) else (none)) else (none)) = some true := H
            have A17 := Aside0.mk A170
            clear A170
            obtain ⟨ji18, hji18⟩ : ∃ j_ : Int, (mn (Int.tmod (wrap64 (a0_4)) 32) (t107.length : Int)) = j_ := ⟨_, rfl⟩
            replace H : (if 0 ≤ (ji18) then (if (ji18) ≤ (t107.length : Int) then ((sig_Unwrap.f l0_0 t106 l0_2 (t107.take ((ji18) : Int).toNat)).bind fun bt132 => (if t102 = true then (if t108 = 0 then (if t115 = 0 then ((pyxref01_Same.f t106 t113).bind fun t136 => (if t136 = true then ((pyxref07_Half.f l0_1).bind fun t137 => ((pyxref01_Same.f t106 t137).bind fun t140 => (if t140 = true then (if (t107.length : Int) = (wrap64 ((l0_2.length : Int) + 32)) then (if (t114.length : Int) = (wrap64 ((l0_3.length : Int) + 32)) then (if t125 = 1 then (some (bt132.2 == 3)) else (some false)) else (some false)) else (some false)) else (some false)))) else (some false))) else (some false)) else (some false)) else (some false))) else (none)) else (none)) = some true := by first | (rw [hji18] at H; exact H) | (simp only [hji18] at H ⊢; exact H)
            (try rw [hji18] at A11)
            (try rw [hji18] at A12)
            (try rw [hji18] at A13)
            (try rw [hji18] at A17)
            have hji18_ : (if (t107.length : Int) < (Int.tmod (wrap64 (a0_4)) 32) then (t107.length : Int) else (Int.tmod (wrap64 (a0_4)) 32)) = ji18 := hji18
            by_cases c19 : 0 ≤ (ji18)
            · rw [if_pos c19] at H
              have c19b0 := eq_true c19
              have c19b1 : decide (0 ≤ (ji18)) = true := decide_eq_true c19
              clear c19
              by_cases c20 : (ji18) ≤ (t107.length : Int)
              · rw [if_pos c20] at H
                have c20b0 := eq_true c20
                have c20b1 : decide ((ji18) ≤ (t107.length : Int)) = true := decide_eq_true c20
                clear c20
                obtain ⟨y128, hy128⟩ : ∃ y_ : List Int, y_ = (t107.take ((ji18) : Int).toNat) := ⟨_, rfl⟩
                replace H : ((sig_Unwrap.f l0_0 t106 l0_2 y128).bind fun bt132 => (if t102 = true then (if t108 = 0 then (if t115 = 0 then ((pyxref01_Same.f t106 t113).bind fun t136 => (if t136 = true then ((pyxref07_Half.f l0_1).bind fun t137 => ((pyxref01_Same.f t106 t137).bind fun t140 => (if t140 = true then (if (t107.length : Int) = (wrap64 ((l0_2.length : Int) + 32)) then (if (t114.length : Int) = (wrap64 ((l0_3.length : Int) + 32)) then (if t125 = 1 then (some (bt132.2 == 3)) else (some false)) else (some false)) else (some false)) else (some false)))) else (some false))) else (some false)) else (some false)) else (some false))) = some true := by first | (rw [hy128]; with_reducible exact H) | (have H2_ := (Option.bind_some _ _).symm.trans H; rw [hy128]; with_reducible exact H2_) | (have H2_ := (Option.bind_some _ _).symm.trans H; with_reducible exact H2_) | with_reducible exact H | (rw [hy128]; exact H) | exact H
                have Ny128 := Aside0.mk hy128
                clear hy128
                replace H := Option.bind_eq_some_iff.mp H
                obtain ⟨⟨t132, t133⟩, A210, H⟩ := H
                replace H : (if t102 = true then (if t108 = 0 then (if t115 = 0 then ((pyxref01_Same.f t106 t113).bind fun t136 => (if t136 = true then ((pyxref07_Half.f l0_1).bind fun t137 => ((pyxref01_Same.f t106 t137).bind fun t140 => (if t140 = true then (if (t107.length : Int) = (wrap64 ((l0_2.length : Int) + 32)) then (if (t114.length : Int) = (wrap64 ((l0_3.length : Int) + 32)) then (if t125 = 1 then (some (t133 == 3)) else (some false)) else (some false)) else (some false)) else (some false)))) else (some false))) else (some false)) else (some false)) else (some false)) = some true := H
                have A21 := Aside0.mk A210
                clear A210
                by_cases c22 : t102 = true
                · subst c22
                  have H1 : (if t108 = 0 then (if t115 = 0 then ((pyxref01_Same.f t106 t113).bind fun t136 => (if t136 = true then ((pyxref07_Half.f l0_1).bind fun t137 => ((pyxref01_Same.f t106 t137).bind fun t140 => (if t140 = true then (if (t107.length : Int) = (wrap64 ((l0_2.length : Int) + 32)) then (if (t114.length : Int) = (wrap64 ((l0_3.length : Int) + 32)) then (if t125 = 1 then (some (t133 == 3)) else (some false)) else (some false)) else (some false)) else (some false)))) else (some false))) else (some false)) else (some false)) = some true := by rw [if_pos rfl] at H; exact H
                  clear H
                  have H := H1
                  clear H1
                  by_cases c23 : t108 = 0
                  · rw [if_pos c23] at H
                    have c23b0 : (t108 == 0) = true := beq_iff_eq.mpr c23
                    have c23b1 : (t108 != 0) = false := bne_eq_false_iff_eq.mpr c23
                    clear c23
                    by_cases c24 : t115 = 0
                    · rw [if_pos c24] at H
                      have c24b0 : (t115 == 0) = true := beq_iff_eq.mpr c24
                      have c24b1 : (t115 != 0) = false := bne_eq_false_iff_eq.mpr c24
                      clear c24
                      replace H := Option.bind_eq_some_iff.mp H
                      obtain ⟨t136, A250, H⟩ := H
                      replace H : (if t136 = true then ((pyxref07_Half.f l0_1).bind fun t137 => ((pyxref01_Same.f t106 t137).bind fun t140 => (if t140 = true then (if (t107.length : Int) = (wrap64 ((l0_2.length : Int) + 32)) then (if (t114.length : Int) = (wrap64 ((l0_3.length : Int) + 32)) then (if t125 = 1 then (some (t133 == 3)) else (some false)) else (some false)) else (some false)) else (some false)))) else (some false)) = some true := H
                      have A25 := Aside0.mk A250
                      clear A250
                      by_cases c26 : t136 = true
                      · subst c26
                        have H1 : ((pyxref07_Half.f l0_1).bind fun t137 => ((pyxref01_Same.f t106 t137).bind fun t140 => (if t140 = true then (if (t107.length : Int) = (wrap64 ((l0_2.length : Int) + 32)) then (if (t114.length : Int) = (wrap64 ((l0_3.length : Int) + 32)) then (if t125 = 1 then (some (t133 == 3)) else (some false)) else (some false)) else (some false)) else (some false)))) = some true := by rw [if_pos rfl] at H; exact H
                        clear H
                        have H := H1
                        clear H1
                        replace H := Option.bind_eq_some_iff.mp H
                        obtain ⟨t137, A270, H⟩ := H
                        replace H : ((pyxref01_Same.f t106 t137).bind fun t140 => (if t140 = true then (if (t107.length : Int) = (wrap64 ((l0_2.length : Int) + 32)) then (if (t114.length : Int) = (wrap64 ((l0_3.length : Int) + 32)) then (if t125 = 1 then (some (t133 == 3)) else (some false)) else (some false)) else (some false)) else (some false))) = some true := H
                        have A27 := Aside0.mk A270
                        clear A270
                        replace H := Option.bind_eq_some_iff.mp H
                        obtain ⟨t140, A280, H⟩ := H
                        replace H : (if t140 = true then (if (t107.length : Int) = (wrap64 ((l0_2.length : Int) + 32)) then (if (t114.length : Int) = (wrap64 ((l0_3.length : Int) + 32)) then (if t125 = 1 then (some (t133 == 3)) else (some false)) else (some false)) else (some false)) else (some false)) = some true := H
                        have A28 := Aside0.mk A280
                        clear A280
                        by_cases c29 : t140 = true
                        · subst c29
                          have H1 : (if (t107.length : Int) = (wrap64 ((l0_2.length : Int) + 32)) then (if (t114.length : Int) = (wrap64 ((l0_3.length : Int) + 32)) then (if t125 = 1 then (some (t133 == 3)) else (some false)) else (some false)) else (some false)) = some true := by rw [if_pos rfl] at H; exact H
                          clear H
                          have H := H1
                          clear H1
                          by_cases c30 : (t107.length : Int) = (wrap64 ((l0_2.length : Int) + 32))
                          · rw [if_pos c30] at H
                            have c30b0 : ((t107.length : Int) == (wrap64 ((l0_2.length : Int) + 32))) = true := beq_iff_eq.mpr c30
                            have c30b1 : ((t107.length : Int) != (wrap64 ((l0_2.length : Int) + 32))) = false := bne_eq_false_iff_eq.mpr c30
                            clear c30
                            by_cases c31 : (t114.length : Int) = (wrap64 ((l0_3.length : Int) + 32))
                            · rw [if_pos c31] at H
                              have c31b0 : ((t114.length : Int) == (wrap64 ((l0_3.length : Int) + 32))) = true := beq_iff_eq.mpr c31
                              have c31b1 : ((t114.length : Int) != (wrap64 ((l0_3.length : Int) + 32))) = false := bne_eq_false_iff_eq.mpr c31
                              clear c31
                              by_cases c32 : t125 = 1
                              · rw [if_pos c32] at H
                                have c32b0 : (t125 == 1) = true := beq_iff_eq.mpr c32
                                have c32b1 : (t125 != 1) = false := bne_eq_false_iff_eq.mpr c32
                                clear c32
                                have HT_ := Option.some.inj H
                                go_wp2_with (first | ((with_reducible refine gate_callee (f := 38) rfl ?_); refine goesL_ (some 51) rfl rfl Try.func38 (by kernel_rfl) rfl #[.slice A0_0 l0_0.length c0_0] rfl (by (try simp only [List.map_toArray, List.map_cons, List.map_nil]); first | done | rfl | (simp only [List.length_drop, List.length_take]; rfl)) ?_; (with_reducible refine (pyxref07_Half.calls _ _ l0_0 t103 _ ?side1 ?side2 A11.out).mono ?_); (case side1 => repeat (first | exact (Kd.C_below HR0_0.out HB.out) | (with_reducible refine Kd.C_alloc ?_ _) | (with_reducible refine Kd.C_drewN ?_ _) | (with_reducible refine Kd.C_drew ?_))); (case side2 => exact HC0_0.out); rintro e w33 ⟨v104, rfl, ho0, hb⟩; refine ⟨_, rfl, ?_⟩; have n0_ := Aside0.mk (Kd.R_lower ho0 (below_size (by repeat (first | (with_reducible first | exact HB.out | apply below_alloc | apply pw_below_drewN | apply below_drew1 | refine below_set ?_ GE101.out) | exact HB.out)))); have n1_ := Aside0.mk (blk_below (g := gb101) (o := .cells #[.slice A0_0 l0_0.length c0_0, .slice A0_1 l0_1.length c0_1, .slice A0_2 l0_2.length c0_2, .slice A0_3 l0_3.length c0_3, .int .u8 a0_4] 76 (0, 0)) (by (with_reducible repeat (first | refine blk_drewN ?_ _ | refine blk_drew ?_ | refine blk_alloc ?_ _)); exact BK101.out) hb); have n2_ := Aside0.mk (below_step (by repeat (first | (with_reducible first | exact HB.out | apply below_alloc | apply pw_below_drewN | apply below_drew1 | refine below_set ?_ GE101.out) | exact HB.out)) hb); clear BK101; clear HB; have HO105 := n0_; have BK101 := n1_; have HB := n2_; clear n0_ n1_ n2_; (try clear hb); (try clear hb2); (try clear hk); (try clear hi); (try clear ho0); obtain ⟨Ao34, co34, eo34⟩ := Kd.R_slice HO105.out; subst eo34) | ((with_reducible refine gate_callee (f := 33) rfl ?_); refine goesL_ (some 57) rfl rfl Try.func33 (by kernel_rfl) rfl #[.slice Ao34 t103.length co34, .slice A0_1 l0_1.length c0_1, .slice A0_2 l0_2.length c0_2, .slice A0_2 l0_2.length c0_2] rfl (by (try simp only [List.map_toArray, List.map_cons, List.map_nil]); first | done | rfl | (simp only [List.length_drop, List.length_take]; rfl)) ?_; (with_reducible refine (sig_Wrap.calls _ _ t103 _ _ l0_1 _ _ l0_2 _ _ l0_2 t106 t107 t108 _ ?side1 ?side2 ?side3 ?side4 ?side5 ?side6 ?side7 ?side8 A12.out).mono ?_); (case side1 => repeat (first | exact (Kd.R_reads' HO105.out).2.2 | (with_reducible refine Kd.C_alloc ?_ _) | (with_reducible refine Kd.C_drewN ?_ _) | (with_reducible refine Kd.C_drew ?_))); (case side2 => exact (Kd.R_reads' HO105.out).2.1); (case side3 => repeat (first | exact (Kd.C_below HR0_1.out HB.out) | (with_reducible refine Kd.C_alloc ?_ _) | (with_reducible refine Kd.C_drewN ?_ _) | (with_reducible refine Kd.C_drew ?_))); (case side4 => exact HC0_1.out); (case side5 => repeat (first | exact (Kd.C_below HR0_2.out HB.out) | (with_reducible refine Kd.C_alloc ?_ _) | (with_reducible refine Kd.C_drewN ?_ _) | (with_reducible refine Kd.C_drew ?_))); (case side6 => exact HC0_2.out); (case side7 => repeat (first | exact (Kd.C_below HR0_2.out HB.out) | (with_reducible refine Kd.C_alloc ?_ _) | (with_reducible refine Kd.C_drewN ?_ _) | (with_reducible refine Kd.C_drew ?_))); (case side8 => exact HC0_2.out); rintro e w35 ⟨v109, v111, rfl, ho0, ho1, hb⟩; refine ⟨_, rfl, ?_⟩; have n0_ := Aside0.mk (Kd.R_mono (Kd.R_told (Kd.R_told (Kd.R_old (by (with_reducible repeat (first | apply Kd.R_alloc | apply Kd.R_drewN | apply Kd.R_drew)); exact HO105.out) hb) (Kd.R_base ho0)) (Kd.R_base ho1)) (fun _ h_ => h_.1)); have n1_ := Aside0.mk (Kd.R_lower (Kd.R_new' ho0 (Kd.R_lt (by (with_reducible repeat (first | apply Kd.R_alloc | apply Kd.R_drewN | apply Kd.R_drew)); exact HO105.out))) (below_size (by repeat (first | (with_reducible first | exact HB.out | apply below_alloc | apply pw_below_drewN | apply below_drew1 | refine below_set ?_ GE101.out) | exact HB.out)))); have n2_ := Aside0.mk (Kd.R_lower (Kd.R_new' ho1 (Kd.R_lt (by (with_reducible repeat (first | apply Kd.R_alloc | apply Kd.R_drewN | apply Kd.R_drew)); exact HO105.out))) (below_size (by repeat (first | (with_reducible first | exact HB.out | apply below_alloc | apply pw_below_drewN | apply below_drew1 | refine below_set ?_ GE101.out) | exact HB.out)))); have n3_ := Aside0.mk (blk_below (g := gb101) (o := .cells #[.slice A0_0 l0_0.length c0_0, .slice A0_1 l0_1.length c0_1, .slice A0_2 l0_2.length c0_2, .slice A0_3 l0_3.length c0_3, .int .u8 a0_4] 76 (0, 0)) (by (with_reducible repeat (first | refine blk_drewN ?_ _ | refine blk_drew ?_ | refine blk_alloc ?_ _)); exact BK101.out) hb); have n4_ := Aside0.mk (below_step (by repeat (first | (with_reducible first | exact HB.out | apply below_alloc | apply pw_below_drewN | apply below_drew1 | refine below_set ?_ GE101.out) | exact HB.out)) hb); clear HO105; clear BK101; clear HB; have HO105 := n0_; have HO110 := n1_; have HO112 := n2_; have BK101 := n3_; have HB := n4_; clear n0_ n1_ n2_ n3_ n4_; (try clear hb); (try clear hb2); (try clear hk); (try clear hi); (try clear ho0); (try clear ho1)) | ((with_reducible refine gate_callee (f := 33) rfl ?_); refine goesL_ (some 66) rfl rfl Try.func33 (by kernel_rfl) rfl #[.slice Ao34 t103.length co34, .slice A0_1 l0_1.length c0_1, .slice A0_3 l0_3.length c0_3, .slice A0_3 l0_3.length c0_3] rfl (by (try simp only [List.map_toArray, List.map_cons, List.map_nil]); first | done | rfl | (simp only [List.length_drop, List.length_take]; rfl)) ?_; (with_reducible refine (sig_Wrap.calls _ _ t103 _ _ l0_1 _ _ l0_3 _ _ l0_3 t113 t114 t115 _ ?side1 ?side2 ?side3 ?side4 ?side5 ?side6 ?side7 ?side8 A13.out).mono ?_); (case side1 => repeat (first | exact (Kd.R_reads' HO105.out).2.2 | (with_reducible refine Kd.C_alloc ?_ _) | (with_reducible refine Kd.C_drewN ?_ _) | (with_reducible refine Kd.C_drew ?_))); (case side2 => exact (Kd.R_reads' HO105.out).2.1); (case side3 => repeat (first | exact (Kd.C_below HR0_1.out HB.out) | (with_reducible refine Kd.C_alloc ?_ _) | (with_reducible refine Kd.C_drewN ?_ _) | (with_reducible refine Kd.C_drew ?_))); (case side4 => exact HC0_1.out); (case side5 => repeat (first | exact (Kd.C_below HR0_3.out HB.out) | (with_reducible refine Kd.C_alloc ?_ _) | (with_reducible refine Kd.C_drewN ?_ _) | (with_reducible refine Kd.C_drew ?_))); (case side6 => exact HC0_3.out); (case side7 => repeat (first | exact (Kd.C_below HR0_3.out HB.out) | (with_reducible refine Kd.C_alloc ?_ _) | (with_reducible refine Kd.C_drewN ?_ _) | (with_reducible refine Kd.C_drew ?_))); (case side8 => exact HC0_3.out); rintro e w36 ⟨v116, v118, rfl, ho0, ho1, hb⟩; refine ⟨_, rfl, ?_⟩; have n0_ := Aside0.mk (Kd.R_mono (Kd.R_told (Kd.R_told (Kd.R_old (by (with_reducible repeat (first | apply Kd.R_alloc | apply Kd.R_drewN | apply Kd.R_drew)); exact HO105.out) hb) (Kd.R_base ho0)) (Kd.R_base ho1)) (fun _ h_ => h_.1)); have n1_ := Aside0.mk (Kd.R_mono (Kd.R_told (Kd.R_told (Kd.R_old (by (with_reducible repeat (first | apply Kd.R_alloc | apply Kd.R_drewN | apply Kd.R_drew)); exact HO110.out) hb) (Kd.R_base ho0)) (Kd.R_base ho1)) (fun _ h_ => h_.1)); have n2_ := Aside0.mk (Kd.R_mono (Kd.R_told (Kd.R_told (Kd.R_old (by (with_reducible repeat (first | apply Kd.R_alloc | apply Kd.R_drewN | apply Kd.R_drew)); exact HO112.out) hb) (Kd.R_base ho0)) (Kd.R_base ho1)) (fun _ h_ => h_.1)); have n3_ := Aside0.mk (Kd.R_lower (Kd.R_new' (Kd.R_new' (Kd.R_new' ho0 (Kd.R_lt (by (with_reducible repeat (first | apply Kd.R_alloc | apply Kd.R_drewN | apply Kd.R_drew)); exact HO105.out))) (Kd.R_lt (by (with_reducible repeat (first | apply Kd.R_alloc | apply Kd.R_drewN | apply Kd.R_drew)); exact HO110.out))) (Kd.R_lt (by (with_reducible repeat (first | apply Kd.R_alloc | apply Kd.R_drewN | apply Kd.R_drew)); exact HO112.out))) (below_size (by repeat (first | (with_reducible first | exact HB.out | apply below_alloc | apply pw_below_drewN | apply below_drew1 | refine below_set ?_ GE101.out) | exact HB.out)))); have n4_ := Aside0.mk (Kd.R_lower (Kd.R_new' (Kd.R_new' (Kd.R_new' ho1 (Kd.R_lt (by (with_reducible repeat (first | apply Kd.R_alloc | apply Kd.R_drewN | apply Kd.R_drew)); exact HO105.out))) (Kd.R_lt (by (with_reducible repeat (first | apply Kd.R_alloc | apply Kd.R_drewN | apply Kd.R_drew)); exact HO110.out))) (Kd.R_lt (by (with_reducible repeat (first | apply Kd.R_alloc | apply Kd.R_drewN | apply Kd.R_drew)); exact HO112.out))) (below_size (by repeat (first | (with_reducible first | exact HB.out | apply below_alloc | apply pw_below_drewN | apply below_drew1 | refine below_set ?_ GE101.out) | exact HB.out)))); have n5_ := Aside0.mk (blk_below (g := gb101) (o := .cells #[.slice A0_0 l0_0.length c0_0, .slice A0_1 l0_1.length c0_1, .slice A0_2 l0_2.length c0_2, .slice A0_3 l0_3.length c0_3, .int .u8 a0_4] 76 (0, 0)) (by (with_reducible repeat (first | refine blk_drewN ?_ _ | refine blk_drew ?_ | refine blk_alloc ?_ _)); exact BK101.out) hb); have n6_ := Aside0.mk (below_step (by repeat (first | (with_reducible first | exact HB.out | apply below_alloc | apply pw_below_drewN | apply below_drew1 | refine below_set ?_ GE101.out) | exact HB.out)) hb); clear HO105; clear HO110; clear HO112; clear BK101; clear HB; have HO105 := n0_; have HO110 := n1_; have HO112 := n2_; have HO117 := n3_; have HO119 := n4_; have BK101 := n5_; have HB := n6_; clear n0_ n1_ n2_ n3_ n4_ n5_ n6_; (try clear hb); (try clear hb2); (try clear hk); (try clear hi); (try clear ho0); (try clear ho1); obtain ⟨Ao37, co37, eo37⟩ := Kd.R_slice HO110.out; subst eo37; have q38 : ((ji14) : Int) ≤ ((t106.length : Int) : Int) := of_decide_eq_true (by first | (with_reducible assumption) | assumption); obtain ⟨i038, hi038, _, hsz38, _⟩ := info_parts info5; have hroom38 : t106.length ≤ co37 := (Kd.R_reads' HO110.out).2.1; have hC38 : Kd.C (Kd.int .u8) _ Ao37 t106.length t106 := (Kd.R_reads' HO110.out).2.2; have hcut38 := cut_to (P := Try.prog) 22 5 .i64 Try.underlying22 hi038 Ao37 t106.length co37 (ji14) (of_decide_eq_true (by first | (with_reducible assumption) | assumption)) q38 hroom38; have hr38 := Kd.C_take (m := ((ji14) : Int).toNat) hC38 (by omega); have hy38 : y120.length = ((ji14) : Int).toNat := (by rw [Ny120.out, List.length_take]; omega); rw [← Ny120.out] at hr38; rw [← hy38] at hcut38; have HR123 := Aside0.mk hr38; have HC123 := Aside0.mk (show y120.length ≤ co37 from by omega); clear hr38 hC38 hroom38 hi038 hsz38; have KY38 := Aside0.mk hy38; clear hy38; have KL38 := Aside0.mk (show ((ji14) : Int).toNat ≤ t106.length from by omega); replace q38 := eq_true q38; obtain ⟨Ao39, co39, eo39⟩ := Kd.R_slice HO112.out; subst eo39) | ((with_reducible refine gate_callee (f := 35) rfl ?_); refine goesL_ (some 82) rfl rfl Try.func35 (by kernel_rfl) rfl #[.slice A0_0 l0_0.length c0_0, .slice Ao37 y120.length co37, .slice A0_2 l0_2.length c0_2, .slice Ao39 t107.length co39] rfl (by (try simp only [List.map_toArray, List.map_cons, List.map_nil]); first | done | rfl | (simp only [List.length_drop, List.length_take]; rfl)) ?_; (with_reducible refine (sig_Unwrap.calls _ _ l0_0 _ _ y120 _ _ l0_2 _ _ t107 t124 t125 _ ?side1 ?side2 ?side3 ?side4 ?side5 ?side6 ?side7 ?side8 A17.out).mono ?_); (case side1 => repeat (first | exact (Kd.C_below HR0_0.out HB.out) | (with_reducible refine Kd.C_alloc ?_ _) | (with_reducible refine Kd.C_drewN ?_ _) | (with_reducible refine Kd.C_drew ?_))); (case side2 => exact HC0_0.out); (case side3 => repeat (first | exact (by repeat (first | (with_reducible exact HR123.out) | (with_reducible refine Kd.C_alloc ?_ _) | (with_reducible refine Kd.C_drewN ?_ _) | (with_reducible refine Kd.C_drew ?_) | exact HR123.out)) | (with_reducible refine Kd.C_alloc ?_ _) | (with_reducible refine Kd.C_drewN ?_ _) | (with_reducible refine Kd.C_drew ?_))); (case side4 => exact HC123.out); (case side5 => repeat (first | exact (Kd.C_below HR0_2.out HB.out) | (with_reducible refine Kd.C_alloc ?_ _) | (with_reducible refine Kd.C_drewN ?_ _) | (with_reducible refine Kd.C_drew ?_))); (case side6 => exact HC0_2.out); (case side7 => repeat (first | exact (Kd.R_reads' HO112.out).2.2 | (with_reducible refine Kd.C_alloc ?_ _) | (with_reducible refine Kd.C_drewN ?_ _) | (with_reducible refine Kd.C_drew ?_))); (case side8 => exact (Kd.R_reads' HO112.out).2.1); rintro e w40 ⟨v126, rfl, ho0, hb⟩; refine ⟨_, rfl, ?_⟩; have n0_ := Aside0.mk (Kd.R_elder' (by (with_reducible repeat (first | apply Kd.R_alloc | apply Kd.R_drewN | apply Kd.R_drew)); exact HO105.out) (Kd.R_base ho0) hb); have n1_ := Aside0.mk (Kd.R_elder' (by (with_reducible repeat (first | apply Kd.R_alloc | apply Kd.R_drewN | apply Kd.R_drew)); exact HO110.out) (Kd.R_base ho0) hb); have n2_ := Aside0.mk (Kd.R_elder' (by (with_reducible repeat (first | apply Kd.R_alloc | apply Kd.R_drewN | apply Kd.R_drew)); exact HO112.out) (Kd.R_base ho0) hb); have n3_ := Aside0.mk (Kd.R_elder' (by (with_reducible repeat (first | apply Kd.R_alloc | apply Kd.R_drewN | apply Kd.R_drew)); exact HO117.out) (Kd.R_base ho0) hb); have n4_ := Aside0.mk (Kd.R_elder' (by (with_reducible repeat (first | apply Kd.R_alloc | apply Kd.R_drewN | apply Kd.R_drew)); exact HO119.out) (Kd.R_base ho0) hb); have n5_ := Aside0.mk (Kd.R_lower (Kd.R_new' (Kd.R_new' (Kd.R_new' (Kd.R_new' (Kd.R_new' ho0 (Kd.R_lt (by (with_reducible repeat (first | apply Kd.R_alloc | apply Kd.R_drewN | apply Kd.R_drew)); exact HO105.out))) (Kd.R_lt (by (with_reducible repeat (first | apply Kd.R_alloc | apply Kd.R_drewN | apply Kd.R_drew)); exact HO110.out))) (Kd.R_lt (by (with_reducible repeat (first | apply Kd.R_alloc | apply Kd.R_drewN | apply Kd.R_drew)); exact HO112.out))) (Kd.R_lt (by (with_reducible repeat (first | apply Kd.R_alloc | apply Kd.R_drewN | apply Kd.R_drew)); exact HO117.out))) (Kd.R_lt (by (with_reducible repeat (first | apply Kd.R_alloc | apply Kd.R_drewN | apply Kd.R_drew)); exact HO119.out))) (below_size (by repeat (first | (with_reducible first | exact HB.out | apply below_alloc | apply pw_below_drewN | apply below_drew1 | refine below_set ?_ GE101.out) | exact HB.out)))); have n6_ := Aside0.mk (blk_below (g := gb101) (o := .cells #[.slice A0_0 l0_0.length c0_0, .slice A0_1 l0_1.length c0_1, .slice A0_2 l0_2.length c0_2, .slice A0_3 l0_3.length c0_3, .int .u8 a0_4] 76 (0, 0)) (by (with_reducible repeat (first | refine blk_drewN ?_ _ | refine blk_drew ?_ | refine blk_alloc ?_ _)); exact BK101.out) hb); have n7_ := Aside0.mk (Kd.C_below (by repeat (first | (with_reducible exact HR123.out) | (with_reducible refine Kd.C_alloc ?_ _) | (with_reducible refine Kd.C_drewN ?_ _) | (with_reducible refine Kd.C_drew ?_) | exact HR123.out)) hb); have n8_ := Aside0.mk (below_step (by repeat (first | (with_reducible first | exact HB.out | apply below_alloc | apply pw_below_drewN | apply below_drew1 | refine below_set ?_ GE101.out) | exact HB.out)) hb); clear HO105; clear HO110; clear HO112; clear HO117; clear HO119; clear BK101; clear HR123; clear HB; have HO105 := n0_; have HO110 := n1_; have HO112 := n2_; have HO117 := n3_; have HO119 := n4_; have HO127 := n5_; have BK101 := n6_; have HR123 := n7_; have HB := n8_; clear n0_ n1_ n2_ n3_ n4_ n5_ n6_ n7_ n8_; (try clear hb); (try clear hb2); (try clear hk); (try clear hi); (try clear ho0); have q41 : ((ji18) : Int) ≤ ((t107.length : Int) : Int) := of_decide_eq_true (by first | (with_reducible assumption) | assumption); obtain ⟨i041, hi041, _, hsz41, _⟩ := info_parts info5; have hroom41 : t107.length ≤ co39 := (Kd.R_reads' HO112.out).2.1; have hC41 : Kd.C (Kd.int .u8) _ Ao39 t107.length t107 := (Kd.R_reads' HO112.out).2.2; have hcut41 := cut_to (P := Try.prog) 22 5 .i64 Try.underlying22 hi041 Ao39 t107.length co39 (ji18) (of_decide_eq_true (by first | (with_reducible assumption) | assumption)) q41 hroom41; have hr41 := Kd.C_take (m := ((ji18) : Int).toNat) hC41 (by omega); have hy41 : y128.length = ((ji18) : Int).toNat := (by rw [Ny128.out, List.length_take]; omega); rw [← Ny128.out] at hr41; rw [← hy41] at hcut41; have HR131 := Aside0.mk hr41; have HC131 := Aside0.mk (show y128.length ≤ co39 from by omega); clear hr41 hC41 hroom41 hi041 hsz41; have KY41 := Aside0.mk hy41; clear hy41; have KL41 := Aside0.mk (show ((ji18) : Int).toNat ≤ t107.length from by omega); replace q41 := eq_true q41) | ((with_reducible refine gate_callee (f := 35) rfl ?_); refine goesL_ (some 97) rfl rfl Try.func35 (by kernel_rfl) rfl #[.slice A0_0 l0_0.length c0_0, .slice Ao37 t106.length co37, .slice A0_2 l0_2.length c0_2, .slice Ao39 y128.length co39] rfl (by (try simp only [List.map_toArray, List.map_cons, List.map_nil]); first | done | rfl | (simp only [List.length_drop, List.length_take]; rfl)) ?_; (with_reducible refine (sig_Unwrap.calls _ _ l0_0 _ _ t106 _ _ l0_2 _ _ y128 t132 t133 _ ?side1 ?side2 ?side3 ?side4 ?side5 ?side6 ?side7 ?side8 A21.out).mono ?_); (case side1 => repeat (first | exact (Kd.C_below HR0_0.out HB.out) | (with_reducible refine Kd.C_alloc ?_ _) | (with_reducible refine Kd.C_drewN ?_ _) | (with_reducible refine Kd.C_drew ?_))); (case side2 => exact HC0_0.out); (case side3 => repeat (first | exact (Kd.R_reads' HO110.out).2.2 | (with_reducible refine Kd.C_alloc ?_ _) | (with_reducible refine Kd.C_drewN ?_ _) | (with_reducible refine Kd.C_drew ?_))); (case side4 => exact (Kd.R_reads' HO110.out).2.1); (case side5 => repeat (first | exact (Kd.C_below HR0_2.out HB.out) | (with_reducible refine Kd.C_alloc ?_ _) | (with_reducible refine Kd.C_drewN ?_ _) | (with_reducible refine Kd.C_drew ?_))); (case side6 => exact HC0_2.out); (case side7 => repeat (first | exact (by repeat (first | (with_reducible exact HR131.out) | (with_reducible refine Kd.C_alloc ?_ _) | (with_reducible refine Kd.C_drewN ?_ _) | (with_reducible refine Kd.C_drew ?_) | exact HR131.out)) | (with_reducible refine Kd.C_alloc ?_ _) | (with_reducible refine Kd.C_drewN ?_ _) | (with_reducible refine Kd.C_drew ?_))); (case side8 => exact HC131.out); rintro e w42 ⟨v134, rfl, ho0, hb⟩; refine ⟨_, rfl, ?_⟩; have n0_ := Aside0.mk (Kd.R_elder' (by (with_reducible repeat (first | apply Kd.R_alloc | apply Kd.R_drewN | apply Kd.R_drew)); exact HO105.out) (Kd.R_base ho0) hb); have n1_ := Aside0.mk (Kd.R_elder' (by (with_reducible repeat (first | apply Kd.R_alloc | apply Kd.R_drewN | apply Kd.R_drew)); exact HO110.out) (Kd.R_base ho0) hb); have n2_ := Aside0.mk (Kd.R_elder' (by (with_reducible repeat (first | apply Kd.R_alloc | apply Kd.R_drewN | apply Kd.R_drew)); exact HO112.out) (Kd.R_base ho0) hb); have n3_ := Aside0.mk (Kd.R_elder' (by (with_reducible repeat (first | apply Kd.R_alloc | apply Kd.R_drewN | apply Kd.R_drew)); exact HO117.out) (Kd.R_base ho0) hb); have n4_ := Aside0.mk (Kd.R_elder' (by (with_reducible repeat (first | apply Kd.R_alloc | apply Kd.R_drewN | apply Kd.R_drew)); exact HO119.out) (Kd.R_base ho0) hb); have n5_ := Aside0.mk (Kd.R_elder' (by (with_reducible repeat (first | apply Kd.R_alloc | apply Kd.R_drewN | apply Kd.R_drew)); exact HO127.out) (Kd.R_base ho0) hb); have n6_ := Aside0.mk (Kd.R_lower (Kd.R_new' (Kd.R_new' (Kd.R_new' (Kd.R_new' (Kd.R_new' (Kd.R_new' ho0 (Kd.R_lt (by (with_reducible repeat (first | apply Kd.R_alloc | apply Kd.R_drewN | apply Kd.R_drew)); exact HO105.out))) (Kd.R_lt (by (with_reducible repeat (first | apply Kd.R_alloc | apply Kd.R_drewN | apply Kd.R_drew)); exact HO110.out))) (Kd.R_lt (by (with_reducible repeat (first | apply Kd.R_alloc | apply Kd.R_drewN | apply Kd.R_drew)); exact HO112.out))) (Kd.R_lt (by (with_reducible repeat (first | apply Kd.R_alloc | apply Kd.R_drewN | apply Kd.R_drew)); exact HO117.out))) (Kd.R_lt (by (with_reducible repeat (first | apply Kd.R_alloc | apply Kd.R_drewN | apply Kd.R_drew)); exact HO119.out))) (Kd.R_lt (by (with_reducible repeat (first | apply Kd.R_alloc | apply Kd.R_drewN | apply Kd.R_drew)); exact HO127.out))) (below_size (by repeat (first | (with_reducible first | exact HB.out | apply below_alloc | apply pw_below_drewN | apply below_drew1 | refine below_set ?_ GE101.out) | exact HB.out)))); have n7_ := Aside0.mk (blk_below (g := gb101) (o := .cells #[.slice A0_0 l0_0.length c0_0, .slice A0_1 l0_1.length c0_1, .slice A0_2 l0_2.length c0_2, .slice A0_3 l0_3.length c0_3, .int .u8 a0_4] 76 (0, 0)) (by (with_reducible repeat (first | refine blk_drewN ?_ _ | refine blk_drew ?_ | refine blk_alloc ?_ _)); exact BK101.out) hb); have n8_ := Aside0.mk (Kd.C_below (by repeat (first | (with_reducible exact HR123.out) | (with_reducible refine Kd.C_alloc ?_ _) | (with_reducible refine Kd.C_drewN ?_ _) | (with_reducible refine Kd.C_drew ?_) | exact HR123.out)) hb); have n9_ := Aside0.mk (Kd.C_below (by repeat (first | (with_reducible exact HR131.out) | (with_reducible refine Kd.C_alloc ?_ _) | (with_reducible refine Kd.C_drewN ?_ _) | (with_reducible refine Kd.C_drew ?_) | exact HR131.out)) hb); have n10_ := Aside0.mk (below_step (by repeat (first | (with_reducible first | exact HB.out | apply below_alloc | apply pw_below_drewN | apply below_drew1 | refine below_set ?_ GE101.out) | exact HB.out)) hb); clear HO105; clear HO110; clear HO112; clear HO117; clear HO119; clear HO127; clear BK101; clear HR123; clear HR131; clear HB; have HO105 := n0_; have HO110 := n1_; have HO112 := n2_; have HO117 := n3_; have HO119 := n4_; have HO127 := n5_; have HO135 := n6_; have BK101 := n7_; have HR123 := n8_; have HR131 := n9_; have HB := n10_; clear n0_ n1_ n2_ n3_ n4_ n5_ n6_ n7_ n8_ n9_ n10_; (try clear hb); (try clear hb2); (try clear hk); (try clear hi); (try clear ho0); obtain ⟨Ao43, co43, eo43⟩ := Kd.R_slice HO117.out; subst eo43) | (go_at_call 18; (with_reducible refine (pyxref01_Same.calls _ _ t106 _ _ t113 true _ ?side1 ?side2 ?side3 ?side4 A25.out).mono ?_); (case side1 => repeat (first | exact (Kd.R_reads' HO110.out).2.2 | (with_reducible refine Kd.C_alloc ?_ _) | (with_reducible refine Kd.C_drewN ?_ _) | (with_reducible refine Kd.C_drew ?_))); (case side2 => exact (Kd.R_reads' HO110.out).2.1); (case side3 => repeat (first | exact (Kd.R_reads' HO117.out).2.2 | (with_reducible refine Kd.C_alloc ?_ _) | (with_reducible refine Kd.C_drewN ?_ _) | (with_reducible refine Kd.C_drew ?_))); (case side4 => exact (Kd.R_reads' HO117.out).2.1); rintro e w' ⟨rfl, ⟨nd, rfl⟩⟩) | (go_at_call 38; (with_reducible refine (pyxref07_Half.calls _ _ l0_1 t137 _ ?side1 ?side2 A27.out).mono ?_); (case side1 => repeat (first | exact (Kd.C_below HR0_1.out (by repeat (first | (with_reducible first | exact HB.out | apply below_alloc | apply pw_below_drewN | apply below_drew1 | refine below_set ?_ GE101.out) | exact HB.out))) | (with_reducible refine Kd.C_alloc ?_ _) | (with_reducible refine Kd.C_drewN ?_ _) | (with_reducible refine Kd.C_drew ?_))); (case side2 => exact HC0_1.out); rintro e w44 ⟨v138, rfl, ho0, hb⟩; have n0_ := Aside0.mk (Kd.R_elder' (by (with_reducible repeat (first | apply Kd.R_alloc | apply Kd.R_drewN | apply Kd.R_drew)); exact HO105.out) (Kd.R_base ho0) hb); have n1_ := Aside0.mk (Kd.R_elder' (by (with_reducible repeat (first | apply Kd.R_alloc | apply Kd.R_drewN | apply Kd.R_drew)); exact HO110.out) (Kd.R_base ho0) hb); have n2_ := Aside0.mk (Kd.R_elder' (by (with_reducible repeat (first | apply Kd.R_alloc | apply Kd.R_drewN | apply Kd.R_drew)); exact HO112.out) (Kd.R_base ho0) hb); have n3_ := Aside0.mk (Kd.R_elder' (by (with_reducible repeat (first | apply Kd.R_alloc | apply Kd.R_drewN | apply Kd.R_drew)); exact HO117.out) (Kd.R_base ho0) hb); have n4_ := Aside0.mk (Kd.R_elder' (by (with_reducible repeat (first | apply Kd.R_alloc | apply Kd.R_drewN | apply Kd.R_drew)); exact HO119.out) (Kd.R_base ho0) hb); have n5_ := Aside0.mk (Kd.R_elder' (by (with_reducible repeat (first | apply Kd.R_alloc | apply Kd.R_drewN | apply Kd.R_drew)); exact HO127.out) (Kd.R_base ho0) hb); have n6_ := Aside0.mk (Kd.R_elder' (by (with_reducible repeat (first | apply Kd.R_alloc | apply Kd.R_drewN | apply Kd.R_drew)); exact HO135.out) (Kd.R_base ho0) hb); have n7_ := Aside0.mk (Kd.R_lower (Kd.R_new' (Kd.R_new' (Kd.R_new' (Kd.R_new' (Kd.R_new' (Kd.R_new' (Kd.R_new' ho0 (Kd.R_lt (by (with_reducible repeat (first | apply Kd.R_alloc | apply Kd.R_drewN | apply Kd.R_drew)); exact HO105.out))) (Kd.R_lt (by (with_reducible repeat (first | apply Kd.R_alloc | apply Kd.R_drewN | apply Kd.R_drew)); exact HO110.out))) (Kd.R_lt (by (with_reducible repeat (first | apply Kd.R_alloc | apply Kd.R_drewN | apply Kd.R_drew)); exact HO112.out))) (Kd.R_lt (by (with_reducible repeat (first | apply Kd.R_alloc | apply Kd.R_drewN | apply Kd.R_drew)); exact HO117.out))) (Kd.R_lt (by (with_reducible repeat (first | apply Kd.R_alloc | apply Kd.R_drewN | apply Kd.R_drew)); exact HO119.out))) (Kd.R_lt (by (with_reducible repeat (first | apply Kd.R_alloc | apply Kd.R_drewN | apply Kd.R_drew)); exact HO127.out))) (Kd.R_lt (by (with_reducible repeat (first | apply Kd.R_alloc | apply Kd.R_drewN | apply Kd.R_drew)); exact HO135.out))) (below_size (by repeat (first | (with_reducible first | exact HB.out | apply below_alloc | apply pw_below_drewN | apply below_drew1 | refine below_set ?_ GE101.out) | exact HB.out)))); have n8_ := Aside0.mk (blk_below (g := gb101) (o := .cells #[.slice A0_0 l0_0.length c0_0, .slice A0_1 l0_1.length c0_1, .slice A0_2 l0_2.length c0_2, .slice A0_3 l0_3.length c0_3, .int .u8 a0_4] 76 (0, 0)) (by (with_reducible repeat (first | refine blk_drewN ?_ _ | refine blk_drew ?_ | refine blk_alloc ?_ _)); exact BK101.out) hb); have n9_ := Aside0.mk (Kd.C_below (by repeat (first | (with_reducible exact HR123.out) | (with_reducible refine Kd.C_alloc ?_ _) | (with_reducible refine Kd.C_drewN ?_ _) | (with_reducible refine Kd.C_drew ?_) | exact HR123.out)) hb); have n10_ := Aside0.mk (Kd.C_below (by repeat (first | (with_reducible exact HR131.out) | (with_reducible refine Kd.C_alloc ?_ _) | (with_reducible refine Kd.C_drewN ?_ _) | (with_reducible refine Kd.C_drew ?_) | exact HR131.out)) hb); have n11_ := Aside0.mk (below_step (by repeat (first | (with_reducible first | exact HB.out | apply below_alloc | apply pw_below_drewN | apply below_drew1 | refine below_set ?_ GE101.out) | exact HB.out)) hb); clear HO105; clear HO110; clear HO112; clear HO117; clear HO119; clear HO127; clear HO135; clear BK101; clear HR123; clear HR131; clear HB; have HO105 := n0_; have HO110 := n1_; have HO112 := n2_; have HO117 := n3_; have HO119 := n4_; have HO127 := n5_; have HO135 := n6_; have HO139 := n7_; have BK101 := n8_; have HR123 := n9_; have HR131 := n10_; have HB := n11_; clear n0_ n1_ n2_ n3_ n4_ n5_ n6_ n7_ n8_ n9_ n10_ n11_; (try clear hb); (try clear hb2); (try clear hk); (try clear hi); (try clear ho0); obtain ⟨Ao45, co45, eo45⟩ := Kd.R_slice HO139.out; subst eo45) | (go_at_call 18; (with_reducible refine (pyxref01_Same.calls _ _ t106 _ _ t137 true _ ?side1 ?side2 ?side3 ?side4 A28.out).mono ?_); (case side1 => repeat (first | exact (Kd.R_reads' HO110.out).2.2 | (with_reducible refine Kd.C_alloc ?_ _) | (with_reducible refine Kd.C_drewN ?_ _) | (with_reducible refine Kd.C_drew ?_))); (case side2 => exact (Kd.R_reads' HO110.out).2.1); (case side3 => repeat (first | exact (Kd.R_reads' HO139.out).2.2 | (with_reducible refine Kd.C_alloc ?_ _) | (with_reducible refine Kd.C_drewN ?_ _) | (with_reducible refine Kd.C_drew ?_))); (case side4 => exact (Kd.R_reads' HO139.out).2.1); rintro e w' ⟨rfl, ⟨nd, rfl⟩⟩; obtain ⟨Ao46, co46, eo46⟩ := Kd.R_slice HO119.out; subst eo46))
                                go_ret
                                exact ⟨by first | rfl | (simp [errW_none, errW_some] <;> rfl) | (simp only [← hji14, ← hji18]; first | rfl | (simp [errW_none, errW_some] <;> rfl)) | (simp [*, errW_none, errW_some] <;> rfl), by repeat (first | (with_reducible first | exact HB.out | apply below_alloc | apply pw_below_drewN | apply below_drew1 | refine below_set ?_ GE101.out) | exact HB.out)⟩
                              · rw [if_neg c32] at H
                                have c32b0 : (t125 == 1) = false := beq_eq_false_iff_ne.mpr c32
                                have c32b1 : (t125 != 1) = true := bne_iff_ne.mpr c32
                                exact absurd (Option.some.inj H) (by decide)
                            · rw [if_neg c31] at H
                              have c31b0 : ((t114.length : Int) == (wrap64 ((l0_3.length : Int) + 32))) = false := beq_eq_false_iff_ne.mpr c31
                              have c31b1 : ((t114.length : Int) != (wrap64 ((l0_3.length : Int) + 32))) = true := bne_iff_ne.mpr c31
                              exact absurd (Option.some.inj H) (by decide)
                          · rw [if_neg c30] at H
                            have c30b0 : ((t107.length : Int) == (wrap64 ((l0_2.length : Int) + 32))) = false := beq_eq_false_iff_ne.mpr c30
                            have c30b1 : ((t107.length : Int) != (wrap64 ((l0_2.length : Int) + 32))) = true := bne_iff_ne.mpr c30
                            exact absurd (Option.some.inj H) (by decide)
                        · replace c29 := Bool.eq_false_iff.mpr c29
                          subst c29
                          have H1 : (some false) = some true := by rw [if_neg (show ¬ (false = true) by decide)] at H; exact H
                          clear H
                          have H := H1
                          clear H1
                          exact absurd (Option.some.inj H) (by decide)
                      · replace c26 := Bool.eq_false_iff.mpr c26
                        subst c26
                        have H1 : (some false) = some true := by rw [if_neg (show ¬ (false = true) by decide)] at H; exact H
                        clear H
                        have H := H1
                        clear H1
                        exact absurd (Option.some.inj H) (by decide)
                    · rw [if_neg c24] at H
                      have c24b0 : (t115 == 0) = false := beq_eq_false_iff_ne.mpr c24
                      have c24b1 : (t115 != 0) = true := bne_iff_ne.mpr c24
                      exact absurd (Option.some.inj H) (by decide)
                  · rw [if_neg c23] at H
                    have c23b0 : (t108 == 0) = false := beq_eq_false_iff_ne.mpr c23
                    have c23b1 : (t108 != 0) = true := bne_iff_ne.mpr c23
                    exact absurd (Option.some.inj H) (by decide)
                · replace c22 := Bool.eq_false_iff.mpr c22
                  subst c22
                  have H1 : (some false) = some true := by rw [if_neg (show ¬ (false = true) by decide)] at H; exact H
                  clear H
                  have H := H1
                  clear H1
                  exact absurd (Option.some.inj H) (by decide)
              · rw [if_neg c20] at H
                exact absurd H (by simp)
            · rw [if_neg c19] at H
              exact absurd H (by simp)
          · rw [if_neg c16] at H
            exact absurd H (by simp)
        · rw [if_neg c15] at H
          exact absurd H (by simp)

end Go.Proofs.Ytifpdpfjhjoieaa.P
