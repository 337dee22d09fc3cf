-- Written by xprint.py, this session's driver over the kit's print.py, out of the translation.
import Derived.Test.YtpdgeanicciaiaaPKdfTellsy0
namespace Go.Proofs.Ytpdgeanicciaiaa.P
open Go.RowKit Go.Proofs.YtpdgeanicciaiaaW.PrintWords Go.Proofs.YtpdgeanicciaiaaW.PrintLast Go.Proofs.YtpdgeanicciaiaaW.PrintMore
attribute [local go_sem] max2_int min2_int max_two min_two max_three min_three max_four min_four   -- for this text's walks alone
set_option linter.unusedVariables false
set_option linter.unusedSimpArgs false

-- NOT PRINTED: function 53 (kdf_first)

-- NOT PRINTED: function 56 (byt_Num)

-- NOT PRINTED: function 95 (byt_wide)

-- NOT PRINTED: function 81 (byt_Len)

-- NOT PRINTED: function 57 (byt_Row)

-- NOT PRINTED: function 97 (sha_primes)

-- NOT PRINTED: function 104 (bits_Mul64)

-- NOT PRINTED: function 105 (bits_Add64)

-- NOT PRINTED: function 102 (sha_above)

-- NOT PRINTED: function 98 (sha_root)

-- NOT PRINTED: function 89 (sha_keys)

-- NOT PRINTED: function 90 (sha_Start)

-- NOT PRINTED: function 103 (bits_RotateLeft32)

-- NOT PRINTED: function 100 (sha_turned)

-- NOT PRINTED: function 99 (sha_words)

-- NOT PRINTED: function 91 (sha_mixed)

-- NOT PRINTED: function 92 (sha_Pad)

-- NOT PRINTED: function 70 (sha_Sum)

-- NOT PRINTED: function 88 (slices_Grow_byte_byte)

-- NOT PRINTED: function 64 (slices_Concat_byte_byte)

-- NOT PRINTED: function 80 (mac_joined)

-- NOT PRINTED: function 83 (mac_Key)

-- NOT PRINTED: function 59 (mac_Sum)

-- NOT PRINTED: function 79 (pyxref01_figure)

-- NOT PRINTED: function 74 (pyxref02_Pad)

-- NOT PRINTED: function 75 (pyxref02_keys)

-- NOT PRINTED: function 76 (pyxref02_Start)

-- NOT PRINTED: function 93 (pyxref02_word)

-- NOT PRINTED: function 94 (pyxref02_turn)

-- NOT PRINTED: function 77 (pyxref02_step)

-- NOT PRINTED: function 50 (pyxref02_Sum)

-- NOT PRINTED: function 61 (pyxref03_Key)

-- NOT PRINTED: function 62 (pyxref03_with)

-- NOT PRINTED: function 82 (pyxref01_power)

-- NOT PRINTED: function 58 (pyxref01_Num)

-- NOT PRINTED: function 78 (pyxref01_Len)

-- NOT PRINTED: function 51 (pyxref01_Row)

/-! ### pyxlaw04_KdfTells: function 3 -/
def pyxlaw04_KdfTells.j0 : Nat → List Int → List Int → ByteArray → Int → Bool → Bool → Option (Bool)
  | 0, _, _, _, _, _, _ => none
  | k + 1, x3, x4, x5, x6, x7, x49 => if x49 = true then (some x7) else ((kdf_Expand.f x3 x4 x6).bind fun bt103 => ((pyxref04_Expand.f x3 x4 x6).bind fun bt107 => ((kdf_Label.f x3 x5 x4 x6).bind fun bt111 => ((pyxref04_Label.f x3 x5 x4 x6).bind fun bt115 => ((kdf_Derive.f x3 x5).bind fun bt119 => ((pyxref04_Derive.f x3 x5).bind fun bt123 => (if x7 = true then ((kdf_Extract.f x4 x3).bind fun t127 => ((pyxref04_Extract.f x4 x3).bind fun t130 => ((pyxref01_Same.f t127 t130).bind fun t133 => (if t133 = true then ((pyxref01_Same.f bt103.1 bt107.1).bind fun t134 => (if t134 = true then (if bt103.2 = bt107.2 then ((pyxref01_Same.f bt111.1 bt115.1).bind fun t135 => (if t135 = true then (if bt111.2 = bt115.2 then ((pyxref01_Same.f bt119.1 bt123.1).bind fun t136 => (if t136 = true then (some (bt119.2 == bt123.2)) else (some false))) else (some false)) else (some false))) else (some false)) else (some false))) else (some false))))) else (some false))))))))
def pyxlaw04_KdfTells.f (k : Nat) (l0_0 : List Int) (l0_1 : List Int) (a0_2 : ByteArray) (a0_3 : Int) : Option (Bool) := (pyxlaw04_shown.f).bind fun t102 => (if (l0_0.length : Int) > 200 then (pyxlaw04_KdfTells.j0 k l0_0 l0_1 a0_2 a0_3 t102 true) else (if (l0_1.length : Int) > 200 then (pyxlaw04_KdfTells.j0 k l0_0 l0_1 a0_2 a0_3 t102 true) else (if (a0_2.size : Int) > 100 then (pyxlaw04_KdfTells.j0 k l0_0 l0_1 a0_2 a0_3 t102 true) else (if a0_3 > 400 then (pyxlaw04_KdfTells.j0 k l0_0 l0_1 a0_2 a0_3 t102 (decide (a0_3 ≤ 8160))) else (pyxlaw04_KdfTells.j0 k l0_0 l0_1 a0_2 a0_3 t102 false)))))
theorem pyxlaw04_KdfTells.mono_l : ∀ k, (∀ y0 y1 y2 y3 y4 y5, LeO (pyxlaw04_KdfTells.j0 k y0 y1 y2 y3 y4 y5) (pyxlaw04_KdfTells.j0 (k + 1) y0 y1 y2 y3 y4 y5))
  | 0 => fun _ _ _ _ _ _ r h => by simp [pyxlaw04_KdfTells.j0] at h
  | k + 1 => by
    have ih0 := pyxlaw04_KdfTells.mono_l k
    · intro y0 y1 y2 y3 y4 y5
      unfold pyxlaw04_KdfTells.j0
      repeat' first
      | (with_reducible exact ih0 _ _ _ _ _ _)
      | (with_reducible exact LeO.refl _)
      | (with_reducible exact LeO.none _)
      | (with_reducible refine LeO.ite ?_ ?_)
      | (with_reducible refine LeO.bind ?_ (fun _ => ?_))
      | exact ih0 _ _ _ _ _ _
      | exact LeO.none _
      | refine LeO.ite ?_ ?_
      | refine LeO.bind ?_ (fun _ => ?_)
theorem pyxlaw04_KdfTells.mono : ∀ a0 a1 a2 a3 k, LeO (pyxlaw04_KdfTells.f k a0 a1 a2 a3) (pyxlaw04_KdfTells.f (k + 1) a0 a1 a2 a3) := by
  intro a0 a1 a2 a3 k
  have ih0 := pyxlaw04_KdfTells.mono_l k
  unfold pyxlaw04_KdfTells.f
  repeat' first
      | (with_reducible exact ih0 _ _ _ _ _ _)
      | (with_reducible exact LeO.refl _)
      | (with_reducible exact LeO.none _)
      | (with_reducible refine LeO.ite ?_ ?_)
      | (with_reducible refine LeO.bind ?_ (fun _ => ?_))
      | exact ih0 _ _ _ _ _ _
      | exact LeO.none _
      | refine LeO.ite ?_ ?_
      | refine LeO.bind ?_ (fun _ => ?_)
set_option maxHeartbeats 8000000 in
set_option maxRecDepth 100000 in
theorem pyxlaw04_KdfTells.calls (k : Nat) (A0_0 : Option Addr) (c0_0 : Nat) (l0_0 : List Int) (A0_1 : Option Addr) (c0_1 : Nat) (l0_1 : List Int) (a0_2 : ByteArray) (a0_3 : Int) (w : World) (hr0_0 : Kd.C (Kd.int .u8) w A0_0 l0_0.length l0_0) (hc0_0 : l0_0.length ≤ c0_0) (hr0_1 : Kd.C (Kd.int .u8) w A0_1 l0_1.length l0_1) (hc0_1 : l0_1.length ≤ c0_1) (h : pyxlaw04_KdfTells.f k l0_0 l0_1 a0_2 a0_3 = some true) :
    Calls Try.prog 3 #[.agg #[.slice A0_0 l0_0.length c0_0, .slice A0_1 l0_1.length c0_1, .string a0_2, .int .i64 a0_3]] w fun e w' => e = .returned (.bool true) ∧ Below w.heap.size w w' := by
  have hu24 := Try.underlying24
  have HR0_0 := Aside0.mk hr0_0
  have HC0_0 := Aside0.mk hc0_0
  clear hr0_0 hc0_0
  have HR0_1 := Aside0.mk hr0_1
  have HC0_1 := Aside0.mk hc0_1
  clear hr0_1 hc0_1
  have HB := Aside0.mk (Below.refl w.heap.size w)
  have H : ((pyxlaw04_shown.f).bind fun t102 => (if (l0_0.length : Int) > 200 then (pyxlaw04_KdfTells.j0 k l0_0 l0_1 a0_2 a0_3 t102 true) else (if (l0_1.length : Int) > 200 then (pyxlaw04_KdfTells.j0 k l0_0 l0_1 a0_2 a0_3 t102 true) else (if (a0_2.size : Int) > 100 then (pyxlaw04_KdfTells.j0 k l0_0 l0_1 a0_2 a0_3 t102 true) else (if a0_3 > 400 then (pyxlaw04_KdfTells.j0 k l0_0 l0_1 a0_2 a0_3 t102 (decide (a0_3 ≤ 8160))) else (pyxlaw04_KdfTells.j0 k l0_0 l0_1 a0_2 a0_3 t102 false)))))) = some true := h
  clear h
  replace H := Option.bind_eq_some_iff.mp H
  obtain ⟨t102, A20, H⟩ := H
  replace H : (if (l0_0.length : Int) > 200 then (pyxlaw04_KdfTells.j0 k l0_0 l0_1 a0_2 a0_3 t102 true) else (if (l0_1.length : Int) > 200 then (pyxlaw04_KdfTells.j0 k l0_0 l0_1 a0_2 a0_3 t102 true) else (if (a0_2.size : Int) > 100 then (pyxlaw04_KdfTells.j0 k l0_0 l0_1 a0_2 a0_3 t102 true) else (if a0_3 > 400 then (pyxlaw04_KdfTells.j0 k l0_0 l0_1 a0_2 a0_3 t102 (decide (a0_3 ≤ 8160))) else (pyxlaw04_KdfTells.j0 k l0_0 l0_1 a0_2 a0_3 t102 false))))) = some true := H
  have A2 := Aside0.mk A20
  clear A20
  have HC3 := Aside0.mk H
  clear H
  go_enter Try.func3, Try.ntmps3
  go_upto_region 6 with (first | ((with_reducible refine gate_dst (N := 1) rfl ?_); (try (refine gate_guard (by rfl) ?_; dsimp only)); refine box_event ?hg (N := 1) ?hd (cs := #[.slice A0_0 l0_0.length c0_0, .slice A0_1 l0_1.length c0_1, .string a0_2, .int .i64 a0_3]) (t := 24) ?hr ?_; (case hd => rfl); (case hg => rfl); (case hr => first | (go_simp; done) | (go_simp; rfl)); intro gb101 hg w4 hbox hb; have n0_ := Aside0.mk (below_step (by repeat (first | (with_reducible first | exact HB.out | apply below_alloc | apply pw_below_drewN | apply below_drew1) | exact HB.out)) hb); have n1_ := Aside0.mk (hbox); have n2_ := Aside0.mk ((by rw [hg]; exact (below_size (by repeat (first | (with_reducible first | exact HB.out | apply below_alloc | apply pw_below_drewN | apply below_drew1) | exact HB.out))) : w.heap.size ≤ gb101)); have n3_ := Aside0.mk ((by rw [hg]; exact (below_size (by repeat (first | (with_reducible first | exact HB.out | apply below_alloc | apply pw_below_drewN | apply below_drew1) | exact HB.out))) : w.heap.size ≤ gb101)); clear HB; have HB := n0_; have BK101 := n1_; have GW101 := n2_; have GE101 := n3_; clear n0_ n1_ n2_ n3_; clear hb hbox hg; have hcz5_0 : w4.cell? ⟨gb101, 0, none⟩ = some (.slice A0_0 l0_0.length c0_0) := (blk_cell BK101.out 0).trans rfl; have hcz5_1 : w4.cell? ⟨gb101, 1, none⟩ = some (.slice A0_1 l0_1.length c0_1) := (blk_cell BK101.out 1).trans rfl; have hcz5_2 : w4.cell? ⟨gb101, 2, none⟩ = some (.string a0_2) := (blk_cell BK101.out 2).trans rfl; have hcz5_3 : w4.cell? ⟨gb101, 3, none⟩ = some (.int .i64 a0_3) := (blk_cell BK101.out 3).trans rfl; have hfz5_0 := blk_frozen BK101.out 0; have hfz5_1 := blk_frozen BK101.out 1; have hfz5_2 := blk_frozen BK101.out 2; have hfz5_3 := blk_frozen BK101.out 3) | ((with_reducible refine gate_callee (f := 15) rfl ?_); refine goesL_ (some 28) rfl rfl Try.func15 (by kernel_rfl) rfl #[] rfl (by (try simp only [List.map_toArray, List.map_cons, List.map_nil]); first | done | rfl | (simp only [List.length_drop, List.length_take]; rfl)) ?_; (with_reducible refine (pyxlaw04_shown.calls  t102 _ A2.out).mono ?_); rintro e w6 ⟨rfl, hb⟩; refine ⟨_, rfl, ?_⟩; have n0_ := Aside0.mk (blk_below (g := gb101) (o := .cells #[.slice A0_0 l0_0.length c0_0, .slice A0_1 l0_1.length c0_1, .string a0_2, .int .i64 a0_3] 24 (0, 0)) (by (with_reducible repeat (first | refine blk_drewN ?_ _ | refine blk_drew ?_ | refine blk_alloc ?_ _)); exact BK101.out) hb); have n1_ := Aside0.mk (below_step (by repeat (first | (with_reducible first | exact HB.out | apply below_alloc | apply pw_below_drewN | apply below_drew1 | refine below_set ?_ GE101.out) | exact HB.out)) hb); clear BK101; clear HB; have BK101 := n0_; have HB := n1_; clear n0_ n1_; (try clear hb); (try clear hb2); (try clear hk); (try clear hi)))
  (try simp only [Act.put, List.setIfInBounds_toArray, List.set_cons_zero, List.set_cons_succ])
  go_cut [49] (fun v49 wc => ∃ (kq : Nat) (x49_2 : Bool), v49 = .bool x49_2 ∧ Aside0 (pyxlaw04_KdfTells.j0 kq l0_0 l0_1 a0_2 a0_3 t102 x49_2 = some true) ∧ Aside0 (kq ≤ k) ∧ Aside0 (wc.heap[gb101]? = some (.cells #[(.slice A0_0 l0_0.length c0_0), (.slice A0_1 l0_1.length c0_1), .string a0_2, .int .i64 a0_3] 24 (0, 0))) ∧ Aside0 (Below w.heap.size w wc))
  case first =>
    have H := HC3.out
    clear HC3
    by_cases c7 : (l0_0.length : Int) > 200
    · rw [if_pos c7] at H
      have c7b0 : decide (200 < (l0_0.length : Int)) = true := decide_eq_true c7
      have c7b1 : decide (200 < l0_0.length) = true := decide_eq_true (by omega)
      clear c7
      (first | rw [c7b0] | (simp only [i64_w, i32_w]; rw [c7b0]) | skip)
      have H' := Aside0.mk H
      clear H
      go_wp2
      go_meet
      case rel => exact ⟨_, (true), (by first | rfl | (simp; done) | (simp [*]; done)), H', ⟨by first | omega | exact Nat.le_refl _⟩, ⟨by (with_reducible repeat (first | refine blk_drewN ?_ _ | refine blk_drew ?_ | refine blk_alloc ?_ _)); exact BK101.out⟩, ⟨by repeat (first | (with_reducible first | exact HB.out | apply below_alloc | apply pw_below_drewN | apply below_drew1 | refine below_set ?_ GE101.out) | exact HB.out)⟩⟩
    · rw [if_neg c7] at H
      have c7b0 : decide (200 < (l0_0.length : Int)) = false := decide_eq_false c7
      have c7b1 : decide (200 < l0_0.length) = false := decide_eq_false (by omega)
      clear c7
      (first | rw [c7b0] | (simp only [i64_w, i32_w]; rw [c7b0]) | skip)
      by_cases c8 : (l0_1.length : Int) > 200
      · rw [if_pos c8] at H
        have c8b0 : decide (200 < (l0_1.length : Int)) = true := decide_eq_true c8
        have c8b1 : decide (200 < l0_1.length) = true := decide_eq_true (by omega)
        clear c8
        have H' := Aside0.mk H
        clear H
        go_wp2
        go_meet
        case rel => exact ⟨_, (true), (by first | rfl | (simp; done) | (simp [*]; done)), H', ⟨by first | omega | exact Nat.le_refl _⟩, ⟨by (with_reducible repeat (first | refine blk_drewN ?_ _ | refine blk_drew ?_ | refine blk_alloc ?_ _)); exact BK101.out⟩, ⟨by repeat (first | (with_reducible first | exact HB.out | apply below_alloc | apply pw_below_drewN | apply below_drew1 | refine below_set ?_ GE101.out) | exact HB.out)⟩⟩
      · rw [if_neg c8] at H
        have c8b0 : decide (200 < (l0_1.length : Int)) = false := decide_eq_false c8
        have c8b1 : decide (200 < l0_1.length) = false := decide_eq_false (by omega)
        clear c8
        by_cases c9 : (a0_2.size : Int) > 100
        · rw [if_pos c9] at H
          have c9b0 : decide (100 < (a0_2.size : Int)) = true := decide_eq_true c9
          have c9b1 : decide (100 < a0_2.size) = true := decide_eq_true (by omega)
          clear c9
          have H' := Aside0.mk H
          clear H
          go_wp2
          go_meet
          case rel => exact ⟨_, (true), (by first | rfl | (simp; done) | (simp [*]; done)), H', ⟨by first | omega | exact Nat.le_refl _⟩, ⟨by (with_reducible repeat (first | refine blk_drewN ?_ _ | refine blk_drew ?_ | refine blk_alloc ?_ _)); exact BK101.out⟩, ⟨by repeat (first | (with_reducible first | exact HB.out | apply below_alloc | apply pw_below_drewN | apply below_drew1 | refine below_set ?_ GE101.out) | exact HB.out)⟩⟩
        · rw [if_neg c9] at H
          have c9b0 : decide (100 < (a0_2.size : Int)) = false := decide_eq_false c9
          have c9b1 : decide (100 < a0_2.size) = false := decide_eq_false (by omega)
          clear c9
          by_cases c10 : a0_3 > 400
          · rw [if_pos c10] at H
            have c10b0 : decide (400 < a0_3) = true := decide_eq_true c10
            clear c10
            have H' := Aside0.mk H
            clear H
            go_wp2
            go_meet
            case rel => exact ⟨_, (decide (a0_3 ≤ 8160)), (by first | rfl | (simp; done) | (simp [*]; done)), H', ⟨by first | omega | exact Nat.le_refl _⟩, ⟨by (with_reducible repeat (first | refine blk_drewN ?_ _ | refine blk_drew ?_ | refine blk_alloc ?_ _)); exact BK101.out⟩, ⟨by repeat (first | (with_reducible first | exact HB.out | apply below_alloc | apply pw_below_drewN | apply below_drew1 | refine below_set ?_ GE101.out) | exact HB.out)⟩⟩
          · rw [if_neg c10] at H
            have c10b0 : decide (400 < a0_3) = false := decide_eq_false c10
            clear c10
            have H' := Aside0.mk H
            clear H
            go_wp2
            go_meet
            case rel => exact ⟨_, (false), (by first | rfl | (simp; done) | (simp [*]; done)), H', ⟨by first | omega | exact Nat.le_refl _⟩, ⟨by (with_reducible repeat (first | refine blk_drewN ?_ _ | refine blk_drew ?_ | refine blk_alloc ?_ _)); exact BK101.out⟩, ⟨by repeat (first | (with_reducible first | exact HB.out | apply below_alloc | apply pw_below_drewN | apply below_drew1 | refine below_set ?_ GE101.out) | exact HB.out)⟩⟩
  case rest =>
    clear HC3
    try clear c1
    try clear p2
    try clear c3
    try clear c7
    try clear c7b0
    try clear c7b1
    try clear c8
    try clear c8b0
    try clear c8b1
    try clear c9
    try clear c9b0
    try clear c9b1
    try clear c10
    try clear c10b0
    try clear hcz5_0
    try clear hcz5_1
    try clear hcz5_2
    try clear hcz5_3
    try clear hfz5_0
    try clear hfz5_1
    try clear hfz5_2
    try clear hfz5_3
    obtain ⟨kq, x49_2, rfl, HA, HJ2, BK101, HB⟩ := hcut
    cases kq with
    | zero => exact absurd HA.out (by simp [pyxlaw04_KdfTells.j0])
    | succ kj2 =>
      have H := HA.out
      clear HA
      simp only [pyxlaw04_KdfTells.j0] at H
      by_cases c11 : x49_2 = true
      · subst c11
        have H1 : (some t102) = some true := by rw [if_pos rfl] at H; exact H
        clear H
        have H := H1
        clear H1
        have HT_ := Option.some.inj H
        go_wp2
        go_ret
        exact ⟨by first | rfl | (simp [errW_none, errW_some] <;> rfl) | (simp [*, errW_none, errW_some] <;> rfl), by repeat (first | (with_reducible first | exact HB.out | apply below_alloc | apply pw_below_drewN | apply below_drew1 | refine below_set ?_ GE101.out) | exact HB.out)⟩
      · replace c11 := Bool.eq_false_iff.mpr c11
        subst c11
        have H1 : ((kdf_Expand.f l0_0 l0_1 a0_3).bind fun bt103 => ((pyxref04_Expand.f l0_0 l0_1 a0_3).bind fun bt107 => ((kdf_Label.f l0_0 a0_2 l0_1 a0_3).bind fun bt111 => ((pyxref04_Label.f l0_0 a0_2 l0_1 a0_3).bind fun bt115 => ((kdf_Derive.f l0_0 a0_2).bind fun bt119 => ((pyxref04_Derive.f l0_0 a0_2).bind fun bt123 => (if t102 = true then ((kdf_Extract.f l0_1 l0_0).bind fun t127 => ((pyxref04_Extract.f l0_1 l0_0).bind fun t130 => ((pyxref01_Same.f t127 t130).bind fun t133 => (if t133 = true then ((pyxref01_Same.f bt103.1 bt107.1).bind fun t134 => (if t134 = true then (if bt103.2 = bt107.2 then ((pyxref01_Same.f bt111.1 bt115.1).bind fun t135 => (if t135 = true then (if bt111.2 = bt115.2 then ((pyxref01_Same.f bt119.1 bt123.1).bind fun t136 => (if t136 = true then (some (bt119.2 == bt123.2)) else (some false))) else (some false)) else (some false))) else (some false)) else (some false))) else (some false))))) else (some false)))))))) = some true := by rw [if_neg (show ¬ (false = true) by decide)] at H; exact H
        clear H
        have H := H1
        clear H1
        replace H := Option.bind_eq_some_iff.mp H
        obtain ⟨⟨t103, t104⟩, A120, H⟩ := H
        replace H : ((pyxref04_Expand.f l0_0 l0_1 a0_3).bind fun bt107 => ((kdf_Label.f l0_0 a0_2 l0_1 a0_3).bind fun bt111 => ((pyxref04_Label.f l0_0 a0_2 l0_1 a0_3).bind fun bt115 => ((kdf_Derive.f l0_0 a0_2).bind fun bt119 => ((pyxref04_Derive.f l0_0 a0_2).bind fun bt123 => (if t102 = true then ((kdf_Extract.f l0_1 l0_0).bind fun t127 => ((pyxref04_Extract.f l0_1 l0_0).bind fun t130 => ((pyxref01_Same.f t127 t130).bind fun t133 => (if t133 = true then ((pyxref01_Same.f t103 bt107.1).bind fun t134 => (if t134 = true then (if t104 = bt107.2 then ((pyxref01_Same.f bt111.1 bt115.1).bind fun t135 => (if t135 = true then (if bt111.2 = bt115.2 then ((pyxref01_Same.f bt119.1 bt123.1).bind fun t136 => (if t136 = true then (some (bt119.2 == bt123.2)) else (some false))) else (some false)) else (some false))) else (some false)) else (some false))) else (some false))))) else (some false))))))) = some true := H
        have A12 := Aside0.mk A120
        clear A120
        replace H := Option.bind_eq_some_iff.mp H
        obtain ⟨⟨t107, t108⟩, A130, H⟩ := H
        replace H : ((kdf_Label.f l0_0 a0_2 l0_1 a0_3).bind fun bt111 => ((pyxref04_Label.f l0_0 a0_2 l0_1 a0_3).bind fun bt115 => ((kdf_Derive.f l0_0 a0_2).bind fun bt119 => ((pyxref04_Derive.f l0_0 a0_2).bind fun bt123 => (if t102 = true then ((kdf_Extract.f l0_1 l0_0).bind fun t127 => ((pyxref04_Extract.f l0_1 l0_0).bind fun t130 => ((pyxref01_Same.f t127 t130).bind fun t133 => (if t133 = true then ((pyxref01_Same.f t103 t107).bind fun t134 => (if t134 = true then (if t104 = t108 then ((pyxref01_Same.f bt111.1 bt115.1).bind fun t135 => (if t135 = true then (if bt111.2 = bt115.2 then ((pyxref01_Same.f bt119.1 bt123.1).bind fun t136 => (if t136 = true then (some (bt119.2 == bt123.2)) else (some false))) else (some false)) else (some false))) else (some false)) else (some false))) else (some false))))) else (some false)))))) = some true := H
        have A13 := Aside0.mk A130
        clear A130
        replace H := Option.bind_eq_some_iff.mp H
        obtain ⟨⟨t111, t112⟩, A140, H⟩ := H
        replace H : ((pyxref04_Label.f l0_0 a0_2 l0_1 a0_3).bind fun bt115 => ((kdf_Derive.f l0_0 a0_2).bind fun bt119 => ((pyxref04_Derive.f l0_0 a0_2).bind fun bt123 => (if t102 = true then ((kdf_Extract.f l0_1 l0_0).bind fun t127 => ((pyxref04_Extract.f l0_1 l0_0).bind fun t130 => ((pyxref01_Same.f t127 t130).bind fun t133 => (if t133 = true then ((pyxref01_Same.f t103 t107).bind fun t134 => (if t134 = true then (if t104 = t108 then ((pyxref01_Same.f t111 bt115.1).bind fun t135 => (if t135 = true then (if t112 = bt115.2 then ((pyxref01_Same.f bt119.1 bt123.1).bind fun t136 => (if t136 = true then (some (bt119.2 == bt123.2)) else (some false))) else (some false)) else (some false))) else (some false)) else (some false))) else (some false))))) else (some false))))) = some true := H
        have A14 := Aside0.mk A140
        clear A140
        replace H := Option.bind_eq_some_iff.mp H
        obtain ⟨⟨t115, t116⟩, A150, H⟩ := H
        replace H : ((kdf_Derive.f l0_0 a0_2).bind fun bt119 => ((pyxref04_Derive.f l0_0 a0_2).bind fun bt123 => (if t102 = true then ((kdf_Extract.f l0_1 l0_0).bind fun t127 => ((pyxref04_Extract.f l0_1 l0_0).bind fun t130 => ((pyxref01_Same.f t127 t130).bind fun t133 => (if t133 = true then ((pyxref01_Same.f t103 t107).bind fun t134 => (if t134 = true then (if t104 = t108 then ((pyxref01_Same.f t111 t115).bind fun t135 => (if t135 = true then (if t112 = t116 then ((pyxref01_Same.f bt119.1 bt123.1).bind fun t136 => (if t136 = true then (some (bt119.2 == bt123.2)) else (some false))) else (some false)) else (some false))) else (some false)) else (some false))) else (some false))))) else (some false)))) = some true := H
        have A15 := Aside0.mk A150
        clear A150
        replace H := Option.bind_eq_some_iff.mp H
        obtain ⟨⟨t119, t120⟩, A160, H⟩ := H
        replace H : ((pyxref04_Derive.f l0_0 a0_2).bind fun bt123 => (if t102 = true then ((kdf_Extract.f l0_1 l0_0).bind fun t127 => ((pyxref04_Extract.f l0_1 l0_0).bind fun t130 => ((pyxref01_Same.f t127 t130).bind fun t133 => (if t133 = true then ((pyxref01_Same.f t103 t107).bind fun t134 => (if t134 = true then (if t104 = t108 then ((pyxref01_Same.f t111 t115).bind fun t135 => (if t135 = true then (if t112 = t116 then ((pyxref01_Same.f t119 bt123.1).bind fun t136 => (if t136 = true then (some (t120 == bt123.2)) else (some false))) else (some false)) else (some false))) else (some false)) else (some false))) else (some false))))) else (some false))) = some true := H
        have A16 := Aside0.mk A160
        clear A160
        replace H := Option.bind_eq_some_iff.mp H
        obtain ⟨⟨t123, t124⟩, A170, H⟩ := H
        replace H : (if t102 = true then ((kdf_Extract.f l0_1 l0_0).bind fun t127 => ((pyxref04_Extract.f l0_1 l0_0).bind fun t130 => ((pyxref01_Same.f t127 t130).bind fun t133 => (if t133 = true then ((pyxref01_Same.f t103 t107).bind fun t134 => (if t134 = true then (if t104 = t108 then ((pyxref01_Same.f t111 t115).bind fun t135 => (if t135 = true then (if t112 = t116 then ((pyxref01_Same.f t119 t123).bind fun t136 => (if t136 = true then (some (t120 == t124)) else (some false))) else (some false)) else (some false))) else (some false)) else (some false))) else (some false))))) else (some false)) = some true := H
        have A17 := Aside0.mk A170
        clear A170
        by_cases c18 : t102 = true
        · subst c18
          have H1 : ((kdf_Extract.f l0_1 l0_0).bind fun t127 => ((pyxref04_Extract.f l0_1 l0_0).bind fun t130 => ((pyxref01_Same.f t127 t130).bind fun t133 => (if t133 = true then ((pyxref01_Same.f t103 t107).bind fun t134 => (if t134 = true then (if t104 = t108 then ((pyxref01_Same.f t111 t115).bind fun t135 => (if t135 = true then (if t112 = t116 then ((pyxref01_Same.f t119 t123).bind fun t136 => (if t136 = true then (some (t120 == t124)) else (some false))) else (some false)) else (some false))) else (some false)) else (some false))) else (some false))))) = some true := by rw [if_pos rfl] at H; exact H
          clear H
          have H := H1
          clear H1
          replace H := Option.bind_eq_some_iff.mp H
          obtain ⟨t127, A190, H⟩ := H
          replace H : ((pyxref04_Extract.f l0_1 l0_0).bind fun t130 => ((pyxref01_Same.f t127 t130).bind fun t133 => (if t133 = true then ((pyxref01_Same.f t103 t107).bind fun t134 => (if t134 = true then (if t104 = t108 then ((pyxref01_Same.f t111 t115).bind fun t135 => (if t135 = true then (if t112 = t116 then ((pyxref01_Same.f t119 t123).bind fun t136 => (if t136 = true then (some (t120 == t124)) else (some false))) else (some false)) else (some false))) else (some false)) else (some false))) else (some false)))) = some true := H
          have A19 := Aside0.mk A190
          clear A190
          replace H := Option.bind_eq_some_iff.mp H
          obtain ⟨t130, A200, H⟩ := H
          replace H : ((pyxref01_Same.f t127 t130).bind fun t133 => (if t133 = true then ((pyxref01_Same.f t103 t107).bind fun t134 => (if t134 = true then (if t104 = t108 then ((pyxref01_Same.f t111 t115).bind fun t135 => (if t135 = true then (if t112 = t116 then ((pyxref01_Same.f t119 t123).bind fun t136 => (if t136 = true then (some (t120 == t124)) else (some false))) else (some false)) else (some false))) else (some false)) else (some false))) else (some false))) = some true := H
          have A20 := Aside0.mk A200
          clear A200
          replace H := Option.bind_eq_some_iff.mp H
          obtain ⟨t133, A210, H⟩ := H
          replace H : (if t133 = true then ((pyxref01_Same.f t103 t107).bind fun t134 => (if t134 = true then (if t104 = t108 then ((pyxref01_Same.f t111 t115).bind fun t135 => (if t135 = true then (if t112 = t116 then ((pyxref01_Same.f t119 t123).bind fun t136 => (if t136 = true then (some (t120 == t124)) else (some false))) else (some false)) else (some false))) else (some false)) else (some false))) else (some false)) = some true := H
          have A21 := Aside0.mk A210
          clear A210
          by_cases c22 : t133 = true
          · subst c22
            have H1 : ((pyxref01_Same.f t103 t107).bind fun t134 => (if t134 = true then (if t104 = t108 then ((pyxref01_Same.f t111 t115).bind fun t135 => (if t135 = true then (if t112 = t116 then ((pyxref01_Same.f t119 t123).bind fun t136 => (if t136 = true then (some (t120 == t124)) else (some false))) else (some false)) else (some false))) else (some false)) else (some false))) = some true := by rw [if_pos rfl] at H; exact H
            clear H
            have H := H1
            clear H1
            replace H := Option.bind_eq_some_iff.mp H
            obtain ⟨t134, A230, H⟩ := H
            replace H : (if t134 = true then (if t104 = t108 then ((pyxref01_Same.f t111 t115).bind fun t135 => (if t135 = true then (if t112 = t116 then ((pyxref01_Same.f t119 t123).bind fun t136 => (if t136 = true then (some (t120 == t124)) else (some false))) else (some false)) else (some false))) else (some false)) else (some false)) = some true := H
            have A23 := Aside0.mk A230
            clear A230
            by_cases c24 : t134 = true
            · subst c24
              have H1 : (if t104 = t108 then ((pyxref01_Same.f t111 t115).bind fun t135 => (if t135 = true then (if t112 = t116 then ((pyxref01_Same.f t119 t123).bind fun t136 => (if t136 = true then (some (t120 == t124)) else (some false))) else (some false)) else (some false))) else (some false)) = some true := by rw [if_pos rfl] at H; exact H
              clear H
              have H := H1
              clear H1
              by_cases c25 : t104 = t108
              · rw [if_pos c25] at H
                have c25b0 : (t104 == t108) = true := beq_iff_eq.mpr c25
                have c25b1 : (t104 != t108) = false := bne_eq_false_iff_eq.mpr c25
                clear c25
                replace H := Option.bind_eq_some_iff.mp H
                obtain ⟨t135, A260, H⟩ := H
                replace H : (if t135 = true then (if t112 = t116 then ((pyxref01_Same.f t119 t123).bind fun t136 => (if t136 = true then (some (t120 == t124)) else (some false))) else (some false)) else (some false)) = some true := H
                have A26 := Aside0.mk A260
                clear A260
                by_cases c27 : t135 = true
                · subst c27
                  have H1 : (if t112 = t116 then ((pyxref01_Same.f t119 t123).bind fun t136 => (if t136 = true then (some (t120 == t124)) else (some false))) else (some false)) = some true := by rw [if_pos rfl] at H; exact H
                  clear H
                  have H := H1
                  clear H1
                  by_cases c28 : t112 = t116
                  · rw [if_pos c28] at H
                    have c28b0 : (t112 == t116) = true := beq_iff_eq.mpr c28
                    have c28b1 : (t112 != t116) = false := bne_eq_false_iff_eq.mpr c28
                    clear c28
                    replace H := Option.bind_eq_some_iff.mp H
                    obtain ⟨t136, A290, H⟩ := H
                    replace H : (if t136 = true then (some (t120 == t124)) else (some false)) = some true := H
                    have A29 := Aside0.mk A290
                    clear A290
                    by_cases c30 : t136 = true
                    · subst c30
                      have H1 : (some (t120 == t124)) = some true := by rw [if_pos rfl] at H; exact H
                      clear H
                      have H := H1
                      clear H1
                      have HT_ := Option.some.inj H
                      go_wp2_with (first | ((with_reducible refine gate_callee (f := 16) rfl ?_); refine goesL_ (some 55) rfl rfl Try.func16 (by kernel_rfl) rfl #[.slice A0_0 l0_0.length c0_0, .slice A0_1 l0_1.length c0_1, .int .i64 a0_3] rfl (by (try simp only [List.map_toArray, List.map_cons, List.map_nil]); first | done | rfl | (simp only [List.length_drop, List.length_take]; rfl)) ?_; (with_reducible refine (kdf_Expand.calls _ _ l0_0 _ _ l0_1 a0_3 t103 t104 _ ?side1 ?side2 ?side3 ?side4 A12.out).mono ?_); (case side1 => repeat (first | exact (Kd.C_below HR0_0.out HB.out) | (with_reducible refine Kd.C_alloc ?_ _) | (with_reducible refine Kd.C_drewN ?_ _) | (with_reducible refine Kd.C_drew ?_))); (case side2 => exact HC0_0.out); (case side3 => repeat (first | exact (Kd.C_below HR0_1.out HB.out) | (with_reducible refine Kd.C_alloc ?_ _) | (with_reducible refine Kd.C_drewN ?_ _) | (with_reducible refine Kd.C_drew ?_))); (case side4 => exact HC0_1.out); rintro e w31 ⟨v105, rfl, ho0, hb⟩; refine ⟨_, rfl, ?_⟩; have n0_ := Aside0.mk (Kd.R_lower ho0 (below_size (by repeat (first | (with_reducible first | exact HB.out | apply below_alloc | apply pw_below_drewN | apply below_drew1 | refine below_set ?_ GE101.out) | exact HB.out)))); have n1_ := Aside0.mk (blk_below (g := gb101) (o := .cells #[.slice A0_0 l0_0.length c0_0, .slice A0_1 l0_1.length c0_1, .string a0_2, .int .i64 a0_3] 24 (0, 0)) (by (with_reducible repeat (first | refine blk_drewN ?_ _ | refine blk_drew ?_ | refine blk_alloc ?_ _)); exact BK101.out) hb); have n2_ := Aside0.mk (below_step (by repeat (first | (with_reducible first | exact HB.out | apply below_alloc | apply pw_below_drewN | apply below_drew1 | refine below_set ?_ GE101.out) | exact HB.out)) hb); clear BK101; clear HB; have HO106 := n0_; have BK101 := n1_; have HB := n2_; clear n0_ n1_ n2_; (try clear hb); (try clear hb2); (try clear hk); (try clear hi); (try clear ho0)) | ((with_reducible refine gate_callee (f := 17) rfl ?_); refine goesL_ (some 62) rfl rfl Try.func17 (by kernel_rfl) rfl #[.slice A0_0 l0_0.length c0_0, .slice A0_1 l0_1.length c0_1, .int .i64 a0_3] rfl (by (try simp only [List.map_toArray, List.map_cons, List.map_nil]); first | done | rfl | (simp only [List.length_drop, List.length_take]; rfl)) ?_; (with_reducible refine (pyxref04_Expand.calls _ _ l0_0 _ _ l0_1 a0_3 t107 t108 _ ?side1 ?side2 ?side3 ?side4 A13.out).mono ?_); (case side1 => repeat (first | exact (Kd.C_below HR0_0.out HB.out) | (with_reducible refine Kd.C_alloc ?_ _) | (with_reducible refine Kd.C_drewN ?_ _) | (with_reducible refine Kd.C_drew ?_))); (case side2 => exact HC0_0.out); (case side3 => repeat (first | exact (Kd.C_below HR0_1.out HB.out) | (with_reducible refine Kd.C_alloc ?_ _) | (with_reducible refine Kd.C_drewN ?_ _) | (with_reducible refine Kd.C_drew ?_))); (case side4 => exact HC0_1.out); rintro e w32 ⟨v109, rfl, ho0, hb⟩; refine ⟨_, rfl, ?_⟩; have n0_ := Aside0.mk (Kd.R_elder' (by (with_reducible repeat (first | apply Kd.R_alloc | apply Kd.R_drewN | apply Kd.R_drew)); exact HO106.out) (Kd.R_base ho0) hb); have n1_ := Aside0.mk (Kd.R_lower (Kd.R_new' ho0 (Kd.R_lt (by (with_reducible repeat (first | apply Kd.R_alloc | apply Kd.R_drewN | apply Kd.R_drew)); exact HO106.out))) (below_size (by repeat (first | (with_reducible first | exact HB.out | apply below_alloc | apply pw_below_drewN | apply below_drew1 | refine below_set ?_ GE101.out) | exact HB.out)))); have n2_ := Aside0.mk (blk_below (g := gb101) (o := .cells #[.slice A0_0 l0_0.length c0_0, .slice A0_1 l0_1.length c0_1, .string a0_2, .int .i64 a0_3] 24 (0, 0)) (by (with_reducible repeat (first | refine blk_drewN ?_ _ | refine blk_drew ?_ | refine blk_alloc ?_ _)); exact BK101.out) hb); have n3_ := Aside0.mk (below_step (by repeat (first | (with_reducible first | exact HB.out | apply below_alloc | apply pw_below_drewN | apply below_drew1 | refine below_set ?_ GE101.out) | exact HB.out)) hb); clear HO106; clear BK101; clear HB; have HO106 := n0_; have HO110 := n1_; have BK101 := n2_; have HB := n3_; clear n0_ n1_ n2_ n3_; (try clear hb); (try clear hb2); (try clear hk); (try clear hi); (try clear ho0)) | ((with_reducible refine gate_callee (f := 18) rfl ?_); refine goesL_ (some 70) rfl rfl Try.func18 (by kernel_rfl) rfl #[.slice A0_0 l0_0.length c0_0, .string a0_2, .slice A0_1 l0_1.length c0_1, .int .i64 a0_3] rfl (by (try simp only [List.map_toArray, List.map_cons, List.map_nil]); first | done | rfl | (simp only [List.length_drop, List.length_take]; rfl)) ?_; (with_reducible refine (kdf_Label.calls _ _ l0_0 a0_2 _ _ l0_1 a0_3 t111 t112 _ ?side1 ?side2 ?side3 ?side4 A14.out).mono ?_); (case side1 => repeat (first | exact (Kd.C_below HR0_0.out HB.out) | (with_reducible refine Kd.C_alloc ?_ _) | (with_reducible refine Kd.C_drewN ?_ _) | (with_reducible refine Kd.C_drew ?_))); (case side2 => exact HC0_0.out); (case side3 => repeat (first | exact (Kd.C_below HR0_1.out HB.out) | (with_reducible refine Kd.C_alloc ?_ _) | (with_reducible refine Kd.C_drewN ?_ _) | (with_reducible refine Kd.C_drew ?_))); (case side4 => exact HC0_1.out); rintro e w33 ⟨v113, rfl, ho0, hb⟩; refine ⟨_, rfl, ?_⟩; have n0_ := Aside0.mk (Kd.R_elder' (by (with_reducible repeat (first | apply Kd.R_alloc | apply Kd.R_drewN | apply Kd.R_drew)); exact HO106.out) (Kd.R_base ho0) hb); have n1_ := Aside0.mk (Kd.R_elder' (by (with_reducible repeat (first | apply Kd.R_alloc | apply Kd.R_drewN | apply Kd.R_drew)); exact HO110.out) (Kd.R_base ho0) hb); have n2_ := Aside0.mk (Kd.R_lower (Kd.R_new' (Kd.R_new' ho0 (Kd.R_lt (by (with_reducible repeat (first | apply Kd.R_alloc | apply Kd.R_drewN | apply Kd.R_drew)); exact HO106.out))) (Kd.R_lt (by (with_reducible repeat (first | apply Kd.R_alloc | apply Kd.R_drewN | apply Kd.R_drew)); exact HO110.out))) (below_size (by repeat (first | (with_reducible first | exact HB.out | apply below_alloc | apply pw_below_drewN | apply below_drew1 | refine below_set ?_ GE101.out) | exact HB.out)))); have n3_ := Aside0.mk (blk_below (g := gb101) (o := .cells #[.slice A0_0 l0_0.length c0_0, .slice A0_1 l0_1.length c0_1, .string a0_2, .int .i64 a0_3] 24 (0, 0)) (by (with_reducible repeat (first | refine blk_drewN ?_ _ | refine blk_drew ?_ | refine blk_alloc ?_ _)); exact BK101.out) hb); have n4_ := Aside0.mk (below_step (by repeat (first | (with_reducible first | exact HB.out | apply below_alloc | apply pw_below_drewN | apply below_drew1 | refine below_set ?_ GE101.out) | exact HB.out)) hb); clear HO106; clear HO110; clear BK101; clear HB; have HO106 := n0_; have HO110 := n1_; have HO114 := n2_; have BK101 := n3_; have HB := n4_; clear n0_ n1_ n2_ n3_ n4_; (try clear hb); (try clear hb2); (try clear hk); (try clear hi); (try clear ho0)) | ((with_reducible refine gate_callee (f := 19) rfl ?_); refine goesL_ (some 78) rfl rfl Try.func19 (by kernel_rfl) rfl #[.slice A0_0 l0_0.length c0_0, .string a0_2, .slice A0_1 l0_1.length c0_1, .int .i64 a0_3] rfl (by (try simp only [List.map_toArray, List.map_cons, List.map_nil]); first | done | rfl | (simp only [List.length_drop, List.length_take]; rfl)) ?_; (with_reducible refine (pyxref04_Label.calls _ _ l0_0 a0_2 _ _ l0_1 a0_3 t115 t116 _ ?side1 ?side2 ?side3 ?side4 A15.out).mono ?_); (case side1 => repeat (first | exact (Kd.C_below HR0_0.out HB.out) | (with_reducible refine Kd.C_alloc ?_ _) | (with_reducible refine Kd.C_drewN ?_ _) | (with_reducible refine Kd.C_drew ?_))); (case side2 => exact HC0_0.out); (case side3 => repeat (first | exact (Kd.C_below HR0_1.out HB.out) | (with_reducible refine Kd.C_alloc ?_ _) | (with_reducible refine Kd.C_drewN ?_ _) | (with_reducible refine Kd.C_drew ?_))); (case side4 => exact HC0_1.out); rintro e w34 ⟨v117, rfl, ho0, hb⟩; refine ⟨_, rfl, ?_⟩; have n0_ := Aside0.mk (Kd.R_elder' (by (with_reducible repeat (first | apply Kd.R_alloc | apply Kd.R_drewN | apply Kd.R_drew)); exact HO106.out) (Kd.R_base ho0) hb); have n1_ := Aside0.mk (Kd.R_elder' (by (with_reducible repeat (first | apply Kd.R_alloc | apply Kd.R_drewN | apply Kd.R_drew)); exact HO110.out) (Kd.R_base ho0) hb); have n2_ := Aside0.mk (Kd.R_elder' (by (with_reducible repeat (first | apply Kd.R_alloc | apply Kd.R_drewN | apply Kd.R_drew)); exact HO114.out) (Kd.R_base ho0) hb); have n3_ := Aside0.mk (Kd.R_lower (Kd.R_new' (Kd.R_new' (Kd.R_new' ho0 (Kd.R_lt (by (with_reducible repeat (first | apply Kd.R_alloc | apply Kd.R_drewN | apply Kd.R_drew)); exact HO106.out))) (Kd.R_lt (by (with_reducible repeat (first | apply Kd.R_alloc | apply Kd.R_drewN | apply Kd.R_drew)); exact HO110.out))) (Kd.R_lt (by (with_reducible repeat (first | apply Kd.R_alloc | apply Kd.R_drewN | apply Kd.R_drew)); exact HO114.out))) (below_size (by repeat (first | (with_reducible first | exact HB.out | apply below_alloc | apply pw_below_drewN | apply below_drew1 | refine below_set ?_ GE101.out) | exact HB.out)))); have n4_ := Aside0.mk (blk_below (g := gb101) (o := .cells #[.slice A0_0 l0_0.length c0_0, .slice A0_1 l0_1.length c0_1, .string a0_2, .int .i64 a0_3] 24 (0, 0)) (by (with_reducible repeat (first | refine blk_drewN ?_ _ | refine blk_drew ?_ | refine blk_alloc ?_ _)); exact BK101.out) hb); have n5_ := Aside0.mk (below_step (by repeat (first | (with_reducible first | exact HB.out | apply below_alloc | apply pw_below_drewN | apply below_drew1 | refine below_set ?_ GE101.out) | exact HB.out)) hb); clear HO106; clear HO110; clear HO114; clear BK101; clear HB; have HO106 := n0_; have HO110 := n1_; have HO114 := n2_; have HO118 := n3_; have BK101 := n4_; have HB := n5_; clear n0_ n1_ n2_ n3_ n4_ n5_; (try clear hb); (try clear hb2); (try clear hk); (try clear hi); (try clear ho0)) | ((with_reducible refine gate_callee (f := 20) rfl ?_); refine goesL_ (some 84) rfl rfl Try.func20 (by kernel_rfl) rfl #[.slice A0_0 l0_0.length c0_0, .string a0_2] rfl (by (try simp only [List.map_toArray, List.map_cons, List.map_nil]); first | done | rfl | (simp only [List.length_drop, List.length_take]; rfl)) ?_; (with_reducible refine (kdf_Derive.calls _ _ l0_0 a0_2 t119 t120 _ ?side1 ?side2 A16.out).mono ?_); (case side1 => repeat (first | exact (Kd.C_below HR0_0.out HB.out) | (with_reducible refine Kd.C_alloc ?_ _) | (with_reducible refine Kd.C_drewN ?_ _) | (with_reducible refine Kd.C_drew ?_))); (case side2 => exact HC0_0.out); rintro e w35 ⟨v121, rfl, ho0, hb⟩; refine ⟨_, rfl, ?_⟩; have n0_ := Aside0.mk (Kd.R_elder' (by (with_reducible repeat (first | apply Kd.R_alloc | apply Kd.R_drewN | apply Kd.R_drew)); exact HO106.out) (Kd.R_base ho0) hb); have n1_ := Aside0.mk (Kd.R_elder' (by (with_reducible repeat (first | apply Kd.R_alloc | apply Kd.R_drewN | apply Kd.R_drew)); exact HO110.out) (Kd.R_base ho0) hb); have n2_ := Aside0.mk (Kd.R_elder' (by (with_reducible repeat (first | apply Kd.R_alloc | apply Kd.R_drewN | apply Kd.R_drew)); exact HO114.out) (Kd.R_base ho0) hb); have n3_ := Aside0.mk (Kd.R_elder' (by (with_reducible repeat (first | apply Kd.R_alloc | apply Kd.R_drewN | apply Kd.R_drew)); exact HO118.out) (Kd.R_base ho0) hb); have n4_ := Aside0.mk (Kd.R_lower (Kd.R_new' (Kd.R_new' (Kd.R_new' (Kd.R_new' ho0 (Kd.R_lt (by (with_reducible repeat (first | apply Kd.R_alloc | apply Kd.R_drewN | apply Kd.R_drew)); exact HO106.out))) (Kd.R_lt (by (with_reducible repeat (first | apply Kd.R_alloc | apply Kd.R_drewN | apply Kd.R_drew)); exact HO110.out))) (Kd.R_lt (by (with_reducible repeat (first | apply Kd.R_alloc | apply Kd.R_drewN | apply Kd.R_drew)); exact HO114.out))) (Kd.R_lt (by (with_reducible repeat (first | apply Kd.R_alloc | apply Kd.R_drewN | apply Kd.R_drew)); exact HO118.out))) (below_size (by repeat (first | (with_reducible first | exact HB.out | apply below_alloc | apply pw_below_drewN | apply below_drew1 | refine below_set ?_ GE101.out) | exact HB.out)))); have n5_ := Aside0.mk (blk_below (g := gb101) (o := .cells #[.slice A0_0 l0_0.length c0_0, .slice A0_1 l0_1.length c0_1, .string a0_2, .int .i64 a0_3] 24 (0, 0)) (by (with_reducible repeat (first | refine blk_drewN ?_ _ | refine blk_drew ?_ | refine blk_alloc ?_ _)); exact BK101.out) hb); have n6_ := Aside0.mk (below_step (by repeat (first | (with_reducible first | exact HB.out | apply below_alloc | apply pw_below_drewN | apply below_drew1 | refine below_set ?_ GE101.out) | exact HB.out)) hb); clear HO106; clear HO110; clear HO114; clear HO118; clear BK101; clear HB; have HO106 := n0_; have HO110 := n1_; have HO114 := n2_; have HO118 := n3_; have HO122 := n4_; have BK101 := n5_; have HB := n6_; clear n0_ n1_ n2_ n3_ n4_ n5_ n6_; (try clear hb); (try clear hb2); (try clear hk); (try clear hi); (try clear ho0)) | ((with_reducible refine gate_callee (f := 21) rfl ?_); refine goesL_ (some 90) rfl rfl Try.func21 (by kernel_rfl) rfl #[.slice A0_0 l0_0.length c0_0, .string a0_2] rfl (by (try simp only [List.map_toArray, List.map_cons, List.map_nil]); first | done | rfl | (simp only [List.length_drop, List.length_take]; rfl)) ?_; (with_reducible refine (pyxref04_Derive.calls _ _ l0_0 a0_2 t123 t124 _ ?side1 ?side2 A17.out).mono ?_); (case side1 => repeat (first | exact (Kd.C_below HR0_0.out HB.out) | (with_reducible refine Kd.C_alloc ?_ _) | (with_reducible refine Kd.C_drewN ?_ _) | (with_reducible refine Kd.C_drew ?_))); (case side2 => exact HC0_0.out); rintro e w36 ⟨v125, rfl, ho0, hb⟩; refine ⟨_, rfl, ?_⟩; have n0_ := Aside0.mk (Kd.R_elder' (by (with_reducible repeat (first | apply Kd.R_alloc | apply Kd.R_drewN | apply Kd.R_drew)); exact HO106.out) (Kd.R_base ho0) hb); have n1_ := Aside0.mk (Kd.R_elder' (by (with_reducible repeat (first | apply Kd.R_alloc | apply Kd.R_drewN | apply Kd.R_drew)); exact HO110.out) (Kd.R_base ho0) hb); have n2_ := Aside0.mk (Kd.R_elder' (by (with_reducible repeat (first | apply Kd.R_alloc | apply Kd.R_drewN | apply Kd.R_drew)); exact HO114.out) (Kd.R_base ho0) hb); have n3_ := Aside0.mk (Kd.R_elder' (by (with_reducible repeat (first | apply Kd.R_alloc | apply Kd.R_drewN | apply Kd.R_drew)); exact HO118.out) (Kd.R_base ho0) hb); have n4_ := Aside0.mk (Kd.R_elder' (by (with_reducible repeat (first | apply Kd.R_alloc | apply Kd.R_drewN | apply Kd.R_drew)); exact HO122.out) (Kd.R_base ho0) hb); have n5_ := Aside0.mk (Kd.R_lower (Kd.R_new' (Kd.R_new' (Kd.R_new' (Kd.R_new' (Kd.R_new' ho0 (Kd.R_lt (by (with_reducible repeat (first | apply Kd.R_alloc | apply Kd.R_drewN | apply Kd.R_drew)); exact HO106.out))) (Kd.R_lt (by (with_reducible repeat (first | apply Kd.R_alloc | apply Kd.R_drewN | apply Kd.R_drew)); exact HO110.out))) (Kd.R_lt (by (with_reducible repeat (first | apply Kd.R_alloc | apply Kd.R_drewN | apply Kd.R_drew)); exact HO114.out))) (Kd.R_lt (by (with_reducible repeat (first | apply Kd.R_alloc | apply Kd.R_drewN | apply Kd.R_drew)); exact HO118.out))) (Kd.R_lt (by (with_reducible repeat (first | apply Kd.R_alloc | apply Kd.R_drewN | apply Kd.R_drew)); exact HO122.out))) (below_size (by repeat (first | (with_reducible first | exact HB.out | apply below_alloc | apply pw_below_drewN | apply below_drew1 | refine below_set ?_ GE101.out) | exact HB.out)))); have n6_ := Aside0.mk (blk_below (g := gb101) (o := .cells #[.slice A0_0 l0_0.length c0_0, .slice A0_1 l0_1.length c0_1, .string a0_2, .int .i64 a0_3] 24 (0, 0)) (by (with_reducible repeat (first | refine blk_drewN ?_ _ | refine blk_drew ?_ | refine blk_alloc ?_ _)); exact BK101.out) hb); have n7_ := Aside0.mk (below_step (by repeat (first | (with_reducible first | exact HB.out | apply below_alloc | apply pw_below_drewN | apply below_drew1 | refine below_set ?_ GE101.out) | exact HB.out)) hb); clear HO106; clear HO110; clear HO114; clear HO118; clear HO122; clear BK101; clear HB; have HO106 := n0_; have HO110 := n1_; have HO114 := n2_; have HO118 := n3_; have HO122 := n4_; have HO126 := n5_; have BK101 := n6_; have HB := n7_; clear n0_ n1_ n2_ n3_ n4_ n5_ n6_ n7_; (try clear hb); (try clear hb2); (try clear hk); (try clear hi); (try clear ho0)) | (go_at_call 23; (with_reducible refine (kdf_Extract.calls _ _ l0_1 _ _ l0_0 t127 _ ?side1 ?side2 ?side3 ?side4 A19.out).mono ?_); (case side1 => repeat (first | exact (Kd.C_below HR0_1.out HB.out) | (with_reducible refine Kd.C_alloc ?_ _) | (with_reducible refine Kd.C_drewN ?_ _) | (with_reducible refine Kd.C_drew ?_))); (case side2 => exact HC0_1.out); (case side3 => repeat (first | exact (Kd.C_below HR0_0.out HB.out) | (with_reducible refine Kd.C_alloc ?_ _) | (with_reducible refine Kd.C_drewN ?_ _) | (with_reducible refine Kd.C_drew ?_))); (case side4 => exact HC0_0.out); rintro e w37 ⟨v128, rfl, ho0, hb⟩; have n0_ := Aside0.mk (Kd.R_elder' (by (with_reducible repeat (first | apply Kd.R_alloc | apply Kd.R_drewN | apply Kd.R_drew)); exact HO106.out) (Kd.R_base ho0) hb); have n1_ := Aside0.mk (Kd.R_elder' (by (with_reducible repeat (first | apply Kd.R_alloc | apply Kd.R_drewN | apply Kd.R_drew)); exact HO110.out) (Kd.R_base ho0) hb); have n2_ := Aside0.mk (Kd.R_elder' (by (with_reducible repeat (first | apply Kd.R_alloc | apply Kd.R_drewN | apply Kd.R_drew)); exact HO114.out) (Kd.R_base ho0) hb); have n3_ := Aside0.mk (Kd.R_elder' (by (with_reducible repeat (first | apply Kd.R_alloc | apply Kd.R_drewN | apply Kd.R_drew)); exact HO118.out) (Kd.R_base ho0) hb); have n4_ := Aside0.mk (Kd.R_elder' (by (with_reducible repeat (first | apply Kd.R_alloc | apply Kd.R_drewN | apply Kd.R_drew)); exact HO122.out) (Kd.R_base ho0) hb); have n5_ := Aside0.mk (Kd.R_elder' (by (with_reducible repeat (first | apply Kd.R_alloc | apply Kd.R_drewN | apply Kd.R_drew)); exact HO126.out) (Kd.R_base ho0) hb); have n6_ := Aside0.mk (Kd.R_lower (Kd.R_new' (Kd.R_new' (Kd.R_new' (Kd.R_new' (Kd.R_new' (Kd.R_new' ho0 (Kd.R_lt (by (with_reducible repeat (first | apply Kd.R_alloc | apply Kd.R_drewN | apply Kd.R_drew)); exact HO106.out))) (Kd.R_lt (by (with_reducible repeat (first | apply Kd.R_alloc | apply Kd.R_drewN | apply Kd.R_drew)); exact HO110.out))) (Kd.R_lt (by (with_reducible repeat (first | apply Kd.R_alloc | apply Kd.R_drewN | apply Kd.R_drew)); exact HO114.out))) (Kd.R_lt (by (with_reducible repeat (first | apply Kd.R_alloc | apply Kd.R_drewN | apply Kd.R_drew)); exact HO118.out))) (Kd.R_lt (by (with_reducible repeat (first | apply Kd.R_alloc | apply Kd.R_drewN | apply Kd.R_drew)); exact HO122.out))) (Kd.R_lt (by (with_reducible repeat (first | apply Kd.R_alloc | apply Kd.R_drewN | apply Kd.R_drew)); exact HO126.out))) (below_size (by repeat (first | (with_reducible first | exact HB.out | apply below_alloc | apply pw_below_drewN | apply below_drew1 | refine below_set ?_ GE101.out) | exact HB.out)))); have n7_ := Aside0.mk (blk_below (g := gb101) (o := .cells #[.slice A0_0 l0_0.length c0_0, .slice A0_1 l0_1.length c0_1, .string a0_2, .int .i64 a0_3] 24 (0, 0)) (by (with_reducible repeat (first | refine blk_drewN ?_ _ | refine blk_drew ?_ | refine blk_alloc ?_ _)); exact BK101.out) hb); have n8_ := Aside0.mk (below_step (by repeat (first | (with_reducible first | exact HB.out | apply below_alloc | apply pw_below_drewN | apply below_drew1 | refine below_set ?_ GE101.out) | exact HB.out)) hb); clear HO106; clear HO110; clear HO114; clear HO118; clear HO122; clear HO126; clear BK101; clear HB; have HO106 := n0_; have HO110 := n1_; have HO114 := n2_; have HO118 := n3_; have HO122 := n4_; have HO126 := n5_; have HO129 := n6_; have BK101 := n7_; have HB := n8_; clear n0_ n1_ n2_ n3_ n4_ n5_ n6_ n7_ n8_; (try clear hb); (try clear hb2); (try clear hk); (try clear hi); (try clear ho0)) | (go_at_call 24; (with_reducible refine (pyxref04_Extract.calls _ _ l0_1 _ _ l0_0 t130 _ ?side1 ?side2 ?side3 ?side4 A20.out).mono ?_); (case side1 => repeat (first | exact (Kd.C_below HR0_1.out HB.out) | (with_reducible refine Kd.C_alloc ?_ _) | (with_reducible refine Kd.C_drewN ?_ _) | (with_reducible refine Kd.C_drew ?_))); (case side2 => exact HC0_1.out); (case side3 => repeat (first | exact (Kd.C_below HR0_0.out HB.out) | (with_reducible refine Kd.C_alloc ?_ _) | (with_reducible refine Kd.C_drewN ?_ _) | (with_reducible refine Kd.C_drew ?_))); (case side4 => exact HC0_0.out); rintro e w38 ⟨v131, rfl, ho0, hb⟩; have n0_ := Aside0.mk (Kd.R_elder' (by (with_reducible repeat (first | apply Kd.R_alloc | apply Kd.R_drewN | apply Kd.R_drew)); exact HO106.out) (Kd.R_base ho0) hb); have n1_ := Aside0.mk (Kd.R_elder' (by (with_reducible repeat (first | apply Kd.R_alloc | apply Kd.R_drewN | apply Kd.R_drew)); exact HO110.out) (Kd.R_base ho0) hb); have n2_ := Aside0.mk (Kd.R_elder' (by (with_reducible repeat (first | apply Kd.R_alloc | apply Kd.R_drewN | apply Kd.R_drew)); exact HO114.out) (Kd.R_base ho0) hb); have n3_ := Aside0.mk (Kd.R_elder' (by (with_reducible repeat (first | apply Kd.R_alloc | apply Kd.R_drewN | apply Kd.R_drew)); exact HO118.out) (Kd.R_base ho0) hb); have n4_ := Aside0.mk (Kd.R_elder' (by (with_reducible repeat (first | apply Kd.R_alloc | apply Kd.R_drewN | apply Kd.R_drew)); exact HO122.out) (Kd.R_base ho0) hb); have n5_ := Aside0.mk (Kd.R_elder' (by (with_reducible repeat (first | apply Kd.R_alloc | apply Kd.R_drewN | apply Kd.R_drew)); exact HO126.out) (Kd.R_base ho0) hb); have n6_ := Aside0.mk (Kd.R_elder' (by (with_reducible repeat (first | apply Kd.R_alloc | apply Kd.R_drewN | apply Kd.R_drew)); exact HO129.out) (Kd.R_base ho0) hb); have n7_ := Aside0.mk (Kd.R_lower (Kd.R_new' (Kd.R_new' (Kd.R_new' (Kd.R_new' (Kd.R_new' (Kd.R_new' (Kd.R_new' ho0 (Kd.R_lt (by (with_reducible repeat (first | apply Kd.R_alloc | apply Kd.R_drewN | apply Kd.R_drew)); exact HO106.out))) (Kd.R_lt (by (with_reducible repeat (first | apply Kd.R_alloc | apply Kd.R_drewN | apply Kd.R_drew)); exact HO110.out))) (Kd.R_lt (by (with_reducible repeat (first | apply Kd.R_alloc | apply Kd.R_drewN | apply Kd.R_drew)); exact HO114.out))) (Kd.R_lt (by (with_reducible repeat (first | apply Kd.R_alloc | apply Kd.R_drewN | apply Kd.R_drew)); exact HO118.out))) (Kd.R_lt (by (with_reducible repeat (first | apply Kd.R_alloc | apply Kd.R_drewN | apply Kd.R_drew)); exact HO122.out))) (Kd.R_lt (by (with_reducible repeat (first | apply Kd.R_alloc | apply Kd.R_drewN | apply Kd.R_drew)); exact HO126.out))) (Kd.R_lt (by (with_reducible repeat (first | apply Kd.R_alloc | apply Kd.R_drewN | apply Kd.R_drew)); exact HO129.out))) (below_size (by repeat (first | (with_reducible first | exact HB.out | apply below_alloc | apply pw_below_drewN | apply below_drew1 | refine below_set ?_ GE101.out) | exact HB.out)))); have n8_ := Aside0.mk (blk_below (g := gb101) (o := .cells #[.slice A0_0 l0_0.length c0_0, .slice A0_1 l0_1.length c0_1, .string a0_2, .int .i64 a0_3] 24 (0, 0)) (by (with_reducible repeat (first | refine blk_drewN ?_ _ | refine blk_drew ?_ | refine blk_alloc ?_ _)); exact BK101.out) hb); have n9_ := Aside0.mk (below_step (by repeat (first | (with_reducible first | exact HB.out | apply below_alloc | apply pw_below_drewN | apply below_drew1 | refine below_set ?_ GE101.out) | exact HB.out)) hb); clear HO106; clear HO110; clear HO114; clear HO118; clear HO122; clear HO126; clear HO129; clear BK101; clear HB; have HO106 := n0_; have HO110 := n1_; have HO114 := n2_; have HO118 := n3_; have HO122 := n4_; have HO126 := n5_; have HO129 := n6_; have HO132 := n7_; have BK101 := n8_; have HB := n9_; clear n0_ n1_ n2_ n3_ n4_ n5_ n6_ n7_ n8_ n9_; (try clear hb); (try clear hb2); (try clear hk); (try clear hi); (try clear ho0); obtain ⟨Ao39, co39, eo39⟩ := Kd.R_slice HO129.out; subst eo39; obtain ⟨Ao40, co40, eo40⟩ := Kd.R_slice HO132.out; subst eo40) | (go_at_call 22; (with_reducible refine (pyxref01_Same.calls _ _ t127 _ _ t130 true _ ?side1 ?side2 ?side3 ?side4 A21.out).mono ?_); (case side1 => repeat (first | exact (Kd.R_reads' HO129.out).2.2 | (with_reducible refine Kd.C_alloc ?_ _) | (with_reducible refine Kd.C_drewN ?_ _) | (with_reducible refine Kd.C_drew ?_))); (case side2 => exact (Kd.R_reads' HO129.out).2.1); (case side3 => repeat (first | exact (Kd.R_reads' HO132.out).2.2 | (with_reducible refine Kd.C_alloc ?_ _) | (with_reducible refine Kd.C_drewN ?_ _) | (with_reducible refine Kd.C_drew ?_))); (case side4 => exact (Kd.R_reads' HO132.out).2.1); rintro e w' ⟨rfl, ⟨nd, rfl⟩⟩; obtain ⟨Ao41, co41, eo41⟩ := Kd.R_slice HO106.out; subst eo41; obtain ⟨Ao42, co42, eo42⟩ := Kd.R_slice HO110.out; subst eo42) | (go_at_call 22; (with_reducible refine (pyxref01_Same.calls _ _ t103 _ _ t107 true _ ?side1 ?side2 ?side3 ?side4 A23.out).mono ?_); (case side1 => repeat (first | exact (Kd.R_reads' HO106.out).2.2 | (with_reducible refine Kd.C_alloc ?_ _) | (with_reducible refine Kd.C_drewN ?_ _) | (with_reducible refine Kd.C_drew ?_))); (case side2 => exact (Kd.R_reads' HO106.out).2.1); (case side3 => repeat (first | exact (Kd.R_reads' HO110.out).2.2 | (with_reducible refine Kd.C_alloc ?_ _) | (with_reducible refine Kd.C_drewN ?_ _) | (with_reducible refine Kd.C_drew ?_))); (case side4 => exact (Kd.R_reads' HO110.out).2.1); rintro e w' ⟨rfl, ⟨nd, rfl⟩⟩; obtain ⟨Ao43, co43, eo43⟩ := Kd.R_slice HO114.out; subst eo43; obtain ⟨Ao44, co44, eo44⟩ := Kd.R_slice HO118.out; subst eo44) | (go_at_call 22; (with_reducible refine (pyxref01_Same.calls _ _ t111 _ _ t115 true _ ?side1 ?side2 ?side3 ?side4 A26.out).mono ?_); (case side1 => repeat (first | exact (Kd.R_reads' HO114.out).2.2 | (with_reducible refine Kd.C_alloc ?_ _) | (with_reducible refine Kd.C_drewN ?_ _) | (with_reducible refine Kd.C_drew ?_))); (case side2 => exact (Kd.R_reads' HO114.out).2.1); (case side3 => repeat (first | exact (Kd.R_reads' HO118.out).2.2 | (with_reducible refine Kd.C_alloc ?_ _) | (with_reducible refine Kd.C_drewN ?_ _) | (with_reducible refine Kd.C_drew ?_))); (case side4 => exact (Kd.R_reads' HO118.out).2.1); rintro e w' ⟨rfl, ⟨nd, rfl⟩⟩; obtain ⟨Ao45, co45, eo45⟩ := Kd.R_slice HO122.out; subst eo45; obtain ⟨Ao46, co46, eo46⟩ := Kd.R_slice HO126.out; subst eo46) | (go_at_call 22; (with_reducible refine (pyxref01_Same.calls _ _ t119 _ _ t123 true _ ?side1 ?side2 ?side3 ?side4 A29.out).mono ?_); (case side1 => repeat (first | exact (Kd.R_reads' HO122.out).2.2 | (with_reducible refine Kd.C_alloc ?_ _) | (with_reducible refine Kd.C_drewN ?_ _) | (with_reducible refine Kd.C_drew ?_))); (case side2 => exact (Kd.R_reads' HO122.out).2.1); (case side3 => repeat (first | exact (Kd.R_reads' HO126.out).2.2 | (with_reducible refine Kd.C_alloc ?_ _) | (with_reducible refine Kd.C_drewN ?_ _) | (with_reducible refine Kd.C_drew ?_))); (case side4 => exact (Kd.R_reads' HO126.out).2.1); rintro e w' ⟨rfl, ⟨nd, rfl⟩⟩))
                      go_ret
                      exact ⟨by first | rfl | (simp [errW_none, errW_some] <;> rfl) | (simp [*, errW_none, errW_some] <;> rfl), by repeat (first | (with_reducible first | exact HB.out | apply below_alloc | apply pw_below_drewN | apply below_drew1 | refine below_set ?_ GE101.out) | exact HB.out)⟩
                    · replace c30 := Bool.eq_false_iff.mpr c30
                      subst c30
                      have H1 : (some false) = some true := by rw [if_neg (show ¬ (false = true) by decide)] at H; exact H
                      clear H
                      have H := H1
                      clear H1
                      exact absurd (Option.some.inj H) (by decide)
                  · rw [if_neg c28] at H
                    have c28b0 : (t112 == t116) = false := beq_eq_false_iff_ne.mpr c28
                    have c28b1 : (t112 != t116) = true := bne_iff_ne.mpr c28
                    exact absurd (Option.some.inj H) (by decide)
                · replace c27 := Bool.eq_false_iff.mpr c27
                  subst c27
                  have H1 : (some false) = some true := by rw [if_neg (show ¬ (false = true) by decide)] at H; exact H
                  clear H
                  have H := H1
                  clear H1
                  exact absurd (Option.some.inj H) (by decide)
              · rw [if_neg c25] at H
                have c25b0 : (t104 == t108) = false := beq_eq_false_iff_ne.mpr c25
                have c25b1 : (t104 != t108) = true := bne_iff_ne.mpr c25
                exact absurd (Option.some.inj H) (by decide)
            · replace c24 := Bool.eq_false_iff.mpr c24
              subst c24
              have H1 : (some false) = some true := by rw [if_neg (show ¬ (false = true) by decide)] at H; exact H
              clear H
              have H := H1
              clear H1
              exact absurd (Option.some.inj H) (by decide)
          · replace c22 := Bool.eq_false_iff.mpr c22
            subst c22
            have H1 : (some false) = some true := by rw [if_neg (show ¬ (false = true) by decide)] at H; exact H
            clear H
            have H := H1
            clear H1
            exact absurd (Option.some.inj H) (by decide)
        · replace c18 := Bool.eq_false_iff.mpr c18
          subst c18
          have H1 : (some false) = some true := by rw [if_neg (show ¬ (false = true) by decide)] at H; exact H
          clear H
          have H := H1
          clear H1
          exact absurd (Option.some.inj H) (by decide)
end Go.Proofs.Ytpdgeanicciaiaa.P
