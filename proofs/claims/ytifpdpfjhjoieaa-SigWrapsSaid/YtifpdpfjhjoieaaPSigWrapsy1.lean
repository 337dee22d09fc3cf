-- Written by xprint.py, this session's driver over the kit's print.py, out of the translation.
import Derived.Test.YtifpdpfjhjoieaaPSigWrapsy0
namespace Go.Proofs.Ytifpdpfjhjoieaa.P
open Go.RowKit Go.Proofs.YtifpdpfjhjoieaaW.PrintWords Go.Proofs.YtifpdpfjhjoieaaW.PrintLast Go.Proofs.YtifpdpfjhjoieaaW.PrintMore
attribute [local go_sem] max2_int min2_int max_two min_two max_three min_three max_four min_four   -- for this text's walks alone
set_option linter.unusedVariables false
set_option linter.unusedSimpArgs false

-- NOT PRINTED: function 56 (sig_right)

-- NOT PRINTED: function 47 (byt_Num)

-- NOT PRINTED: function 95 (byt_wide)

-- NOT PRINTED: function 79 (byt_Len)

-- NOT PRINTED: function 62 (byt_Row)

-- NOT PRINTED: function 80 (kdf_first)

-- NOT PRINTED: function 63 (kdf_Expand)

-- NOT PRINTED: function 40 (kdf_Label)

-- NOT PRINTED: function 57 (sig_secret_label)

-- NOT PRINTED: function 104 (slices_Grow_byte_byte)

-- NOT PRINTED: function 99 (slices_Concat_byte_byte)

-- NOT PRINTED: function 87 (mac_joined)

-- NOT PRINTED: function 105 (sha_primes)

-- NOT PRINTED: function 112 (bits_Mul64)

-- NOT PRINTED: function 113 (bits_Add64)

-- NOT PRINTED: function 110 (sha_above)

-- NOT PRINTED: function 106 (sha_root)

-- NOT PRINTED: function 100 (sha_keys)

-- NOT PRINTED: function 101 (sha_Start)

-- NOT PRINTED: function 111 (bits_RotateLeft32)

-- NOT PRINTED: function 108 (sha_turned)

-- NOT PRINTED: function 107 (sha_words)

-- NOT PRINTED: function 102 (sha_mixed)

-- NOT PRINTED: function 103 (sha_Pad)

-- NOT PRINTED: function 94 (sha_Sum)

-- NOT PRINTED: function 91 (mac_Key)

-- NOT PRINTED: function 78 (mac_Sum)

-- NOT PRINTED: function 68 (mac_All)

-- NOT PRINTED: function 58 (sig_tag)

-- NOT PRINTED: function 46 (mac_Same)

-- NOT PRINTED: function 14 (seal_Halves)

-- NOT PRINTED: function 42 (seal_ready)

-- NOT PRINTED: function 83 (aes_Mul)

-- NOT PRINTED: function 96 (aes_inverse)

-- NOT PRINTED: function 97 (bits_RotateLeft8)

-- NOT PRINTED: function 82 (aes_Box)

-- NOT PRINTED: function 65 (aes_boxes)

-- NOT PRINTED: function 66 (aes_keys)

-- NOT PRINTED: function 84 (aes_state_with)

-- NOT PRINTED: function 85 (aes_state_shifted)

-- NOT PRINTED: function 86 (aes_state_mixed)

-- NOT PRINTED: function 67 (aes_locked)

-- NOT PRINTED: function 43 (aes_Stream)

-- NOT PRINTED: function 44 (seal_tag)

-- NOT PRINTED: function 16 (seal_Seal)

-- NOT PRINTED: function 60 (sig_shared)

-- NOT PRINTED: function 19 (seal_Open)

-- NOT PRINTED: function 77 (pyxref01_power)

-- NOT PRINTED: function 54 (pyxref01_Num)

-- NOT PRINTED: function 70 (pyxref01_Len)

-- NOT PRINTED: function 48 (pyxref01_Row)

-- NOT PRINTED: function 71 (pyxref02_Pad)

-- NOT PRINTED: function 72 (pyxref02_keys)

-- NOT PRINTED: function 73 (pyxref02_Start)

-- NOT PRINTED: function 88 (pyxref02_word)

-- NOT PRINTED: function 89 (pyxref02_turn)

-- NOT PRINTED: function 74 (pyxref02_step)

-- NOT PRINTED: function 50 (pyxref02_Sum)

-- NOT PRINTED: function 49 (pyxref03_Key)

-- NOT PRINTED: function 51 (pyxref03_with)

-- NOT PRINTED: function 64 (pyxref04_Expand)

-- NOT PRINTED: function 41 (pyxref04_Label)

-- NOT PRINTED: function 15 (pyxref06_Halves)

-- NOT PRINTED: function 90 (pyxref05_left)

-- NOT PRINTED: function 75 (pyxref05_turned)

-- NOT PRINTED: function 76 (pyxref05_Mul)

-- NOT PRINTED: function 52 (pyxref05_boxes)

-- NOT PRINTED: function 53 (pyxref05_keys)

-- NOT PRINTED: function 55 (pyxref05_lock)

-- NOT PRINTED: function 25 (pyxref05_Stream)

-- NOT PRINTED: function 69 (pyxref03_All)

-- NOT PRINTED: function 45 (pyxref06_tag)

-- NOT PRINTED: function 17 (pyxref06_Seal)

-- NOT PRINTED: function 61 (pyxref07_keys)

-- NOT PRINTED: function 20 (pyxref06_Open)

/-! ### pyxlaw07_SigWraps: function 9 -/
def pyxlaw07_SigWraps.j0 : Nat → List Int → List Int → List Int → List Int → Bool → Bool → Option (Bool)
  | 0, _, _, _, _, _, _ => none
  | k + 1, x3, x4, x5, x6, x7, x44 => if x44 = true then (some x7) else ((sig_Wrap.f x3 x4 x5 x6).bind fun bt103 => ((pyxref07_Wrap.f x3 x4 x5 x6).bind fun bt110 => ((sig_Unwrap.f x3 x4 x5 x6).bind fun bt117 => ((pyxref07_Unwrap.f x3 x4 x5 x6).bind fun bt121 => (if x7 = true then ((pyxref01_Same.f bt103.1 bt110.1).bind fun t125 => (if t125 = true then ((pyxref01_Same.f bt103.2.1 bt110.2.1).bind fun t126 => (if t126 = true then (if bt103.2.2 = bt110.2.2 then ((pyxref01_Same.f bt117.1 bt121.1).bind fun t127 => (if t127 = true then (some (bt117.2 == bt121.2)) else (some false))) else (some false)) else (some false))) else (some false))) else (some false))))))
def pyxlaw07_SigWraps.f (k : Nat) (l0_0 : List Int) (l0_1 : List Int) (l0_2 : List Int) (l0_3 : List Int) : Option (Bool) := (pyxlaw07_shown.f).bind fun t102 => (if (l0_0.length : Int) > 40 then (pyxlaw07_SigWraps.j0 k l0_0 l0_1 l0_2 l0_3 t102 true) else (if (l0_1.length : Int) > 40 then (pyxlaw07_SigWraps.j0 k l0_0 l0_1 l0_2 l0_3 t102 true) else (if (l0_2.length : Int) > 100 then (pyxlaw07_SigWraps.j0 k l0_0 l0_1 l0_2 l0_3 t102 true) else (pyxlaw07_SigWraps.j0 k l0_0 l0_1 l0_2 l0_3 t102 (decide ((l0_3.length : Int) > 200))))))
theorem pyxlaw07_SigWraps.mono_l : ∀ k, (∀ y0 y1 y2 y3 y4 y5, LeO (pyxlaw07_SigWraps.j0 k y0 y1 y2 y3 y4 y5) (pyxlaw07_SigWraps.j0 (k + 1) y0 y1 y2 y3 y4 y5))
  | 0 => fun _ _ _ _ _ _ r h => by simp [pyxlaw07_SigWraps.j0] at h
  | k + 1 => by
    have ih0 := pyxlaw07_SigWraps.mono_l k
    · intro y0 y1 y2 y3 y4 y5
      unfold pyxlaw07_SigWraps.j0
      repeat' first
      | (with_reducible exact LeO.refl _)
theorem pyxlaw07_SigWraps.mono : ∀ a0 a1 a2 a3 k, LeO (pyxlaw07_SigWraps.f k a0 a1 a2 a3) (pyxlaw07_SigWraps.f (k + 1) a0 a1 a2 a3) := by
  intro a0 a1 a2 a3 k
  have ih0 := pyxlaw07_SigWraps.mono_l k
  unfold pyxlaw07_SigWraps.f
  repeat' first
      | (with_reducible exact ih0 _ _ _ _ _ _)
      | (with_reducible exact LeO.refl _)
      | (with_reducible refine LeO.ite ?_ ?_)
      | (with_reducible refine LeO.bind ?_ (fun _ => ?_))
set_option maxHeartbeats 8000000 in
set_option maxRecDepth 100000 in
theorem pyxlaw07_SigWraps.calls (k : Nat) (A0_0 : Option Addr) (c0_0 : Nat) (l0_0 : List Int) (A0_1 : Option Addr) (c0_1 : Nat) (l0_1 : List Int) (A0_2 : Option Addr) (c0_2 : Nat) (l0_2 : List Int) (A0_3 : Option Addr) (c0_3 : Nat) (l0_3 : List Int) (w : World) (hr0_0 : Kd.C (Kd.int .u8) w A0_0 l0_0.length l0_0) (hc0_0 : l0_0.length ≤ c0_0) (hr0_1 : Kd.C (Kd.int .u8) w A0_1 l0_1.length l0_1) (hc0_1 : l0_1.length ≤ c0_1) (hr0_2 : Kd.C (Kd.int .u8) w A0_2 l0_2.length l0_2) (hc0_2 : l0_2.length ≤ c0_2) (hr0_3 : Kd.C (Kd.int .u8) w A0_3 l0_3.length l0_3) (hc0_3 : l0_3.length ≤ c0_3) (h : pyxlaw07_SigWraps.f k l0_0 l0_1 l0_2 l0_3 = some true) :
    Calls Try.prog 9 #[.agg #[.slice A0_0 l0_0.length c0_0, .slice A0_1 l0_1.length c0_1, .slice A0_2 l0_2.length c0_2, .slice A0_3 l0_3.length c0_3]] w fun e w' => e = .returned (.bool true) ∧ Below w.heap.size w w' := by
  have hu64 := Try.underlying64
  have HR0_0 := Aside0.mk hr0_0
  have HC0_0 := Aside0.mk hc0_0
  clear hr0_0 hc0_0
  have HR0_1 := Aside0.mk hr0_1
  have HC0_1 := Aside0.mk hc0_1
  clear hr0_1 hc0_1
  have HR0_2 := Aside0.mk hr0_2
  have HC0_2 := Aside0.mk hc0_2
  clear hr0_2 hc0_2
  have HR0_3 := Aside0.mk hr0_3
  have HC0_3 := Aside0.mk hc0_3
  clear hr0_3 hc0_3
  have HB := Aside0.mk (Below.refl w.heap.size w)
  have H : ((pyxlaw07_shown.f).bind fun t102 => (if (l0_0.length : Int) > 40 then (pyxlaw07_SigWraps.j0 k l0_0 l0_1 l0_2 l0_3 t102 true) else (if (l0_1.length : Int) > 40 then (pyxlaw07_SigWraps.j0 k l0_0 l0_1 l0_2 l0_3 t102 true) else (if (l0_2.length : Int) > 100 then (pyxlaw07_SigWraps.j0 k l0_0 l0_1 l0_2 l0_3 t102 true) else (pyxlaw07_SigWraps.j0 k l0_0 l0_1 l0_2 l0_3 t102 (decide ((l0_3.length : Int) > 200))))))) = some true := h
  clear h
  replace H := Option.bind_eq_some_iff.mp H
  obtain ⟨t102, A20, H⟩ := H
  replace H : (if (l0_0.length : Int) > 40 then (pyxlaw07_SigWraps.j0 k l0_0 l0_1 l0_2 l0_3 t102 true) else (if (l0_1.length : Int) > 40 then (pyxlaw07_SigWraps.j0 k l0_0 l0_1 l0_2 l0_3 t102 true) else (if (l0_2.length : Int) > 100 then (pyxlaw07_SigWraps.j0 k l0_0 l0_1 l0_2 l0_3 t102 true) else (pyxlaw07_SigWraps.j0 k l0_0 l0_1 l0_2 l0_3 t102 (decide ((l0_3.length : Int) > 200)))))) = some true := H
  have A2 := Aside0.mk A20
  clear A20
  have HC3 := Aside0.mk H
  clear H
  go_enter Try.func9, Try.ntmps9
  go_upto_region 6 with (first | ((with_reducible refine gate_dst (N := 1) rfl ?_); (try (refine gate_guard (by rfl) ?_; dsimp only)); refine box_event ?hg (N := 1) ?hd (cs := #[.slice A0_0 l0_0.length c0_0, .slice A0_1 l0_1.length c0_1, .slice A0_2 l0_2.length c0_2, .slice A0_3 l0_3.length c0_3]) (t := 64) ?hr ?_; (case hd => rfl); (case hg => rfl); (case hr => first | (go_simp; done)); intro gb101 hg w4 hbox hb; have n0_ := Aside0.mk (below_step (by repeat ((with_reducible first | exact HB.out))) hb); have n1_ := Aside0.mk (hbox); have n2_ := Aside0.mk ((by rw [hg]; exact (below_size (by repeat ((with_reducible first | exact HB.out)))) : w.heap.size ≤ gb101)); have n3_ := Aside0.mk ((by rw [hg]; exact (below_size (by repeat ((with_reducible first | exact HB.out)))) : w.heap.size ≤ gb101)); clear HB; have HB := n0_; have BK101 := n1_; have GW101 := n2_; have GE101 := n3_; clear n0_ n1_ n2_ n3_; clear hb hbox hg; have hcz5_0 : w4.cell? ⟨gb101, 0, none⟩ = some (.slice A0_0 l0_0.length c0_0) := (blk_cell BK101.out 0).trans rfl; have hcz5_1 : w4.cell? ⟨gb101, 1, none⟩ = some (.slice A0_1 l0_1.length c0_1) := (blk_cell BK101.out 1).trans rfl; have hcz5_2 : w4.cell? ⟨gb101, 2, none⟩ = some (.slice A0_2 l0_2.length c0_2) := (blk_cell BK101.out 2).trans rfl; have hcz5_3 : w4.cell? ⟨gb101, 3, none⟩ = some (.slice A0_3 l0_3.length c0_3) := (blk_cell BK101.out 3).trans rfl; have hfz5_0 := blk_frozen BK101.out 0; have hfz5_1 := blk_frozen BK101.out 1; have hfz5_2 := blk_frozen BK101.out 2; have hfz5_3 := blk_frozen BK101.out 3) | ((with_reducible refine gate_callee (f := 26) rfl ?_); refine goesL_ (some 26) rfl rfl Try.func26 (by kernel_rfl) rfl #[] rfl (by (try simp only [List.map_toArray, List.map_cons, List.map_nil]); first | done) ?_; (with_reducible refine (pyxlaw07_shown.calls  t102 _ A2.out).mono ?_); rintro e w6 ⟨rfl, hb⟩; refine ⟨_, rfl, ?_⟩; have n0_ := Aside0.mk (blk_below (g := gb101) (o := .cells #[.slice A0_0 l0_0.length c0_0, .slice A0_1 l0_1.length c0_1, .slice A0_2 l0_2.length c0_2, .slice A0_3 l0_3.length c0_3] 64 (0, 0)) (by (with_reducible repeat (fail)); exact BK101.out) hb); have n1_ := Aside0.mk (below_step (by repeat ((with_reducible first | exact HB.out))) hb); clear BK101; clear HB; have BK101 := n0_; have HB := n1_; clear n0_ n1_; (try clear hb); (skip)))
  (skip)
  go_cut [44] (fun v44 wc => ∃ (kq : Nat) (x44_2 : Bool), v44 = .bool x44_2 ∧ Aside0 (pyxlaw07_SigWraps.j0 kq l0_0 l0_1 l0_2 l0_3 t102 x44_2 = some true) ∧ Aside0 (kq ≤ k) ∧ Aside0 (wc.heap[gb101]? = some (.cells #[(.slice A0_0 l0_0.length c0_0), (.slice A0_1 l0_1.length c0_1), (.slice A0_2 l0_2.length c0_2), (.slice A0_3 l0_3.length c0_3)] 64 (0, 0))) ∧ Aside0 (Below w.heap.size w wc))
  case first =>
    have H := HC3.out
    clear HC3
    by_cases c7 : (l0_0.length : Int) > 40
    · rw [if_pos c7] at H
      have c7b0 : decide (40 < (l0_0.length : Int)) = true := decide_eq_true c7
      have c7b1 : decide (40 < l0_0.length) = true := decide_eq_true (by omega)
      clear c7
      (skip)
      have H' := Aside0.mk H
      clear H
      go_wp2
      go_meet
      case rel => exact ⟨_, (true), (by first | rfl), H', ⟨by first | omega⟩, ⟨by (with_reducible repeat (fail)); exact BK101.out⟩, ⟨by repeat ((with_reducible first | exact HB.out))⟩⟩
    rw [if_neg c7] at H
    have c7b0 : decide (40 < (l0_0.length : Int)) = false := decide_eq_false c7
    have c7b1 : decide (40 < l0_0.length) = false := decide_eq_false (by omega)
    clear c7
    (skip)
    by_cases c8 : (l0_1.length : Int) > 40
    · rw [if_pos c8] at H
      have c8b0 : decide (40 < (l0_1.length : Int)) = true := decide_eq_true c8
      have c8b1 : decide (40 < l0_1.length) = true := decide_eq_true (by omega)
      clear c8
      have H' := Aside0.mk H
      clear H
      go_wp2
      go_meet
      case rel => exact ⟨_, (true), (by first | rfl), H', ⟨by first | omega⟩, ⟨by (with_reducible repeat (fail)); exact BK101.out⟩, ⟨by repeat ((with_reducible first | exact HB.out))⟩⟩
    rw [if_neg c8] at H
    have c8b0 : decide (40 < (l0_1.length : Int)) = false := decide_eq_false c8
    have c8b1 : decide (40 < l0_1.length) = false := decide_eq_false (by omega)
    clear c8
    by_cases c9 : (l0_2.length : Int) > 100
    · rw [if_pos c9] at H
      have c9b0 : decide (100 < (l0_2.length : Int)) = true := decide_eq_true c9
      have c9b1 : decide (100 < l0_2.length) = true := decide_eq_true (by omega)
      clear c9
      have H' := Aside0.mk H
      clear H
      go_wp2
      go_meet
      case rel => exact ⟨_, (true), (by first | rfl), H', ⟨by first | omega⟩, ⟨by (with_reducible repeat (fail)); exact BK101.out⟩, ⟨by repeat ((with_reducible first | exact HB.out))⟩⟩
    rw [if_neg c9] at H
    have c9b0 : decide (100 < (l0_2.length : Int)) = false := decide_eq_false c9
    have c9b1 : decide (100 < l0_2.length) = false := decide_eq_false (by omega)
    clear c9
    have H' := Aside0.mk H
    clear H
    go_wp2
    go_meet
    case rel => exact ⟨_, (decide ((l0_3.length : Int) > 200)), (by first | rfl), H', ⟨by first | omega⟩, ⟨by (with_reducible repeat (fail)); exact BK101.out⟩, ⟨by repeat ((with_reducible first | exact HB.out))⟩⟩
  clear HC3
  skip
  skip
  skip
  skip
  skip
  skip
  skip
  skip
  skip
  skip
  skip
  try clear hcz5_0
  try clear hcz5_1
  try clear hcz5_2
  try clear hcz5_3
  try clear hfz5_0
  try clear hfz5_1
  try clear hfz5_2
  try clear hfz5_3
  obtain ⟨kq, x44_2, rfl, HA, HJ2, BK101, HB⟩ := hcut
  cases kq with
  | zero => exact absurd HA.out (by simp [pyxlaw07_SigWraps.j0])
  | succ kj2 =>
    have H := HA.out
    clear HA
    simp only [pyxlaw07_SigWraps.j0] at H
    by_cases c10 : x44_2 = true
    · subst c10
      have H1 : (some t102) = some true := by rw [if_pos rfl] at H; exact H
      clear H
      have H := H1
      clear H1
      have HT_ := Option.some.inj H
      go_wp2
      go_ret
      exact ⟨by first | (simp [*, errW_none, errW_some] <;> rfl), by repeat ((with_reducible first | exact HB.out))⟩
    replace c10 := Bool.eq_false_iff.mpr c10
    subst c10
    have H1 : ((sig_Wrap.f l0_0 l0_1 l0_2 l0_3).bind fun bt103 => ((pyxref07_Wrap.f l0_0 l0_1 l0_2 l0_3).bind fun bt110 => ((sig_Unwrap.f l0_0 l0_1 l0_2 l0_3).bind fun bt117 => ((pyxref07_Unwrap.f l0_0 l0_1 l0_2 l0_3).bind fun bt121 => (if t102 = true then ((pyxref01_Same.f bt103.1 bt110.1).bind fun t125 => (if t125 = true then ((pyxref01_Same.f bt103.2.1 bt110.2.1).bind fun t126 => (if t126 = true then (if bt103.2.2 = bt110.2.2 then ((pyxref01_Same.f bt117.1 bt121.1).bind fun t127 => (if t127 = true then (some (bt117.2 == bt121.2)) else (some false))) else (some false)) else (some false))) else (some false))) else (some false)))))) = some true := by rw [if_neg (show ¬ (false = true) by decide)] at H; exact H
    clear H
    have H := H1
    clear H1
    replace H := Option.bind_eq_some_iff.mp H
    obtain ⟨⟨t103, t104, t105⟩, A110, H⟩ := H
    replace H : ((pyxref07_Wrap.f l0_0 l0_1 l0_2 l0_3).bind fun bt110 => ((sig_Unwrap.f l0_0 l0_1 l0_2 l0_3).bind fun bt117 => ((pyxref07_Unwrap.f l0_0 l0_1 l0_2 l0_3).bind fun bt121 => (if t102 = true then ((pyxref01_Same.f t103 bt110.1).bind fun t125 => (if t125 = true then ((pyxref01_Same.f t104 bt110.2.1).bind fun t126 => (if t126 = true then (if t105 = bt110.2.2 then ((pyxref01_Same.f bt117.1 bt121.1).bind fun t127 => (if t127 = true then (some (bt117.2 == bt121.2)) else (some false))) else (some false)) else (some false))) else (some false))) else (some false))))) = some true := H
    have A11 := Aside0.mk A110
    clear A110
    replace H := Option.bind_eq_some_iff.mp H
    obtain ⟨⟨t110, t111, t112⟩, A120, H⟩ := H
    replace H : ((sig_Unwrap.f l0_0 l0_1 l0_2 l0_3).bind fun bt117 => ((pyxref07_Unwrap.f l0_0 l0_1 l0_2 l0_3).bind fun bt121 => (if t102 = true then ((pyxref01_Same.f t103 t110).bind fun t125 => (if t125 = true then ((pyxref01_Same.f t104 t111).bind fun t126 => (if t126 = true then (if t105 = t112 then ((pyxref01_Same.f bt117.1 bt121.1).bind fun t127 => (if t127 = true then (some (bt117.2 == bt121.2)) else (some false))) else (some false)) else (some false))) else (some false))) else (some false)))) = some true := H
    have A12 := Aside0.mk A120
    clear A120
    replace H := Option.bind_eq_some_iff.mp H
    obtain ⟨⟨t117, t118⟩, A130, H⟩ := H
    replace H : ((pyxref07_Unwrap.f l0_0 l0_1 l0_2 l0_3).bind fun bt121 => (if t102 = true then ((pyxref01_Same.f t103 t110).bind fun t125 => (if t125 = true then ((pyxref01_Same.f t104 t111).bind fun t126 => (if t126 = true then (if t105 = t112 then ((pyxref01_Same.f t117 bt121.1).bind fun t127 => (if t127 = true then (some (t118 == bt121.2)) else (some false))) else (some false)) else (some false))) else (some false))) else (some false))) = some true := H
    have A13 := Aside0.mk A130
    clear A130
    replace H := Option.bind_eq_some_iff.mp H
    obtain ⟨⟨t121, t122⟩, A140, H⟩ := H
    replace H : (if t102 = true then ((pyxref01_Same.f t103 t110).bind fun t125 => (if t125 = true then ((pyxref01_Same.f t104 t111).bind fun t126 => (if t126 = true then (if t105 = t112 then ((pyxref01_Same.f t117 t121).bind fun t127 => (if t127 = true then (some (t118 == t122)) else (some false))) else (some false)) else (some false))) else (some false))) else (some false)) = some true := H
    have A14 := Aside0.mk A140
    clear A140
    by_cases c15 : t102 = true
    rotate_left
    · replace c15 := Bool.eq_false_iff.mpr c15
      subst c15
      have H1 : (some false) = some true := by rw [if_neg (show ¬ (false = true) by decide)] at H; exact H
      clear H
      have H := H1
      clear H1
      exact absurd (Option.some.inj H) (by decide)
    subst c15
    have H1 : ((pyxref01_Same.f t103 t110).bind fun t125 => (if t125 = true then ((pyxref01_Same.f t104 t111).bind fun t126 => (if t126 = true then (if t105 = t112 then ((pyxref01_Same.f t117 t121).bind fun t127 => (if t127 = true then (some (t118 == t122)) else (some false))) else (some false)) else (some false))) else (some false))) = some true := by rw [if_pos rfl] at H; exact H
    clear H
    have H := H1
    clear H1
    replace H := Option.bind_eq_some_iff.mp H
    obtain ⟨t125, A160, H⟩ := H
    replace H : (if t125 = true then ((pyxref01_Same.f t104 t111).bind fun t126 => (if t126 = true then (if t105 = t112 then ((pyxref01_Same.f t117 t121).bind fun t127 => (if t127 = true then (some (t118 == t122)) else (some false))) else (some false)) else (some false))) else (some false)) = some true := H
    have A16 := Aside0.mk A160
    clear A160
    by_cases c17 : t125 = true
    rotate_left
    · replace c17 := Bool.eq_false_iff.mpr c17
      subst c17
      have H1 : (some false) = some true := by rw [if_neg (show ¬ (false = true) by decide)] at H; exact H
      clear H
      have H := H1
      clear H1
      exact absurd (Option.some.inj H) (by decide)
    subst c17
    have H1 : ((pyxref01_Same.f t104 t111).bind fun t126 => (if t126 = true then (if t105 = t112 then ((pyxref01_Same.f t117 t121).bind fun t127 => (if t127 = true then (some (t118 == t122)) else (some false))) else (some false)) else (some false))) = some true := by rw [if_pos rfl] at H; exact H
    clear H
    have H := H1
    clear H1
    replace H := Option.bind_eq_some_iff.mp H
    obtain ⟨t126, A180, H⟩ := H
    replace H : (if t126 = true then (if t105 = t112 then ((pyxref01_Same.f t117 t121).bind fun t127 => (if t127 = true then (some (t118 == t122)) else (some false))) else (some false)) else (some false)) = some true := H
    have A18 := Aside0.mk A180
    clear A180
    by_cases c19 : t126 = true
    rotate_left
    · replace c19 := Bool.eq_false_iff.mpr c19
      subst c19
      have H1 : (some false) = some true := by rw [if_neg (show ¬ (false = true) by decide)] at H; exact H
      clear H
      have H := H1
      clear H1
      exact absurd (Option.some.inj H) (by decide)
    subst c19
    have H1 : (if t105 = t112 then ((pyxref01_Same.f t117 t121).bind fun t127 => (if t127 = true then (some (t118 == t122)) else (some false))) else (some false)) = some true := by rw [if_pos rfl] at H; exact H
    clear H
    have H := H1
    clear H1
    by_cases c20 : t105 = t112
    rotate_left
    · rw [if_neg c20] at H
      have c20b0 : (t105 == t112) = false := beq_eq_false_iff_ne.mpr c20
      have c20b1 : (t105 != t112) = true := bne_iff_ne.mpr c20
      exact absurd (Option.some.inj H) (by decide)
    rw [if_pos c20] at H
    have c20b0 : (t105 == t112) = true := beq_iff_eq.mpr c20
    have c20b1 : (t105 != t112) = false := bne_eq_false_iff_eq.mpr c20
    clear c20
    replace H := Option.bind_eq_some_iff.mp H
    obtain ⟨t127, A210, H⟩ := H
    replace H : (if t127 = true then (some (t118 == t122)) else (some false)) = some true := H
    have A21 := Aside0.mk A210
    clear A210
    by_cases c22 : t127 = true
    rotate_left
    · replace c22 := Bool.eq_false_iff.mpr c22
      subst c22
      have H1 : (some false) = some true := by rw [if_neg (show ¬ (false = true) by decide)] at H; exact H
      clear H
      have H := H1
      clear H1
      exact absurd (Option.some.inj H) (by decide)
    subst c22
    have H1 : (some (t118 == t122)) = some true := by rw [if_pos rfl] at H; exact H
    clear H
    have H := H1
    clear H1
    have HT_ := Option.some.inj H
    go_wp2_with (first | ((with_reducible refine gate_callee (f := 33) rfl ?_); refine goesL_ (some 51) rfl rfl Try.func33 (by kernel_rfl) rfl #[.slice A0_0 l0_0.length c0_0, .slice A0_1 l0_1.length c0_1, .slice A0_2 l0_2.length c0_2, .slice A0_3 l0_3.length c0_3] rfl (by (try simp only [List.map_toArray, List.map_cons, List.map_nil]); first | rfl) ?_; (with_reducible refine (sig_Wrap.calls _ _ l0_0 _ _ l0_1 _ _ l0_2 _ _ l0_3 t103 t104 t105 _ ?side1 ?side2 ?side3 ?side4 ?side5 ?side6 ?side7 ?side8 A11.out).mono ?_); (case side1 => repeat (exact (Kd.C_below HR0_0.out HB.out))); (case side2 => exact HC0_0.out); (case side3 => repeat (exact (Kd.C_below HR0_1.out HB.out))); (case side4 => exact HC0_1.out); (case side5 => repeat (exact (Kd.C_below HR0_2.out HB.out))); (case side6 => exact HC0_2.out); (case side7 => repeat (exact (Kd.C_below HR0_3.out HB.out))); (case side8 => exact HC0_3.out); rintro e w23 ⟨v106, v108, rfl, ho0, ho1, hb⟩; refine ⟨_, rfl, ?_⟩; have n0_ := Aside0.mk (Kd.R_lower ho0 (below_size (by repeat ((with_reducible first | exact HB.out))))); have n1_ := Aside0.mk (Kd.R_lower ho1 (below_size (by repeat ((with_reducible first | exact HB.out))))); have n2_ := Aside0.mk (blk_below (g := gb101) (o := .cells #[.slice A0_0 l0_0.length c0_0, .slice A0_1 l0_1.length c0_1, .slice A0_2 l0_2.length c0_2, .slice A0_3 l0_3.length c0_3] 64 (0, 0)) (by (with_reducible repeat (fail)); exact BK101.out) hb); have n3_ := Aside0.mk (below_step (by repeat ((with_reducible first | exact HB.out))) hb); clear BK101; clear HB; have HO107 := n0_; have HO109 := n1_; have BK101 := n2_; have HB := n3_; clear n0_ n1_ n2_ n3_; (try clear hb); (try clear ho0); (try clear ho1)) | ((with_reducible refine gate_callee (f := 34) rfl ?_); refine goesL_ (some 60) rfl rfl Try.func34 (by kernel_rfl) rfl #[.slice A0_0 l0_0.length c0_0, .slice A0_1 l0_1.length c0_1, .slice A0_2 l0_2.length c0_2, .slice A0_3 l0_3.length c0_3] rfl (by (try simp only [List.map_toArray, List.map_cons, List.map_nil]); first | rfl) ?_; (with_reducible refine (pyxref07_Wrap.calls _ _ l0_0 _ _ l0_1 _ _ l0_2 _ _ l0_3 t110 t111 t112 _ ?side1 ?side2 ?side3 ?side4 ?side5 ?side6 ?side7 ?side8 A12.out).mono ?_); (case side1 => repeat (exact (Kd.C_below HR0_0.out HB.out))); (case side2 => exact HC0_0.out); (case side3 => repeat (exact (Kd.C_below HR0_1.out HB.out))); (case side4 => exact HC0_1.out); (case side5 => repeat (exact (Kd.C_below HR0_2.out HB.out))); (case side6 => exact HC0_2.out); (case side7 => repeat (exact (Kd.C_below HR0_3.out HB.out))); (case side8 => exact HC0_3.out); rintro e w24 ⟨v113, v115, rfl, ho0, ho1, hb⟩; refine ⟨_, rfl, ?_⟩; have n0_ := Aside0.mk (Kd.R_mono (Kd.R_told (Kd.R_told (Kd.R_old (by (with_reducible repeat (fail)); exact HO107.out) hb) (Kd.R_base ho0)) (Kd.R_base ho1)) (fun _ h_ => h_.1)); have n1_ := Aside0.mk (Kd.R_mono (Kd.R_told (Kd.R_told (Kd.R_old (by (with_reducible repeat (fail)); exact HO109.out) hb) (Kd.R_base ho0)) (Kd.R_base ho1)) (fun _ h_ => h_.1)); have n2_ := Aside0.mk (Kd.R_lower (Kd.R_new' (Kd.R_new' ho0 (Kd.R_lt (by (with_reducible repeat (fail)); exact HO107.out))) (Kd.R_lt (by (with_reducible repeat (fail)); exact HO109.out))) (below_size (by repeat ((with_reducible first | exact HB.out))))); have n3_ := Aside0.mk (Kd.R_lower (Kd.R_new' (Kd.R_new' ho1 (Kd.R_lt (by (with_reducible repeat (fail)); exact HO107.out))) (Kd.R_lt (by (with_reducible repeat (fail)); exact HO109.out))) (below_size (by repeat ((with_reducible first | exact HB.out))))); have n4_ := Aside0.mk (blk_below (g := gb101) (o := .cells #[.slice A0_0 l0_0.length c0_0, .slice A0_1 l0_1.length c0_1, .slice A0_2 l0_2.length c0_2, .slice A0_3 l0_3.length c0_3] 64 (0, 0)) (by (with_reducible repeat (fail)); exact BK101.out) hb); have n5_ := Aside0.mk (below_step (by repeat ((with_reducible first | exact HB.out))) hb); clear HO107; clear HO109; clear BK101; clear HB; have HO107 := n0_; have HO109 := n1_; have HO114 := n2_; have HO116 := n3_; have BK101 := n4_; have HB := n5_; clear n0_ n1_ n2_ n3_ n4_ n5_; (try clear hb); (try clear ho0); (try clear ho1)) | ((with_reducible refine gate_callee (f := 35) rfl ?_); refine goesL_ (some 69) rfl rfl Try.func35 (by kernel_rfl) rfl #[.slice A0_0 l0_0.length c0_0, .slice A0_1 l0_1.length c0_1, .slice A0_2 l0_2.length c0_2, .slice A0_3 l0_3.length c0_3] rfl (by (try simp only [List.map_toArray, List.map_cons, List.map_nil]); first | rfl) ?_; (with_reducible refine (sig_Unwrap.calls _ _ l0_0 _ _ l0_1 _ _ l0_2 _ _ l0_3 t117 t118 _ ?side1 ?side2 ?side3 ?side4 ?side5 ?side6 ?side7 ?side8 A13.out).mono ?_); (case side1 => repeat (exact (Kd.C_below HR0_0.out HB.out))); (case side2 => exact HC0_0.out); (case side3 => repeat (exact (Kd.C_below HR0_1.out HB.out))); (case side4 => exact HC0_1.out); (case side5 => repeat (exact (Kd.C_below HR0_2.out HB.out))); (case side6 => exact HC0_2.out); (case side7 => repeat (exact (Kd.C_below HR0_3.out HB.out))); (case side8 => exact HC0_3.out); rintro e w25 ⟨v119, rfl, ho0, hb⟩; refine ⟨_, rfl, ?_⟩; have n0_ := Aside0.mk (Kd.R_elder' (by (with_reducible repeat (fail)); exact HO107.out) (Kd.R_base ho0) hb); have n1_ := Aside0.mk (Kd.R_elder' (by (with_reducible repeat (fail)); exact HO109.out) (Kd.R_base ho0) hb); have n2_ := Aside0.mk (Kd.R_elder' (by (with_reducible repeat (fail)); exact HO114.out) (Kd.R_base ho0) hb); have n3_ := Aside0.mk (Kd.R_elder' (by (with_reducible repeat (fail)); exact HO116.out) (Kd.R_base ho0) hb); have n4_ := Aside0.mk (Kd.R_lower (Kd.R_new' (Kd.R_new' (Kd.R_new' (Kd.R_new' ho0 (Kd.R_lt (by (with_reducible repeat (fail)); exact HO107.out))) (Kd.R_lt (by (with_reducible repeat (fail)); exact HO109.out))) (Kd.R_lt (by (with_reducible repeat (fail)); exact HO114.out))) (Kd.R_lt (by (with_reducible repeat (fail)); exact HO116.out))) (below_size (by repeat ((with_reducible first | exact HB.out))))); have n5_ := Aside0.mk (blk_below (g := gb101) (o := .cells #[.slice A0_0 l0_0.length c0_0, .slice A0_1 l0_1.length c0_1, .slice A0_2 l0_2.length c0_2, .slice A0_3 l0_3.length c0_3] 64 (0, 0)) (by (with_reducible repeat (fail)); exact BK101.out) hb); have n6_ := Aside0.mk (below_step (by repeat ((with_reducible first | exact HB.out))) hb); clear HO107; clear HO109; clear HO114; clear HO116; clear BK101; clear HB; have HO107 := n0_; have HO109 := n1_; have HO114 := n2_; have HO116 := n3_; have HO120 := n4_; have BK101 := n5_; have HB := n6_; clear n0_ n1_ n2_ n3_ n4_ n5_ n6_; (try clear hb); (try clear ho0)) | ((with_reducible refine gate_callee (f := 36) rfl ?_); refine goesL_ (some 77) rfl rfl Try.func36 (by kernel_rfl) rfl #[.slice A0_0 l0_0.length c0_0, .slice A0_1 l0_1.length c0_1, .slice A0_2 l0_2.length c0_2, .slice A0_3 l0_3.length c0_3] rfl (by (try simp only [List.map_toArray, List.map_cons, List.map_nil]); first | rfl) ?_; (with_reducible refine (pyxref07_Unwrap.calls _ _ l0_0 _ _ l0_1 _ _ l0_2 _ _ l0_3 t121 t122 _ ?side1 ?side2 ?side3 ?side4 ?side5 ?side6 ?side7 ?side8 A14.out).mono ?_); (case side1 => repeat (exact (Kd.C_below HR0_0.out HB.out))); (case side2 => exact HC0_0.out); (case side3 => repeat (exact (Kd.C_below HR0_1.out HB.out))); (case side4 => exact HC0_1.out); (case side5 => repeat (exact (Kd.C_below HR0_2.out HB.out))); (case side6 => exact HC0_2.out); (case side7 => repeat (exact (Kd.C_below HR0_3.out HB.out))); (case side8 => exact HC0_3.out); rintro e w26 ⟨v123, rfl, ho0, hb⟩; refine ⟨_, rfl, ?_⟩; have n0_ := Aside0.mk (Kd.R_elder' (by (with_reducible repeat (fail)); exact HO107.out) (Kd.R_base ho0) hb); have n1_ := Aside0.mk (Kd.R_elder' (by (with_reducible repeat (fail)); exact HO109.out) (Kd.R_base ho0) hb); have n2_ := Aside0.mk (Kd.R_elder' (by (with_reducible repeat (fail)); exact HO114.out) (Kd.R_base ho0) hb); have n3_ := Aside0.mk (Kd.R_elder' (by (with_reducible repeat (fail)); exact HO116.out) (Kd.R_base ho0) hb); have n4_ := Aside0.mk (Kd.R_elder' (by (with_reducible repeat (fail)); exact HO120.out) (Kd.R_base ho0) hb); have n5_ := Aside0.mk (Kd.R_lower (Kd.R_new' (Kd.R_new' (Kd.R_new' (Kd.R_new' (Kd.R_new' ho0 (Kd.R_lt (by (with_reducible repeat (fail)); exact HO107.out))) (Kd.R_lt (by (with_reducible repeat (fail)); exact HO109.out))) (Kd.R_lt (by (with_reducible repeat (fail)); exact HO114.out))) (Kd.R_lt (by (with_reducible repeat (fail)); exact HO116.out))) (Kd.R_lt (by (with_reducible repeat (fail)); exact HO120.out))) (below_size (by repeat ((with_reducible first | exact HB.out))))); have n6_ := Aside0.mk (blk_below (g := gb101) (o := .cells #[.slice A0_0 l0_0.length c0_0, .slice A0_1 l0_1.length c0_1, .slice A0_2 l0_2.length c0_2, .slice A0_3 l0_3.length c0_3] 64 (0, 0)) (by (with_reducible repeat (fail)); exact BK101.out) hb); have n7_ := Aside0.mk (below_step (by repeat ((with_reducible first | exact HB.out))) hb); clear HO107; clear HO109; clear HO114; clear HO116; clear HO120; clear BK101; clear HB; have HO107 := n0_; have HO109 := n1_; have HO114 := n2_; have HO116 := n3_; have HO120 := n4_; have HO124 := n5_; have BK101 := n6_; have HB := n7_; clear n0_ n1_ n2_ n3_ n4_ n5_ n6_ n7_; (try clear hb); (try clear ho0); obtain ⟨Ao27, co27, eo27⟩ := Kd.R_slice HO107.out; subst eo27; obtain ⟨Ao28, co28, eo28⟩ := Kd.R_slice HO114.out; subst eo28) | (go_at_call 18; (with_reducible refine (pyxref01_Same.calls _ _ t103 _ _ t110 true _ ?side1 ?side2 ?side3 ?side4 A16.out).mono ?_); (case side1 => repeat (exact (Kd.R_reads' HO107.out).2.2)); (case side2 => exact (Kd.R_reads' HO107.out).2.1); (case side3 => repeat (exact (Kd.R_reads' HO114.out).2.2)); (case side4 => exact (Kd.R_reads' HO114.out).2.1); rintro e w' ⟨rfl, ⟨nd, rfl⟩⟩; obtain ⟨Ao29, co29, eo29⟩ := Kd.R_slice HO109.out; subst eo29; obtain ⟨Ao30, co30, eo30⟩ := Kd.R_slice HO116.out; subst eo30) | (go_at_call 18; (with_reducible refine (pyxref01_Same.calls _ _ t104 _ _ t111 true _ ?side1 ?side2 ?side3 ?side4 A18.out).mono ?_); (case side1 => repeat (exact (Kd.R_reads' HO109.out).2.2)); (case side2 => exact (Kd.R_reads' HO109.out).2.1); (case side3 => repeat (exact (Kd.R_reads' HO116.out).2.2)); (case side4 => exact (Kd.R_reads' HO116.out).2.1); rintro e w' ⟨rfl, ⟨nd, rfl⟩⟩; obtain ⟨Ao31, co31, eo31⟩ := Kd.R_slice HO120.out; subst eo31; obtain ⟨Ao32, co32, eo32⟩ := Kd.R_slice HO124.out; subst eo32) | (go_at_call 18; (with_reducible refine (pyxref01_Same.calls _ _ t117 _ _ t121 true _ ?side1 ?side2 ?side3 ?side4 A21.out).mono ?_); (case side1 => repeat (exact (Kd.R_reads' HO120.out).2.2)); (case side2 => exact (Kd.R_reads' HO120.out).2.1); (case side3 => repeat (exact (Kd.R_reads' HO124.out).2.2)); (case side4 => exact (Kd.R_reads' HO124.out).2.1); rintro e w' ⟨rfl, ⟨nd, rfl⟩⟩))
    go_ret
    exact ⟨by first | rfl, by repeat ((with_reducible first | exact HB.out | apply pw_below_drewN))⟩
end Go.Proofs.Ytifpdpfjhjoieaa.P
