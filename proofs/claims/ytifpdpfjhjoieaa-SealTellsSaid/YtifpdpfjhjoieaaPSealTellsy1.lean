-- Written by xprint.py, this session's driver over the kit's print.py, out of the translation.
import Derived.Test.YtifpdpfjhjoieaaPSealTellsy0
namespace Go.Proofs.Ytifpdpfjhjoieaa.P
open Go.RowKit Go.Proofs.YtifpdpfjhjoieaaW.PrintWords Go.Proofs.YtifpdpfjhjoieaaW.PrintLast Go.Proofs.YtifpdpfjhjoieaaW.PrintMore
attribute [local go_sem] max2_int min2_int max_two min_two max_three min_three max_four min_four   -- for this text's walks alone
set_option linter.unusedVariables false
set_option linter.unusedSimpArgs false

-- NOT PRINTED: function 47 (byt_Num)

-- NOT PRINTED: function 95 (byt_wide)

-- NOT PRINTED: function 79 (byt_Len)

-- NOT PRINTED: function 62 (byt_Row)

-- NOT PRINTED: function 42 (seal_ready)

-- NOT PRINTED: function 83 (aes_Mul)

-- NOT PRINTED: function 96 (aes_inverse)

-- NOT PRINTED: function 97 (bits_RotateLeft8)

-- NOT PRINTED: function 82 (aes_Box)

-- NOT PRINTED: function 65 (aes_boxes)

-- NOT PRINTED: function 66 (aes_keys)

-- NOT PRINTED: function 84 (aes_state_with)

-- NOT PRINTED: function 85 (aes_state_shifted)

-- NOT PRINTED: function 86 (aes_state_mixed)

-- NOT PRINTED: function 67 (aes_locked)

-- NOT PRINTED: function 43 (aes_Stream)

-- NOT PRINTED: function 104 (slices_Grow_byte_byte)

-- NOT PRINTED: function 99 (slices_Concat_byte_byte)

-- NOT PRINTED: function 87 (mac_joined)

-- NOT PRINTED: function 105 (sha_primes)

-- NOT PRINTED: function 112 (bits_Mul64)

-- NOT PRINTED: function 113 (bits_Add64)

-- NOT PRINTED: function 110 (sha_above)

-- NOT PRINTED: function 106 (sha_root)

-- NOT PRINTED: function 100 (sha_keys)

-- NOT PRINTED: function 101 (sha_Start)

-- NOT PRINTED: function 111 (bits_RotateLeft32)

-- NOT PRINTED: function 108 (sha_turned)

-- NOT PRINTED: function 107 (sha_words)

-- NOT PRINTED: function 102 (sha_mixed)

-- NOT PRINTED: function 103 (sha_Pad)

-- NOT PRINTED: function 94 (sha_Sum)

-- NOT PRINTED: function 91 (mac_Key)

-- NOT PRINTED: function 78 (mac_Sum)

-- NOT PRINTED: function 68 (mac_All)

-- NOT PRINTED: function 44 (seal_tag)

-- NOT PRINTED: function 46 (mac_Same)

-- NOT PRINTED: function 77 (pyxref01_power)

-- NOT PRINTED: function 54 (pyxref01_Num)

-- NOT PRINTED: function 70 (pyxref01_Len)

-- NOT PRINTED: function 48 (pyxref01_Row)

-- NOT PRINTED: function 71 (pyxref02_Pad)

-- NOT PRINTED: function 72 (pyxref02_keys)

-- NOT PRINTED: function 73 (pyxref02_Start)

-- NOT PRINTED: function 88 (pyxref02_word)

-- NOT PRINTED: function 89 (pyxref02_turn)

-- NOT PRINTED: function 74 (pyxref02_step)

-- NOT PRINTED: function 50 (pyxref02_Sum)

-- NOT PRINTED: function 49 (pyxref03_Key)

-- NOT PRINTED: function 51 (pyxref03_with)

-- NOT PRINTED: function 64 (pyxref04_Expand)

-- NOT PRINTED: function 41 (pyxref04_Label)

-- NOT PRINTED: function 90 (pyxref05_left)

-- NOT PRINTED: function 75 (pyxref05_turned)

-- NOT PRINTED: function 76 (pyxref05_Mul)

-- NOT PRINTED: function 52 (pyxref05_boxes)

-- NOT PRINTED: function 53 (pyxref05_keys)

-- NOT PRINTED: function 55 (pyxref05_lock)

-- NOT PRINTED: function 69 (pyxref03_All)

-- NOT PRINTED: function 45 (pyxref06_tag)

/-! ### pyxlaw06_SealTells: function 3 -/
mutual
def pyxlaw06_SealTells.j0 : Nat → List Int → List Int → List Int → List Int → Int → Bool → Bool → Option (Bool)
  | 0, _, _, _, _, _, _, _ => none
  | k + 1, x3, x4, x5, x6, x7, x8, x55 => if x55 = true then (some x8) else ((seal_Halves.f x3).bind fun bt103 => ((pyxref06_Halves.f x3).bind fun bt110 => ((seal_Seal.f x3 x4 x5 x6).bind fun bt117 => ((pyxref06_Seal.f x3 x4 x5 x6).bind fun bt121 => ((pyxref01_Same.f bt103.1 bt110.1).bind fun t125 => (if t125 = true then ((pyxref01_Same.f bt103.2.1 bt110.2.1).bind fun t126 => (if t126 = true then (if bt103.2.2 = bt110.2.2 then ((pyxref01_Same.f bt117.1 bt121.1).bind fun t127 => (if t127 = true then (pyxlaw06_SealTells.j1 k x3 x4 x5 x6 x7 x8 (bt117.2 != bt121.2)) else (pyxlaw06_SealTells.j1 k x3 x4 x5 x6 x7 x8 true))) else (pyxlaw06_SealTells.j1 k x3 x4 x5 x6 x7 x8 true)) else (pyxlaw06_SealTells.j1 k x3 x4 x5 x6 x7 x8 true))) else (pyxlaw06_SealTells.j1 k x3 x4 x5 x6 x7 x8 true)))))))
def pyxlaw06_SealTells.j1 : Nat → List Int → List Int → List Int → List Int → Int → Bool → Bool → Option (Bool)
  | 0, _, _, _, _, _, _, _ => none
  | k + 1, x3, x4, x5, x6, x7, x8, x110 => if x110 = true then (some false) else ((seal_Open.f x3 x4 x5 x6).bind fun bt128 => ((pyxref06_Open.f x3 x4 x5 x6).bind fun bt132 => ((seal_At.f x4 x7).bind fun bt136 => ((pyxref06_At.f x4 x7).bind fun bt140 => (if x8 = true then ((pyxref01_Same.f bt128.1 bt132.1).bind fun t144 => (if t144 = true then (if bt128.2 = bt132.2 then ((pyxref01_Same.f bt136.1 bt140.1).bind fun t145 => (if t145 = true then (some (bt136.2 == bt140.2)) else (some false))) else (some false)) else (some false))) else (some false))))))
end
def pyxlaw06_SealTells.f (k : Nat) (l0_0 : List Int) (l0_1 : List Int) (l0_2 : List Int) (l0_3 : List Int) (a0_4 : Int) : Option (Bool) := (pyxlaw06_shown.f).bind fun t102 => (if (l0_0.length : Int) > 50 then (pyxlaw06_SealTells.j0 k l0_0 l0_1 l0_2 l0_3 a0_4 t102 true) else (if (l0_1.length : Int) > 50 then (pyxlaw06_SealTells.j0 k l0_0 l0_1 l0_2 l0_3 a0_4 t102 true) else (if (l0_2.length : Int) > 200 then (pyxlaw06_SealTells.j0 k l0_0 l0_1 l0_2 l0_3 a0_4 t102 true) else (pyxlaw06_SealTells.j0 k l0_0 l0_1 l0_2 l0_3 a0_4 t102 (decide ((l0_3.length : Int) > 200))))))
theorem pyxlaw06_SealTells.mono_l : ∀ k, (∀ y0 y1 y2 y3 y4 y5 y6, LeO (pyxlaw06_SealTells.j0 k y0 y1 y2 y3 y4 y5 y6) (pyxlaw06_SealTells.j0 (k + 1) y0 y1 y2 y3 y4 y5 y6)) ∧ (∀ y0 y1 y2 y3 y4 y5 y6, LeO (pyxlaw06_SealTells.j1 k y0 y1 y2 y3 y4 y5 y6) (pyxlaw06_SealTells.j1 (k + 1) y0 y1 y2 y3 y4 y5 y6))
  | 0 => ⟨fun _ _ _ _ _ _ _ r h => by simp [pyxlaw06_SealTells.j0] at h, fun _ _ _ _ _ _ _ r h => by simp [pyxlaw06_SealTells.j1] at h⟩
  | k + 1 => by
    obtain ⟨ih0, ih1⟩ := pyxlaw06_SealTells.mono_l k
    refine ⟨?_, ?_⟩
    · intro y0 y1 y2 y3 y4 y5 y6
      unfold pyxlaw06_SealTells.j0
      repeat' first
      | (with_reducible exact ih1 _ _ _ _ _ _ _)
      | (with_reducible exact LeO.refl _)
      | (with_reducible refine LeO.ite ?_ ?_)
      | (with_reducible refine LeO.bind ?_ (fun _ => ?_))
    · intro y0 y1 y2 y3 y4 y5 y6
      unfold pyxlaw06_SealTells.j1
      repeat' first
      | (with_reducible exact LeO.refl _)
theorem pyxlaw06_SealTells.mono : ∀ a0 a1 a2 a3 a4 k, LeO (pyxlaw06_SealTells.f k a0 a1 a2 a3 a4) (pyxlaw06_SealTells.f (k + 1) a0 a1 a2 a3 a4) := by
  intro a0 a1 a2 a3 a4 k
  obtain ⟨ih0, ih1⟩ := pyxlaw06_SealTells.mono_l k
  unfold pyxlaw06_SealTells.f
  repeat' first
      | (with_reducible exact ih0 _ _ _ _ _ _ _)
      | (with_reducible exact LeO.refl _)
      | (with_reducible refine LeO.ite ?_ ?_)
      | (with_reducible refine LeO.bind ?_ (fun _ => ?_))
set_option maxHeartbeats 8000000 in
set_option maxRecDepth 100000 in
theorem pyxlaw06_SealTells.calls (k : Nat) (A0_0 : Option Addr) (c0_0 : Nat) (l0_0 : List Int) (A0_1 : Option Addr) (c0_1 : Nat) (l0_1 : List Int) (A0_2 : Option Addr) (c0_2 : Nat) (l0_2 : List Int) (A0_3 : Option Addr) (c0_3 : Nat) (l0_3 : List Int) (a0_4 : Int) (w : World) (hr0_0 : Kd.C (Kd.int .u8) w A0_0 l0_0.length l0_0) (hc0_0 : l0_0.length ≤ c0_0) (hr0_1 : Kd.C (Kd.int .u8) w A0_1 l0_1.length l0_1) (hc0_1 : l0_1.length ≤ c0_1) (hr0_2 : Kd.C (Kd.int .u8) w A0_2 l0_2.length l0_2) (hc0_2 : l0_2.length ≤ c0_2) (hr0_3 : Kd.C (Kd.int .u8) w A0_3 l0_3.length l0_3) (hc0_3 : l0_3.length ≤ c0_3) (h : pyxlaw06_SealTells.f k l0_0 l0_1 l0_2 l0_3 a0_4 = some true) :
    Calls Try.prog 3 #[.agg #[.slice A0_0 l0_0.length c0_0, .slice A0_1 l0_1.length c0_1, .slice A0_2 l0_2.length c0_2, .slice A0_3 l0_3.length c0_3, .int .i64 a0_4]] w fun e w' => e = .returned (.bool true) ∧ Below w.heap.size w w' := by
  have hu24 := Try.underlying24
  have HR0_0 := Aside0.mk hr0_0
  have HC0_0 := Aside0.mk hc0_0
  clear hr0_0 hc0_0
  have HR0_1 := Aside0.mk hr0_1
  have HC0_1 := Aside0.mk hc0_1
  clear hr0_1 hc0_1
  have HR0_2 := Aside0.mk hr0_2
  have HC0_2 := Aside0.mk hc0_2
  clear hr0_2 hc0_2
  have HR0_3 := Aside0.mk hr0_3
  have HC0_3 := Aside0.mk hc0_3
  clear hr0_3 hc0_3
  have HB := Aside0.mk (Below.refl w.heap.size w)
  have H : ((pyxlaw06_shown.f).bind fun t102 => (if (l0_0.length : Int) > 50 then (pyxlaw06_SealTells.j0 k l0_0 l0_1 l0_2 l0_3 a0_4 t102 true) else (if (l0_1.length : Int) > 50 then (pyxlaw06_SealTells.j0 k l0_0 l0_1 l0_2 l0_3 a0_4 t102 true) else (if (l0_2.length : Int) > 200 then (pyxlaw06_SealTells.j0 k l0_0 l0_1 l0_2 l0_3 a0_4 t102 true) else (pyxlaw06_SealTells.j0 k l0_0 l0_1 l0_2 l0_3 a0_4 t102 (decide ((l0_3.length : Int) > 200))))))) = some true := h
  clear h
  replace H := Option.bind_eq_some_iff.mp H
  obtain ⟨t102, A20, H⟩ := H
  replace H : (if (l0_0.length : Int) > 50 then (pyxlaw06_SealTells.j0 k l0_0 l0_1 l0_2 l0_3 a0_4 t102 true) else (if (l0_1.length : Int) > 50 then (pyxlaw06_SealTells.j0 k l0_0 l0_1 l0_2 l0_3 a0_4 t102 true) else (if (l0_2.length : Int) > 200 then (pyxlaw06_SealTells.j0 k l0_0 l0_1 l0_2 l0_3 a0_4 t102 true) else (pyxlaw06_SealTells.j0 k l0_0 l0_1 l0_2 l0_3 a0_4 t102 (decide ((l0_3.length : Int) > 200)))))) = some true := H
  have A2 := Aside0.mk A20
  clear A20
  have HC3 := Aside0.mk H
  clear H
  go_enter Try.func3, Try.ntmps3
  go_upto_region 7 with (first | ((with_reducible refine gate_dst (N := 1) rfl ?_); (try (refine gate_guard (by rfl) ?_; dsimp only)); refine box_event ?hg (N := 1) ?hd (cs := #[.slice A0_0 l0_0.length c0_0, .slice A0_1 l0_1.length c0_1, .slice A0_2 l0_2.length c0_2, .slice A0_3 l0_3.length c0_3, .int .i64 a0_4]) (t := 24) ?hr ?_; (case hd => rfl); (case hg => rfl); (case hr => first | (go_simp; done)); intro gb101 hg w4 hbox hb; have n0_ := Aside0.mk (below_step (by repeat ((with_reducible first | exact HB.out))) hb); have n1_ := Aside0.mk (hbox); have n2_ := Aside0.mk ((by rw [hg]; exact (below_size (by repeat ((with_reducible first | exact HB.out)))) : w.heap.size ≤ gb101)); have n3_ := Aside0.mk ((by rw [hg]; exact (below_size (by repeat ((with_reducible first | exact HB.out)))) : w.heap.size ≤ gb101)); clear HB; have HB := n0_; have BK101 := n1_; have GW101 := n2_; have GE101 := n3_; clear n0_ n1_ n2_ n3_; clear hb hbox hg; have hcz5_0 : w4.cell? ⟨gb101, 0, none⟩ = some (.slice A0_0 l0_0.length c0_0) := (blk_cell BK101.out 0).trans rfl; have hcz5_1 : w4.cell? ⟨gb101, 1, none⟩ = some (.slice A0_1 l0_1.length c0_1) := (blk_cell BK101.out 1).trans rfl; have hcz5_2 : w4.cell? ⟨gb101, 2, none⟩ = some (.slice A0_2 l0_2.length c0_2) := (blk_cell BK101.out 2).trans rfl; have hcz5_3 : w4.cell? ⟨gb101, 3, none⟩ = some (.slice A0_3 l0_3.length c0_3) := (blk_cell BK101.out 3).trans rfl; have hcz5_4 : w4.cell? ⟨gb101, 4, none⟩ = some (.int .i64 a0_4) := (blk_cell BK101.out 4).trans rfl; have hfz5_0 := blk_frozen BK101.out 0; have hfz5_1 := blk_frozen BK101.out 1; have hfz5_2 := blk_frozen BK101.out 2; have hfz5_3 := blk_frozen BK101.out 3; have hfz5_4 := blk_frozen BK101.out 4) | ((with_reducible refine gate_callee (f := 13) rfl ?_); refine goesL_ (some 37) rfl rfl Try.func13 (by kernel_rfl) rfl #[] rfl (by (try simp only [List.map_toArray, List.map_cons, List.map_nil]); first | done) ?_; (with_reducible refine (pyxlaw06_shown.calls  t102 _ A2.out).mono ?_); rintro e w6 ⟨rfl, hb⟩; refine ⟨_, rfl, ?_⟩; have n0_ := Aside0.mk (blk_below (g := gb101) (o := .cells #[.slice A0_0 l0_0.length c0_0, .slice A0_1 l0_1.length c0_1, .slice A0_2 l0_2.length c0_2, .slice A0_3 l0_3.length c0_3, .int .i64 a0_4] 24 (0, 0)) (by (with_reducible repeat (fail)); exact BK101.out) hb); have n1_ := Aside0.mk (below_step (by repeat ((with_reducible first | exact HB.out))) hb); clear BK101; clear HB; have BK101 := n0_; have HB := n1_; clear n0_ n1_; (try clear hb); (skip)))
  (skip)
  go_cut [55] (fun v55 wc => ∃ (kq : Nat) (x55_2 : Bool), v55 = .bool x55_2 ∧ Aside0 (pyxlaw06_SealTells.j0 kq l0_0 l0_1 l0_2 l0_3 a0_4 t102 x55_2 = some true) ∧ Aside0 (kq ≤ k) ∧ Aside0 (wc.heap[gb101]? = some (.cells #[(.slice A0_0 l0_0.length c0_0), (.slice A0_1 l0_1.length c0_1), (.slice A0_2 l0_2.length c0_2), (.slice A0_3 l0_3.length c0_3), .int .i64 a0_4] 24 (0, 0))) ∧ Aside0 (Below w.heap.size w wc))
  case first =>
    have H := HC3.out
    clear HC3
    by_cases c7 : (l0_0.length : Int) > 50
    · rw [if_pos c7] at H
      have c7b0 : decide (50 < (l0_0.length : Int)) = true := decide_eq_true c7
      have c7b1 : decide (50 < l0_0.length) = true := decide_eq_true (by omega)
      clear c7
      (skip)
      have H' := Aside0.mk H
      clear H
      go_wp2
      go_meet
      case rel => exact ⟨_, (true), (by first | rfl), H', ⟨by first | omega⟩, ⟨by (with_reducible repeat (fail)); exact BK101.out⟩, ⟨by repeat ((with_reducible first | exact HB.out))⟩⟩
    rw [if_neg c7] at H
    have c7b0 : decide (50 < (l0_0.length : Int)) = false := decide_eq_false c7
    have c7b1 : decide (50 < l0_0.length) = false := decide_eq_false (by omega)
    clear c7
    (skip)
    by_cases c8 : (l0_1.length : Int) > 50
    · rw [if_pos c8] at H
      have c8b0 : decide (50 < (l0_1.length : Int)) = true := decide_eq_true c8
      have c8b1 : decide (50 < l0_1.length) = true := decide_eq_true (by omega)
      clear c8
      have H' := Aside0.mk H
      clear H
      go_wp2
      go_meet
      case rel => exact ⟨_, (true), (by first | rfl), H', ⟨by first | omega⟩, ⟨by (with_reducible repeat (fail)); exact BK101.out⟩, ⟨by repeat ((with_reducible first | exact HB.out))⟩⟩
    rw [if_neg c8] at H
    have c8b0 : decide (50 < (l0_1.length : Int)) = false := decide_eq_false c8
    have c8b1 : decide (50 < l0_1.length) = false := decide_eq_false (by omega)
    clear c8
    by_cases c9 : (l0_2.length : Int) > 200
    · rw [if_pos c9] at H
      have c9b0 : decide (200 < (l0_2.length : Int)) = true := decide_eq_true c9
      have c9b1 : decide (200 < l0_2.length) = true := decide_eq_true (by omega)
      clear c9
      have H' := Aside0.mk H
      clear H
      go_wp2
      go_meet
      case rel => exact ⟨_, (true), (by first | rfl), H', ⟨by first | omega⟩, ⟨by (with_reducible repeat (fail)); exact BK101.out⟩, ⟨by repeat ((with_reducible first | exact HB.out))⟩⟩
    rw [if_neg c9] at H
    have c9b0 : decide (200 < (l0_2.length : Int)) = false := decide_eq_false c9
    have c9b1 : decide (200 < l0_2.length) = false := decide_eq_false (by omega)
    clear c9
    have H' := Aside0.mk H
    clear H
    go_wp2
    go_meet
    case rel => exact ⟨_, (decide ((l0_3.length : Int) > 200)), (by first | rfl), H', ⟨by first | omega⟩, ⟨by (with_reducible repeat (fail)); exact BK101.out⟩, ⟨by repeat ((with_reducible first | exact HB.out))⟩⟩
  clear HC3
  skip
  skip
  skip
  skip
  skip
  skip
  skip
  skip
  skip
  skip
  skip
  skip
  try clear hcz5_0
  try clear hcz5_1
  try clear hcz5_2
  try clear hcz5_3
  try clear hcz5_4
  try clear hfz5_0
  try clear hfz5_1
  try clear hfz5_2
  try clear hfz5_3
  try clear hfz5_4
  obtain ⟨kq, x55_2, rfl, HA, HJ2, BK101, HB⟩ := hcut
  cases kq with
  | zero => exact absurd HA.out (by simp [pyxlaw06_SealTells.j0])
  | succ kj2 =>
    have H := HA.out
    clear HA
    simp only [pyxlaw06_SealTells.j0] at H
    by_cases c10 : x55_2 = true
    · subst c10
      have H1 : (some t102) = some true := by rw [if_pos rfl] at H; exact H
      clear H
      have H := H1
      clear H1
      have HT_ := Option.some.inj H
      go_wp2
      go_ret
      exact ⟨by first | (simp [*, errW_none, errW_some] <;> rfl), by repeat ((with_reducible first | exact HB.out))⟩
    replace c10 := Bool.eq_false_iff.mpr c10
    subst c10
    have H1 : ((seal_Halves.f l0_0).bind fun bt103 => ((pyxref06_Halves.f l0_0).bind fun bt110 => ((seal_Seal.f l0_0 l0_1 l0_2 l0_3).bind fun bt117 => ((pyxref06_Seal.f l0_0 l0_1 l0_2 l0_3).bind fun bt121 => ((pyxref01_Same.f bt103.1 bt110.1).bind fun t125 => (if t125 = true then ((pyxref01_Same.f bt103.2.1 bt110.2.1).bind fun t126 => (if t126 = true then (if bt103.2.2 = bt110.2.2 then ((pyxref01_Same.f bt117.1 bt121.1).bind fun t127 => (if t127 = true then (pyxlaw06_SealTells.j1 kj2 l0_0 l0_1 l0_2 l0_3 a0_4 t102 (bt117.2 != bt121.2)) else (pyxlaw06_SealTells.j1 kj2 l0_0 l0_1 l0_2 l0_3 a0_4 t102 true))) else (pyxlaw06_SealTells.j1 kj2 l0_0 l0_1 l0_2 l0_3 a0_4 t102 true)) else (pyxlaw06_SealTells.j1 kj2 l0_0 l0_1 l0_2 l0_3 a0_4 t102 true))) else (pyxlaw06_SealTells.j1 kj2 l0_0 l0_1 l0_2 l0_3 a0_4 t102 true))))))) = some true := by rw [if_neg (show ¬ (false = true) by decide)] at H; exact H
    clear H
    have H := H1
    clear H1
    replace H := Option.bind_eq_some_iff.mp H
    obtain ⟨⟨t103, t104, t105⟩, A110, H⟩ := H
    replace H : ((pyxref06_Halves.f l0_0).bind fun bt110 => ((seal_Seal.f l0_0 l0_1 l0_2 l0_3).bind fun bt117 => ((pyxref06_Seal.f l0_0 l0_1 l0_2 l0_3).bind fun bt121 => ((pyxref01_Same.f t103 bt110.1).bind fun t125 => (if t125 = true then ((pyxref01_Same.f t104 bt110.2.1).bind fun t126 => (if t126 = true then (if t105 = bt110.2.2 then ((pyxref01_Same.f bt117.1 bt121.1).bind fun t127 => (if t127 = true then (pyxlaw06_SealTells.j1 kj2 l0_0 l0_1 l0_2 l0_3 a0_4 t102 (bt117.2 != bt121.2)) else (pyxlaw06_SealTells.j1 kj2 l0_0 l0_1 l0_2 l0_3 a0_4 t102 true))) else (pyxlaw06_SealTells.j1 kj2 l0_0 l0_1 l0_2 l0_3 a0_4 t102 true)) else (pyxlaw06_SealTells.j1 kj2 l0_0 l0_1 l0_2 l0_3 a0_4 t102 true))) else (pyxlaw06_SealTells.j1 kj2 l0_0 l0_1 l0_2 l0_3 a0_4 t102 true)))))) = some true := H
    have A11 := Aside0.mk A110
    clear A110
    replace H := Option.bind_eq_some_iff.mp H
    obtain ⟨⟨t110, t111, t112⟩, A120, H⟩ := H
    replace H : ((seal_Seal.f l0_0 l0_1 l0_2 l0_3).bind fun bt117 => ((pyxref06_Seal.f l0_0 l0_1 l0_2 l0_3).bind fun bt121 => ((pyxref01_Same.f t103 t110).bind fun t125 => (if t125 = true then ((pyxref01_Same.f t104 t111).bind fun t126 => (if t126 = true then (if t105 = t112 then ((pyxref01_Same.f bt117.1 bt121.1).bind fun t127 => (if t127 = true then (pyxlaw06_SealTells.j1 kj2 l0_0 l0_1 l0_2 l0_3 a0_4 t102 (bt117.2 != bt121.2)) else (pyxlaw06_SealTells.j1 kj2 l0_0 l0_1 l0_2 l0_3 a0_4 t102 true))) else (pyxlaw06_SealTells.j1 kj2 l0_0 l0_1 l0_2 l0_3 a0_4 t102 true)) else (pyxlaw06_SealTells.j1 kj2 l0_0 l0_1 l0_2 l0_3 a0_4 t102 true))) else (pyxlaw06_SealTells.j1 kj2 l0_0 l0_1 l0_2 l0_3 a0_4 t102 true))))) = some true := H
    have A12 := Aside0.mk A120
    clear A120
    replace H := Option.bind_eq_some_iff.mp H
    obtain ⟨⟨t117, t118⟩, A130, H⟩ := H
    replace H : ((pyxref06_Seal.f l0_0 l0_1 l0_2 l0_3).bind fun bt121 => ((pyxref01_Same.f t103 t110).bind fun t125 => (if t125 = true then ((pyxref01_Same.f t104 t111).bind fun t126 => (if t126 = true then (if t105 = t112 then ((pyxref01_Same.f t117 bt121.1).bind fun t127 => (if t127 = true then (pyxlaw06_SealTells.j1 kj2 l0_0 l0_1 l0_2 l0_3 a0_4 t102 (t118 != bt121.2)) else (pyxlaw06_SealTells.j1 kj2 l0_0 l0_1 l0_2 l0_3 a0_4 t102 true))) else (pyxlaw06_SealTells.j1 kj2 l0_0 l0_1 l0_2 l0_3 a0_4 t102 true)) else (pyxlaw06_SealTells.j1 kj2 l0_0 l0_1 l0_2 l0_3 a0_4 t102 true))) else (pyxlaw06_SealTells.j1 kj2 l0_0 l0_1 l0_2 l0_3 a0_4 t102 true)))) = some true := H
    have A13 := Aside0.mk A130
    clear A130
    replace H := Option.bind_eq_some_iff.mp H
    obtain ⟨⟨t121, t122⟩, A140, H⟩ := H
    replace H : ((pyxref01_Same.f t103 t110).bind fun t125 => (if t125 = true then ((pyxref01_Same.f t104 t111).bind fun t126 => (if t126 = true then (if t105 = t112 then ((pyxref01_Same.f t117 t121).bind fun t127 => (if t127 = true then (pyxlaw06_SealTells.j1 kj2 l0_0 l0_1 l0_2 l0_3 a0_4 t102 (t118 != t122)) else (pyxlaw06_SealTells.j1 kj2 l0_0 l0_1 l0_2 l0_3 a0_4 t102 true))) else (pyxlaw06_SealTells.j1 kj2 l0_0 l0_1 l0_2 l0_3 a0_4 t102 true)) else (pyxlaw06_SealTells.j1 kj2 l0_0 l0_1 l0_2 l0_3 a0_4 t102 true))) else (pyxlaw06_SealTells.j1 kj2 l0_0 l0_1 l0_2 l0_3 a0_4 t102 true))) = some true := H
    have A14 := Aside0.mk A140
    clear A140
    have HC15 := Aside0.mk H
    clear H
    go_upto_region 13 with (first | ((with_reducible refine gate_callee (f := 14) rfl ?_); refine goesL_ (some 59) rfl rfl Try.func14 (by kernel_rfl) rfl #[.slice A0_0 l0_0.length c0_0] rfl (by (try simp only [List.map_toArray, List.map_cons, List.map_nil]); first | rfl) ?_; (with_reducible refine (seal_Halves.calls _ _ l0_0 t103 t104 t105 _ ?side1 ?side2 A11.out).mono ?_); (case side1 => repeat (exact (Kd.C_below HR0_0.out HB.out))); (case side2 => exact HC0_0.out); rintro e w16 ⟨v106, v108, rfl, ho0, ho1, hb⟩; refine ⟨_, rfl, ?_⟩; have n0_ := Aside0.mk (Kd.R_lower ho0 (below_size (by repeat ((with_reducible first | exact HB.out))))); have n1_ := Aside0.mk (Kd.R_lower ho1 (below_size (by repeat ((with_reducible first | exact HB.out))))); have n2_ := Aside0.mk (blk_below (g := gb101) (o := .cells #[.slice A0_0 l0_0.length c0_0, .slice A0_1 l0_1.length c0_1, .slice A0_2 l0_2.length c0_2, .slice A0_3 l0_3.length c0_3, .int .i64 a0_4] 24 (0, 0)) (by (with_reducible repeat (fail)); exact BK101.out) hb); have n3_ := Aside0.mk (below_step (by repeat ((with_reducible first | exact HB.out))) hb); clear BK101; clear HB; have HO107 := n0_; have HO109 := n1_; have BK101 := n2_; have HB := n3_; clear n0_ n1_ n2_ n3_; (try clear hb); (try clear ho0); (try clear ho1)) | ((with_reducible refine gate_callee (f := 15) rfl ?_); refine goesL_ (some 65) rfl rfl Try.func15 (by kernel_rfl) rfl #[.slice A0_0 l0_0.length c0_0] rfl (by (try simp only [List.map_toArray, List.map_cons, List.map_nil]); first | rfl) ?_; (with_reducible refine (pyxref06_Halves.calls _ _ l0_0 t110 t111 t112 _ ?side1 ?side2 A12.out).mono ?_); (case side1 => repeat (exact (Kd.C_below HR0_0.out HB.out))); (case side2 => exact HC0_0.out); rintro e w17 ⟨v113, v115, rfl, ho0, ho1, hb⟩; refine ⟨_, rfl, ?_⟩; have n0_ := Aside0.mk (Kd.R_mono (Kd.R_told (Kd.R_told (Kd.R_old (by (with_reducible repeat (fail)); exact HO107.out) hb) (Kd.R_base ho0)) (Kd.R_base ho1)) (fun _ h_ => h_.1)); have n1_ := Aside0.mk (Kd.R_mono (Kd.R_told (Kd.R_told (Kd.R_old (by (with_reducible repeat (fail)); exact HO109.out) hb) (Kd.R_base ho0)) (Kd.R_base ho1)) (fun _ h_ => h_.1)); have n2_ := Aside0.mk (Kd.R_lower (Kd.R_new' (Kd.R_new' ho0 (Kd.R_lt (by (with_reducible repeat (fail)); exact HO107.out))) (Kd.R_lt (by (with_reducible repeat (fail)); exact HO109.out))) (below_size (by repeat ((with_reducible first | exact HB.out))))); have n3_ := Aside0.mk (Kd.R_lower (Kd.R_new' (Kd.R_new' ho1 (Kd.R_lt (by (with_reducible repeat (fail)); exact HO107.out))) (Kd.R_lt (by (with_reducible repeat (fail)); exact HO109.out))) (below_size (by repeat ((with_reducible first | exact HB.out))))); have n4_ := Aside0.mk (blk_below (g := gb101) (o := .cells #[.slice A0_0 l0_0.length c0_0, .slice A0_1 l0_1.length c0_1, .slice A0_2 l0_2.length c0_2, .slice A0_3 l0_3.length c0_3, .int .i64 a0_4] 24 (0, 0)) (by (with_reducible repeat (fail)); exact BK101.out) hb); have n5_ := Aside0.mk (below_step (by repeat ((with_reducible first | exact HB.out))) hb); clear HO107; clear HO109; clear BK101; clear HB; have HO107 := n0_; have HO109 := n1_; have HO114 := n2_; have HO116 := n3_; have BK101 := n4_; have HB := n5_; clear n0_ n1_ n2_ n3_ n4_ n5_; (try clear hb); (try clear ho0); (try clear ho1)) | ((with_reducible refine gate_callee (f := 16) rfl ?_); refine goesL_ (some 74) rfl rfl Try.func16 (by kernel_rfl) rfl #[.slice A0_0 l0_0.length c0_0, .slice A0_1 l0_1.length c0_1, .slice A0_2 l0_2.length c0_2, .slice A0_3 l0_3.length c0_3] rfl (by (try simp only [List.map_toArray, List.map_cons, List.map_nil]); first | rfl) ?_; (with_reducible refine (seal_Seal.calls _ _ l0_0 _ _ l0_1 _ _ l0_2 _ _ l0_3 t117 t118 _ ?side1 ?side2 ?side3 ?side4 ?side5 ?side6 ?side7 ?side8 A13.out).mono ?_); (case side1 => repeat (exact (Kd.C_below HR0_0.out HB.out))); (case side2 => exact HC0_0.out); (case side3 => repeat (exact (Kd.C_below HR0_1.out HB.out))); (case side4 => exact HC0_1.out); (case side5 => repeat (exact (Kd.C_below HR0_2.out HB.out))); (case side6 => exact HC0_2.out); (case side7 => repeat (exact (Kd.C_below HR0_3.out HB.out))); (case side8 => exact HC0_3.out); rintro e w18 ⟨v119, rfl, ho0, hb⟩; refine ⟨_, rfl, ?_⟩; have n0_ := Aside0.mk (Kd.R_elder' (by (with_reducible repeat (fail)); exact HO107.out) (Kd.R_base ho0) hb); have n1_ := Aside0.mk (Kd.R_elder' (by (with_reducible repeat (fail)); exact HO109.out) (Kd.R_base ho0) hb); have n2_ := Aside0.mk (Kd.R_elder' (by (with_reducible repeat (fail)); exact HO114.out) (Kd.R_base ho0) hb); have n3_ := Aside0.mk (Kd.R_elder' (by (with_reducible repeat (fail)); exact HO116.out) (Kd.R_base ho0) hb); have n4_ := Aside0.mk (Kd.R_lower (Kd.R_new' (Kd.R_new' (Kd.R_new' (Kd.R_new' ho0 (Kd.R_lt (by (with_reducible repeat (fail)); exact HO107.out))) (Kd.R_lt (by (with_reducible repeat (fail)); exact HO109.out))) (Kd.R_lt (by (with_reducible repeat (fail)); exact HO114.out))) (Kd.R_lt (by (with_reducible repeat (fail)); exact HO116.out))) (below_size (by repeat ((with_reducible first | exact HB.out))))); have n5_ := Aside0.mk (blk_below (g := gb101) (o := .cells #[.slice A0_0 l0_0.length c0_0, .slice A0_1 l0_1.length c0_1, .slice A0_2 l0_2.length c0_2, .slice A0_3 l0_3.length c0_3, .int .i64 a0_4] 24 (0, 0)) (by (with_reducible repeat (fail)); exact BK101.out) hb); have n6_ := Aside0.mk (below_step (by repeat ((with_reducible first | exact HB.out))) hb); clear HO107; clear HO109; clear HO114; clear HO116; clear BK101; clear HB; have HO107 := n0_; have HO109 := n1_; have HO114 := n2_; have HO116 := n3_; have HO120 := n4_; have BK101 := n5_; have HB := n6_; clear n0_ n1_ n2_ n3_ n4_ n5_ n6_; (try clear hb); (try clear ho0)) | ((with_reducible refine gate_callee (f := 17) rfl ?_); refine goesL_ (some 82) rfl rfl Try.func17 (by kernel_rfl) rfl #[.slice A0_0 l0_0.length c0_0, .slice A0_1 l0_1.length c0_1, .slice A0_2 l0_2.length c0_2, .slice A0_3 l0_3.length c0_3] rfl (by (try simp only [List.map_toArray, List.map_cons, List.map_nil]); first | rfl) ?_; (with_reducible refine (pyxref06_Seal.calls _ _ l0_0 _ _ l0_1 _ _ l0_2 _ _ l0_3 t121 t122 _ ?side1 ?side2 ?side3 ?side4 ?side5 ?side6 ?side7 ?side8 A14.out).mono ?_); (case side1 => repeat (exact (Kd.C_below HR0_0.out HB.out))); (case side2 => exact HC0_0.out); (case side3 => repeat (exact (Kd.C_below HR0_1.out HB.out))); (case side4 => exact HC0_1.out); (case side5 => repeat (exact (Kd.C_below HR0_2.out HB.out))); (case side6 => exact HC0_2.out); (case side7 => repeat (exact (Kd.C_below HR0_3.out HB.out))); (case side8 => exact HC0_3.out); rintro e w19 ⟨v123, rfl, ho0, hb⟩; refine ⟨_, rfl, ?_⟩; have n0_ := Aside0.mk (Kd.R_elder' (by (with_reducible repeat (fail)); exact HO107.out) (Kd.R_base ho0) hb); have n1_ := Aside0.mk (Kd.R_elder' (by (with_reducible repeat (fail)); exact HO109.out) (Kd.R_base ho0) hb); have n2_ := Aside0.mk (Kd.R_elder' (by (with_reducible repeat (fail)); exact HO114.out) (Kd.R_base ho0) hb); have n3_ := Aside0.mk (Kd.R_elder' (by (with_reducible repeat (fail)); exact HO116.out) (Kd.R_base ho0) hb); have n4_ := Aside0.mk (Kd.R_elder' (by (with_reducible repeat (fail)); exact HO120.out) (Kd.R_base ho0) hb); have n5_ := Aside0.mk (Kd.R_lower (Kd.R_new' (Kd.R_new' (Kd.R_new' (Kd.R_new' (Kd.R_new' ho0 (Kd.R_lt (by (with_reducible repeat (fail)); exact HO107.out))) (Kd.R_lt (by (with_reducible repeat (fail)); exact HO109.out))) (Kd.R_lt (by (with_reducible repeat (fail)); exact HO114.out))) (Kd.R_lt (by (with_reducible repeat (fail)); exact HO116.out))) (Kd.R_lt (by (with_reducible repeat (fail)); exact HO120.out))) (below_size (by repeat ((with_reducible first | exact HB.out))))); have n6_ := Aside0.mk (blk_below (g := gb101) (o := .cells #[.slice A0_0 l0_0.length c0_0, .slice A0_1 l0_1.length c0_1, .slice A0_2 l0_2.length c0_2, .slice A0_3 l0_3.length c0_3, .int .i64 a0_4] 24 (0, 0)) (by (with_reducible repeat (fail)); exact BK101.out) hb); have n7_ := Aside0.mk (below_step (by repeat ((with_reducible first | exact HB.out))) hb); clear HO107; clear HO109; clear HO114; clear HO116; clear HO120; clear BK101; clear HB; have HO107 := n0_; have HO109 := n1_; have HO114 := n2_; have HO116 := n3_; have HO120 := n4_; have HO124 := n5_; have BK101 := n6_; have HB := n7_; clear n0_ n1_ n2_ n3_ n4_ n5_ n6_ n7_; (try clear hb); (try clear ho0)))
    (skip)
    go_cut [110] (fun v110 wc => ∃ (kq : Nat) (x110_14 : Bool), v110 = .bool x110_14 ∧ Aside0 (pyxlaw06_SealTells.j1 kq l0_0 l0_1 l0_2 l0_3 a0_4 t102 x110_14 = some true) ∧ Aside0 (kq ≤ kj2) ∧ Aside0 (wc.heap[gb101]? = some (.cells #[(.slice A0_0 l0_0.length c0_0), (.slice A0_1 l0_1.length c0_1), (.slice A0_2 l0_2.length c0_2), (.slice A0_3 l0_3.length c0_3), .int .i64 a0_4] 24 (0, 0))) ∧ Aside0 (Below w.heap.size w wc))
    case first =>
      have H := HC15.out
      clear HC15
      replace H := Option.bind_eq_some_iff.mp H
      obtain ⟨t125, A200, H⟩ := H
      replace H : (if t125 = true then ((pyxref01_Same.f t104 t111).bind fun t126 => (if t126 = true then (if t105 = t112 then ((pyxref01_Same.f t117 t121).bind fun t127 => (if t127 = true then (pyxlaw06_SealTells.j1 kj2 l0_0 l0_1 l0_2 l0_3 a0_4 t102 (t118 != t122)) else (pyxlaw06_SealTells.j1 kj2 l0_0 l0_1 l0_2 l0_3 a0_4 t102 true))) else (pyxlaw06_SealTells.j1 kj2 l0_0 l0_1 l0_2 l0_3 a0_4 t102 true)) else (pyxlaw06_SealTells.j1 kj2 l0_0 l0_1 l0_2 l0_3 a0_4 t102 true))) else (pyxlaw06_SealTells.j1 kj2 l0_0 l0_1 l0_2 l0_3 a0_4 t102 true)) = some true := H
      have A20 := Aside0.mk A200
      clear A200
      by_cases c21 : t125 = true
      rotate_left
      · replace c21 := Bool.eq_false_iff.mpr c21
        subst c21
        have H1 : (pyxlaw06_SealTells.j1 kj2 l0_0 l0_1 l0_2 l0_3 a0_4 t102 true) = some true := by rw [if_neg (show ¬ (false = true) by decide)] at H; exact H
        clear H
        have H := H1
        clear H1
        have H' := Aside0.mk H
        clear H
        obtain ⟨Ao47, co47, eo47⟩ := Kd.R_slice HO107.out
        subst eo47
        obtain ⟨Ao48, co48, eo48⟩ := Kd.R_slice HO114.out
        subst eo48
        go_wp2_with (first | ((with_reducible refine gate_callee (f := 18) rfl ?_); refine goesL_ (some 87) rfl rfl Try.func18 (by kernel_rfl) rfl #[.slice Ao47 t103.length co47, .slice Ao48 t110.length co48] rfl (by (try simp only [List.map_toArray, List.map_cons, List.map_nil]); first | rfl) ?_; (with_reducible refine (pyxref01_Same.calls _ _ t103 _ _ t110 false _ ?side1 ?side2 ?side3 ?side4 A20.out).mono ?_); (case side1 => repeat (exact (Kd.R_reads' HO107.out).2.2)); (case side2 => exact (Kd.R_reads' HO107.out).2.1); (case side3 => repeat (exact (Kd.R_reads' HO114.out).2.2)); (case side4 => exact (Kd.R_reads' HO114.out).2.1); rintro e w' ⟨rfl, ⟨nd, rfl⟩⟩; refine ⟨_, rfl, ?_⟩))
        go_meet
        case rel => exact ⟨_, (true), (by first | rfl), H', ⟨by have := HJ2.out; first | omega⟩, ⟨by (with_reducible repeat (refine blk_drewN ?_ _)); exact BK101.out⟩, ⟨by repeat ((with_reducible first | exact HB.out | apply pw_below_drewN))⟩⟩
      subst c21
      have H1 : ((pyxref01_Same.f t104 t111).bind fun t126 => (if t126 = true then (if t105 = t112 then ((pyxref01_Same.f t117 t121).bind fun t127 => (if t127 = true then (pyxlaw06_SealTells.j1 kj2 l0_0 l0_1 l0_2 l0_3 a0_4 t102 (t118 != t122)) else (pyxlaw06_SealTells.j1 kj2 l0_0 l0_1 l0_2 l0_3 a0_4 t102 true))) else (pyxlaw06_SealTells.j1 kj2 l0_0 l0_1 l0_2 l0_3 a0_4 t102 true)) else (pyxlaw06_SealTells.j1 kj2 l0_0 l0_1 l0_2 l0_3 a0_4 t102 true))) = some true := by rw [if_pos rfl] at H; exact H
      clear H
      have H := H1
      clear H1
      replace H := Option.bind_eq_some_iff.mp H
      obtain ⟨t126, A220, H⟩ := H
      replace H : (if t126 = true then (if t105 = t112 then ((pyxref01_Same.f t117 t121).bind fun t127 => (if t127 = true then (pyxlaw06_SealTells.j1 kj2 l0_0 l0_1 l0_2 l0_3 a0_4 t102 (t118 != t122)) else (pyxlaw06_SealTells.j1 kj2 l0_0 l0_1 l0_2 l0_3 a0_4 t102 true))) else (pyxlaw06_SealTells.j1 kj2 l0_0 l0_1 l0_2 l0_3 a0_4 t102 true)) else (pyxlaw06_SealTells.j1 kj2 l0_0 l0_1 l0_2 l0_3 a0_4 t102 true)) = some true := H
      have A22 := Aside0.mk A220
      clear A220
      by_cases c23 : t126 = true
      rotate_left
      · replace c23 := Bool.eq_false_iff.mpr c23
        subst c23
        have H1 : (pyxlaw06_SealTells.j1 kj2 l0_0 l0_1 l0_2 l0_3 a0_4 t102 true) = some true := by rw [if_neg (show ¬ (false = true) by decide)] at H; exact H
        clear H
        have H := H1
        clear H1
        have H' := Aside0.mk H
        clear H
        obtain ⟨Ao43, co43, eo43⟩ := Kd.R_slice HO107.out
        subst eo43
        obtain ⟨Ao44, co44, eo44⟩ := Kd.R_slice HO114.out
        subst eo44
        go_wp2_with (first | ((with_reducible refine gate_callee (f := 18) rfl ?_); refine goesL_ (some 87) rfl rfl Try.func18 (by kernel_rfl) rfl #[.slice Ao43 t103.length co43, .slice Ao44 t110.length co44] rfl (by (try simp only [List.map_toArray, List.map_cons, List.map_nil]); first | rfl) ?_; (with_reducible refine (pyxref01_Same.calls _ _ t103 _ _ t110 true _ ?side1 ?side2 ?side3 ?side4 A20.out).mono ?_); (case side1 => repeat (exact (Kd.R_reads' HO107.out).2.2)); (case side2 => exact (Kd.R_reads' HO107.out).2.1); (case side3 => repeat (exact (Kd.R_reads' HO114.out).2.2)); (case side4 => exact (Kd.R_reads' HO114.out).2.1); rintro e w' ⟨rfl, ⟨nd, rfl⟩⟩; refine ⟨_, rfl, ?_⟩; obtain ⟨Ao45, co45, eo45⟩ := Kd.R_slice HO109.out; subst eo45; obtain ⟨Ao46, co46, eo46⟩ := Kd.R_slice HO116.out; subst eo46) | (go_at_call 18; (with_reducible refine (pyxref01_Same.calls _ _ t104 _ _ t111 false _ ?side1 ?side2 ?side3 ?side4 A22.out).mono ?_); (case side1 => repeat (exact (Kd.R_reads' HO109.out).2.2)); (case side2 => exact (Kd.R_reads' HO109.out).2.1); (case side3 => repeat (exact (Kd.R_reads' HO116.out).2.2)); (case side4 => exact (Kd.R_reads' HO116.out).2.1); rintro e w' ⟨rfl, ⟨nd, rfl⟩⟩))
        go_meet
        case rel => exact ⟨_, (true), (by first | rfl), H', ⟨by have := HJ2.out; first | omega⟩, ⟨by (with_reducible repeat (refine blk_drewN ?_ _)); exact BK101.out⟩, ⟨by repeat ((with_reducible first | exact HB.out | apply pw_below_drewN))⟩⟩
      subst c23
      have H1 : (if t105 = t112 then ((pyxref01_Same.f t117 t121).bind fun t127 => (if t127 = true then (pyxlaw06_SealTells.j1 kj2 l0_0 l0_1 l0_2 l0_3 a0_4 t102 (t118 != t122)) else (pyxlaw06_SealTells.j1 kj2 l0_0 l0_1 l0_2 l0_3 a0_4 t102 true))) else (pyxlaw06_SealTells.j1 kj2 l0_0 l0_1 l0_2 l0_3 a0_4 t102 true)) = some true := by rw [if_pos rfl] at H; exact H
      clear H
      have H := H1
      clear H1
      by_cases c24 : t105 = t112
      rotate_left
      · rw [if_neg c24] at H
        have c24b0 : (t105 == t112) = false := beq_eq_false_iff_ne.mpr c24
        have c24b1 : (t105 != t112) = true := bne_iff_ne.mpr c24
        (skip)
        have H' := Aside0.mk H
        clear H
        obtain ⟨Ao39, co39, eo39⟩ := Kd.R_slice HO107.out
        subst eo39
        obtain ⟨Ao40, co40, eo40⟩ := Kd.R_slice HO114.out
        subst eo40
        go_wp2_with (first | ((with_reducible refine gate_callee (f := 18) rfl ?_); refine goesL_ (some 87) rfl rfl Try.func18 (by kernel_rfl) rfl #[.slice Ao39 t103.length co39, .slice Ao40 t110.length co40] rfl (by (try simp only [List.map_toArray, List.map_cons, List.map_nil]); first | rfl) ?_; (with_reducible refine (pyxref01_Same.calls _ _ t103 _ _ t110 true _ ?side1 ?side2 ?side3 ?side4 A20.out).mono ?_); (case side1 => repeat (exact (Kd.R_reads' HO107.out).2.2)); (case side2 => exact (Kd.R_reads' HO107.out).2.1); (case side3 => repeat (exact (Kd.R_reads' HO114.out).2.2)); (case side4 => exact (Kd.R_reads' HO114.out).2.1); rintro e w' ⟨rfl, ⟨nd, rfl⟩⟩; refine ⟨_, rfl, ?_⟩; obtain ⟨Ao41, co41, eo41⟩ := Kd.R_slice HO109.out; subst eo41; obtain ⟨Ao42, co42, eo42⟩ := Kd.R_slice HO116.out; subst eo42) | (go_at_call 18; (with_reducible refine (pyxref01_Same.calls _ _ t104 _ _ t111 true _ ?side1 ?side2 ?side3 ?side4 A22.out).mono ?_); (case side1 => repeat (exact (Kd.R_reads' HO109.out).2.2)); (case side2 => exact (Kd.R_reads' HO109.out).2.1); (case side3 => repeat (exact (Kd.R_reads' HO116.out).2.2)); (case side4 => exact (Kd.R_reads' HO116.out).2.1); rintro e w' ⟨rfl, ⟨nd, rfl⟩⟩))
        go_meet
        case rel => exact ⟨_, (true), (by first | rfl), H', ⟨by have := HJ2.out; first | omega⟩, ⟨by (with_reducible repeat (refine blk_drewN ?_ _)); exact BK101.out⟩, ⟨by repeat ((with_reducible first | exact HB.out | apply pw_below_drewN))⟩⟩
      rw [if_pos c24] at H
      have c24b0 : (t105 == t112) = true := beq_iff_eq.mpr c24
      have c24b1 : (t105 != t112) = false := bne_eq_false_iff_eq.mpr c24
      clear c24
      (skip)
      replace H := Option.bind_eq_some_iff.mp H
      obtain ⟨t127, A250, H⟩ := H
      replace H : (if t127 = true then (pyxlaw06_SealTells.j1 kj2 l0_0 l0_1 l0_2 l0_3 a0_4 t102 (t118 != t122)) else (pyxlaw06_SealTells.j1 kj2 l0_0 l0_1 l0_2 l0_3 a0_4 t102 true)) = some true := H
      have A25 := Aside0.mk A250
      clear A250
      by_cases c26 : t127 = true
      · subst c26
        have H1 : (pyxlaw06_SealTells.j1 kj2 l0_0 l0_1 l0_2 l0_3 a0_4 t102 (t118 != t122)) = some true := by rw [if_pos rfl] at H; exact H
        clear H
        have H := H1
        clear H1
        have H' := Aside0.mk H
        clear H
        obtain ⟨Ao27, co27, eo27⟩ := Kd.R_slice HO107.out
        subst eo27
        obtain ⟨Ao28, co28, eo28⟩ := Kd.R_slice HO114.out
        subst eo28
        go_wp2_with (first | ((with_reducible refine gate_callee (f := 18) rfl ?_); refine goesL_ (some 87) rfl rfl Try.func18 (by kernel_rfl) rfl #[.slice Ao27 t103.length co27, .slice Ao28 t110.length co28] rfl (by (try simp only [List.map_toArray, List.map_cons, List.map_nil]); first | rfl) ?_; (with_reducible refine (pyxref01_Same.calls _ _ t103 _ _ t110 true _ ?side1 ?side2 ?side3 ?side4 A20.out).mono ?_); (case side1 => repeat (exact (Kd.R_reads' HO107.out).2.2)); (case side2 => exact (Kd.R_reads' HO107.out).2.1); (case side3 => repeat (exact (Kd.R_reads' HO114.out).2.2)); (case side4 => exact (Kd.R_reads' HO114.out).2.1); rintro e w' ⟨rfl, ⟨nd, rfl⟩⟩; refine ⟨_, rfl, ?_⟩; obtain ⟨Ao29, co29, eo29⟩ := Kd.R_slice HO109.out; subst eo29; obtain ⟨Ao30, co30, eo30⟩ := Kd.R_slice HO116.out; subst eo30) | (go_at_call 18; (with_reducible refine (pyxref01_Same.calls _ _ t104 _ _ t111 true _ ?side1 ?side2 ?side3 ?side4 A22.out).mono ?_); (case side1 => repeat (exact (Kd.R_reads' HO109.out).2.2)); (case side2 => exact (Kd.R_reads' HO109.out).2.1); (case side3 => repeat (exact (Kd.R_reads' HO116.out).2.2)); (case side4 => exact (Kd.R_reads' HO116.out).2.1); rintro e w' ⟨rfl, ⟨nd, rfl⟩⟩; obtain ⟨Ao31, co31, eo31⟩ := Kd.R_slice HO120.out; subst eo31; obtain ⟨Ao32, co32, eo32⟩ := Kd.R_slice HO124.out; subst eo32) | (go_at_call 18; (with_reducible refine (pyxref01_Same.calls _ _ t117 _ _ t121 true _ ?side1 ?side2 ?side3 ?side4 A25.out).mono ?_); (case side1 => repeat (exact (Kd.R_reads' HO120.out).2.2)); (case side2 => exact (Kd.R_reads' HO120.out).2.1); (case side3 => repeat (exact (Kd.R_reads' HO124.out).2.2)); (case side4 => exact (Kd.R_reads' HO124.out).2.1); rintro e w' ⟨rfl, ⟨nd, rfl⟩⟩))
        go_meet
        case rel => exact ⟨_, ((t118 != t122)), (by first | rfl), H', ⟨by have := HJ2.out; first | omega⟩, ⟨by (with_reducible repeat (refine blk_drewN ?_ _)); exact BK101.out⟩, ⟨by repeat ((with_reducible first | exact HB.out | apply pw_below_drewN))⟩⟩
      replace c26 := Bool.eq_false_iff.mpr c26
      subst c26
      have H1 : (pyxlaw06_SealTells.j1 kj2 l0_0 l0_1 l0_2 l0_3 a0_4 t102 true) = some true := by rw [if_neg (show ¬ (false = true) by decide)] at H; exact H
      clear H
      have H := H1
      clear H1
      have H' := Aside0.mk H
      clear H
      obtain ⟨Ao33, co33, eo33⟩ := Kd.R_slice HO107.out
      subst eo33
      obtain ⟨Ao34, co34, eo34⟩ := Kd.R_slice HO114.out
      subst eo34
      go_wp2_with (first | ((with_reducible refine gate_callee (f := 18) rfl ?_); refine goesL_ (some 87) rfl rfl Try.func18 (by kernel_rfl) rfl #[.slice Ao33 t103.length co33, .slice Ao34 t110.length co34] rfl (by (try simp only [List.map_toArray, List.map_cons, List.map_nil]); first | rfl) ?_; (with_reducible refine (pyxref01_Same.calls _ _ t103 _ _ t110 true _ ?side1 ?side2 ?side3 ?side4 A20.out).mono ?_); (case side1 => repeat (exact (Kd.R_reads' HO107.out).2.2)); (case side2 => exact (Kd.R_reads' HO107.out).2.1); (case side3 => repeat (exact (Kd.R_reads' HO114.out).2.2)); (case side4 => exact (Kd.R_reads' HO114.out).2.1); rintro e w' ⟨rfl, ⟨nd, rfl⟩⟩; refine ⟨_, rfl, ?_⟩; obtain ⟨Ao35, co35, eo35⟩ := Kd.R_slice HO109.out; subst eo35; obtain ⟨Ao36, co36, eo36⟩ := Kd.R_slice HO116.out; subst eo36) | (go_at_call 18; (with_reducible refine (pyxref01_Same.calls _ _ t104 _ _ t111 true _ ?side1 ?side2 ?side3 ?side4 A22.out).mono ?_); (case side1 => repeat (exact (Kd.R_reads' HO109.out).2.2)); (case side2 => exact (Kd.R_reads' HO109.out).2.1); (case side3 => repeat (exact (Kd.R_reads' HO116.out).2.2)); (case side4 => exact (Kd.R_reads' HO116.out).2.1); rintro e w' ⟨rfl, ⟨nd, rfl⟩⟩; obtain ⟨Ao37, co37, eo37⟩ := Kd.R_slice HO120.out; subst eo37; obtain ⟨Ao38, co38, eo38⟩ := Kd.R_slice HO124.out; subst eo38) | (go_at_call 18; (with_reducible refine (pyxref01_Same.calls _ _ t117 _ _ t121 false _ ?side1 ?side2 ?side3 ?side4 A25.out).mono ?_); (case side1 => repeat (exact (Kd.R_reads' HO120.out).2.2)); (case side2 => exact (Kd.R_reads' HO120.out).2.1); (case side3 => repeat (exact (Kd.R_reads' HO124.out).2.2)); (case side4 => exact (Kd.R_reads' HO124.out).2.1); rintro e w' ⟨rfl, ⟨nd, rfl⟩⟩))
      go_meet
      case rel => exact ⟨_, (true), (by first | rfl), H', ⟨by have := HJ2.out; first | omega⟩, ⟨by (with_reducible repeat (refine blk_drewN ?_ _)); exact BK101.out⟩, ⟨by repeat ((with_reducible first | exact HB.out | apply pw_below_drewN))⟩⟩
    clear HC15
    skip
    skip
    skip
    skip
    skip
    skip
    skip
    skip
    skip
    skip
    skip
    skip
    skip
    skip
    skip
    skip
    skip
    skip
    skip
    skip
    skip
    skip
    skip
    skip
    skip
    skip
    skip
    skip
    skip
    skip
    skip
    skip
    skip
    skip
    skip
    skip
    skip
    obtain ⟨kq, x110_14, rfl, HA, HJ14, BK101, HB⟩ := hcut
    cases kq with
    | zero => exact absurd HA.out (by simp [pyxlaw06_SealTells.j1])
    | succ kj14 =>
      have H := HA.out
      clear HA
      simp only [pyxlaw06_SealTells.j1] at H
      by_cases c49 : x110_14 = true
      · subst c49
        have H1 : (some false) = some true := by rw [if_pos rfl] at H; exact H
        clear H
        have H := H1
        clear H1
        exact absurd (Option.some.inj H) (by decide)
      replace c49 := Bool.eq_false_iff.mpr c49
      subst c49
      have H1 : ((seal_Open.f l0_0 l0_1 l0_2 l0_3).bind fun bt128 => ((pyxref06_Open.f l0_0 l0_1 l0_2 l0_3).bind fun bt132 => ((seal_At.f l0_1 a0_4).bind fun bt136 => ((pyxref06_At.f l0_1 a0_4).bind fun bt140 => (if t102 = true then ((pyxref01_Same.f bt128.1 bt132.1).bind fun t144 => (if t144 = true then (if bt128.2 = bt132.2 then ((pyxref01_Same.f bt136.1 bt140.1).bind fun t145 => (if t145 = true then (some (bt136.2 == bt140.2)) else (some false))) else (some false)) else (some false))) else (some false)))))) = some true := by rw [if_neg (show ¬ (false = true) by decide)] at H; exact H
      clear H
      have H := H1
      clear H1
      replace H := Option.bind_eq_some_iff.mp H
      obtain ⟨⟨t128, t129⟩, A500, H⟩ := H
      replace H : ((pyxref06_Open.f l0_0 l0_1 l0_2 l0_3).bind fun bt132 => ((seal_At.f l0_1 a0_4).bind fun bt136 => ((pyxref06_At.f l0_1 a0_4).bind fun bt140 => (if t102 = true then ((pyxref01_Same.f t128 bt132.1).bind fun t144 => (if t144 = true then (if t129 = bt132.2 then ((pyxref01_Same.f bt136.1 bt140.1).bind fun t145 => (if t145 = true then (some (bt136.2 == bt140.2)) else (some false))) else (some false)) else (some false))) else (some false))))) = some true := H
      have A50 := Aside0.mk A500
      clear A500
      replace H := Option.bind_eq_some_iff.mp H
      obtain ⟨⟨t132, t133⟩, A510, H⟩ := H
      replace H : ((seal_At.f l0_1 a0_4).bind fun bt136 => ((pyxref06_At.f l0_1 a0_4).bind fun bt140 => (if t102 = true then ((pyxref01_Same.f t128 t132).bind fun t144 => (if t144 = true then (if t129 = t133 then ((pyxref01_Same.f bt136.1 bt140.1).bind fun t145 => (if t145 = true then (some (bt136.2 == bt140.2)) else (some false))) else (some false)) else (some false))) else (some false)))) = some true := H
      have A51 := Aside0.mk A510
      clear A510
      replace H := Option.bind_eq_some_iff.mp H
      obtain ⟨⟨t136, t137⟩, A520, H⟩ := H
      replace H : ((pyxref06_At.f l0_1 a0_4).bind fun bt140 => (if t102 = true then ((pyxref01_Same.f t128 t132).bind fun t144 => (if t144 = true then (if t129 = t133 then ((pyxref01_Same.f t136 bt140.1).bind fun t145 => (if t145 = true then (some (t137 == bt140.2)) else (some false))) else (some false)) else (some false))) else (some false))) = some true := H
      have A52 := Aside0.mk A520
      clear A520
      replace H := Option.bind_eq_some_iff.mp H
      obtain ⟨⟨t140, t141⟩, A530, H⟩ := H
      replace H : (if t102 = true then ((pyxref01_Same.f t128 t132).bind fun t144 => (if t144 = true then (if t129 = t133 then ((pyxref01_Same.f t136 t140).bind fun t145 => (if t145 = true then (some (t137 == t141)) else (some false))) else (some false)) else (some false))) else (some false)) = some true := H
      have A53 := Aside0.mk A530
      clear A530
      by_cases c54 : t102 = true
      rotate_left
      · replace c54 := Bool.eq_false_iff.mpr c54
        subst c54
        have H1 : (some false) = some true := by rw [if_neg (show ¬ (false = true) by decide)] at H; exact H
        clear H
        have H := H1
        clear H1
        exact absurd (Option.some.inj H) (by decide)
      subst c54
      have H1 : ((pyxref01_Same.f t128 t132).bind fun t144 => (if t144 = true then (if t129 = t133 then ((pyxref01_Same.f t136 t140).bind fun t145 => (if t145 = true then (some (t137 == t141)) else (some false))) else (some false)) else (some false))) = some true := by rw [if_pos rfl] at H; exact H
      clear H
      have H := H1
      clear H1
      replace H := Option.bind_eq_some_iff.mp H
      obtain ⟨t144, A550, H⟩ := H
      replace H : (if t144 = true then (if t129 = t133 then ((pyxref01_Same.f t136 t140).bind fun t145 => (if t145 = true then (some (t137 == t141)) else (some false))) else (some false)) else (some false)) = some true := H
      have A55 := Aside0.mk A550
      clear A550
      by_cases c56 : t144 = true
      rotate_left
      · replace c56 := Bool.eq_false_iff.mpr c56
        subst c56
        have H1 : (some false) = some true := by rw [if_neg (show ¬ (false = true) by decide)] at H; exact H
        clear H
        have H := H1
        clear H1
        exact absurd (Option.some.inj H) (by decide)
      subst c56
      have H1 : (if t129 = t133 then ((pyxref01_Same.f t136 t140).bind fun t145 => (if t145 = true then (some (t137 == t141)) else (some false))) else (some false)) = some true := by rw [if_pos rfl] at H; exact H
      clear H
      have H := H1
      clear H1
      by_cases c57 : t129 = t133
      rotate_left
      · rw [if_neg c57] at H
        have c57b0 : (t129 == t133) = false := beq_eq_false_iff_ne.mpr c57
        have c57b1 : (t129 != t133) = true := bne_iff_ne.mpr c57
        exact absurd (Option.some.inj H) (by decide)
      rw [if_pos c57] at H
      have c57b0 : (t129 == t133) = true := beq_iff_eq.mpr c57
      have c57b1 : (t129 != t133) = false := bne_eq_false_iff_eq.mpr c57
      clear c57
      replace H := Option.bind_eq_some_iff.mp H
      obtain ⟨t145, A580, H⟩ := H
      replace H : (if t145 = true then (some (t137 == t141)) else (some false)) = some true := H
      have A58 := Aside0.mk A580
      clear A580
      by_cases c59 : t145 = true
      rotate_left
      · replace c59 := Bool.eq_false_iff.mpr c59
        subst c59
        have H1 : (some false) = some true := by rw [if_neg (show ¬ (false = true) by decide)] at H; exact H
        clear H
        have H := H1
        clear H1
        exact absurd (Option.some.inj H) (by decide)
      subst c59
      have H1 : (some (t137 == t141)) = some true := by rw [if_pos rfl] at H; exact H
      clear H
      have H := H1
      clear H1
      have HT_ := Option.some.inj H
      go_wp2_with (first | ((with_reducible refine gate_callee (f := 19) rfl ?_); refine goesL_ (some 116) rfl rfl Try.func19 (by kernel_rfl) rfl #[.slice A0_0 l0_0.length c0_0, .slice A0_1 l0_1.length c0_1, .slice A0_2 l0_2.length c0_2, .slice A0_3 l0_3.length c0_3] rfl (by (try simp only [List.map_toArray, List.map_cons, List.map_nil]); first | rfl) ?_; (with_reducible refine (seal_Open.calls _ _ l0_0 _ _ l0_1 _ _ l0_2 _ _ l0_3 t128 t129 _ ?side1 ?side2 ?side3 ?side4 ?side5 ?side6 ?side7 ?side8 A50.out).mono ?_); (case side1 => repeat (exact (Kd.C_below HR0_0.out HB.out))); (case side2 => exact HC0_0.out); (case side3 => repeat (exact (Kd.C_below HR0_1.out HB.out))); (case side4 => exact HC0_1.out); (case side5 => repeat (exact (Kd.C_below HR0_2.out HB.out))); (case side6 => exact HC0_2.out); (case side7 => repeat (exact (Kd.C_below HR0_3.out HB.out))); (case side8 => exact HC0_3.out); rintro e w60 ⟨v130, rfl, ho0, hb⟩; refine ⟨_, rfl, ?_⟩; have n0_ := Aside0.mk (Kd.R_lower ho0 (below_size (by repeat ((with_reducible first | exact HB.out))))); have n1_ := Aside0.mk (blk_below (g := gb101) (o := .cells #[.slice A0_0 l0_0.length c0_0, .slice A0_1 l0_1.length c0_1, .slice A0_2 l0_2.length c0_2, .slice A0_3 l0_3.length c0_3, .int .i64 a0_4] 24 (0, 0)) (by (with_reducible repeat (fail)); exact BK101.out) hb); have n2_ := Aside0.mk (below_step (by repeat ((with_reducible first | exact HB.out))) hb); clear BK101; clear HB; have HO131 := n0_; have BK101 := n1_; have HB := n2_; clear n0_ n1_ n2_; (try clear hb); (try clear ho0)) | ((with_reducible refine gate_callee (f := 20) rfl ?_); refine goesL_ (some 124) rfl rfl Try.func20 (by kernel_rfl) rfl #[.slice A0_0 l0_0.length c0_0, .slice A0_1 l0_1.length c0_1, .slice A0_2 l0_2.length c0_2, .slice A0_3 l0_3.length c0_3] rfl (by (try simp only [List.map_toArray, List.map_cons, List.map_nil]); first | rfl) ?_; (with_reducible refine (pyxref06_Open.calls _ _ l0_0 _ _ l0_1 _ _ l0_2 _ _ l0_3 t132 t133 _ ?side1 ?side2 ?side3 ?side4 ?side5 ?side6 ?side7 ?side8 A51.out).mono ?_); (case side1 => repeat (exact (Kd.C_below HR0_0.out HB.out))); (case side2 => exact HC0_0.out); (case side3 => repeat (exact (Kd.C_below HR0_1.out HB.out))); (case side4 => exact HC0_1.out); (case side5 => repeat (exact (Kd.C_below HR0_2.out HB.out))); (case side6 => exact HC0_2.out); (case side7 => repeat (exact (Kd.C_below HR0_3.out HB.out))); (case side8 => exact HC0_3.out); rintro e w61 ⟨v134, rfl, ho0, hb⟩; refine ⟨_, rfl, ?_⟩; have n0_ := Aside0.mk (Kd.R_elder' (by (with_reducible repeat (fail)); exact HO131.out) (Kd.R_base ho0) hb); have n1_ := Aside0.mk (Kd.R_lower (Kd.R_new' ho0 (Kd.R_lt (by (with_reducible repeat (fail)); exact HO131.out))) (below_size (by repeat ((with_reducible first | exact HB.out))))); have n2_ := Aside0.mk (blk_below (g := gb101) (o := .cells #[.slice A0_0 l0_0.length c0_0, .slice A0_1 l0_1.length c0_1, .slice A0_2 l0_2.length c0_2, .slice A0_3 l0_3.length c0_3, .int .i64 a0_4] 24 (0, 0)) (by (with_reducible repeat (fail)); exact BK101.out) hb); have n3_ := Aside0.mk (below_step (by repeat ((with_reducible first | exact HB.out))) hb); clear HO131; clear BK101; clear HB; have HO131 := n0_; have HO135 := n1_; have BK101 := n2_; have HB := n3_; clear n0_ n1_ n2_ n3_; (try clear hb); (try clear ho0)) | ((with_reducible refine gate_callee (f := 21) rfl ?_); refine goesL_ (some 130) rfl rfl Try.func21 (by kernel_rfl) rfl #[.slice A0_1 l0_1.length c0_1, .int .i64 a0_4] rfl (by (try simp only [List.map_toArray, List.map_cons, List.map_nil]); first | rfl) ?_; (with_reducible refine (seal_At.calls _ _ l0_1 a0_4 t136 t137 _ ?side1 ?side2 A52.out).mono ?_); (case side1 => repeat (exact (Kd.C_below HR0_1.out HB.out))); (case side2 => exact HC0_1.out); rintro e w62 ⟨v138, rfl, ho0, hb⟩; refine ⟨_, rfl, ?_⟩; have n0_ := Aside0.mk (Kd.R_elder' (by (with_reducible repeat (fail)); exact HO131.out) (Kd.R_base ho0) hb); have n1_ := Aside0.mk (Kd.R_elder' (by (with_reducible repeat (fail)); exact HO135.out) (Kd.R_base ho0) hb); have n2_ := Aside0.mk (Kd.R_lower (Kd.R_new' (Kd.R_new' ho0 (Kd.R_lt (by (with_reducible repeat (fail)); exact HO131.out))) (Kd.R_lt (by (with_reducible repeat (fail)); exact HO135.out))) (below_size (by repeat ((with_reducible first | exact HB.out))))); have n3_ := Aside0.mk (blk_below (g := gb101) (o := .cells #[.slice A0_0 l0_0.length c0_0, .slice A0_1 l0_1.length c0_1, .slice A0_2 l0_2.length c0_2, .slice A0_3 l0_3.length c0_3, .int .i64 a0_4] 24 (0, 0)) (by (with_reducible repeat (fail)); exact BK101.out) hb); have n4_ := Aside0.mk (below_step (by repeat ((with_reducible first | exact HB.out))) hb); clear HO131; clear HO135; clear BK101; clear HB; have HO131 := n0_; have HO135 := n1_; have HO139 := n2_; have BK101 := n3_; have HB := n4_; clear n0_ n1_ n2_ n3_ n4_; (try clear hb); (try clear ho0)) | ((with_reducible refine gate_callee (f := 22) rfl ?_); refine goesL_ (some 136) rfl rfl Try.func22 (by kernel_rfl) rfl #[.slice A0_1 l0_1.length c0_1, .int .i64 a0_4] rfl (by (try simp only [List.map_toArray, List.map_cons, List.map_nil]); first | rfl) ?_; (with_reducible refine (pyxref06_At.calls _ _ l0_1 a0_4 t140 t141 _ ?side1 ?side2 A53.out).mono ?_); (case side1 => repeat (exact (Kd.C_below HR0_1.out HB.out))); (case side2 => exact HC0_1.out); rintro e w63 ⟨v142, rfl, ho0, hb⟩; refine ⟨_, rfl, ?_⟩; have n0_ := Aside0.mk (Kd.R_elder' (by (with_reducible repeat (fail)); exact HO131.out) (Kd.R_base ho0) hb); have n1_ := Aside0.mk (Kd.R_elder' (by (with_reducible repeat (fail)); exact HO135.out) (Kd.R_base ho0) hb); have n2_ := Aside0.mk (Kd.R_elder' (by (with_reducible repeat (fail)); exact HO139.out) (Kd.R_base ho0) hb); have n3_ := Aside0.mk (Kd.R_lower (Kd.R_new' (Kd.R_new' (Kd.R_new' ho0 (Kd.R_lt (by (with_reducible repeat (fail)); exact HO131.out))) (Kd.R_lt (by (with_reducible repeat (fail)); exact HO135.out))) (Kd.R_lt (by (with_reducible repeat (fail)); exact HO139.out))) (below_size (by repeat ((with_reducible first | exact HB.out))))); have n4_ := Aside0.mk (blk_below (g := gb101) (o := .cells #[.slice A0_0 l0_0.length c0_0, .slice A0_1 l0_1.length c0_1, .slice A0_2 l0_2.length c0_2, .slice A0_3 l0_3.length c0_3, .int .i64 a0_4] 24 (0, 0)) (by (with_reducible repeat (fail)); exact BK101.out) hb); have n5_ := Aside0.mk (below_step (by repeat ((with_reducible first | exact HB.out))) hb); clear HO131; clear HO135; clear HO139; clear BK101; clear HB; have HO131 := n0_; have HO135 := n1_; have HO139 := n2_; have HO143 := n3_; have BK101 := n4_; have HB := n5_; clear n0_ n1_ n2_ n3_ n4_ n5_; (try clear hb); (try clear ho0); obtain ⟨Ao64, co64, eo64⟩ := Kd.R_slice HO131.out; subst eo64; obtain ⟨Ao65, co65, eo65⟩ := Kd.R_slice HO135.out; subst eo65) | (go_at_call 18; (with_reducible refine (pyxref01_Same.calls _ _ t128 _ _ t132 true _ ?side1 ?side2 ?side3 ?side4 A55.out).mono ?_); (case side1 => repeat (exact (Kd.R_reads' HO131.out).2.2)); (case side2 => exact (Kd.R_reads' HO131.out).2.1); (case side3 => repeat (exact (Kd.R_reads' HO135.out).2.2)); (case side4 => exact (Kd.R_reads' HO135.out).2.1); rintro e w' ⟨rfl, ⟨nd, rfl⟩⟩; obtain ⟨Ao66, co66, eo66⟩ := Kd.R_slice HO139.out; subst eo66; obtain ⟨Ao67, co67, eo67⟩ := Kd.R_slice HO143.out; subst eo67) | (go_at_call 18; (with_reducible refine (pyxref01_Same.calls _ _ t136 _ _ t140 true _ ?side1 ?side2 ?side3 ?side4 A58.out).mono ?_); (case side1 => repeat (exact (Kd.R_reads' HO139.out).2.2)); (case side2 => exact (Kd.R_reads' HO139.out).2.1); (case side3 => repeat (exact (Kd.R_reads' HO143.out).2.2)); (case side4 => exact (Kd.R_reads' HO143.out).2.1); rintro e w' ⟨rfl, ⟨nd, rfl⟩⟩))
      go_ret
      exact ⟨by first | rfl, by repeat ((with_reducible first | exact HB.out | apply pw_below_drewN))⟩
end Go.Proofs.Ytifpdpfjhjoieaa.P
