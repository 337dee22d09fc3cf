-- Written by xprint.py, this session's driver over the kit's print.py, out of the translation.
import Derived.Test.YtpdgeanicciaiaaPKdfBeginsy0
namespace Go.Proofs.Ytpdgeanicciaiaa.P
open Go.RowKit Go.Proofs.YtpdgeanicciaiaaW.PrintWords Go.Proofs.YtpdgeanicciaiaaW.PrintLast Go.Proofs.YtpdgeanicciaiaaW.PrintMore
attribute [local go_sem] max2_int min2_int max_two min_two max_three min_three max_four min_four   -- for this text's walks alone
set_option linter.unusedVariables false
set_option linter.unusedSimpArgs false

-- NOT PRINTED: function 53 (kdf_first)

-- NOT PRINTED: function 56 (byt_Num)

-- NOT PRINTED: function 95 (byt_wide)

-- NOT PRINTED: function 81 (byt_Len)

-- NOT PRINTED: function 57 (byt_Row)

-- NOT PRINTED: function 97 (sha_primes)

-- NOT PRINTED: function 104 (bits_Mul64)

-- NOT PRINTED: function 105 (bits_Add64)

-- NOT PRINTED: function 102 (sha_above)

-- NOT PRINTED: function 98 (sha_root)

-- NOT PRINTED: function 89 (sha_keys)

-- NOT PRINTED: function 90 (sha_Start)

-- NOT PRINTED: function 103 (bits_RotateLeft32)

-- NOT PRINTED: function 100 (sha_turned)

-- NOT PRINTED: function 99 (sha_words)

-- NOT PRINTED: function 91 (sha_mixed)

-- NOT PRINTED: function 92 (sha_Pad)

-- NOT PRINTED: function 70 (sha_Sum)

-- NOT PRINTED: function 88 (slices_Grow_byte_byte)

-- NOT PRINTED: function 64 (slices_Concat_byte_byte)

-- NOT PRINTED: function 80 (mac_joined)

-- NOT PRINTED: function 83 (mac_Key)

-- NOT PRINTED: function 59 (mac_Sum)

-- NOT PRINTED: function 79 (pyxref01_figure)

/-! ### pyxlaw04_KdfBegins: function 5 -/
mutual
def pyxlaw04_KdfBegins.j0 : Nat → List Int → List Int → Int → Int → Int → Bool → Bool → Option (Bool)
  | 0, _, _, _, _, _, _, _ => none
  | k + 1, x3, x4, x5, x6, x7, x8, x38 => if x38 = true then (some x8) else ((kdf_Expand.f x3 x4 (Int.tmod (wrap64 (x5)) 100)).bind fun bt103 => ((kdf_Expand.f x3 x4 (wrap64 ((Int.tmod (wrap64 (x5)) 100) + (Int.tmod (wrap64 (x6)) 100)))).bind fun bt107 => ((kdf_Pass.f x3 x4 (wrap64 (1 + (Int.tmod (wrap64 (x7)) 4))) (Int.tmod (wrap64 (x5)) 100)).bind fun bt111 => ((kdf_Pass.f x3 x4 (wrap64 (1 + (Int.tmod (wrap64 (x7)) 4))) (wrap64 ((Int.tmod (wrap64 (x5)) 100) + (Int.tmod (wrap64 (x6)) 100)))).bind fun bt115 => (if bt103.2 = 0 then (if bt107.2 = 0 then (if bt111.2 = 0 then (if bt115.2 = 0 then (if (bt103.1.length : Int) = (Int.tmod (wrap64 (x5)) 100) then (if (bt107.1.length : Int) = (wrap64 ((Int.tmod (wrap64 (x5)) 100) + (Int.tmod (wrap64 (x6)) 100))) then (if (bt111.1.length : Int) = (Int.tmod (wrap64 (x5)) 100) then (pyxlaw04_KdfBegins.j1 k x8 (Int.tmod (wrap64 (x5)) 100) bt103.1 bt107.1 bt111.1 bt115.1 ((bt115.1.length : Int) != (wrap64 ((Int.tmod (wrap64 (x5)) 100) + (Int.tmod (wrap64 (x6)) 100))))) else (pyxlaw04_KdfBegins.j1 k x8 (Int.tmod (wrap64 (x5)) 100) bt103.1 bt107.1 bt111.1 bt115.1 true)) else (pyxlaw04_KdfBegins.j1 k x8 (Int.tmod (wrap64 (x5)) 100) bt103.1 bt107.1 bt111.1 bt115.1 true)) else (pyxlaw04_KdfBegins.j1 k x8 (Int.tmod (wrap64 (x5)) 100) bt103.1 bt107.1 bt111.1 bt115.1 true)) else (pyxlaw04_KdfBegins.j1 k x8 (Int.tmod (wrap64 (x5)) 100) bt103.1 bt107.1 bt111.1 bt115.1 true)) else (pyxlaw04_KdfBegins.j1 k x8 (Int.tmod (wrap64 (x5)) 100) bt103.1 bt107.1 bt111.1 bt115.1 true)) else (pyxlaw04_KdfBegins.j1 k x8 (Int.tmod (wrap64 (x5)) 100) bt103.1 bt107.1 bt111.1 bt115.1 true)) else (pyxlaw04_KdfBegins.j1 k x8 (Int.tmod (wrap64 (x5)) 100) bt103.1 bt107.1 bt111.1 bt115.1 true))))))
def pyxlaw04_KdfBegins.j1 : Nat → Bool → Int → List Int → List Int → List Int → List Int → Bool → Option (Bool)
  | 0, _, _, _, _, _, _, _ => none
  | k + 1, x8, x9, x12, x14, x16, x18, x119 => if x119 = true then (some false) else (if x8 = true then (if 0 ≤ x9 then (if x9 ≤ (x14.length : Int) then ((pyxref01_Same.f x12 (x14.take (x9 : Int).toNat)).bind fun t123 => (if t123 = true then (if x9 ≤ (x18.length : Int) then ((pyxref01_Same.f x16 (x18.take (x9 : Int).toNat)).bind fun t128 => (some t128)) else (none)) else (some false))) else (none)) else (none)) else (some false))
end
def pyxlaw04_KdfBegins.f (k : Nat) (l0_0 : List Int) (l0_1 : List Int) (a0_2 : Int) (a0_3 : Int) (a0_4 : Int) : Option (Bool) := (pyxlaw04_shown.f).bind fun t102 => (if (l0_0.length : Int) > 200 then (pyxlaw04_KdfBegins.j0 k l0_0 l0_1 a0_2 a0_3 a0_4 t102 true) else (pyxlaw04_KdfBegins.j0 k l0_0 l0_1 a0_2 a0_3 a0_4 t102 (decide ((l0_1.length : Int) > 200))))
theorem pyxlaw04_KdfBegins.mono_l : ∀ k, (∀ y0 y1 y2 y3 y4 y5 y6, LeO (pyxlaw04_KdfBegins.j0 k y0 y1 y2 y3 y4 y5 y6) (pyxlaw04_KdfBegins.j0 (k + 1) y0 y1 y2 y3 y4 y5 y6)) ∧ (∀ y0 y1 y2 y3 y4 y5 y6, LeO (pyxlaw04_KdfBegins.j1 k y0 y1 y2 y3 y4 y5 y6) (pyxlaw04_KdfBegins.j1 (k + 1) y0 y1 y2 y3 y4 y5 y6))
  | 0 => ⟨fun _ _ _ _ _ _ _ r h => by simp [pyxlaw04_KdfBegins.j0] at h, fun _ _ _ _ _ _ _ r h => by simp [pyxlaw04_KdfBegins.j1] at h⟩
  | k + 1 => by
    obtain ⟨ih0, ih1⟩ := pyxlaw04_KdfBegins.mono_l k
    refine ⟨?_, ?_⟩
    · intro y0 y1 y2 y3 y4 y5 y6
      unfold pyxlaw04_KdfBegins.j0
      repeat' first
      | (with_reducible exact ih0 _ _ _ _ _ _ _)
      | (with_reducible exact ih1 _ _ _ _ _ _ _)
      | (with_reducible exact LeO.refl _)
      | (with_reducible exact LeO.none _)
      | (with_reducible refine LeO.ite ?_ ?_)
      | (with_reducible refine LeO.bind ?_ (fun _ => ?_))
      | exact ih0 _ _ _ _ _ _ _
      | exact ih1 _ _ _ _ _ _ _
      | exact LeO.none _
      | refine LeO.ite ?_ ?_
      | refine LeO.bind ?_ (fun _ => ?_)
    · intro y0 y1 y2 y3 y4 y5 y6
      unfold pyxlaw04_KdfBegins.j1
      repeat' first
      | (with_reducible exact ih0 _ _ _ _ _ _ _)
      | (with_reducible exact ih1 _ _ _ _ _ _ _)
      | (with_reducible exact LeO.refl _)
      | (with_reducible exact LeO.none _)
      | (with_reducible refine LeO.ite ?_ ?_)
      | (with_reducible refine LeO.bind ?_ (fun _ => ?_))
      | exact ih0 _ _ _ _ _ _ _
      | exact ih1 _ _ _ _ _ _ _
      | exact LeO.none _
      | refine LeO.ite ?_ ?_
      | refine LeO.bind ?_ (fun _ => ?_)
theorem pyxlaw04_KdfBegins.mono : ∀ a0 a1 a2 a3 a4 k, LeO (pyxlaw04_KdfBegins.f k a0 a1 a2 a3 a4) (pyxlaw04_KdfBegins.f (k + 1) a0 a1 a2 a3 a4) := by
  intro a0 a1 a2 a3 a4 k
  obtain ⟨ih0, ih1⟩ := pyxlaw04_KdfBegins.mono_l k
  unfold pyxlaw04_KdfBegins.f
  repeat' first
      | (with_reducible exact ih0 _ _ _ _ _ _ _)
      | (with_reducible exact ih1 _ _ _ _ _ _ _)
      | (with_reducible exact LeO.refl _)
      | (with_reducible exact LeO.none _)
      | (with_reducible refine LeO.ite ?_ ?_)
      | (with_reducible refine LeO.bind ?_ (fun _ => ?_))
      | exact ih0 _ _ _ _ _ _ _
      | exact ih1 _ _ _ _ _ _ _
      | exact LeO.none _
      | refine LeO.ite ?_ ?_
      | refine LeO.bind ?_ (fun _ => ?_)
set_option maxHeartbeats 8000000 in
set_option maxRecDepth 100000 in
theorem pyxlaw04_KdfBegins.calls (k : Nat) (A0_0 : Option Addr) (c0_0 : Nat) (l0_0 : List Int) (A0_1 : Option Addr) (c0_1 : Nat) (l0_1 : List Int) (a0_2 : Int) (a0_3 : Int) (a0_4 : Int) (w : World) (hr0_0 : Kd.C (Kd.int .u8) w A0_0 l0_0.length l0_0) (hc0_0 : l0_0.length ≤ c0_0) (hr0_1 : Kd.C (Kd.int .u8) w A0_1 l0_1.length l0_1) (hc0_1 : l0_1.length ≤ c0_1) (h : pyxlaw04_KdfBegins.f k l0_0 l0_1 a0_2 a0_3 a0_4 = some true) :
    Calls Try.prog 5 #[.agg #[.slice A0_0 l0_0.length c0_0, .slice A0_1 l0_1.length c0_1, .int .u8 a0_2, .int .u8 a0_3, .int .u8 a0_4]] w fun e w' => e = .returned (.bool true) ∧ Below w.heap.size w w' := by
  have hu44 := Try.underlying44
  have HR0_0 := Aside0.mk hr0_0
  have HC0_0 := Aside0.mk hc0_0
  clear hr0_0 hc0_0
  have HR0_1 := Aside0.mk hr0_1
  have HC0_1 := Aside0.mk hc0_1
  clear hr0_1 hc0_1
  have HB := Aside0.mk (Below.refl w.heap.size w)
  have H : ((pyxlaw04_shown.f).bind fun t102 => (if (l0_0.length : Int) > 200 then (pyxlaw04_KdfBegins.j0 k l0_0 l0_1 a0_2 a0_3 a0_4 t102 true) else (pyxlaw04_KdfBegins.j0 k l0_0 l0_1 a0_2 a0_3 a0_4 t102 (decide ((l0_1.length : Int) > 200))))) = some true := h
  clear h
  replace H := Option.bind_eq_some_iff.mp H
  obtain ⟨t102, A20, H⟩ := H
  replace H : (if (l0_0.length : Int) > 200 then (pyxlaw04_KdfBegins.j0 k l0_0 l0_1 a0_2 a0_3 a0_4 t102 true) else (pyxlaw04_KdfBegins.j0 k l0_0 l0_1 a0_2 a0_3 a0_4 t102 (decide ((l0_1.length : Int) > 200)))) = some true := H
  have A2 := Aside0.mk A20
  clear A20
  have HC3 := Aside0.mk H
  clear H
  go_enter Try.func5, Try.ntmps5
  go_upto_region 7 with (first | ((with_reducible refine gate_dst (N := 1) rfl ?_); (try (refine gate_guard (by rfl) ?_; dsimp only)); refine box_event ?hg (N := 1) ?hd (cs := #[.slice A0_0 l0_0.length c0_0, .slice A0_1 l0_1.length c0_1, .int .u8 a0_2, .int .u8 a0_3, .int .u8 a0_4]) (t := 44) ?hr ?_; (case hd => rfl); (case hg => rfl); (case hr => first | (go_simp; done) | (go_simp; rfl)); intro gb101 hg w4 hbox hb; have n0_ := Aside0.mk (below_step (by repeat (first | (with_reducible first | exact HB.out | apply below_alloc | apply pw_below_drewN | apply below_drew1) | exact HB.out)) hb); have n1_ := Aside0.mk (hbox); have n2_ := Aside0.mk ((by rw [hg]; exact (below_size (by repeat (first | (with_reducible first | exact HB.out | apply below_alloc | apply pw_below_drewN | apply below_drew1) | exact HB.out))) : w.heap.size ≤ gb101)); have n3_ := Aside0.mk ((by rw [hg]; exact (below_size (by repeat (first | (with_reducible first | exact HB.out | apply below_alloc | apply pw_below_drewN | apply below_drew1) | exact HB.out))) : w.heap.size ≤ gb101)); clear HB; have HB := n0_; have BK101 := n1_; have GW101 := n2_; have GE101 := n3_; clear n0_ n1_ n2_ n3_; clear hb hbox hg; have hcz5_0 : w4.cell? ⟨gb101, 0, none⟩ = some (.slice A0_0 l0_0.length c0_0) := (blk_cell BK101.out 0).trans rfl; have hcz5_1 : w4.cell? ⟨gb101, 1, none⟩ = some (.slice A0_1 l0_1.length c0_1) := (blk_cell BK101.out 1).trans rfl; have hcz5_2 : w4.cell? ⟨gb101, 2, none⟩ = some (.int .u8 a0_2) := (blk_cell BK101.out 2).trans rfl; have hcz5_3 : w4.cell? ⟨gb101, 3, none⟩ = some (.int .u8 a0_3) := (blk_cell BK101.out 3).trans rfl; have hcz5_4 : w4.cell? ⟨gb101, 4, none⟩ = some (.int .u8 a0_4) := (blk_cell BK101.out 4).trans rfl; have hfz5_0 := blk_frozen BK101.out 0; have hfz5_1 := blk_frozen BK101.out 1; have hfz5_2 := blk_frozen BK101.out 2; have hfz5_3 := blk_frozen BK101.out 3; have hfz5_4 := blk_frozen BK101.out 4) | ((with_reducible refine gate_callee (f := 15) rfl ?_); refine goesL_ (some 30) rfl rfl Try.func15 (by kernel_rfl) rfl #[] rfl (by (try simp only [List.map_toArray, List.map_cons, List.map_nil]); first | done | rfl | (simp only [List.length_drop, List.length_take]; rfl)) ?_; (with_reducible refine (pyxlaw04_shown.calls  t102 _ A2.out).mono ?_); rintro e w6 ⟨rfl, hb⟩; refine ⟨_, rfl, ?_⟩; have n0_ := Aside0.mk (blk_below (g := gb101) (o := .cells #[.slice A0_0 l0_0.length c0_0, .slice A0_1 l0_1.length c0_1, .int .u8 a0_2, .int .u8 a0_3, .int .u8 a0_4] 44 (0, 0)) (by (with_reducible repeat (first | refine blk_drewN ?_ _ | refine blk_drew ?_ | refine blk_alloc ?_ _)); exact BK101.out) hb); have n1_ := Aside0.mk (below_step (by repeat (first | (with_reducible first | exact HB.out | apply below_alloc | apply pw_below_drewN | apply below_drew1 | refine below_set ?_ GE101.out) | exact HB.out)) hb); clear BK101; clear HB; have BK101 := n0_; have HB := n1_; clear n0_ n1_; (try clear hb); (try clear hb2); (try clear hk); (try clear hi)))
  (try simp only [Act.put, List.setIfInBounds_toArray, List.set_cons_zero, List.set_cons_succ])
  go_cut [38] (fun v38 wc => ∃ (kq : Nat) (x38_2 : Bool), v38 = .bool x38_2 ∧ Aside0 (pyxlaw04_KdfBegins.j0 kq l0_0 l0_1 a0_2 a0_3 a0_4 t102 x38_2 = some true) ∧ Aside0 (kq ≤ k) ∧ Aside0 (wc.heap[gb101]? = some (.cells #[(.slice A0_0 l0_0.length c0_0), (.slice A0_1 l0_1.length c0_1), .int .u8 a0_2, .int .u8 a0_3, .int .u8 a0_4] 44 (0, 0))) ∧ Aside0 (Below w.heap.size w wc))
  case first =>
    have H := HC3.out
    clear HC3
    by_cases c7 : (l0_0.length : Int) > 200
    · rw [if_pos c7] at H
      have c7b0 : decide (200 < (l0_0.length : Int)) = true := decide_eq_true c7
      have c7b1 : decide (200 < l0_0.length) = true := decide_eq_true (by omega)
      clear c7
      (first | rw [c7b0] | (simp only [i64_w, i32_w]; rw [c7b0]) | skip)
      have H' := Aside0.mk H
      clear H
      go_wp2
      go_meet
      case rel => exact ⟨_, (true), (by first | rfl | (simp; done) | (simp [*]; done)), H', ⟨by first | omega | exact Nat.le_refl _⟩, ⟨by (with_reducible repeat (first | refine blk_drewN ?_ _ | refine blk_drew ?_ | refine blk_alloc ?_ _)); exact BK101.out⟩, ⟨by repeat (first | (with_reducible first | exact HB.out | apply below_alloc | apply pw_below_drewN | apply below_drew1 | refine below_set ?_ GE101.out) | exact HB.out)⟩⟩
    · rw [if_neg c7] at H
      have c7b0 : decide (200 < (l0_0.length : Int)) = false := decide_eq_false c7
      have c7b1 : decide (200 < l0_0.length) = false := decide_eq_false (by omega)
      clear c7
      (first | rw [c7b0] | (simp only [i64_w, i32_w]; rw [c7b0]) | skip)
      have H' := Aside0.mk H
      clear H
      go_wp2
      go_meet
      case rel => exact ⟨_, (decide ((l0_1.length : Int) > 200)), (by first | rfl | (simp; done) | (simp [*]; done)), H', ⟨by first | omega | exact Nat.le_refl _⟩, ⟨by (with_reducible repeat (first | refine blk_drewN ?_ _ | refine blk_drew ?_ | refine blk_alloc ?_ _)); exact BK101.out⟩, ⟨by repeat (first | (with_reducible first | exact HB.out | apply below_alloc | apply pw_below_drewN | apply below_drew1 | refine below_set ?_ GE101.out) | exact HB.out)⟩⟩
  case rest =>
    clear HC3
    try clear c1
    try clear p2
    try clear c5
    try clear c7
    try clear c7b0
    try clear c7b1
    try clear hcz5_0
    try clear hcz5_1
    try clear hcz5_2
    try clear hcz5_3
    try clear hcz5_4
    try clear hfz5_0
    try clear hfz5_1
    try clear hfz5_2
    try clear hfz5_3
    try clear hfz5_4
    obtain ⟨kq, x38_2, rfl, HA, HJ2, BK101, HB⟩ := hcut
    cases kq with
    | zero => exact absurd HA.out (by simp [pyxlaw04_KdfBegins.j0])
    | succ kj2 =>
      have H := HA.out
      clear HA
      simp only [pyxlaw04_KdfBegins.j0] at H
      by_cases c8 : x38_2 = true
      · subst c8
        have H1 : (some t102) = some true := by rw [if_pos rfl] at H; exact H
        clear H
        have H := H1
        clear H1
        have HT_ := Option.some.inj H
        go_wp2
        go_ret
        exact ⟨by first | rfl | (simp [errW_none, errW_some] <;> rfl) | (simp [*, errW_none, errW_some] <;> rfl), by repeat (first | (with_reducible first | exact HB.out | apply below_alloc | apply pw_below_drewN | apply below_drew1 | refine below_set ?_ GE101.out) | exact HB.out)⟩
      · replace c8 := Bool.eq_false_iff.mpr c8
        subst c8
        have H1 : ((kdf_Expand.f l0_0 l0_1 (Int.tmod (wrap64 (a0_2)) 100)).bind fun bt103 => ((kdf_Expand.f l0_0 l0_1 (wrap64 ((Int.tmod (wrap64 (a0_2)) 100) + (Int.tmod (wrap64 (a0_3)) 100)))).bind fun bt107 => ((kdf_Pass.f l0_0 l0_1 (wrap64 (1 + (Int.tmod (wrap64 (a0_4)) 4))) (Int.tmod (wrap64 (a0_2)) 100)).bind fun bt111 => ((kdf_Pass.f l0_0 l0_1 (wrap64 (1 + (Int.tmod (wrap64 (a0_4)) 4))) (wrap64 ((Int.tmod (wrap64 (a0_2)) 100) + (Int.tmod (wrap64 (a0_3)) 100)))).bind fun bt115 => (if bt103.2 = 0 then (if bt107.2 = 0 then (if bt111.2 = 0 then (if bt115.2 = 0 then (if (bt103.1.length : Int) = (Int.tmod (wrap64 (a0_2)) 100) then (if (bt107.1.length : Int) = (wrap64 ((Int.tmod (wrap64 (a0_2)) 100) + (Int.tmod (wrap64 (a0_3)) 100))) then (if (bt111.1.length : Int) = (Int.tmod (wrap64 (a0_2)) 100) then (pyxlaw04_KdfBegins.j1 kj2 t102 (Int.tmod (wrap64 (a0_2)) 100) bt103.1 bt107.1 bt111.1 bt115.1 ((bt115.1.length : Int) != (wrap64 ((Int.tmod (wrap64 (a0_2)) 100) + (Int.tmod (wrap64 (a0_3)) 100))))) else (pyxlaw04_KdfBegins.j1 kj2 t102 (Int.tmod (wrap64 (a0_2)) 100) bt103.1 bt107.1 bt111.1 bt115.1 true)) else (pyxlaw04_KdfBegins.j1 kj2 t102 (Int.tmod (wrap64 (a0_2)) 100) bt103.1 bt107.1 bt111.1 bt115.1 true)) else (pyxlaw04_KdfBegins.j1 kj2 t102 (Int.tmod (wrap64 (a0_2)) 100) bt103.1 bt107.1 bt111.1 bt115.1 true)) else (pyxlaw04_KdfBegins.j1 kj2 t102 (Int.tmod (wrap64 (a0_2)) 100) bt103.1 bt107.1 bt111.1 bt115.1 true)) else (pyxlaw04_KdfBegins.j1 kj2 t102 (Int.tmod (wrap64 (a0_2)) 100) bt103.1 bt107.1 bt111.1 bt115.1 true)) else (pyxlaw04_KdfBegins.j1 kj2 t102 (Int.tmod (wrap64 (a0_2)) 100) bt103.1 bt107.1 bt111.1 bt115.1 true)) else (pyxlaw04_KdfBegins.j1 kj2 t102 (Int.tmod (wrap64 (a0_2)) 100) bt103.1 bt107.1 bt111.1 bt115.1 true)))))) = some true := by rw [if_neg (show ¬ (false = true) by decide)] at H; exact H
        clear H
        have H := H1
        clear H1
        replace H := Option.bind_eq_some_iff.mp H
        obtain ⟨⟨t103, t104⟩, A90, H⟩ := H
        replace H : ((kdf_Expand.f l0_0 l0_1 (wrap64 ((Int.tmod (wrap64 (a0_2)) 100) + (Int.tmod (wrap64 (a0_3)) 100)))).bind fun bt107 => ((kdf_Pass.f l0_0 l0_1 (wrap64 (1 + (Int.tmod (wrap64 (a0_4)) 4))) (Int.tmod (wrap64 (a0_2)) 100)).bind fun bt111 => ((kdf_Pass.f l0_0 l0_1 (wrap64 (1 + (Int.tmod (wrap64 (a0_4)) 4))) (wrap64 ((Int.tmod (wrap64 (a0_2)) 100) + (Int.tmod (wrap64 (a0_3)) 100)))).bind fun bt115 => (if t104 = 0 then (if bt107.2 = 0 then (if bt111.2 = 0 then (if bt115.2 = 0 then (if (t103.length : Int) = (Int.tmod (wrap64 (a0_2)) 100) then (if (bt107.1.length : Int) = (wrap64 ((Int.tmod (wrap64 (a0_2)) 100) + (Int.tmod (wrap64 (a0_3)) 100))) then (if (bt111.1.length : Int) = (Int.tmod (wrap64 (a0_2)) 100) then (pyxlaw04_KdfBegins.j1 kj2 t102 (Int.tmod (wrap64 (a0_2)) 100) t103 bt107.1 bt111.1 bt115.1 ((bt115.1.length : Int) != (wrap64 ((Int.tmod (wrap64 (a0_2)) 100) + (Int.tmod (wrap64 (a0_3)) 100))))) else (pyxlaw04_KdfBegins.j1 kj2 t102 (Int.tmod (wrap64 (a0_2)) 100) t103 bt107.1 bt111.1 bt115.1 true)) else (pyxlaw04_KdfBegins.j1 kj2 t102 (Int.tmod (wrap64 (a0_2)) 100) t103 bt107.1 bt111.1 bt115.1 true)) else (pyxlaw04_KdfBegins.j1 kj2 t102 (Int.tmod (wrap64 (a0_2)) 100) t103 bt107.1 bt111.1 bt115.1 true)) else (pyxlaw04_KdfBegins.j1 kj2 t102 (Int.tmod (wrap64 (a0_2)) 100) t103 bt107.1 bt111.1 bt115.1 true)) else (pyxlaw04_KdfBegins.j1 kj2 t102 (Int.tmod (wrap64 (a0_2)) 100) t103 bt107.1 bt111.1 bt115.1 true)) else (pyxlaw04_KdfBegins.j1 kj2 t102 (Int.tmod (wrap64 (a0_2)) 100) t103 bt107.1 bt111.1 bt115.1 true)) else (pyxlaw04_KdfBegins.j1 kj2 t102 (Int.tmod (wrap64 (a0_2)) 100) t103 bt107.1 bt111.1 bt115.1 true))))) = some true := H
        have A9 := Aside0.mk A90
        clear A90
        replace H := Option.bind_eq_some_iff.mp H
        obtain ⟨⟨t107, t108⟩, A100, H⟩ := H
        replace H : ((kdf_Pass.f l0_0 l0_1 (wrap64 (1 + (Int.tmod (wrap64 (a0_4)) 4))) (Int.tmod (wrap64 (a0_2)) 100)).bind fun bt111 => ((kdf_Pass.f l0_0 l0_1 (wrap64 (1 + (Int.tmod (wrap64 (a0_4)) 4))) (wrap64 ((Int.tmod (wrap64 (a0_2)) 100) + (Int.tmod (wrap64 (a0_3)) 100)))).bind fun bt115 => (if t104 = 0 then (if t108 = 0 then (if bt111.2 = 0 then (if bt115.2 = 0 then (if (t103.length : Int) = (Int.tmod (wrap64 (a0_2)) 100) then (if (t107.length : Int) = (wrap64 ((Int.tmod (wrap64 (a0_2)) 100) + (Int.tmod (wrap64 (a0_3)) 100))) then (if (bt111.1.length : Int) = (Int.tmod (wrap64 (a0_2)) 100) then (pyxlaw04_KdfBegins.j1 kj2 t102 (Int.tmod (wrap64 (a0_2)) 100) t103 t107 bt111.1 bt115.1 ((bt115.1.length : Int) != (wrap64 ((Int.tmod (wrap64 (a0_2)) 100) + (Int.tmod (wrap64 (a0_3)) 100))))) else (pyxlaw04_KdfBegins.j1 kj2 t102 (Int.tmod (wrap64 (a0_2)) 100) t103 t107 bt111.1 bt115.1 true)) else (pyxlaw04_KdfBegins.j1 kj2 t102 (Int.tmod (wrap64 (a0_2)) 100) t103 t107 bt111.1 bt115.1 true)) else (pyxlaw04_KdfBegins.j1 kj2 t102 (Int.tmod (wrap64 (a0_2)) 100) t103 t107 bt111.1 bt115.1 true)) else (pyxlaw04_KdfBegins.j1 kj2 t102 (Int.tmod (wrap64 (a0_2)) 100) t103 t107 bt111.1 bt115.1 true)) else (pyxlaw04_KdfBegins.j1 kj2 t102 (Int.tmod (wrap64 (a0_2)) 100) t103 t107 bt111.1 bt115.1 true)) else (pyxlaw04_KdfBegins.j1 kj2 t102 (Int.tmod (wrap64 (a0_2)) 100) t103 t107 bt111.1 bt115.1 true)) else (pyxlaw04_KdfBegins.j1 kj2 t102 (Int.tmod (wrap64 (a0_2)) 100) t103 t107 bt111.1 bt115.1 true)))) = some true := H
        have A10 := Aside0.mk A100
        clear A100
        replace H := Option.bind_eq_some_iff.mp H
        obtain ⟨⟨t111, t112⟩, A110, H⟩ := H
        replace H : ((kdf_Pass.f l0_0 l0_1 (wrap64 (1 + (Int.tmod (wrap64 (a0_4)) 4))) (wrap64 ((Int.tmod (wrap64 (a0_2)) 100) + (Int.tmod (wrap64 (a0_3)) 100)))).bind fun bt115 => (if t104 = 0 then (if t108 = 0 then (if t112 = 0 then (if bt115.2 = 0 then (if (t103.length : Int) = (Int.tmod (wrap64 (a0_2)) 100) then (if (t107.length : Int) = (wrap64 ((Int.tmod (wrap64 (a0_2)) 100) + (Int.tmod (wrap64 (a0_3)) 100))) then (if (t111.length : Int) = (Int.tmod (wrap64 (a0_2)) 100) then (pyxlaw04_KdfBegins.j1 kj2 t102 (Int.tmod (wrap64 (a0_2)) 100) t103 t107 t111 bt115.1 ((bt115.1.length : Int) != (wrap64 ((Int.tmod (wrap64 (a0_2)) 100) + (Int.tmod (wrap64 (a0_3)) 100))))) else (pyxlaw04_KdfBegins.j1 kj2 t102 (Int.tmod (wrap64 (a0_2)) 100) t103 t107 t111 bt115.1 true)) else (pyxlaw04_KdfBegins.j1 kj2 t102 (Int.tmod (wrap64 (a0_2)) 100) t103 t107 t111 bt115.1 true)) else (pyxlaw04_KdfBegins.j1 kj2 t102 (Int.tmod (wrap64 (a0_2)) 100) t103 t107 t111 bt115.1 true)) else (pyxlaw04_KdfBegins.j1 kj2 t102 (Int.tmod (wrap64 (a0_2)) 100) t103 t107 t111 bt115.1 true)) else (pyxlaw04_KdfBegins.j1 kj2 t102 (Int.tmod (wrap64 (a0_2)) 100) t103 t107 t111 bt115.1 true)) else (pyxlaw04_KdfBegins.j1 kj2 t102 (Int.tmod (wrap64 (a0_2)) 100) t103 t107 t111 bt115.1 true)) else (pyxlaw04_KdfBegins.j1 kj2 t102 (Int.tmod (wrap64 (a0_2)) 100) t103 t107 t111 bt115.1 true))) = some true := H
        have A11 := Aside0.mk A110
        clear A110
        replace H := Option.bind_eq_some_iff.mp H
        obtain ⟨⟨t115, t116⟩, A120, H⟩ := H
        replace H : (if t104 = 0 then (if t108 = 0 then (if t112 = 0 then (if t116 = 0 then (if (t103.length : Int) = (Int.tmod (wrap64 (a0_2)) 100) then (if (t107.length : Int) = (wrap64 ((Int.tmod (wrap64 (a0_2)) 100) + (Int.tmod (wrap64 (a0_3)) 100))) then (if (t111.length : Int) = (Int.tmod (wrap64 (a0_2)) 100) then (pyxlaw04_KdfBegins.j1 kj2 t102 (Int.tmod (wrap64 (a0_2)) 100) t103 t107 t111 t115 ((t115.length : Int) != (wrap64 ((Int.tmod (wrap64 (a0_2)) 100) + (Int.tmod (wrap64 (a0_3)) 100))))) else (pyxlaw04_KdfBegins.j1 kj2 t102 (Int.tmod (wrap64 (a0_2)) 100) t103 t107 t111 t115 true)) else (pyxlaw04_KdfBegins.j1 kj2 t102 (Int.tmod (wrap64 (a0_2)) 100) t103 t107 t111 t115 true)) else (pyxlaw04_KdfBegins.j1 kj2 t102 (Int.tmod (wrap64 (a0_2)) 100) t103 t107 t111 t115 true)) else (pyxlaw04_KdfBegins.j1 kj2 t102 (Int.tmod (wrap64 (a0_2)) 100) t103 t107 t111 t115 true)) else (pyxlaw04_KdfBegins.j1 kj2 t102 (Int.tmod (wrap64 (a0_2)) 100) t103 t107 t111 t115 true)) else (pyxlaw04_KdfBegins.j1 kj2 t102 (Int.tmod (wrap64 (a0_2)) 100) t103 t107 t111 t115 true)) else (pyxlaw04_KdfBegins.j1 kj2 t102 (Int.tmod (wrap64 (a0_2)) 100) t103 t107 t111 t115 true)) = some true := H
        have A12 := Aside0.mk A120
        clear A120
        have HC13 := Aside0.mk H
        clear H
        go_upto_region 16 with (first | ((with_reducible refine gate_callee (f := 16) rfl ?_); refine goesL_ (some 56) rfl rfl Try.func16 (by kernel_rfl) rfl #[.slice A0_0 l0_0.length c0_0, .slice A0_1 l0_1.length c0_1, .int .i64 (Int.tmod (wrap64 (a0_2)) 100)] rfl (by (try simp only [List.map_toArray, List.map_cons, List.map_nil]); first | done | rfl | (simp only [List.length_drop, List.length_take]; rfl)) ?_; (with_reducible refine (kdf_Expand.calls _ _ l0_0 _ _ l0_1 (Int.tmod (wrap64 (a0_2)) 100) t103 t104 _ ?side1 ?side2 ?side3 ?side4 A9.out).mono ?_); (case side1 => repeat (first | exact (Kd.C_below HR0_0.out HB.out) | (with_reducible refine Kd.C_alloc ?_ _) | (with_reducible refine Kd.C_drewN ?_ _) | (with_reducible refine Kd.C_drew ?_))); (case side2 => exact HC0_0.out); (case side3 => repeat (first | exact (Kd.C_below HR0_1.out HB.out) | (with_reducible refine Kd.C_alloc ?_ _) | (with_reducible refine Kd.C_drewN ?_ _) | (with_reducible refine Kd.C_drew ?_))); (case side4 => exact HC0_1.out); rintro e w14 ⟨v105, rfl, ho0, hb⟩; refine ⟨_, rfl, ?_⟩; have n0_ := Aside0.mk (Kd.R_lower ho0 (below_size (by repeat (first | (with_reducible first | exact HB.out | apply below_alloc | apply pw_below_drewN | apply below_drew1 | refine below_set ?_ GE101.out) | exact HB.out)))); have n1_ := Aside0.mk (blk_below (g := gb101) (o := .cells #[.slice A0_0 l0_0.length c0_0, .slice A0_1 l0_1.length c0_1, .int .u8 a0_2, .int .u8 a0_3, .int .u8 a0_4] 44 (0, 0)) (by (with_reducible repeat (first | refine blk_drewN ?_ _ | refine blk_drew ?_ | refine blk_alloc ?_ _)); exact BK101.out) hb); have n2_ := Aside0.mk (below_step (by repeat (first | (with_reducible first | exact HB.out | apply below_alloc | apply pw_below_drewN | apply below_drew1 | refine below_set ?_ GE101.out) | exact HB.out)) hb); clear BK101; clear HB; have HO106 := n0_; have BK101 := n1_; have HB := n2_; clear n0_ n1_ n2_; (try clear hb); (try clear hb2); (try clear hk); (try clear hi); (try clear ho0)) | ((with_reducible refine gate_callee (f := 16) rfl ?_); refine goesL_ (some 63) rfl rfl Try.func16 (by kernel_rfl) rfl #[.slice A0_0 l0_0.length c0_0, .slice A0_1 l0_1.length c0_1, .int .i64 (wrap64 ((Int.tmod (wrap64 (a0_2)) 100) + (Int.tmod (wrap64 (a0_3)) 100)))] rfl (by (try simp only [List.map_toArray, List.map_cons, List.map_nil]); first | done | rfl | (simp only [List.length_drop, List.length_take]; rfl)) ?_; (with_reducible refine (kdf_Expand.calls _ _ l0_0 _ _ l0_1 (wrap64 ((Int.tmod (wrap64 (a0_2)) 100) + (Int.tmod (wrap64 (a0_3)) 100))) t107 t108 _ ?side1 ?side2 ?side3 ?side4 A10.out).mono ?_); (case side1 => repeat (first | exact (Kd.C_below HR0_0.out HB.out) | (with_reducible refine Kd.C_alloc ?_ _) | (with_reducible refine Kd.C_drewN ?_ _) | (with_reducible refine Kd.C_drew ?_))); (case side2 => exact HC0_0.out); (case side3 => repeat (first | exact (Kd.C_below HR0_1.out HB.out) | (with_reducible refine Kd.C_alloc ?_ _) | (with_reducible refine Kd.C_drewN ?_ _) | (with_reducible refine Kd.C_drew ?_))); (case side4 => exact HC0_1.out); rintro e w15 ⟨v109, rfl, ho0, hb⟩; refine ⟨_, rfl, ?_⟩; have n0_ := Aside0.mk (Kd.R_elder' (by (with_reducible repeat (first | apply Kd.R_alloc | apply Kd.R_drewN | apply Kd.R_drew)); exact HO106.out) (Kd.R_base ho0) hb); have n1_ := Aside0.mk (Kd.R_lower (Kd.R_new' ho0 (Kd.R_lt (by (with_reducible repeat (first | apply Kd.R_alloc | apply Kd.R_drewN | apply Kd.R_drew)); exact HO106.out))) (below_size (by repeat (first | (with_reducible first | exact HB.out | apply below_alloc | apply pw_below_drewN | apply below_drew1 | refine below_set ?_ GE101.out) | exact HB.out)))); have n2_ := Aside0.mk (blk_below (g := gb101) (o := .cells #[.slice A0_0 l0_0.length c0_0, .slice A0_1 l0_1.length c0_1, .int .u8 a0_2, .int .u8 a0_3, .int .u8 a0_4] 44 (0, 0)) (by (with_reducible repeat (first | refine blk_drewN ?_ _ | refine blk_drew ?_ | refine blk_alloc ?_ _)); exact BK101.out) hb); have n3_ := Aside0.mk (below_step (by repeat (first | (with_reducible first | exact HB.out | apply below_alloc | apply pw_below_drewN | apply below_drew1 | refine below_set ?_ GE101.out) | exact HB.out)) hb); clear HO106; clear BK101; clear HB; have HO106 := n0_; have HO110 := n1_; have BK101 := n2_; have HB := n3_; clear n0_ n1_ n2_ n3_; (try clear hb); (try clear hb2); (try clear hk); (try clear hi); (try clear ho0)) | ((with_reducible refine gate_callee (f := 25) rfl ?_); refine goesL_ (some 71) rfl rfl Try.func25 (by kernel_rfl) rfl #[.slice A0_0 l0_0.length c0_0, .slice A0_1 l0_1.length c0_1, .int .i64 (wrap64 (1 + (Int.tmod (wrap64 (a0_4)) 4))), .int .i64 (Int.tmod (wrap64 (a0_2)) 100)] rfl (by (try simp only [List.map_toArray, List.map_cons, List.map_nil]); first | done | rfl | (simp only [List.length_drop, List.length_take]; rfl)) ?_; (with_reducible refine (kdf_Pass.calls _ _ l0_0 _ _ l0_1 (wrap64 (1 + (Int.tmod (wrap64 (a0_4)) 4))) (Int.tmod (wrap64 (a0_2)) 100) t111 t112 _ ?side1 ?side2 ?side3 ?side4 A11.out).mono ?_); (case side1 => repeat (first | exact (Kd.C_below HR0_0.out HB.out) | (with_reducible refine Kd.C_alloc ?_ _) | (with_reducible refine Kd.C_drewN ?_ _) | (with_reducible refine Kd.C_drew ?_))); (case side2 => exact HC0_0.out); (case side3 => repeat (first | exact (Kd.C_below HR0_1.out HB.out) | (with_reducible refine Kd.C_alloc ?_ _) | (with_reducible refine Kd.C_drewN ?_ _) | (with_reducible refine Kd.C_drew ?_))); (case side4 => exact HC0_1.out); rintro e w16 ⟨v113, rfl, ho0, hb⟩; refine ⟨_, rfl, ?_⟩; have n0_ := Aside0.mk (Kd.R_elder' (by (with_reducible repeat (first | apply Kd.R_alloc | apply Kd.R_drewN | apply Kd.R_drew)); exact HO106.out) (Kd.R_base ho0) hb); have n1_ := Aside0.mk (Kd.R_elder' (by (with_reducible repeat (first | apply Kd.R_alloc | apply Kd.R_drewN | apply Kd.R_drew)); exact HO110.out) (Kd.R_base ho0) hb); have n2_ := Aside0.mk (Kd.R_lower (Kd.R_new' (Kd.R_new' ho0 (Kd.R_lt (by (with_reducible repeat (first | apply Kd.R_alloc | apply Kd.R_drewN | apply Kd.R_drew)); exact HO106.out))) (Kd.R_lt (by (with_reducible repeat (first | apply Kd.R_alloc | apply Kd.R_drewN | apply Kd.R_drew)); exact HO110.out))) (below_size (by repeat (first | (with_reducible first | exact HB.out | apply below_alloc | apply pw_below_drewN | apply below_drew1 | refine below_set ?_ GE101.out) | exact HB.out)))); have n3_ := Aside0.mk (blk_below (g := gb101) (o := .cells #[.slice A0_0 l0_0.length c0_0, .slice A0_1 l0_1.length c0_1, .int .u8 a0_2, .int .u8 a0_3, .int .u8 a0_4] 44 (0, 0)) (by (with_reducible repeat (first | refine blk_drewN ?_ _ | refine blk_drew ?_ | refine blk_alloc ?_ _)); exact BK101.out) hb); have n4_ := Aside0.mk (below_step (by repeat (first | (with_reducible first | exact HB.out | apply below_alloc | apply pw_below_drewN | apply below_drew1 | refine below_set ?_ GE101.out) | exact HB.out)) hb); clear HO106; clear HO110; clear BK101; clear HB; have HO106 := n0_; have HO110 := n1_; have HO114 := n2_; have BK101 := n3_; have HB := n4_; clear n0_ n1_ n2_ n3_ n4_; (try clear hb); (try clear hb2); (try clear hk); (try clear hi); (try clear ho0)) | ((with_reducible refine gate_callee (f := 25) rfl ?_); refine goesL_ (some 79) rfl rfl Try.func25 (by kernel_rfl) rfl #[.slice A0_0 l0_0.length c0_0, .slice A0_1 l0_1.length c0_1, .int .i64 (wrap64 (1 + (Int.tmod (wrap64 (a0_4)) 4))), .int .i64 (wrap64 ((Int.tmod (wrap64 (a0_2)) 100) + (Int.tmod (wrap64 (a0_3)) 100)))] rfl (by (try simp only [List.map_toArray, List.map_cons, List.map_nil]); first | done | rfl | (simp only [List.length_drop, List.length_take]; rfl)) ?_; (with_reducible refine (kdf_Pass.calls _ _ l0_0 _ _ l0_1 (wrap64 (1 + (Int.tmod (wrap64 (a0_4)) 4))) (wrap64 ((Int.tmod (wrap64 (a0_2)) 100) + (Int.tmod (wrap64 (a0_3)) 100))) t115 t116 _ ?side1 ?side2 ?side3 ?side4 A12.out).mono ?_); (case side1 => repeat (first | exact (Kd.C_below HR0_0.out HB.out) | (with_reducible refine Kd.C_alloc ?_ _) | (with_reducible refine Kd.C_drewN ?_ _) | (with_reducible refine Kd.C_drew ?_))); (case side2 => exact HC0_0.out); (case side3 => repeat (first | exact (Kd.C_below HR0_1.out HB.out) | (with_reducible refine Kd.C_alloc ?_ _) | (with_reducible refine Kd.C_drewN ?_ _) | (with_reducible refine Kd.C_drew ?_))); (case side4 => exact HC0_1.out); rintro e w17 ⟨v117, rfl, ho0, hb⟩; refine ⟨_, rfl, ?_⟩; have n0_ := Aside0.mk (Kd.R_elder' (by (with_reducible repeat (first | apply Kd.R_alloc | apply Kd.R_drewN | apply Kd.R_drew)); exact HO106.out) (Kd.R_base ho0) hb); have n1_ := Aside0.mk (Kd.R_elder' (by (with_reducible repeat (first | apply Kd.R_alloc | apply Kd.R_drewN | apply Kd.R_drew)); exact HO110.out) (Kd.R_base ho0) hb); have n2_ := Aside0.mk (Kd.R_elder' (by (with_reducible repeat (first | apply Kd.R_alloc | apply Kd.R_drewN | apply Kd.R_drew)); exact HO114.out) (Kd.R_base ho0) hb); have n3_ := Aside0.mk (Kd.R_lower (Kd.R_new' (Kd.R_new' (Kd.R_new' ho0 (Kd.R_lt (by (with_reducible repeat (first | apply Kd.R_alloc | apply Kd.R_drewN | apply Kd.R_drew)); exact HO106.out))) (Kd.R_lt (by (with_reducible repeat (first | apply Kd.R_alloc | apply Kd.R_drewN | apply Kd.R_drew)); exact HO110.out))) (Kd.R_lt (by (with_reducible repeat (first | apply Kd.R_alloc | apply Kd.R_drewN | apply Kd.R_drew)); exact HO114.out))) (below_size (by repeat (first | (with_reducible first | exact HB.out | apply below_alloc | apply pw_below_drewN | apply below_drew1 | refine below_set ?_ GE101.out) | exact HB.out)))); have n4_ := Aside0.mk (blk_below (g := gb101) (o := .cells #[.slice A0_0 l0_0.length c0_0, .slice A0_1 l0_1.length c0_1, .int .u8 a0_2, .int .u8 a0_3, .int .u8 a0_4] 44 (0, 0)) (by (with_reducible repeat (first | refine blk_drewN ?_ _ | refine blk_drew ?_ | refine blk_alloc ?_ _)); exact BK101.out) hb); have n5_ := Aside0.mk (below_step (by repeat (first | (with_reducible first | exact HB.out | apply below_alloc | apply pw_below_drewN | apply below_drew1 | refine below_set ?_ GE101.out) | exact HB.out)) hb); clear HO106; clear HO110; clear HO114; clear BK101; clear HB; have HO106 := n0_; have HO110 := n1_; have HO114 := n2_; have HO118 := n3_; have BK101 := n4_; have HB := n5_; clear n0_ n1_ n2_ n3_ n4_ n5_; (try clear hb); (try clear hb2); (try clear hk); (try clear hi); (try clear ho0)))
        (try simp only [Act.put, List.setIfInBounds_toArray, List.set_cons_zero, List.set_cons_succ])
        go_cut [119] (fun v119 wc => ∃ (kq : Nat) (x119_12 : Bool), v119 = .bool x119_12 ∧ Aside0 (pyxlaw04_KdfBegins.j1 kq t102 (Int.tmod (wrap64 (a0_2)) 100) t103 t107 t111 t115 x119_12 = some true) ∧ Aside0 (kq ≤ kj2) ∧ Aside0 (Kd.R (Kd.int .u8) 5 wc w.heap.size (fun k_ => some k_ ≠ (v109 : Value).ownBlock ∧ some k_ ≠ (v113 : Value).ownBlock ∧ some k_ ≠ (v117 : Value).ownBlock) v105 t103) ∧ Aside0 (Kd.R (Kd.int .u8) 5 wc w.heap.size (fun k_ => some k_ ≠ (v105 : Value).ownBlock ∧ some k_ ≠ (v113 : Value).ownBlock ∧ some k_ ≠ (v117 : Value).ownBlock) v109 t107) ∧ Aside0 (Kd.R (Kd.int .u8) 5 wc w.heap.size (fun k_ => some k_ ≠ (v105 : Value).ownBlock ∧ some k_ ≠ (v109 : Value).ownBlock ∧ some k_ ≠ (v117 : Value).ownBlock) v113 t111) ∧ Aside0 (Kd.R (Kd.int .u8) 5 wc w.heap.size (fun k_ => some k_ ≠ (v105 : Value).ownBlock ∧ some k_ ≠ (v109 : Value).ownBlock ∧ some k_ ≠ (v113 : Value).ownBlock) v117 t115) ∧ Aside0 (wc.heap[gb101]? = some (.cells #[(.slice A0_0 l0_0.length c0_0), (.slice A0_1 l0_1.length c0_1), .int .u8 a0_2, .int .u8 a0_3, .int .u8 a0_4] 44 (0, 0))) ∧ Aside0 (Below w.heap.size w wc))
        case first =>
          have H := HC13.out
          clear HC13
          by_cases c18 : t104 = 0
          · rw [if_pos c18] at H
            have c18b0 : (t104 == 0) = true := beq_iff_eq.mpr c18
            have c18b1 : (t104 != 0) = false := bne_eq_false_iff_eq.mpr c18
            clear c18
            (first | rw [c18b0] | (simp only [i64_w, i32_w]; rw [c18b0]) | skip)
            by_cases c19 : t108 = 0
            · rw [if_pos c19] at H
              have c19b0 : (t108 == 0) = true := beq_iff_eq.mpr c19
              have c19b1 : (t108 != 0) = false := bne_eq_false_iff_eq.mpr c19
              clear c19
              by_cases c20 : t112 = 0
              · rw [if_pos c20] at H
                have c20b0 : (t112 == 0) = true := beq_iff_eq.mpr c20
                have c20b1 : (t112 != 0) = false := bne_eq_false_iff_eq.mpr c20
                clear c20
                by_cases c21 : t116 = 0
                · rw [if_pos c21] at H
                  have c21b0 : (t116 == 0) = true := beq_iff_eq.mpr c21
                  have c21b1 : (t116 != 0) = false := bne_eq_false_iff_eq.mpr c21
                  clear c21
                  by_cases c22 : (t103.length : Int) = (Int.tmod (wrap64 (a0_2)) 100)
                  · rw [if_pos c22] at H
                    have c22b0 : ((t103.length : Int) == (Int.tmod (wrap64 (a0_2)) 100)) = true := beq_iff_eq.mpr c22
                    have c22b1 : ((t103.length : Int) != (Int.tmod (wrap64 (a0_2)) 100)) = false := bne_eq_false_iff_eq.mpr c22
                    clear c22
                    by_cases c23 : (t107.length : Int) = (wrap64 ((Int.tmod (wrap64 (a0_2)) 100) + (Int.tmod (wrap64 (a0_3)) 100)))
                    · rw [if_pos c23] at H
                      have c23b0 : ((t107.length : Int) == (wrap64 ((Int.tmod (wrap64 (a0_2)) 100) + (Int.tmod (wrap64 (a0_3)) 100)))) = true := beq_iff_eq.mpr c23
                      have c23b1 : ((t107.length : Int) != (wrap64 ((Int.tmod (wrap64 (a0_2)) 100) + (Int.tmod (wrap64 (a0_3)) 100)))) = false := bne_eq_false_iff_eq.mpr c23
                      clear c23
                      by_cases c24 : (t111.length : Int) = (Int.tmod (wrap64 (a0_2)) 100)
                      · rw [if_pos c24] at H
                        have c24b0 : ((t111.length : Int) == (Int.tmod (wrap64 (a0_2)) 100)) = true := beq_iff_eq.mpr c24
                        have c24b1 : ((t111.length : Int) != (Int.tmod (wrap64 (a0_2)) 100)) = false := bne_eq_false_iff_eq.mpr c24
                        clear c24
                        have H' := Aside0.mk H
                        clear H
                        obtain ⟨Ao25, co25, eo25⟩ := Kd.R_slice HO106.out
                        subst eo25
                        obtain ⟨Ao26, co26, eo26⟩ := Kd.R_slice HO110.out
                        subst eo26
                        obtain ⟨Ao27, co27, eo27⟩ := Kd.R_slice HO114.out
                        subst eo27
                        obtain ⟨Ao28, co28, eo28⟩ := Kd.R_slice HO118.out
                        subst eo28
                        go_wp2
                        go_meet
                        case rel => exact ⟨_, (((t115.length : Int) != (wrap64 ((Int.tmod (wrap64 (a0_2)) 100) + (Int.tmod (wrap64 (a0_3)) 100))))), (by first | rfl | (simp; done) | (simp [*]; done)), H', ⟨by have := HJ2.out; first | omega | exact Nat.le_refl _⟩, ⟨by (with_reducible repeat (first | apply Kd.R_alloc | apply Kd.R_drewN | apply Kd.R_drew)); exact Kd.R_mono HO106.out (fun _ hk => ⟨hk.1.1.2, ⟨hk.1.2, hk.2⟩⟩)⟩, ⟨by (with_reducible repeat (first | apply Kd.R_alloc | apply Kd.R_drewN | apply Kd.R_drew)); exact Kd.R_mono HO110.out (fun _ hk => ⟨hk.1.1.2, ⟨hk.1.2, hk.2⟩⟩)⟩, ⟨by (with_reducible repeat (first | apply Kd.R_alloc | apply Kd.R_drewN | apply Kd.R_drew)); exact Kd.R_mono HO114.out (fun _ hk => ⟨hk.1.1.2, ⟨hk.1.2, hk.2⟩⟩)⟩, ⟨by (with_reducible repeat (first | apply Kd.R_alloc | apply Kd.R_drewN | apply Kd.R_drew)); exact Kd.R_mono HO118.out (fun _ hk => ⟨hk.1.1.2, ⟨hk.1.2, hk.2⟩⟩)⟩, ⟨by (with_reducible repeat (first | refine blk_drewN ?_ _ | refine blk_drew ?_ | refine blk_alloc ?_ _)); exact BK101.out⟩, ⟨by repeat (first | (with_reducible first | exact HB.out | apply below_alloc | apply pw_below_drewN | apply below_drew1 | refine below_set ?_ GE101.out) | exact HB.out)⟩⟩
                      · rw [if_neg c24] at H
                        have c24b0 : ((t111.length : Int) == (Int.tmod (wrap64 (a0_2)) 100)) = false := beq_eq_false_iff_ne.mpr c24
                        have c24b1 : ((t111.length : Int) != (Int.tmod (wrap64 (a0_2)) 100)) = true := bne_iff_ne.mpr c24
                        have H' := Aside0.mk H
                        clear H
                        obtain ⟨Ao29, co29, eo29⟩ := Kd.R_slice HO106.out
                        subst eo29
                        obtain ⟨Ao30, co30, eo30⟩ := Kd.R_slice HO110.out
                        subst eo30
                        obtain ⟨Ao31, co31, eo31⟩ := Kd.R_slice HO114.out
                        subst eo31
                        go_wp2
                        go_meet
                        case rel => exact ⟨_, (true), (by first | rfl | (simp; done) | (simp [*]; done)), H', ⟨by have := HJ2.out; first | omega | exact Nat.le_refl _⟩, ⟨by (with_reducible repeat (first | apply Kd.R_alloc | apply Kd.R_drewN | apply Kd.R_drew)); exact Kd.R_mono HO106.out (fun _ hk => ⟨hk.1.1.2, ⟨hk.1.2, hk.2⟩⟩)⟩, ⟨by (with_reducible repeat (first | apply Kd.R_alloc | apply Kd.R_drewN | apply Kd.R_drew)); exact Kd.R_mono HO110.out (fun _ hk => ⟨hk.1.1.2, ⟨hk.1.2, hk.2⟩⟩)⟩, ⟨by (with_reducible repeat (first | apply Kd.R_alloc | apply Kd.R_drewN | apply Kd.R_drew)); exact Kd.R_mono HO114.out (fun _ hk => ⟨hk.1.1.2, ⟨hk.1.2, hk.2⟩⟩)⟩, ⟨by (with_reducible repeat (first | apply Kd.R_alloc | apply Kd.R_drewN | apply Kd.R_drew)); exact Kd.R_mono HO118.out (fun _ hk => ⟨hk.1.1.2, ⟨hk.1.2, hk.2⟩⟩)⟩, ⟨by (with_reducible repeat (first | refine blk_drewN ?_ _ | refine blk_drew ?_ | refine blk_alloc ?_ _)); exact BK101.out⟩, ⟨by repeat (first | (with_reducible first | exact HB.out | apply below_alloc | apply pw_below_drewN | apply below_drew1 | refine below_set ?_ GE101.out) | exact HB.out)⟩⟩
                    · rw [if_neg c23] at H
                      have c23b0 : ((t107.length : Int) == (wrap64 ((Int.tmod (wrap64 (a0_2)) 100) + (Int.tmod (wrap64 (a0_3)) 100)))) = false := beq_eq_false_iff_ne.mpr c23
                      have c23b1 : ((t107.length : Int) != (wrap64 ((Int.tmod (wrap64 (a0_2)) 100) + (Int.tmod (wrap64 (a0_3)) 100)))) = true := bne_iff_ne.mpr c23
                      have H' := Aside0.mk H
                      clear H
                      obtain ⟨Ao32, co32, eo32⟩ := Kd.R_slice HO106.out
                      subst eo32
                      obtain ⟨Ao33, co33, eo33⟩ := Kd.R_slice HO110.out
                      subst eo33
                      go_wp2
                      go_meet
                      case rel => exact ⟨_, (true), (by first | rfl | (simp; done) | (simp [*]; done)), H', ⟨by have := HJ2.out; first | omega | exact Nat.le_refl _⟩, ⟨by (with_reducible repeat (first | apply Kd.R_alloc | apply Kd.R_drewN | apply Kd.R_drew)); exact Kd.R_mono HO106.out (fun _ hk => ⟨hk.1.1.2, ⟨hk.1.2, hk.2⟩⟩)⟩, ⟨by (with_reducible repeat (first | apply Kd.R_alloc | apply Kd.R_drewN | apply Kd.R_drew)); exact Kd.R_mono HO110.out (fun _ hk => ⟨hk.1.1.2, ⟨hk.1.2, hk.2⟩⟩)⟩, ⟨by (with_reducible repeat (first | apply Kd.R_alloc | apply Kd.R_drewN | apply Kd.R_drew)); exact Kd.R_mono HO114.out (fun _ hk => ⟨hk.1.1.2, ⟨hk.1.2, hk.2⟩⟩)⟩, ⟨by (with_reducible repeat (first | apply Kd.R_alloc | apply Kd.R_drewN | apply Kd.R_drew)); exact Kd.R_mono HO118.out (fun _ hk => ⟨hk.1.1.2, ⟨hk.1.2, hk.2⟩⟩)⟩, ⟨by (with_reducible repeat (first | refine blk_drewN ?_ _ | refine blk_drew ?_ | refine blk_alloc ?_ _)); exact BK101.out⟩, ⟨by repeat (first | (with_reducible first | exact HB.out | apply below_alloc | apply pw_below_drewN | apply below_drew1 | refine below_set ?_ GE101.out) | exact HB.out)⟩⟩
                  · rw [if_neg c22] at H
                    have c22b0 : ((t103.length : Int) == (Int.tmod (wrap64 (a0_2)) 100)) = false := beq_eq_false_iff_ne.mpr c22
                    have c22b1 : ((t103.length : Int) != (Int.tmod (wrap64 (a0_2)) 100)) = true := bne_iff_ne.mpr c22
                    have H' := Aside0.mk H
                    clear H
                    obtain ⟨Ao34, co34, eo34⟩ := Kd.R_slice HO106.out
                    subst eo34
                    go_wp2
                    go_meet
                    case rel => exact ⟨_, (true), (by first | rfl | (simp; done) | (simp [*]; done)), H', ⟨by have := HJ2.out; first | omega | exact Nat.le_refl _⟩, ⟨by (with_reducible repeat (first | apply Kd.R_alloc | apply Kd.R_drewN | apply Kd.R_drew)); exact Kd.R_mono HO106.out (fun _ hk => ⟨hk.1.1.2, ⟨hk.1.2, hk.2⟩⟩)⟩, ⟨by (with_reducible repeat (first | apply Kd.R_alloc | apply Kd.R_drewN | apply Kd.R_drew)); exact Kd.R_mono HO110.out (fun _ hk => ⟨hk.1.1.2, ⟨hk.1.2, hk.2⟩⟩)⟩, ⟨by (with_reducible repeat (first | apply Kd.R_alloc | apply Kd.R_drewN | apply Kd.R_drew)); exact Kd.R_mono HO114.out (fun _ hk => ⟨hk.1.1.2, ⟨hk.1.2, hk.2⟩⟩)⟩, ⟨by (with_reducible repeat (first | apply Kd.R_alloc | apply Kd.R_drewN | apply Kd.R_drew)); exact Kd.R_mono HO118.out (fun _ hk => ⟨hk.1.1.2, ⟨hk.1.2, hk.2⟩⟩)⟩, ⟨by (with_reducible repeat (first | refine blk_drewN ?_ _ | refine blk_drew ?_ | refine blk_alloc ?_ _)); exact BK101.out⟩, ⟨by repeat (first | (with_reducible first | exact HB.out | apply below_alloc | apply pw_below_drewN | apply below_drew1 | refine below_set ?_ GE101.out) | exact HB.out)⟩⟩
                · rw [if_neg c21] at H
                  have c21b0 : (t116 == 0) = false := beq_eq_false_iff_ne.mpr c21
                  have c21b1 : (t116 != 0) = true := bne_iff_ne.mpr c21
                  have H' := Aside0.mk H
                  clear H
                  go_wp2
                  go_meet
                  case rel => exact ⟨_, (true), (by first | rfl | (simp; done) | (simp [*]; done)), H', ⟨by have := HJ2.out; first | omega | exact Nat.le_refl _⟩, ⟨by (with_reducible repeat (first | apply Kd.R_alloc | apply Kd.R_drewN | apply Kd.R_drew)); exact Kd.R_mono HO106.out (fun _ hk => ⟨hk.1.1.2, ⟨hk.1.2, hk.2⟩⟩)⟩, ⟨by (with_reducible repeat (first | apply Kd.R_alloc | apply Kd.R_drewN | apply Kd.R_drew)); exact Kd.R_mono HO110.out (fun _ hk => ⟨hk.1.1.2, ⟨hk.1.2, hk.2⟩⟩)⟩, ⟨by (with_reducible repeat (first | apply Kd.R_alloc | apply Kd.R_drewN | apply Kd.R_drew)); exact Kd.R_mono HO114.out (fun _ hk => ⟨hk.1.1.2, ⟨hk.1.2, hk.2⟩⟩)⟩, ⟨by (with_reducible repeat (first | apply Kd.R_alloc | apply Kd.R_drewN | apply Kd.R_drew)); exact Kd.R_mono HO118.out (fun _ hk => ⟨hk.1.1.2, ⟨hk.1.2, hk.2⟩⟩)⟩, ⟨by (with_reducible repeat (first | refine blk_drewN ?_ _ | refine blk_drew ?_ | refine blk_alloc ?_ _)); exact BK101.out⟩, ⟨by repeat (first | (with_reducible first | exact HB.out | apply below_alloc | apply pw_below_drewN | apply below_drew1 | refine below_set ?_ GE101.out) | exact HB.out)⟩⟩
              · rw [if_neg c20] at H
                have c20b0 : (t112 == 0) = false := beq_eq_false_iff_ne.mpr c20
                have c20b1 : (t112 != 0) = true := bne_iff_ne.mpr c20
                have H' := Aside0.mk H
                clear H
                go_wp2
                go_meet
                case rel => exact ⟨_, (true), (by first | rfl | (simp; done) | (simp [*]; done)), H', ⟨by have := HJ2.out; first | omega | exact Nat.le_refl _⟩, ⟨by (with_reducible repeat (first | apply Kd.R_alloc | apply Kd.R_drewN | apply Kd.R_drew)); exact Kd.R_mono HO106.out (fun _ hk => ⟨hk.1.1.2, ⟨hk.1.2, hk.2⟩⟩)⟩, ⟨by (with_reducible repeat (first | apply Kd.R_alloc | apply Kd.R_drewN | apply Kd.R_drew)); exact Kd.R_mono HO110.out (fun _ hk => ⟨hk.1.1.2, ⟨hk.1.2, hk.2⟩⟩)⟩, ⟨by (with_reducible repeat (first | apply Kd.R_alloc | apply Kd.R_drewN | apply Kd.R_drew)); exact Kd.R_mono HO114.out (fun _ hk => ⟨hk.1.1.2, ⟨hk.1.2, hk.2⟩⟩)⟩, ⟨by (with_reducible repeat (first | apply Kd.R_alloc | apply Kd.R_drewN | apply Kd.R_drew)); exact Kd.R_mono HO118.out (fun _ hk => ⟨hk.1.1.2, ⟨hk.1.2, hk.2⟩⟩)⟩, ⟨by (with_reducible repeat (first | refine blk_drewN ?_ _ | refine blk_drew ?_ | refine blk_alloc ?_ _)); exact BK101.out⟩, ⟨by repeat (first | (with_reducible first | exact HB.out | apply below_alloc | apply pw_below_drewN | apply below_drew1 | refine below_set ?_ GE101.out) | exact HB.out)⟩⟩
            · rw [if_neg c19] at H
              have c19b0 : (t108 == 0) = false := beq_eq_false_iff_ne.mpr c19
              have c19b1 : (t108 != 0) = true := bne_iff_ne.mpr c19
              have H' := Aside0.mk H
              clear H
              go_wp2
              go_meet
              case rel => exact ⟨_, (true), (by first | rfl | (simp; done) | (simp [*]; done)), H', ⟨by have := HJ2.out; first | omega | exact Nat.le_refl _⟩, ⟨by (with_reducible repeat (first | apply Kd.R_alloc | apply Kd.R_drewN | apply Kd.R_drew)); exact Kd.R_mono HO106.out (fun _ hk => ⟨hk.1.1.2, ⟨hk.1.2, hk.2⟩⟩)⟩, ⟨by (with_reducible repeat (first | apply Kd.R_alloc | apply Kd.R_drewN | apply Kd.R_drew)); exact Kd.R_mono HO110.out (fun _ hk => ⟨hk.1.1.2, ⟨hk.1.2, hk.2⟩⟩)⟩, ⟨by (with_reducible repeat (first | apply Kd.R_alloc | apply Kd.R_drewN | apply Kd.R_drew)); exact Kd.R_mono HO114.out (fun _ hk => ⟨hk.1.1.2, ⟨hk.1.2, hk.2⟩⟩)⟩, ⟨by (with_reducible repeat (first | apply Kd.R_alloc | apply Kd.R_drewN | apply Kd.R_drew)); exact Kd.R_mono HO118.out (fun _ hk => ⟨hk.1.1.2, ⟨hk.1.2, hk.2⟩⟩)⟩, ⟨by (with_reducible repeat (first | refine blk_drewN ?_ _ | refine blk_drew ?_ | refine blk_alloc ?_ _)); exact BK101.out⟩, ⟨by repeat (first | (with_reducible first | exact HB.out | apply below_alloc | apply pw_below_drewN | apply below_drew1 | refine below_set ?_ GE101.out) | exact HB.out)⟩⟩
          · rw [if_neg c18] at H
            have c18b0 : (t104 == 0) = false := beq_eq_false_iff_ne.mpr c18
            have c18b1 : (t104 != 0) = true := bne_iff_ne.mpr c18
            (first | rw [c18b0] | (simp only [i64_w, i32_w]; rw [c18b0]) | skip)
            have H' := Aside0.mk H
            clear H
            go_wp2
            go_meet
            case rel => exact ⟨_, (true), (by first | rfl | (simp; done) | (simp [*]; done)), H', ⟨by have := HJ2.out; first | omega | exact Nat.le_refl _⟩, ⟨by (with_reducible repeat (first | apply Kd.R_alloc | apply Kd.R_drewN | apply Kd.R_drew)); exact Kd.R_mono HO106.out (fun _ hk => ⟨hk.1.1.2, ⟨hk.1.2, hk.2⟩⟩)⟩, ⟨by (with_reducible repeat (first | apply Kd.R_alloc | apply Kd.R_drewN | apply Kd.R_drew)); exact Kd.R_mono HO110.out (fun _ hk => ⟨hk.1.1.2, ⟨hk.1.2, hk.2⟩⟩)⟩, ⟨by (with_reducible repeat (first | apply Kd.R_alloc | apply Kd.R_drewN | apply Kd.R_drew)); exact Kd.R_mono HO114.out (fun _ hk => ⟨hk.1.1.2, ⟨hk.1.2, hk.2⟩⟩)⟩, ⟨by (with_reducible repeat (first | apply Kd.R_alloc | apply Kd.R_drewN | apply Kd.R_drew)); exact Kd.R_mono HO118.out (fun _ hk => ⟨hk.1.1.2, ⟨hk.1.2, hk.2⟩⟩)⟩, ⟨by (with_reducible repeat (first | refine blk_drewN ?_ _ | refine blk_drew ?_ | refine blk_alloc ?_ _)); exact BK101.out⟩, ⟨by repeat (first | (with_reducible first | exact HB.out | apply below_alloc | apply pw_below_drewN | apply below_drew1 | refine below_set ?_ GE101.out) | exact HB.out)⟩⟩
        case rest =>
          clear HC13
          try clear c1
          try clear c2
          try clear p2
          try clear c5
          try clear p6
          try clear c7
          try clear c7b0
          try clear c7b1
          try clear c8
          try clear c15
          try clear c16
          try clear c18
          try clear c18b0
          try clear c18b1
          try clear c19
          try clear c19b0
          try clear c19b1
          try clear c20
          try clear c20b0
          try clear c20b1
          try clear c21
          try clear c21b0
          try clear c21b1
          try clear c22
          try clear c22b0
          try clear c22b1
          try clear c23
          try clear c23b0
          try clear c23b1
          try clear c24
          try clear c24b0
          try clear c24b1
          try clear c25
          try clear hcz5_0
          try clear hcz5_1
          try clear hcz5_2
          try clear hcz5_3
          try clear hcz5_4
          try clear hfz5_0
          try clear hfz5_1
          try clear hfz5_2
          try clear hfz5_3
          try clear hfz5_4
          try clear p2
          obtain ⟨kq, x119_12, rfl, HA, HJ12, HO_12, HO_14, HO_16, HO_18, BK101, HB⟩ := hcut
          cases kq with
          | zero => exact absurd HA.out (by simp [pyxlaw04_KdfBegins.j1])
          | succ kj12 =>
            have H := HA.out
            clear HA
            simp only [pyxlaw04_KdfBegins.j1] at H
            by_cases c35 : x119_12 = true
            · subst c35
              have H1 : (some false) = some true := by rw [if_pos rfl] at H; exact H
              clear H
              have H := H1
              clear H1
              exact absurd (Option.some.inj H) (by decide)
            · replace c35 := Bool.eq_false_iff.mpr c35
              subst c35
              have H1 : (if t102 = true then (if 0 ≤ (Int.tmod (wrap64 (a0_2)) 100) then (if (Int.tmod (wrap64 (a0_2)) 100) ≤ (t107.length : Int) then ((pyxref01_Same.f t103 (t107.take ((Int.tmod (wrap64 (a0_2)) 100) : Int).toNat)).bind fun t123 => (if t123 = true then (if (Int.tmod (wrap64 (a0_2)) 100) ≤ (t115.length : Int) then ((pyxref01_Same.f t111 (t115.take ((Int.tmod (wrap64 (a0_2)) 100) : Int).toNat)).bind fun t128 => (some t128)) else (none)) else (some false))) else (none)) else (none)) else (some false)) = some true := by rw [if_neg (show ¬ (false = true) by decide)] at H; exact H
              clear H
              have H := H1
              clear H1
              by_cases c36 : t102 = true
              · subst c36
                have H1 : (if 0 ≤ (Int.tmod (wrap64 (a0_2)) 100) then (if (Int.tmod (wrap64 (a0_2)) 100) ≤ (t107.length : Int) then ((pyxref01_Same.f t103 (t107.take ((Int.tmod (wrap64 (a0_2)) 100) : Int).toNat)).bind fun t123 => (if t123 = true then (if (Int.tmod (wrap64 (a0_2)) 100) ≤ (t115.length : Int) then ((pyxref01_Same.f t111 (t115.take ((Int.tmod (wrap64 (a0_2)) 100) : Int).toNat)).bind fun t128 => (some t128)) else (none)) else (some false))) else (none)) else (none)) = some true := by rw [if_pos rfl] at H; exact H
                clear H
                have H := H1
                clear H1
                obtain ⟨ji37, hji37⟩ : ∃ j_ : Int, (Int.tmod (wrap64 (a0_2)) 100) = j_ := ⟨_, rfl⟩
                replace H : (if 0 ≤ (ji37) then (if (ji37) ≤ (t107.length : Int) then ((pyxref01_Same.f t103 (t107.take ((ji37) : Int).toNat)).bind fun t123 => (if t123 = true then (if (ji37) ≤ (t115.length : Int) then ((pyxref01_Same.f t111 (t115.take ((ji37) : Int).toNat)).bind fun t128 => (some t128)) else (none)) else (some false))) else (none)) else (none)) = some true := by first | (rw [hji37] at H; exact H) | (simp only [hji37] at H ⊢; exact H)
                by_cases c38 : 0 ≤ (ji37)
                · rw [if_pos c38] at H
                  have c38b0 := eq_true c38
                  have c38b1 : decide (0 ≤ (ji37)) = true := decide_eq_true c38
                  clear c38
                  by_cases c39 : (ji37) ≤ (t107.length : Int)
                  · rw [if_pos c39] at H
                    have c39b0 := eq_true c39
                    have c39b1 : decide ((ji37) ≤ (t107.length : Int)) = true := decide_eq_true c39
                    clear c39
                    obtain ⟨y119, hy119⟩ : ∃ y_ : List Int, y_ = (t107.take ((ji37) : Int).toNat) := ⟨_, rfl⟩
                    replace H : ((pyxref01_Same.f t103 y119).bind fun t123 => (if t123 = true then (if (ji37) ≤ (t115.length : Int) then ((pyxref01_Same.f t111 (t115.take ((ji37) : Int).toNat)).bind fun t128 => (some t128)) else (none)) else (some false))) = some true := by first | (rw [hy119]; with_reducible exact H) | (have H2_ := (Option.bind_some _ _).symm.trans H; rw [hy119]; with_reducible exact H2_) | (have H2_ := (Option.bind_some _ _).symm.trans H; with_reducible exact H2_) | with_reducible exact H | (rw [hy119]; exact H) | exact H
                    have Ny119 := Aside0.mk hy119
                    clear hy119
                    replace H := Option.bind_eq_some_iff.mp H
                    obtain ⟨t123, A400, H⟩ := H
                    replace H : (if t123 = true then (if (ji37) ≤ (t115.length : Int) then ((pyxref01_Same.f t111 (t115.take ((ji37) : Int).toNat)).bind fun t128 => (some t128)) else (none)) else (some false)) = some true := H
                    have A40 := Aside0.mk A400
                    clear A400
                    by_cases c41 : t123 = true
                    · subst c41
                      have H1 : (if (ji37) ≤ (t115.length : Int) then ((pyxref01_Same.f t111 (t115.take ((ji37) : Int).toNat)).bind fun t128 => (some t128)) else (none)) = some true := by rw [if_pos rfl] at H; exact H
                      clear H
                      have H := H1
                      clear H1
                      have c42b0 := eq_true (of_decide_eq_true (by first | (with_reducible assumption) | assumption) : 0 ≤ (ji37))
                      by_cases c43 : (ji37) ≤ (t115.length : Int)
                      · rw [if_pos c43] at H
                        have c43b0 := eq_true c43
                        have c43b1 : decide ((ji37) ≤ (t115.length : Int)) = true := decide_eq_true c43
                        clear c43
                        obtain ⟨y124, hy124⟩ : ∃ y_ : List Int, y_ = (t115.take ((ji37) : Int).toNat) := ⟨_, rfl⟩
                        replace H : ((pyxref01_Same.f t111 y124).bind fun t128 => (some t128)) = some true := by first | (rw [hy124]; with_reducible exact H) | (have H2_ := (Option.bind_some _ _).symm.trans H; rw [hy124]; with_reducible exact H2_) | (have H2_ := (Option.bind_some _ _).symm.trans H; with_reducible exact H2_) | with_reducible exact H | (rw [hy124]; exact H) | exact H
                        have Ny124 := Aside0.mk hy124
                        clear hy124
                        replace H := Option.bind_eq_some_iff.mp H
                        obtain ⟨t128, A440, H⟩ := H
                        replace H : (some t128) = some true := H
                        have A44 := Aside0.mk A440
                        clear A440
                        have HT_ := Option.some.inj H
                        obtain ⟨Ao46, co46, eo46⟩ := Kd.R_slice HO_14.out
                        subst eo46
                        have q45 : ((ji37) : Int) ≤ ((t107.length : Int) : Int) := of_decide_eq_true (by first | (with_reducible assumption) | assumption)
                        obtain ⟨i045, hi045, _, hsz45, _⟩ := info_parts info5
                        have hroom45 : t107.length ≤ co46 := (Kd.R_reads' HO_14.out).2.1
                        have hC45 : Kd.C (Kd.int .u8) _ Ao46 t107.length t107 := (Kd.R_reads' HO_14.out).2.2
                        have hcut45 := cut_to (P := Try.prog) 22 5 .i64 Try.underlying22 hi045 Ao46 t107.length co46 (ji37) (of_decide_eq_true (by first | (with_reducible assumption) | assumption)) q45 hroom45
                        have hr45 := Kd.C_take (m := ((ji37) : Int).toNat) hC45 (by omega)
                        have hy45 : y119.length = ((ji37) : Int).toNat := (by rw [Ny119.out, List.length_take]; omega)
                        rw [← Ny119.out] at hr45
                        rw [← hy45] at hcut45
                        have HR122 := Aside0.mk hr45
                        have HC122 := Aside0.mk (show y119.length ≤ co46 from by omega)
                        clear hr45 hC45 hroom45 hi045 hsz45
                        have KY45 := Aside0.mk hy45
                        clear hy45
                        have KL45 := Aside0.mk (show ((ji37) : Int).toNat ≤ t107.length from by omega)
                        replace q45 := eq_true q45
                        obtain ⟨Ao47, co47, eo47⟩ := Kd.R_slice HO_12.out
                        subst eo47
                        go_wp2_with (first | (go_at_call 22; (with_reducible refine (pyxref01_Same.calls _ _ t103 _ _ y119 true _ ?side1 ?side2 ?side3 ?side4 A40.out).mono ?_); (case side1 => repeat (first | exact (Kd.R_reads' HO_12.out).2.2 | (with_reducible refine Kd.C_alloc ?_ _) | (with_reducible refine Kd.C_drewN ?_ _) | (with_reducible refine Kd.C_drew ?_))); (case side2 => exact (Kd.R_reads' HO_12.out).2.1); (case side3 => repeat (first | exact (by repeat (first | (with_reducible exact HR122.out) | (with_reducible refine Kd.C_alloc ?_ _) | (with_reducible refine Kd.C_drewN ?_ _) | (with_reducible refine Kd.C_drew ?_) | exact HR122.out)) | (with_reducible refine Kd.C_alloc ?_ _) | (with_reducible refine Kd.C_drewN ?_ _) | (with_reducible refine Kd.C_drew ?_))); (case side4 => exact HC122.out); rintro e w' ⟨rfl, ⟨nd, rfl⟩⟩; obtain ⟨Ao49, co49, eo49⟩ := Kd.R_slice HO_18.out; subst eo49; have q48 : ((ji37) : Int) ≤ ((t115.length : Int) : Int) := of_decide_eq_true (by first | (with_reducible assumption) | assumption); obtain ⟨i048, hi048, _, hsz48, _⟩ := info_parts info5; have hroom48 : t115.length ≤ co49 := (Kd.R_reads' HO_18.out).2.1; have hC48 : Kd.C (Kd.int .u8) _ Ao49 t115.length t115 := (Kd.R_reads' HO_18.out).2.2; have hcut48 := cut_to (P := Try.prog) 22 5 .i64 Try.underlying22 hi048 Ao49 t115.length co49 (ji37) (of_decide_eq_true (by first | (with_reducible assumption) | assumption)) q48 hroom48; have hr48 := Kd.C_take (m := ((ji37) : Int).toNat) hC48 (by omega); have hy48 : y124.length = ((ji37) : Int).toNat := (by rw [Ny124.out, List.length_take]; omega); rw [← Ny124.out] at hr48; rw [← hy48] at hcut48; have HR127 := Aside0.mk hr48; have HC127 := Aside0.mk (show y124.length ≤ co49 from by omega); clear hr48 hC48 hroom48 hi048 hsz48; have KY48 := Aside0.mk hy48; clear hy48; have KL48 := Aside0.mk (show ((ji37) : Int).toNat ≤ t115.length from by omega); replace q48 := eq_true q48; obtain ⟨Ao50, co50, eo50⟩ := Kd.R_slice HO_16.out; subst eo50) | (go_at_call 22; (with_reducible refine (pyxref01_Same.calls _ _ t111 _ _ y124 t128 _ ?side1 ?side2 ?side3 ?side4 A44.out).mono ?_); (case side1 => repeat (first | exact (Kd.R_reads' HO_16.out).2.2 | (with_reducible refine Kd.C_alloc ?_ _) | (with_reducible refine Kd.C_drewN ?_ _) | (with_reducible refine Kd.C_drew ?_))); (case side2 => exact (Kd.R_reads' HO_16.out).2.1); (case side3 => repeat (first | exact (by repeat (first | (with_reducible exact HR127.out) | (with_reducible refine Kd.C_alloc ?_ _) | (with_reducible refine Kd.C_drewN ?_ _) | (with_reducible refine Kd.C_drew ?_) | exact HR127.out)) | (with_reducible refine Kd.C_alloc ?_ _) | (with_reducible refine Kd.C_drewN ?_ _) | (with_reducible refine Kd.C_drew ?_))); (case side4 => exact HC127.out); rintro e w' ⟨rfl, ⟨nd, rfl⟩⟩))
                        go_ret
                        exact ⟨by first | rfl | (simp [errW_none, errW_some] <;> rfl) | (simp only [← hji37]; first | rfl | (simp [errW_none, errW_some] <;> rfl)) | (simp [*, errW_none, errW_some] <;> rfl), by repeat (first | (with_reducible first | exact HB.out | apply below_alloc | apply pw_below_drewN | apply below_drew1 | refine below_set ?_ GE101.out) | exact HB.out)⟩
                      · rw [if_neg c43] at H
                        exact absurd H (by simp)
                    · replace c41 := Bool.eq_false_iff.mpr c41
                      subst c41
                      have H1 : (some false) = some true := by rw [if_neg (show ¬ (false = true) by decide)] at H; exact H
                      clear H
                      have H := H1
                      clear H1
                      exact absurd (Option.some.inj H) (by decide)
                  · rw [if_neg c39] at H
                    exact absurd H (by simp)
                · rw [if_neg c38] at H
                  exact absurd H (by simp)
              · replace c36 := Bool.eq_false_iff.mpr c36
                subst c36
                have H1 : (some false) = some true := by rw [if_neg (show ¬ (false = true) by decide)] at H; exact H
                clear H
                have H := H1
                clear H1
                exact absurd (Option.some.inj H) (by decide)
end Go.Proofs.Ytpdgeanicciaiaa.P
