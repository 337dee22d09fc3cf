-- Written by xprint.py, this session's driver over the kit's print.py, out of the translation.
import Derived.Test.YtifpdpfjhjoieaaPSealLockedy0
namespace Go.Proofs.Ytifpdpfjhjoieaa.P
open Go.RowKit Go.Proofs.YtifpdpfjhjoieaaW.PrintWords Go.Proofs.YtifpdpfjhjoieaaW.PrintLast Go.Proofs.YtifpdpfjhjoieaaW.PrintMore
attribute [local go_sem] max2_int min2_int max_two min_two max_three min_three max_four min_four   -- for this text's walks alone
set_option linter.unusedVariables false
set_option linter.unusedSimpArgs false

-- NOT PRINTED: function 47 (byt_Num)

-- NOT PRINTED: function 95 (byt_wide)

-- NOT PRINTED: function 79 (byt_Len)

-- NOT PRINTED: function 62 (byt_Row)

-- NOT PRINTED: function 42 (seal_ready)

-- NOT PRINTED: function 83 (aes_Mul)

-- NOT PRINTED: function 96 (aes_inverse)

-- NOT PRINTED: function 97 (bits_RotateLeft8)

-- NOT PRINTED: function 82 (aes_Box)

-- NOT PRINTED: function 65 (aes_boxes)

-- NOT PRINTED: function 66 (aes_keys)

-- NOT PRINTED: function 84 (aes_state_with)

-- NOT PRINTED: function 85 (aes_state_shifted)

-- NOT PRINTED: function 86 (aes_state_mixed)

-- NOT PRINTED: function 67 (aes_locked)

-- NOT PRINTED: function 43 (aes_Stream)

-- NOT PRINTED: function 104 (slices_Grow_byte_byte)

-- NOT PRINTED: function 99 (slices_Concat_byte_byte)

-- NOT PRINTED: function 87 (mac_joined)

-- NOT PRINTED: function 105 (sha_primes)

-- NOT PRINTED: function 112 (bits_Mul64)

-- NOT PRINTED: function 113 (bits_Add64)

-- NOT PRINTED: function 110 (sha_above)

-- NOT PRINTED: function 106 (sha_root)

-- NOT PRINTED: function 100 (sha_keys)

-- NOT PRINTED: function 101 (sha_Start)

-- NOT PRINTED: function 111 (bits_RotateLeft32)

-- NOT PRINTED: function 108 (sha_turned)

-- NOT PRINTED: function 107 (sha_words)

-- NOT PRINTED: function 102 (sha_mixed)

-- NOT PRINTED: function 103 (sha_Pad)

-- NOT PRINTED: function 94 (sha_Sum)

-- NOT PRINTED: function 91 (mac_Key)

-- NOT PRINTED: function 78 (mac_Sum)

-- NOT PRINTED: function 68 (mac_All)

-- NOT PRINTED: function 44 (seal_tag)

-- NOT PRINTED: function 46 (mac_Same)

-- NOT PRINTED: function 77 (pyxref01_power)

-- NOT PRINTED: function 54 (pyxref01_Num)

-- NOT PRINTED: function 70 (pyxref01_Len)

-- NOT PRINTED: function 48 (pyxref01_Row)

-- NOT PRINTED: function 71 (pyxref02_Pad)

-- NOT PRINTED: function 72 (pyxref02_keys)

-- NOT PRINTED: function 73 (pyxref02_Start)

-- NOT PRINTED: function 88 (pyxref02_word)

-- NOT PRINTED: function 89 (pyxref02_turn)

-- NOT PRINTED: function 74 (pyxref02_step)

-- NOT PRINTED: function 50 (pyxref02_Sum)

-- NOT PRINTED: function 49 (pyxref03_Key)

-- NOT PRINTED: function 51 (pyxref03_with)

-- NOT PRINTED: function 64 (pyxref04_Expand)

-- NOT PRINTED: function 41 (pyxref04_Label)

-- NOT PRINTED: function 90 (pyxref05_left)

-- NOT PRINTED: function 75 (pyxref05_turned)

-- NOT PRINTED: function 76 (pyxref05_Mul)

-- NOT PRINTED: function 52 (pyxref05_boxes)

-- NOT PRINTED: function 53 (pyxref05_keys)

-- NOT PRINTED: function 55 (pyxref05_lock)

/-! ### pyxlaw06_SealLocked: function 7 -/
mutual
def pyxlaw06_SealLocked.j0 : Nat → List Int → List Int → List Int → List Int → List Int → Bool → Bool → Option (Bool)
 | 0, _, _, _, _, _, _, _ => none
 | k + 1, x3, x4, x5, x6, x7, x8, x54 => if x54 = true then (some x8) else ((seal_Seal.f x3 x4 x5 x7).bind fun bt103 => ((seal_Seal.f x3 x4 x6 x7).bind fun bt107 => ((seal_Halves.f x3).bind fun bt111 => ((pyxref06_Halves.f x3).bind fun bt118 => ((pyxref05_Stream.f bt118.1 x4 x7).bind fun bt125 => (if bt103.2 = 0 then (if bt107.2 = 0 then (if bt111.2.2 = 0 then (if (bt103.1.length : Int) = (wrap64 ((x7.length : Int) + 32)) then (if (bt107.1.length : Int) = (bt103.1.length : Int) then (if (bt111.1.length : Int) = 16 then (pyxlaw06_SealLocked.j1 k x5 x6 x7 x8 bt103.1 bt107.1 bt111.1 bt118.1 bt125.1 ((bt111.2.1.length : Int) != 32)) else (pyxlaw06_SealLocked.j1 k x5 x6 x7 x8 bt103.1 bt107.1 bt111.1 bt118.1 bt125.1 true)) else (pyxlaw06_SealLocked.j1 k x5 x6 x7 x8 bt103.1 bt107.1 bt111.1 bt118.1 bt125.1 true)) else (pyxlaw06_SealLocked.j1 k x5 x6 x7 x8 bt103.1 bt107.1 bt111.1 bt118.1 bt125.1 true)) else (pyxlaw06_SealLocked.j1 k x5 x6 x7 x8 bt103.1 bt107.1 bt111.1 bt118.1 bt125.1 true)) else (pyxlaw06_SealLocked.j1 k x5 x6 x7 x8 bt103.1 bt107.1 bt111.1 bt118.1 bt125.1 true)) else (pyxlaw06_SealLocked.j1 k x5 x6 x7 x8 bt103.1 bt107.1 bt111.1 bt118.1 bt125.1 true)))))))
def pyxlaw06_SealLocked.j1 : Nat → List Int → List Int → List Int → Bool → List Int → List Int → List Int → List Int → List Int → Bool → Option (Bool)
 | 0, _, _, _, _, _, _, _, _, _, _ => none
 | k + 1, x5, x6, x7, x8, x9, x11, x13, x16, x19, x125 => if x125 = true then (some false) else (if x8 = true then ((pyxref01_Same.f x13 x16).bind fun t129 => (if t129 = true then (if 0 ≤ (x7.length : Int) then (if (x7.length : Int) ≤ (x9.length : Int) then ((pyxref01_Same.f (x9.take ((x7.length : Int) : Int).toNat) x19).bind fun t134 => (if t134 = true then (if (x7.length : Int) ≤ (x11.length : Int) then ((pyxref01_Same.f (x11.take ((x7.length : Int) : Int).toNat) x19).bind fun t139 => (if t139 = true then ((pyxref01_Same.f x5 x6).bind fun t140 => (if t140 = true then ((pyxref01_Same.f x9 x11).bind fun t141 => (some t141)) else (some true))) else (some false))) else (none)) else (some false))) else (none)) else (none)) else (some false))) else (some false))
end
def pyxlaw06_SealLocked.f (k : Nat) (l0_0 : List Int) (l0_1 : List Int) (l0_2 : List Int) (l0_3 : List Int) (l0_4 : List Int) : Option (Bool) := (pyxlaw06_shown.f).bind fun t102 => (if (l0_0.length : Int) = 32 then (if (l0_1.length : Int) = 12 then (if (l0_2.length : Int) > 100 then (pyxlaw06_SealLocked.j0 k l0_0 l0_1 l0_2 l0_3 l0_4 t102 true) else (if (l0_3.length : Int) > 100 then (pyxlaw06_SealLocked.j0 k l0_0 l0_1 l0_2 l0_3 l0_4 t102 true) else (pyxlaw06_SealLocked.j0 k l0_0 l0_1 l0_2 l0_3 l0_4 t102 (decide ((l0_4.length : Int) > 200))))) else (pyxlaw06_SealLocked.j0 k l0_0 l0_1 l0_2 l0_3 l0_4 t102 true)) else (pyxlaw06_SealLocked.j0 k l0_0 l0_1 l0_2 l0_3 l0_4 t102 true))
theorem pyxlaw06_SealLocked.mono_l : ∀ k, (∀ y0 y1 y2 y3 y4 y5 y6, LeO (pyxlaw06_SealLocked.j0 k y0 y1 y2 y3 y4 y5 y6) (pyxlaw06_SealLocked.j0 (k + 1) y0 y1 y2 y3 y4 y5 y6)) ∧ (∀ y0 y1 y2 y3 y4 y5 y6 y7 y8 y9, LeO (pyxlaw06_SealLocked.j1 k y0 y1 y2 y3 y4 y5 y6 y7 y8 y9) (pyxlaw06_SealLocked.j1 (k + 1) y0 y1 y2 y3 y4 y5 y6 y7 y8 y9))
 | 0 => ⟨fun _ _ _ _ _ _ _ r h => by simp [pyxlaw06_SealLocked.j0] at h, fun _ _ _ _ _ _ _ _ _ _ r h => by simp [pyxlaw06_SealLocked.j1] at h⟩
 | k + 1 => by
  obtain ⟨ih0, ih1⟩ := pyxlaw06_SealLocked.mono_l k
  refine ⟨?_, ?_⟩
  ·intro y0 y1 y2 y3 y4 y5 y6
   unfold pyxlaw06_SealLocked.j0
   repeat' first
   | (with_reducible exact ih0 _ _ _ _ _ _ _)
   | (with_reducible exact ih1 _ _ _ _ _ _ _ _ _ _)
   | (with_reducible exact LeO.refl _)
   | (with_reducible exact LeO.none _)
   | (with_reducible refine LeO.ite ?_ ?_)
   | (with_reducible refine LeO.bind ?_ (fun _ => ?_))
   | exact ih0 _ _ _ _ _ _ _
   | exact ih1 _ _ _ _ _ _ _ _ _ _
   | exact LeO.none _
   | refine LeO.ite ?_ ?_
   | refine LeO.bind ?_ (fun _ => ?_)
  ·intro y0 y1 y2 y3 y4 y5 y6 y7 y8 y9
   unfold pyxlaw06_SealLocked.j1
   repeat' first
   | (with_reducible exact ih0 _ _ _ _ _ _ _)
   | (with_reducible exact ih1 _ _ _ _ _ _ _ _ _ _)
   | (with_reducible exact LeO.refl _)
   | (with_reducible exact LeO.none _)
   | (with_reducible refine LeO.ite ?_ ?_)
   | (with_reducible refine LeO.bind ?_ (fun _ => ?_))
   | exact ih0 _ _ _ _ _ _ _
   | exact ih1 _ _ _ _ _ _ _ _ _ _
   | exact LeO.none _
   | refine LeO.ite ?_ ?_
   | refine LeO.bind ?_ (fun _ => ?_)
theorem pyxlaw06_SealLocked.mono : ∀ a0 a1 a2 a3 a4 k, LeO (pyxlaw06_SealLocked.f k a0 a1 a2 a3 a4) (pyxlaw06_SealLocked.f (k + 1) a0 a1 a2 a3 a4) := by
 intro a0 a1 a2 a3 a4 k
 obtain ⟨ih0, ih1⟩ := pyxlaw06_SealLocked.mono_l k
 unfold pyxlaw06_SealLocked.f
 repeat' first
   | (with_reducible exact ih0 _ _ _ _ _ _ _)
   | (with_reducible exact ih1 _ _ _ _ _ _ _ _ _ _)
   | (with_reducible exact LeO.refl _)
   | (with_reducible exact LeO.none _)
   | (with_reducible refine LeO.ite ?_ ?_)
   | (with_reducible refine LeO.bind ?_ (fun _ => ?_))
   | exact ih0 _ _ _ _ _ _ _
   | exact ih1 _ _ _ _ _ _ _ _ _ _
   | exact LeO.none _
   | refine LeO.ite ?_ ?_
   | refine LeO.bind ?_ (fun _ => ?_)
set_option maxHeartbeats 8000000 in
set_option maxRecDepth 100000 in
theorem pyxlaw06_SealLocked.calls (k : Nat) (A0_0 : Option Addr) (c0_0 : Nat) (l0_0 : List Int) (A0_1 : Option Addr) (c0_1 : Nat) (l0_1 : List Int) (A0_2 : Option Addr) (c0_2 : Nat) (l0_2 : List Int) (A0_3 : Option Addr) (c0_3 : Nat) (l0_3 : List Int) (A0_4 : Option Addr) (c0_4 : Nat) (l0_4 : List Int) (w : World) (hr0_0 : Kd.C (Kd.int .u8) w A0_0 l0_0.length l0_0) (hc0_0 : l0_0.length ≤ c0_0) (hr0_1 : Kd.C (Kd.int .u8) w A0_1 l0_1.length l0_1) (hc0_1 : l0_1.length ≤ c0_1) (hr0_2 : Kd.C (Kd.int .u8) w A0_2 l0_2.length l0_2) (hc0_2 : l0_2.length ≤ c0_2) (hr0_3 : Kd.C (Kd.int .u8) w A0_3 l0_3.length l0_3) (hc0_3 : l0_3.length ≤ c0_3) (hr0_4 : Kd.C (Kd.int .u8) w A0_4 l0_4.length l0_4) (hc0_4 : l0_4.length ≤ c0_4) (h : pyxlaw06_SealLocked.f k l0_0 l0_1 l0_2 l0_3 l0_4 = some true) :
  Calls Try.prog 7 #[.agg #[.slice A0_0 l0_0.length c0_0, .slice A0_1 l0_1.length c0_1, .slice A0_2 l0_2.length c0_2, .slice A0_3 l0_3.length c0_3, .slice A0_4 l0_4.length c0_4]] w fun e w' => e = .returned (.bool true) ∧ Below w.heap.size w w' := by
 have hu51 := Try.underlying51
 have HR0_0 := Aside0.mk hr0_0
 have HC0_0 := Aside0.mk hc0_0
 clear hr0_0 hc0_0
 have HR0_1 := Aside0.mk hr0_1
 have HC0_1 := Aside0.mk hc0_1
 clear hr0_1 hc0_1
 have HR0_2 := Aside0.mk hr0_2
 have HC0_2 := Aside0.mk hc0_2
 clear hr0_2 hc0_2
 have HR0_3 := Aside0.mk hr0_3
 have HC0_3 := Aside0.mk hc0_3
 clear hr0_3 hc0_3
 have HR0_4 := Aside0.mk hr0_4
 have HC0_4 := Aside0.mk hc0_4
 clear hr0_4 hc0_4
 have HB := Aside0.mk (Below.refl w.heap.size w)
 have H : ((pyxlaw06_shown.f).bind fun t102 => (if (l0_0.length : Int) = 32 then (if (l0_1.length : Int) = 12 then (if (l0_2.length : Int) > 100 then (pyxlaw06_SealLocked.j0 k l0_0 l0_1 l0_2 l0_3 l0_4 t102 true) else (if (l0_3.length : Int) > 100 then (pyxlaw06_SealLocked.j0 k l0_0 l0_1 l0_2 l0_3 l0_4 t102 true) else (pyxlaw06_SealLocked.j0 k l0_0 l0_1 l0_2 l0_3 l0_4 t102 (decide ((l0_4.length : Int) > 200))))) else (pyxlaw06_SealLocked.j0 k l0_0 l0_1 l0_2 l0_3 l0_4 t102 true)) else (pyxlaw06_SealLocked.j0 k l0_0 l0_1 l0_2 l0_3 l0_4 t102 true))) = some true := h
 clear h
 replace H := Option.bind_eq_some_iff.mp H
 obtain ⟨t102, A20, H⟩ := H
 replace H : (if (l0_0.length : Int) = 32 then (if (l0_1.length : Int) = 12 then (if (l0_2.length : Int) > 100 then (pyxlaw06_SealLocked.j0 k l0_0 l0_1 l0_2 l0_3 l0_4 t102 true) else (if (l0_3.length : Int) > 100 then (pyxlaw06_SealLocked.j0 k l0_0 l0_1 l0_2 l0_3 l0_4 t102 true) else (pyxlaw06_SealLocked.j0 k l0_0 l0_1 l0_2 l0_3 l0_4 t102 (decide ((l0_4.length : Int) > 200))))) else (pyxlaw06_SealLocked.j0 k l0_0 l0_1 l0_2 l0_3 l0_4 t102 true)) else (pyxlaw06_SealLocked.j0 k l0_0 l0_1 l0_2 l0_3 l0_4 t102 true)) = some true := H
 have A2 := Aside0.mk A20
 clear A20
 have HC3 := Aside0.mk H
 clear H
 go_enter Try.func7, Try.ntmps7
 go_upto_region 7 with (first | ((with_reducible refine gate_dst (N := 1) rfl ?_); (try (refine gate_guard (by rfl) ?_; dsimp only)); refine box_event ?hg (N := 1) ?hd (cs := #[.slice A0_0 l0_0.length c0_0, .slice A0_1 l0_1.length c0_1, .slice A0_2 l0_2.length c0_2, .slice A0_3 l0_3.length c0_3, .slice A0_4 l0_4.length c0_4]) (t := 51) ?hr ?_; (case hd => rfl); (case hg => rfl); (case hr => first | (go_simp; done) | (go_simp; rfl)); intro gb101 hg w4 hbox hb; have n0_ := Aside0.mk (below_step (by repeat (first | (with_reducible first | exact HB.out | apply below_alloc | apply pw_below_drewN | apply below_drew1) | exact HB.out)) hb); have n1_ := Aside0.mk (hbox); have n2_ := Aside0.mk ((by rw [hg]; exact (below_size (by repeat (first | (with_reducible first | exact HB.out | apply below_alloc | apply pw_below_drewN | apply below_drew1) | exact HB.out))) : w.heap.size ≤ gb101)); have n3_ := Aside0.mk ((by rw [hg]; exact (below_size (by repeat (first | (with_reducible first | exact HB.out | apply below_alloc | apply pw_below_drewN | apply below_drew1) | exact HB.out))) : w.heap.size ≤ gb101)); clear HB; have HB := n0_; have BK101 := n1_; have GW101 := n2_; have GE101 := n3_; clear n0_ n1_ n2_ n3_; clear hb hbox hg; have hcz5_0 : w4.cell? ⟨gb101, 0, none⟩ = some (.slice A0_0 l0_0.length c0_0) := (blk_cell BK101.out 0).trans rfl; have hcz5_1 : w4.cell? ⟨gb101, 1, none⟩ = some (.slice A0_1 l0_1.length c0_1) := (blk_cell BK101.out 1).trans rfl; have hcz5_2 : w4.cell? ⟨gb101, 2, none⟩ = some (.slice A0_2 l0_2.length c0_2) := (blk_cell BK101.out 2).trans rfl; have hcz5_3 : w4.cell? ⟨gb101, 3, none⟩ = some (.slice A0_3 l0_3.length c0_3) := (blk_cell BK101.out 3).trans rfl; have hcz5_4 : w4.cell? ⟨gb101, 4, none⟩ = some (.slice A0_4 l0_4.length c0_4) := (blk_cell BK101.out 4).trans rfl; have hfz5_0 := blk_frozen BK101.out 0; have hfz5_1 := blk_frozen BK101.out 1; have hfz5_2 := blk_frozen BK101.out 2; have hfz5_3 := blk_frozen BK101.out 3; have hfz5_4 := blk_frozen BK101.out 4) | ((with_reducible refine gate_callee (f := 13) rfl ?_); refine goesL_ (some 31) rfl rfl Try.func13 (by kernel_rfl) rfl #[] rfl (by (try simp only [List.map_toArray, List.map_cons, List.map_nil]); first | done | rfl | (simp only [List.length_drop, List.length_take]; rfl)) ?_; (with_reducible refine (pyxlaw06_shown.calls  t102 _ A2.out).mono ?_); rintro e w6 ⟨rfl, hb⟩; refine ⟨_, rfl, ?_⟩; have n0_ := Aside0.mk (blk_below (g := gb101) (o := .cells #[.slice A0_0 l0_0.length c0_0, .slice A0_1 l0_1.length c0_1, .slice A0_2 l0_2.length c0_2, .slice A0_3 l0_3.length c0_3, .slice A0_4 l0_4.length c0_4] 51 (0, 0)) (by (with_reducible repeat (first | refine blk_drewN ?_ _ | refine blk_drew ?_ | refine blk_alloc ?_ _)); exact BK101.out) hb); have n1_ := Aside0.mk (below_step (by repeat (first | (with_reducible first | exact HB.out | apply below_alloc | apply pw_below_drewN | apply below_drew1 | refine below_set ?_ GE101.out) | exact HB.out)) hb); clear BK101; clear HB; have BK101 := n0_; have HB := n1_; clear n0_ n1_; (try clear hb); (try clear hb2); (try clear hk); (try clear hi)))
 (try simp only [Act.put, List.setIfInBounds_toArray, List.set_cons_zero, List.set_cons_succ])
 go_cut [54] (fun v54 wc => ∃ (kq : Nat) (x54_2 : Bool), v54 = .bool x54_2 ∧ Aside0 (pyxlaw06_SealLocked.j0 kq l0_0 l0_1 l0_2 l0_3 l0_4 t102 x54_2 = some true) ∧ Aside0 (kq ≤ k) ∧ Aside0 (wc.heap[gb101]? = some (.cells #[(.slice A0_0 l0_0.length c0_0), (.slice A0_1 l0_1.length c0_1), (.slice A0_2 l0_2.length c0_2), (.slice A0_3 l0_3.length c0_3), (.slice A0_4 l0_4.length c0_4)] 51 (0, 0))) ∧ Aside0 (Below w.heap.size w wc))
 case first =>
  have H := HC3.out
  clear HC3
  by_cases c7 : (l0_0.length : Int) = 32
  ·rw [if_pos c7] at H
   have c7b0 : ((l0_0.length : Int) == 32) = true := beq_iff_eq.mpr c7
   have c7b1 : ((l0_0.length : Int) != 32) = false := bne_eq_false_iff_eq.mpr c7
   clear c7
   (first | rw [c7b0] | (simp only [i64_w, i32_w]; rw [c7b0]) | skip)
   by_cases c8 : (l0_1.length : Int) = 12
   ·rw [if_pos c8] at H
    have c8b0 : ((l0_1.length : Int) == 12) = true := beq_iff_eq.mpr c8
    have c8b1 : ((l0_1.length : Int) != 12) = false := bne_eq_false_iff_eq.mpr c8
    clear c8
    by_cases c9 : (l0_2.length : Int) > 100
    ·rw [if_pos c9] at H
     have c9b0 : decide (100 < (l0_2.length : Int)) = true := decide_eq_true c9
     have c9b1 : decide (100 < l0_2.length) = true := decide_eq_true (by omega)
     clear c9
     have H' := Aside0.mk H
     clear H
     go_wp2
     go_meet
     case rel => exact ⟨_, (true), (by first | rfl | (simp; done) | (simp [*]; done)), H', ⟨by first | omega | exact Nat.le_refl _⟩, ⟨by (with_reducible repeat (first | refine blk_drewN ?_ _ | refine blk_drew ?_ | refine blk_alloc ?_ _)); exact BK101.out⟩, ⟨by repeat (first | (with_reducible first | exact HB.out | apply below_alloc | apply pw_below_drewN | apply below_drew1 | refine below_set ?_ GE101.out) | exact HB.out)⟩⟩
    ·rw [if_neg c9] at H
     have c9b0 : decide (100 < (l0_2.length : Int)) = false := decide_eq_false c9
     have c9b1 : decide (100 < l0_2.length) = false := decide_eq_false (by omega)
     clear c9
     by_cases c10 : (l0_3.length : Int) > 100
     ·rw [if_pos c10] at H
      have c10b0 : decide (100 < (l0_3.length : Int)) = true := decide_eq_true c10
      have c10b1 : decide (100 < l0_3.length) = true := decide_eq_true (by omega)
      clear c10
      have H' := Aside0.mk H
      clear H
      go_wp2
      go_meet
      case rel => exact ⟨_, (true), (by first | rfl | (simp; done) | (simp [*]; done)), H', ⟨by first | omega | exact Nat.le_refl _⟩, ⟨by (with_reducible repeat (first | refine blk_drewN ?_ _ | refine blk_drew ?_ | refine blk_alloc ?_ _)); exact BK101.out⟩, ⟨by repeat (first | (with_reducible first | exact HB.out | apply below_alloc | apply pw_below_drewN | apply below_drew1 | refine below_set ?_ GE101.out) | exact HB.out)⟩⟩
     ·rw [if_neg c10] at H
      have c10b0 : decide (100 < (l0_3.length : Int)) = false := decide_eq_false c10
      have c10b1 : decide (100 < l0_3.length) = false := decide_eq_false (by omega)
      clear c10
      have H' := Aside0.mk H
      clear H
      go_wp2
      go_meet
      case rel => exact ⟨_, (decide ((l0_4.length : Int) > 200)), (by first | rfl | (simp; done) | (simp [*]; done)), H', ⟨by first | omega | exact Nat.le_refl _⟩, ⟨by (with_reducible repeat (first | refine blk_drewN ?_ _ | refine blk_drew ?_ | refine blk_alloc ?_ _)); exact BK101.out⟩, ⟨by repeat (first | (with_reducible first | exact HB.out | apply below_alloc | apply pw_below_drewN | apply below_drew1 | refine below_set ?_ GE101.out) | exact HB.out)⟩⟩
   ·rw [if_neg c8] at H
    have c8b0 : ((l0_1.length : Int) == 12) = false := beq_eq_false_iff_ne.mpr c8
    have c8b1 : ((l0_1.length : Int) != 12) = true := bne_iff_ne.mpr c8
    have H' := Aside0.mk H
    clear H
    go_wp2
    go_meet
    case rel => exact ⟨_, (true), (by first | rfl | (simp; done) | (simp [*]; done)), H', ⟨by first | omega | exact Nat.le_refl _⟩, ⟨by (with_reducible repeat (first | refine blk_drewN ?_ _ | refine blk_drew ?_ | refine blk_alloc ?_ _)); exact BK101.out⟩, ⟨by repeat (first | (with_reducible first | exact HB.out | apply below_alloc | apply pw_below_drewN | apply below_drew1 | refine below_set ?_ GE101.out) | exact HB.out)⟩⟩
  ·rw [if_neg c7] at H
   have c7b0 : ((l0_0.length : Int) == 32) = false := beq_eq_false_iff_ne.mpr c7
   have c7b1 : ((l0_0.length : Int) != 32) = true := bne_iff_ne.mpr c7
   (first | rw [c7b0] | (simp only [i64_w, i32_w]; rw [c7b0]) | skip)
   have H' := Aside0.mk H
   clear H
   go_wp2
   go_meet
   case rel => exact ⟨_, (true), (by first | rfl | (simp; done) | (simp [*]; done)), H', ⟨by first | omega | exact Nat.le_refl _⟩, ⟨by (with_reducible repeat (first | refine blk_drewN ?_ _ | refine blk_drew ?_ | refine blk_alloc ?_ _)); exact BK101.out⟩, ⟨by repeat (first | (with_reducible first | exact HB.out | apply below_alloc | apply pw_below_drewN | apply below_drew1 | refine below_set ?_ GE101.out) | exact HB.out)⟩⟩
 case rest =>
  clear HC3
  try clear c1
  try clear p2
  try clear c7
  try clear c7b0
  try clear c7b1
  try clear c8
  try clear c8b0
  try clear c8b1
  try clear c9
  try clear c9b0
  try clear c9b1
  try clear c10
  try clear c10b0
  try clear c10b1
  try clear hcz5_0
  try clear hcz5_1
  try clear hcz5_2
  try clear hcz5_3
  try clear hcz5_4
  try clear hfz5_0
  try clear hfz5_1
  try clear hfz5_2
  try clear hfz5_3
  try clear hfz5_4
  obtain ⟨kq, x54_2, rfl, HA, HJ2, BK101, HB⟩ := hcut
  cases kq with
  | zero => exact absurd HA.out (by simp [pyxlaw06_SealLocked.j0])
  | succ kj2 =>
   have H := HA.out
   clear HA
   simp only [pyxlaw06_SealLocked.j0] at H
   by_cases c11 : x54_2 = true
   ·subst c11
    have H1 : (some t102) = some true := by rw [if_pos rfl] at H; exact H
    clear H
    have H := H1
    clear H1
    have HT_ := Option.some.inj H
    go_wp2
    go_ret
    exact ⟨by first | rfl | (simp [errW_none, errW_some] <;> rfl) | (simp [*, errW_none, errW_some] <;> rfl), by repeat (first | (with_reducible first | exact HB.out | apply below_alloc | apply pw_below_drewN | apply below_drew1 | refine below_set ?_ GE101.out) | exact HB.out)⟩
   ·replace c11 := Bool.eq_false_iff.mpr c11
    subst c11
    have H1 : ((seal_Seal.f l0_0 l0_1 l0_2 l0_4).bind fun bt103 => ((seal_Seal.f l0_0 l0_1 l0_3 l0_4).bind fun bt107 => ((seal_Halves.f l0_0).bind fun bt111 => ((pyxref06_Halves.f l0_0).bind fun bt118 => ((pyxref05_Stream.f bt118.1 l0_1 l0_4).bind fun bt125 => (if bt103.2 = 0 then (if bt107.2 = 0 then (if bt111.2.2 = 0 then (if (bt103.1.length : Int) = (wrap64 ((l0_4.length : Int) + 32)) then (if (bt107.1.length : Int) = (bt103.1.length : Int) then (if (bt111.1.length : Int) = 16 then (pyxlaw06_SealLocked.j1 kj2 l0_2 l0_3 l0_4 t102 bt103.1 bt107.1 bt111.1 bt118.1 bt125.1 ((bt111.2.1.length : Int) != 32)) else (pyxlaw06_SealLocked.j1 kj2 l0_2 l0_3 l0_4 t102 bt103.1 bt107.1 bt111.1 bt118.1 bt125.1 true)) else (pyxlaw06_SealLocked.j1 kj2 l0_2 l0_3 l0_4 t102 bt103.1 bt107.1 bt111.1 bt118.1 bt125.1 true)) else (pyxlaw06_SealLocked.j1 kj2 l0_2 l0_3 l0_4 t102 bt103.1 bt107.1 bt111.1 bt118.1 bt125.1 true)) else (pyxlaw06_SealLocked.j1 kj2 l0_2 l0_3 l0_4 t102 bt103.1 bt107.1 bt111.1 bt118.1 bt125.1 true)) else (pyxlaw06_SealLocked.j1 kj2 l0_2 l0_3 l0_4 t102 bt103.1 bt107.1 bt111.1 bt118.1 bt125.1 true)) else (pyxlaw06_SealLocked.j1 kj2 l0_2 l0_3 l0_4 t102 bt103.1 bt107.1 bt111.1 bt118.1 bt125.1 true))))))) = some true := by rw [if_neg (show ¬ (false = true) by decide)] at H; exact H
    clear H
    have H := H1
    clear H1
    replace H := Option.bind_eq_some_iff.mp H
    obtain ⟨⟨t103, t104⟩, A120, H⟩ := H
    replace H : ((seal_Seal.f l0_0 l0_1 l0_3 l0_4).bind fun bt107 => ((seal_Halves.f l0_0).bind fun bt111 => ((pyxref06_Halves.f l0_0).bind fun bt118 => ((pyxref05_Stream.f bt118.1 l0_1 l0_4).bind fun bt125 => (if t104 = 0 then (if bt107.2 = 0 then (if bt111.2.2 = 0 then (if (t103.length : Int) = (wrap64 ((l0_4.length : Int) + 32)) then (if (bt107.1.length : Int) = (t103.length : Int) then (if (bt111.1.length : Int) = 16 then (pyxlaw06_SealLocked.j1 kj2 l0_2 l0_3 l0_4 t102 t103 bt107.1 bt111.1 bt118.1 bt125.1 ((bt111.2.1.length : Int) != 32)) else (pyxlaw06_SealLocked.j1 kj2 l0_2 l0_3 l0_4 t102 t103 bt107.1 bt111.1 bt118.1 bt125.1 true)) else (pyxlaw06_SealLocked.j1 kj2 l0_2 l0_3 l0_4 t102 t103 bt107.1 bt111.1 bt118.1 bt125.1 true)) else (pyxlaw06_SealLocked.j1 kj2 l0_2 l0_3 l0_4 t102 t103 bt107.1 bt111.1 bt118.1 bt125.1 true)) else (pyxlaw06_SealLocked.j1 kj2 l0_2 l0_3 l0_4 t102 t103 bt107.1 bt111.1 bt118.1 bt125.1 true)) else (pyxlaw06_SealLocked.j1 kj2 l0_2 l0_3 l0_4 t102 t103 bt107.1 bt111.1 bt118.1 bt125.1 true)) else (pyxlaw06_SealLocked.j1 kj2 l0_2 l0_3 l0_4 t102 t103 bt107.1 bt111.1 bt118.1 bt125.1 true)))))) = some true := H
    have A12 := Aside0.mk A120
    clear A120
    replace H := Option.bind_eq_some_iff.mp H
    obtain ⟨⟨t107, t108⟩, A130, H⟩ := H
    replace H : ((seal_Halves.f l0_0).bind fun bt111 => ((pyxref06_Halves.f l0_0).bind fun bt118 => ((pyxref05_Stream.f bt118.1 l0_1 l0_4).bind fun bt125 => (if t104 = 0 then (if t108 = 0 then (if bt111.2.2 = 0 then (if (t103.length : Int) = (wrap64 ((l0_4.length : Int) + 32)) then (if (t107.length : Int) = (t103.length : Int) then (if (bt111.1.length : Int) = 16 then (pyxlaw06_SealLocked.j1 kj2 l0_2 l0_3 l0_4 t102 t103 t107 bt111.1 bt118.1 bt125.1 ((bt111.2.1.length : Int) != 32)) else (pyxlaw06_SealLocked.j1 kj2 l0_2 l0_3 l0_4 t102 t103 t107 bt111.1 bt118.1 bt125.1 true)) else (pyxlaw06_SealLocked.j1 kj2 l0_2 l0_3 l0_4 t102 t103 t107 bt111.1 bt118.1 bt125.1 true)) else (pyxlaw06_SealLocked.j1 kj2 l0_2 l0_3 l0_4 t102 t103 t107 bt111.1 bt118.1 bt125.1 true)) else (pyxlaw06_SealLocked.j1 kj2 l0_2 l0_3 l0_4 t102 t103 t107 bt111.1 bt118.1 bt125.1 true)) else (pyxlaw06_SealLocked.j1 kj2 l0_2 l0_3 l0_4 t102 t103 t107 bt111.1 bt118.1 bt125.1 true)) else (pyxlaw06_SealLocked.j1 kj2 l0_2 l0_3 l0_4 t102 t103 t107 bt111.1 bt118.1 bt125.1 true))))) = some true := H
    have A13 := Aside0.mk A130
    clear A130
    replace H := Option.bind_eq_some_iff.mp H
    obtain ⟨⟨t111, t112, t113⟩, A140, H⟩ := H
    replace H : ((pyxref06_Halves.f l0_0).bind fun bt118 => ((pyxref05_Stream.f bt118.1 l0_1 l0_4).bind fun bt125 => (if t104 = 0 then (if t108 = 0 then (if t113 = 0 then (if (t103.length : Int) = (wrap64 ((l0_4.length : Int) + 32)) then (if (t107.length : Int) = (t103.length : Int) then (if (t111.length : Int) = 16 then (pyxlaw06_SealLocked.j1 kj2 l0_2 l0_3 l0_4 t102 t103 t107 t111 bt118.1 bt125.1 ((t112.length : Int) != 32)) else (pyxlaw06_SealLocked.j1 kj2 l0_2 l0_3 l0_4 t102 t103 t107 t111 bt118.1 bt125.1 true)) else (pyxlaw06_SealLocked.j1 kj2 l0_2 l0_3 l0_4 t102 t103 t107 t111 bt118.1 bt125.1 true)) else (pyxlaw06_SealLocked.j1 kj2 l0_2 l0_3 l0_4 t102 t103 t107 t111 bt118.1 bt125.1 true)) else (pyxlaw06_SealLocked.j1 kj2 l0_2 l0_3 l0_4 t102 t103 t107 t111 bt118.1 bt125.1 true)) else (pyxlaw06_SealLocked.j1 kj2 l0_2 l0_3 l0_4 t102 t103 t107 t111 bt118.1 bt125.1 true)) else (pyxlaw06_SealLocked.j1 kj2 l0_2 l0_3 l0_4 t102 t103 t107 t111 bt118.1 bt125.1 true)))) = some true := H
    have A14 := Aside0.mk A140
    clear A140
    replace H := Option.bind_eq_some_iff.mp H
    obtain ⟨⟨t118, t119, t120⟩, A150, H⟩ := H
    replace H : ((pyxref05_Stream.f t118 l0_1 l0_4).bind fun bt125 => (if t104 = 0 then (if t108 = 0 then (if t113 = 0 then (if (t103.length : Int) = (wrap64 ((l0_4.length : Int) + 32)) then (if (t107.length : Int) = (t103.length : Int) then (if (t111.length : Int) = 16 then (pyxlaw06_SealLocked.j1 kj2 l0_2 l0_3 l0_4 t102 t103 t107 t111 t118 bt125.1 ((t112.length : Int) != 32)) else (pyxlaw06_SealLocked.j1 kj2 l0_2 l0_3 l0_4 t102 t103 t107 t111 t118 bt125.1 true)) else (pyxlaw06_SealLocked.j1 kj2 l0_2 l0_3 l0_4 t102 t103 t107 t111 t118 bt125.1 true)) else (pyxlaw06_SealLocked.j1 kj2 l0_2 l0_3 l0_4 t102 t103 t107 t111 t118 bt125.1 true)) else (pyxlaw06_SealLocked.j1 kj2 l0_2 l0_3 l0_4 t102 t103 t107 t111 t118 bt125.1 true)) else (pyxlaw06_SealLocked.j1 kj2 l0_2 l0_3 l0_4 t102 t103 t107 t111 t118 bt125.1 true)) else (pyxlaw06_SealLocked.j1 kj2 l0_2 l0_3 l0_4 t102 t103 t107 t111 t118 bt125.1 true))) = some true := H
    have A15 := Aside0.mk A150
    clear A150
    replace H := Option.bind_eq_some_iff.mp H
    obtain ⟨⟨t125, t126⟩, A160, H⟩ := H
    replace H : (if t104 = 0 then (if t108 = 0 then (if t113 = 0 then (if (t103.length : Int) = (wrap64 ((l0_4.length : Int) + 32)) then (if (t107.length : Int) = (t103.length : Int) then (if (t111.length : Int) = 16 then (pyxlaw06_SealLocked.j1 kj2 l0_2 l0_3 l0_4 t102 t103 t107 t111 t118 t125 ((t112.length : Int) != 32)) else (pyxlaw06_SealLocked.j1 kj2 l0_2 l0_3 l0_4 t102 t103 t107 t111 t118 t125 true)) else (pyxlaw06_SealLocked.j1 kj2 l0_2 l0_3 l0_4 t102 t103 t107 t111 t118 t125 true)) else (pyxlaw06_SealLocked.j1 kj2 l0_2 l0_3 l0_4 t102 t103 t107 t111 t118 t125 true)) else (pyxlaw06_SealLocked.j1 kj2 l0_2 l0_3 l0_4 t102 t103 t107 t111 t118 t125 true)) else (pyxlaw06_SealLocked.j1 kj2 l0_2 l0_3 l0_4 t102 t103 t107 t111 t118 t125 true)) else (pyxlaw06_SealLocked.j1 kj2 l0_2 l0_3 l0_4 t102 t103 t107 t111 t118 t125 true)) = some true := H
    have A16 := Aside0.mk A160
    clear A160
    have HC17 := Aside0.mk H
    clear H
    go_upto_region 14 with (first | ((with_reducible refine gate_callee (f := 16) rfl ?_); refine goesL_ (some 61) rfl rfl Try.func16 (by kernel_rfl) rfl #[.slice A0_0 l0_0.length c0_0, .slice A0_1 l0_1.length c0_1, .slice A0_2 l0_2.length c0_2, .slice A0_4 l0_4.length c0_4] rfl (by (try simp only [List.map_toArray, List.map_cons, List.map_nil]); first | done | rfl | (simp only [List.length_drop, List.length_take]; rfl)) ?_; (with_reducible refine (seal_Seal.calls _ _ l0_0 _ _ l0_1 _ _ l0_2 _ _ l0_4 t103 t104 _ ?side1 ?side2 ?side3 ?side4 ?side5 ?side6 ?side7 ?side8 A12.out).mono ?_); (case side1 => repeat (first | exact (Kd.C_below HR0_0.out HB.out) | (with_reducible refine Kd.C_alloc ?_ _) | (with_reducible refine Kd.C_drewN ?_ _) | (with_reducible refine Kd.C_drew ?_))); (case side2 => exact HC0_0.out); (case side3 => repeat (first | exact (Kd.C_below HR0_1.out HB.out) | (with_reducible refine Kd.C_alloc ?_ _) | (with_reducible refine Kd.C_drewN ?_ _) | (with_reducible refine Kd.C_drew ?_))); (case side4 => exact HC0_1.out); (case side5 => repeat (first | exact (Kd.C_below HR0_2.out HB.out) | (with_reducible refine Kd.C_alloc ?_ _) | (with_reducible refine Kd.C_drewN ?_ _) | (with_reducible refine Kd.C_drew ?_))); (case side6 => exact HC0_2.out); (case side7 => repeat (first | exact (Kd.C_below HR0_4.out HB.out) | (with_reducible refine Kd.C_alloc ?_ _) | (with_reducible refine Kd.C_drewN ?_ _) | (with_reducible refine Kd.C_drew ?_))); (case side8 => exact HC0_4.out); rintro e w18 ⟨v105, rfl, ho0, hb⟩; refine ⟨_, rfl, ?_⟩; have n0_ := Aside0.mk (Kd.R_lower ho0 (below_size (by repeat (first | (with_reducible first | exact HB.out | apply below_alloc | apply pw_below_drewN | apply below_drew1 | refine below_set ?_ GE101.out) | exact HB.out)))); have n1_ := Aside0.mk (blk_below (g := gb101) (o := .cells #[.slice A0_0 l0_0.length c0_0, .slice A0_1 l0_1.length c0_1, .slice A0_2 l0_2.length c0_2, .slice A0_3 l0_3.length c0_3, .slice A0_4 l0_4.length c0_4] 51 (0, 0)) (by (with_reducible repeat (first | refine blk_drewN ?_ _ | refine blk_drew ?_ | refine blk_alloc ?_ _)); exact BK101.out) hb); have n2_ := Aside0.mk (below_step (by repeat (first | (with_reducible first | exact HB.out | apply below_alloc | apply pw_below_drewN | apply below_drew1 | refine below_set ?_ GE101.out) | exact HB.out)) hb); clear BK101; clear HB; have HO106 := n0_; have BK101 := n1_; have HB := n2_; clear n0_ n1_ n2_; (try clear hb); (try clear hb2); (try clear hk); (try clear hi); (try clear ho0)) | ((with_reducible refine gate_callee (f := 16) rfl ?_); refine goesL_ (some 69) rfl rfl Try.func16 (by kernel_rfl) rfl #[.slice A0_0 l0_0.length c0_0, .slice A0_1 l0_1.length c0_1, .slice A0_3 l0_3.length c0_3, .slice A0_4 l0_4.length c0_4] rfl (by (try simp only [List.map_toArray, List.map_cons, List.map_nil]); first | done | rfl | (simp only [List.length_drop, List.length_take]; rfl)) ?_; (with_reducible refine (seal_Seal.calls _ _ l0_0 _ _ l0_1 _ _ l0_3 _ _ l0_4 t107 t108 _ ?side1 ?side2 ?side3 ?side4 ?side5 ?side6 ?side7 ?side8 A13.out).mono ?_); (case side1 => repeat (first | exact (Kd.C_below HR0_0.out HB.out) | (with_reducible refine Kd.C_alloc ?_ _) | (with_reducible refine Kd.C_drewN ?_ _) | (with_reducible refine Kd.C_drew ?_))); (case side2 => exact HC0_0.out); (case side3 => repeat (first | exact (Kd.C_below HR0_1.out HB.out) | (with_reducible refine Kd.C_alloc ?_ _) | (with_reducible refine Kd.C_drewN ?_ _) | (with_reducible refine Kd.C_drew ?_))); (case side4 => exact HC0_1.out); (case side5 => repeat (first | exact (Kd.C_below HR0_3.out HB.out) | (with_reducible refine Kd.C_alloc ?_ _) | (with_reducible refine Kd.C_drewN ?_ _) | (with_reducible refine Kd.C_drew ?_))); (case side6 => exact HC0_3.out); (case side7 => repeat (first | exact (Kd.C_below HR0_4.out HB.out) | (with_reducible refine Kd.C_alloc ?_ _) | (with_reducible refine Kd.C_drewN ?_ _) | (with_reducible refine Kd.C_drew ?_))); (case side8 => exact HC0_4.out); rintro e w19 ⟨v109, rfl, ho0, hb⟩; refine ⟨_, rfl, ?_⟩; have n0_ := Aside0.mk (Kd.R_elder' (by (with_reducible repeat (first | apply Kd.R_alloc | apply Kd.R_drewN | apply Kd.R_drew)); exact HO106.out) (Kd.R_base ho0) hb); have n1_ := Aside0.mk (Kd.R_lower (Kd.R_new' ho0 (Kd.R_lt (by (with_reducible repeat (first | apply Kd.R_alloc | apply Kd.R_drewN | apply Kd.R_drew)); exact HO106.out))) (below_size (by repeat (first | (with_reducible first | exact HB.out | apply below_alloc | apply pw_below_drewN | apply below_drew1 | refine below_set ?_ GE101.out) | exact HB.out)))); have n2_ := Aside0.mk (blk_below (g := gb101) (o := .cells #[.slice A0_0 l0_0.length c0_0, .slice A0_1 l0_1.length c0_1, .slice A0_2 l0_2.length c0_2, .slice A0_3 l0_3.length c0_3, .slice A0_4 l0_4.length c0_4] 51 (0, 0)) (by (with_reducible repeat (first | refine blk_drewN ?_ _ | refine blk_drew ?_ | refine blk_alloc ?_ _)); exact BK101.out) hb); have n3_ := Aside0.mk (below_step (by repeat (first | (with_reducible first | exact HB.out | apply below_alloc | apply pw_below_drewN | apply below_drew1 | refine below_set ?_ GE101.out) | exact HB.out)) hb); clear HO106; clear BK101; clear HB; have HO106 := n0_; have HO110 := n1_; have BK101 := n2_; have HB := n3_; clear n0_ n1_ n2_ n3_; (try clear hb); (try clear hb2); (try clear hk); (try clear hi); (try clear ho0)) | ((with_reducible refine gate_callee (f := 14) rfl ?_); refine goesL_ (some 74) rfl rfl Try.func14 (by kernel_rfl) rfl #[.slice A0_0 l0_0.length c0_0] rfl (by (try simp only [List.map_toArray, List.map_cons, List.map_nil]); first | done | rfl | (simp only [List.length_drop, List.length_take]; rfl)) ?_; (with_reducible refine (seal_Halves.calls _ _ l0_0 t111 t112 t113 _ ?side1 ?side2 A14.out).mono ?_); (case side1 => repeat (first | exact (Kd.C_below HR0_0.out HB.out) | (with_reducible refine Kd.C_alloc ?_ _) | (with_reducible refine Kd.C_drewN ?_ _) | (with_reducible refine Kd.C_drew ?_))); (case side2 => exact HC0_0.out); rintro e w20 ⟨v114, v116, rfl, ho0, ho1, hb⟩; refine ⟨_, rfl, ?_⟩; have n0_ := Aside0.mk (Kd.R_mono (Kd.R_told (Kd.R_told (Kd.R_old (by (with_reducible repeat (first | apply Kd.R_alloc | apply Kd.R_drewN | apply Kd.R_drew)); exact HO106.out) hb) (Kd.R_base ho0)) (Kd.R_base ho1)) (fun _ h_ => h_.1)); have n1_ := Aside0.mk (Kd.R_mono (Kd.R_told (Kd.R_told (Kd.R_old (by (with_reducible repeat (first | apply Kd.R_alloc | apply Kd.R_drewN | apply Kd.R_drew)); exact HO110.out) hb) (Kd.R_base ho0)) (Kd.R_base ho1)) (fun _ h_ => h_.1)); have n2_ := Aside0.mk (Kd.R_lower (Kd.R_new' (Kd.R_new' ho0 (Kd.R_lt (by (with_reducible repeat (first | apply Kd.R_alloc | apply Kd.R_drewN | apply Kd.R_drew)); exact HO106.out))) (Kd.R_lt (by (with_reducible repeat (first | apply Kd.R_alloc | apply Kd.R_drewN | apply Kd.R_drew)); exact HO110.out))) (below_size (by repeat (first | (with_reducible first | exact HB.out | apply below_alloc | apply pw_below_drewN | apply below_drew1 | refine below_set ?_ GE101.out) | exact HB.out)))); have n3_ := Aside0.mk (Kd.R_lower (Kd.R_new' (Kd.R_new' ho1 (Kd.R_lt (by (with_reducible repeat (first | apply Kd.R_alloc | apply Kd.R_drewN | apply Kd.R_drew)); exact HO106.out))) (Kd.R_lt (by (with_reducible repeat (first | apply Kd.R_alloc | apply Kd.R_drewN | apply Kd.R_drew)); exact HO110.out))) (below_size (by repeat (first | (with_reducible first | exact HB.out | apply below_alloc | apply pw_below_drewN | apply below_drew1 | refine below_set ?_ GE101.out) | exact HB.out)))); have n4_ := Aside0.mk (blk_below (g := gb101) (o := .cells #[.slice A0_0 l0_0.length c0_0, .slice A0_1 l0_1.length c0_1, .slice A0_2 l0_2.length c0_2, .slice A0_3 l0_3.length c0_3, .slice A0_4 l0_4.length c0_4] 51 (0, 0)) (by (with_reducible repeat (first | refine blk_drewN ?_ _ | refine blk_drew ?_ | refine blk_alloc ?_ _)); exact BK101.out) hb); have n5_ := Aside0.mk (below_step (by repeat (first | (with_reducible first | exact HB.out | apply below_alloc | apply pw_below_drewN | apply below_drew1 | refine below_set ?_ GE101.out) | exact HB.out)) hb); clear HO106; clear HO110; clear BK101; clear HB; have HO106 := n0_; have HO110 := n1_; have HO115 := n2_; have HO117 := n3_; have BK101 := n4_; have HB := n5_; clear n0_ n1_ n2_ n3_ n4_ n5_; (try clear hb); (try clear hb2); (try clear hk); (try clear hi); (try clear ho0); (try clear ho1)) | ((with_reducible refine gate_callee (f := 15) rfl ?_); refine goesL_ (some 80) rfl rfl Try.func15 (by kernel_rfl) rfl #[.slice A0_0 l0_0.length c0_0] rfl (by (try simp only [List.map_toArray, List.map_cons, List.map_nil]); first | done | rfl | (simp only [List.length_drop, List.length_take]; rfl)) ?_; (with_reducible refine (pyxref06_Halves.calls _ _ l0_0 t118 t119 t120 _ ?side1 ?side2 A15.out).mono ?_); (case side1 => repeat (first | exact (Kd.C_below HR0_0.out HB.out) | (with_reducible refine Kd.C_alloc ?_ _) | (with_reducible refine Kd.C_drewN ?_ _) | (with_reducible refine Kd.C_drew ?_))); (case side2 => exact HC0_0.out); rintro e w21 ⟨v121, v123, rfl, ho0, ho1, hb⟩; refine ⟨_, rfl, ?_⟩; have n0_ := Aside0.mk (Kd.R_mono (Kd.R_told (Kd.R_told (Kd.R_old (by (with_reducible repeat (first | apply Kd.R_alloc | apply Kd.R_drewN | apply Kd.R_drew)); exact HO106.out) hb) (Kd.R_base ho0)) (Kd.R_base ho1)) (fun _ h_ => h_.1)); have n1_ := Aside0.mk (Kd.R_mono (Kd.R_told (Kd.R_told (Kd.R_old (by (with_reducible repeat (first | apply Kd.R_alloc | apply Kd.R_drewN | apply Kd.R_drew)); exact HO110.out) hb) (Kd.R_base ho0)) (Kd.R_base ho1)) (fun _ h_ => h_.1)); have n2_ := Aside0.mk (Kd.R_mono (Kd.R_told (Kd.R_told (Kd.R_old (by (with_reducible repeat (first | apply Kd.R_alloc | apply Kd.R_drewN | apply Kd.R_drew)); exact HO115.out) hb) (Kd.R_base ho0)) (Kd.R_base ho1)) (fun _ h_ => h_.1)); have n3_ := Aside0.mk (Kd.R_mono (Kd.R_told (Kd.R_told (Kd.R_old (by (with_reducible repeat (first | apply Kd.R_alloc | apply Kd.R_drewN | apply Kd.R_drew)); exact HO117.out) hb) (Kd.R_base ho0)) (Kd.R_base ho1)) (fun _ h_ => h_.1)); have n4_ := Aside0.mk (Kd.R_lower (Kd.R_new' (Kd.R_new' (Kd.R_new' (Kd.R_new' ho0 (Kd.R_lt (by (with_reducible repeat (first | apply Kd.R_alloc | apply Kd.R_drewN | apply Kd.R_drew)); exact HO106.out))) (Kd.R_lt (by (with_reducible repeat (first | apply Kd.R_alloc | apply Kd.R_drewN | apply Kd.R_drew)); exact HO110.out))) (Kd.R_lt (by (with_reducible repeat (first | apply Kd.R_alloc | apply Kd.R_drewN | apply Kd.R_drew)); exact HO115.out))) (Kd.R_lt (by (with_reducible repeat (first | apply Kd.R_alloc | apply Kd.R_drewN | apply Kd.R_drew)); exact HO117.out))) (below_size (by repeat (first | (with_reducible first | exact HB.out | apply below_alloc | apply pw_below_drewN | apply below_drew1 | refine below_set ?_ GE101.out) | exact HB.out)))); have n5_ := Aside0.mk (Kd.R_lower (Kd.R_new' (Kd.R_new' (Kd.R_new' (Kd.R_new' ho1 (Kd.R_lt (by (with_reducible repeat (first | apply Kd.R_alloc | apply Kd.R_drewN | apply Kd.R_drew)); exact HO106.out))) (Kd.R_lt (by (with_reducible repeat (first | apply Kd.R_alloc | apply Kd.R_drewN | apply Kd.R_drew)); exact HO110.out))) (Kd.R_lt (by (with_reducible repeat (first | apply Kd.R_alloc | apply Kd.R_drewN | apply Kd.R_drew)); exact HO115.out))) (Kd.R_lt (by (with_reducible repeat (first | apply Kd.R_alloc | apply Kd.R_drewN | apply Kd.R_drew)); exact HO117.out))) (below_size (by repeat (first | (with_reducible first | exact HB.out | apply below_alloc | apply pw_below_drewN | apply below_drew1 | refine below_set ?_ GE101.out) | exact HB.out)))); have n6_ := Aside0.mk (blk_below (g := gb101) (o := .cells #[.slice A0_0 l0_0.length c0_0, .slice A0_1 l0_1.length c0_1, .slice A0_2 l0_2.length c0_2, .slice A0_3 l0_3.length c0_3, .slice A0_4 l0_4.length c0_4] 51 (0, 0)) (by (with_reducible repeat (first | refine blk_drewN ?_ _ | refine blk_drew ?_ | refine blk_alloc ?_ _)); exact BK101.out) hb); have n7_ := Aside0.mk (below_step (by repeat (first | (with_reducible first | exact HB.out | apply below_alloc | apply pw_below_drewN | apply below_drew1 | refine below_set ?_ GE101.out) | exact HB.out)) hb); clear HO106; clear HO110; clear HO115; clear HO117; clear BK101; clear HB; have HO106 := n0_; have HO110 := n1_; have HO115 := n2_; have HO117 := n3_; have HO122 := n4_; have HO124 := n5_; have BK101 := n6_; have HB := n7_; clear n0_ n1_ n2_ n3_ n4_ n5_ n6_ n7_; (try clear hb); (try clear hb2); (try clear hk); (try clear hi); (try clear ho0); (try clear ho1); obtain ⟨Ao22, co22, eo22⟩ := Kd.R_slice HO122.out; subst eo22) | ((with_reducible refine gate_callee (f := 25) rfl ?_); refine goesL_ (some 88) rfl rfl Try.func25 (by kernel_rfl) rfl #[.slice Ao22 t118.length co22, .slice A0_1 l0_1.length c0_1, .slice A0_4 l0_4.length c0_4] rfl (by (try simp only [List.map_toArray, List.map_cons, List.map_nil]); first | done | rfl | (simp only [List.length_drop, List.length_take]; rfl)) ?_; (with_reducible refine (pyxref05_Stream.calls _ _ t118 _ _ l0_1 _ _ l0_4 t125 t126 _ ?side1 ?side2 ?side3 ?side4 ?side5 ?side6 A16.out).mono ?_); (case side1 => repeat (first | exact (Kd.R_reads' HO122.out).2.2 | (with_reducible refine Kd.C_alloc ?_ _) | (with_reducible refine Kd.C_drewN ?_ _) | (with_reducible refine Kd.C_drew ?_))); (case side2 => exact (Kd.R_reads' HO122.out).2.1); (case side3 => repeat (first | exact (Kd.C_below HR0_1.out HB.out) | (with_reducible refine Kd.C_alloc ?_ _) | (with_reducible refine Kd.C_drewN ?_ _) | (with_reducible refine Kd.C_drew ?_))); (case side4 => exact HC0_1.out); (case side5 => repeat (first | exact (Kd.C_below HR0_4.out HB.out) | (with_reducible refine Kd.C_alloc ?_ _) | (with_reducible refine Kd.C_drewN ?_ _) | (with_reducible refine Kd.C_drew ?_))); (case side6 => exact HC0_4.out); rintro e w23 ⟨v127, rfl, ho0, hb⟩; refine ⟨_, rfl, ?_⟩; have n0_ := Aside0.mk (Kd.R_elder' (by (with_reducible repeat (first | apply Kd.R_alloc | apply Kd.R_drewN | apply Kd.R_drew)); exact HO106.out) (Kd.R_base ho0) hb); have n1_ := Aside0.mk (Kd.R_elder' (by (with_reducible repeat (first | apply Kd.R_alloc | apply Kd.R_drewN | apply Kd.R_drew)); exact HO110.out) (Kd.R_base ho0) hb); have n2_ := Aside0.mk (Kd.R_elder' (by (with_reducible repeat (first | apply Kd.R_alloc | apply Kd.R_drewN | apply Kd.R_drew)); exact HO115.out) (Kd.R_base ho0) hb); have n3_ := Aside0.mk (Kd.R_elder' (by (with_reducible repeat (first | apply Kd.R_alloc | apply Kd.R_drewN | apply Kd.R_drew)); exact HO117.out) (Kd.R_base ho0) hb); have n4_ := Aside0.mk (Kd.R_elder' (by (with_reducible repeat (first | apply Kd.R_alloc | apply Kd.R_drewN | apply Kd.R_drew)); exact HO122.out) (Kd.R_base ho0) hb); have n5_ := Aside0.mk (Kd.R_elder' (by (with_reducible repeat (first | apply Kd.R_alloc | apply Kd.R_drewN | apply Kd.R_drew)); exact HO124.out) (Kd.R_base ho0) hb); have n6_ := Aside0.mk (Kd.R_lower (Kd.R_new' (Kd.R_new' (Kd.R_new' (Kd.R_new' (Kd.R_new' (Kd.R_new' ho0 (Kd.R_lt (by (with_reducible repeat (first | apply Kd.R_alloc | apply Kd.R_drewN | apply Kd.R_drew)); exact HO106.out))) (Kd.R_lt (by (with_reducible repeat (first | apply Kd.R_alloc | apply Kd.R_drewN | apply Kd.R_drew)); exact HO110.out))) (Kd.R_lt (by (with_reducible repeat (first | apply Kd.R_alloc | apply Kd.R_drewN | apply Kd.R_drew)); exact HO115.out))) (Kd.R_lt (by (with_reducible repeat (first | apply Kd.R_alloc | apply Kd.R_drewN | apply Kd.R_drew)); exact HO117.out))) (Kd.R_lt (by (with_reducible repeat (first | apply Kd.R_alloc | apply Kd.R_drewN | apply Kd.R_drew)); exact HO122.out))) (Kd.R_lt (by (with_reducible repeat (first | apply Kd.R_alloc | apply Kd.R_drewN | apply Kd.R_drew)); exact HO124.out))) (below_size (by repeat (first | (with_reducible first | exact HB.out | apply below_alloc | apply pw_below_drewN | apply below_drew1 | refine below_set ?_ GE101.out) | exact HB.out)))); have n7_ := Aside0.mk (blk_below (g := gb101) (o := .cells #[.slice A0_0 l0_0.length c0_0, .slice A0_1 l0_1.length c0_1, .slice A0_2 l0_2.length c0_2, .slice A0_3 l0_3.length c0_3, .slice A0_4 l0_4.length c0_4] 51 (0, 0)) (by (with_reducible repeat (first | refine blk_drewN ?_ _ | refine blk_drew ?_ | refine blk_alloc ?_ _)); exact BK101.out) hb); have n8_ := Aside0.mk (below_step (by repeat (first | (with_reducible first | exact HB.out | apply below_alloc | apply pw_below_drewN | apply below_drew1 | refine below_set ?_ GE101.out) | exact HB.out)) hb); clear HO106; clear HO110; clear HO115; clear HO117; clear HO122; clear HO124; clear BK101; clear HB; have HO106 := n0_; have HO110 := n1_; have HO115 := n2_; have HO117 := n3_; have HO122 := n4_; have HO124 := n5_; have HO128 := n6_; have BK101 := n7_; have HB := n8_; clear n0_ n1_ n2_ n3_ n4_ n5_ n6_ n7_ n8_; (try clear hb); (try clear hb2); (try clear hk); (try clear hi); (try clear ho0)))
    (try simp only [Act.put, List.setIfInBounds_toArray, List.set_cons_zero, List.set_cons_succ])
    go_cut [125] (fun v125 wc => ∃ (kq : Nat) (x125_16 : Bool), v125 = .bool x125_16 ∧ Aside0 (pyxlaw06_SealLocked.j1 kq l0_2 l0_3 l0_4 t102 t103 t107 t111 t118 t125 x125_16 = some true) ∧ Aside0 (kq ≤ kj2) ∧ Aside0 (Kd.R (Kd.int .u8) 5 wc w.heap.size (fun k_ => some k_ ≠ (v109 : Value).ownBlock ∧ some k_ ≠ (v114 : Value).ownBlock ∧ some k_ ≠ ((.slice Ao22 t118.length co22) : Value).ownBlock ∧ some k_ ≠ (v127 : Value).ownBlock) v105 t103) ∧ Aside0 (Kd.R (Kd.int .u8) 5 wc w.heap.size (fun k_ => some k_ ≠ (v105 : Value).ownBlock ∧ some k_ ≠ (v114 : Value).ownBlock ∧ some k_ ≠ ((.slice Ao22 t118.length co22) : Value).ownBlock ∧ some k_ ≠ (v127 : Value).ownBlock) v109 t107) ∧ Aside0 (Kd.R (Kd.int .u8) 5 wc w.heap.size (fun k_ => some k_ ≠ (v105 : Value).ownBlock ∧ some k_ ≠ (v109 : Value).ownBlock ∧ some k_ ≠ ((.slice Ao22 t118.length co22) : Value).ownBlock ∧ some k_ ≠ (v127 : Value).ownBlock) v114 t111) ∧ Aside0 (Kd.R (Kd.int .u8) 5 wc w.heap.size (fun k_ => some k_ ≠ (v105 : Value).ownBlock ∧ some k_ ≠ (v109 : Value).ownBlock ∧ some k_ ≠ (v114 : Value).ownBlock ∧ some k_ ≠ (v127 : Value).ownBlock) (.slice Ao22 t118.length co22) t118) ∧ Aside0 (Kd.R (Kd.int .u8) 5 wc w.heap.size (fun k_ => some k_ ≠ (v105 : Value).ownBlock ∧ some k_ ≠ (v109 : Value).ownBlock ∧ some k_ ≠ (v114 : Value).ownBlock ∧ some k_ ≠ ((.slice Ao22 t118.length co22) : Value).ownBlock) v127 t125) ∧ Aside0 (wc.heap[gb101]? = some (.cells #[(.slice A0_0 l0_0.length c0_0), (.slice A0_1 l0_1.length c0_1), (.slice A0_2 l0_2.length c0_2), (.slice A0_3 l0_3.length c0_3), (.slice A0_4 l0_4.length c0_4)] 51 (0, 0))) ∧ Aside0 (Below w.heap.size w wc))
    case first =>
     have H := HC17.out
     clear HC17
     by_cases c24 : t104 = 0
     ·rw [if_pos c24] at H
      have c24b0 : (t104 == 0) = true := beq_iff_eq.mpr c24
      have c24b1 : (t104 != 0) = false := bne_eq_false_iff_eq.mpr c24
      clear c24
      (first | rw [c24b0] | (simp only [i64_w, i32_w]; rw [c24b0]) | skip)
      by_cases c25 : t108 = 0
      ·rw [if_pos c25] at H
       have c25b0 : (t108 == 0) = true := beq_iff_eq.mpr c25
       have c25b1 : (t108 != 0) = false := bne_eq_false_iff_eq.mpr c25
       clear c25
       by_cases c26 : t113 = 0
       ·rw [if_pos c26] at H
        have c26b0 : (t113 == 0) = true := beq_iff_eq.mpr c26
        have c26b1 : (t113 != 0) = false := bne_eq_false_iff_eq.mpr c26
        clear c26
        by_cases c27 : (t103.length : Int) = (wrap64 ((l0_4.length : Int) + 32))
        ·rw [if_pos c27] at H
         have c27b0 : ((t103.length : Int) == (wrap64 ((l0_4.length : Int) + 32))) = true := beq_iff_eq.mpr c27
         have c27b1 : ((t103.length : Int) != (wrap64 ((l0_4.length : Int) + 32))) = false := bne_eq_false_iff_eq.mpr c27
         clear c27
         by_cases c28 : (t107.length : Int) = (t103.length : Int)
         ·rw [if_pos c28] at H
          have c28b0 : ((t107.length : Int) == (t103.length : Int)) = true := beq_iff_eq.mpr c28
          have c28b1 : ((t107.length : Int) != (t103.length : Int)) = false := bne_eq_false_iff_eq.mpr c28
          have c28b2 : (t107.length == t103.length) = true := by first | simpa using c28 | (simp at c28 ⊢; omega)
          clear c28
          by_cases c29 : (t111.length : Int) = 16
          ·rw [if_pos c29] at H
           have c29b0 : ((t111.length : Int) == 16) = true := beq_iff_eq.mpr c29
           have c29b1 : ((t111.length : Int) != 16) = false := bne_eq_false_iff_eq.mpr c29
           clear c29
           have H' := Aside0.mk H
           clear H
           obtain ⟨Ao30, co30, eo30⟩ := Kd.R_slice HO106.out
           subst eo30
           obtain ⟨Ao31, co31, eo31⟩ := Kd.R_slice HO110.out
           subst eo31
           obtain ⟨Ao32, co32, eo32⟩ := Kd.R_slice HO115.out
           subst eo32
           obtain ⟨Ao33, co33, eo33⟩ := Kd.R_slice HO117.out
           subst eo33
           go_wp2
           go_meet
           case rel => exact ⟨_, (((t112.length : Int) != 32)), (by first | rfl | (simp; done) | (simp [*]; done)), H', ⟨by have := HJ2.out; first | omega | exact Nat.le_refl _⟩, ⟨by (with_reducible repeat (first | apply Kd.R_alloc | apply Kd.R_drewN | apply Kd.R_drew)); exact Kd.R_mono HO106.out (fun _ hk => ⟨hk.1.1.1.1.1.2, ⟨hk.1.1.1.1.2, ⟨hk.1.1.2, hk.2⟩⟩⟩)⟩, ⟨by (with_reducible repeat (first | apply Kd.R_alloc | apply Kd.R_drewN | apply Kd.R_drew)); exact Kd.R_mono HO110.out (fun _ hk => ⟨hk.1.1.1.1.1.2, ⟨hk.1.1.1.1.2, ⟨hk.1.1.2, hk.2⟩⟩⟩)⟩, ⟨by (with_reducible repeat (first | apply Kd.R_alloc | apply Kd.R_drewN | apply Kd.R_drew)); exact Kd.R_mono HO115.out (fun _ hk => ⟨hk.1.1.1.1.2, ⟨hk.1.1.1.2, ⟨hk.1.1.2, hk.2⟩⟩⟩)⟩, ⟨by (with_reducible repeat (first | apply Kd.R_alloc | apply Kd.R_drewN | apply Kd.R_drew)); exact Kd.R_mono HO122.out (fun _ hk => ⟨hk.1.1.1.1.2, ⟨hk.1.1.1.2, ⟨hk.1.1.2, hk.2⟩⟩⟩)⟩, ⟨by (with_reducible repeat (first | apply Kd.R_alloc | apply Kd.R_drewN | apply Kd.R_drew)); exact Kd.R_mono HO128.out (fun _ hk => ⟨hk.1.1.1.1.1.2, ⟨hk.1.1.1.1.2, ⟨hk.1.1.1.2, hk.1.2⟩⟩⟩)⟩, ⟨by (with_reducible repeat (first | refine blk_drewN ?_ _ | refine blk_drew ?_ | refine blk_alloc ?_ _)); exact BK101.out⟩, ⟨by repeat (first | (with_reducible first | exact HB.out | apply below_alloc | apply pw_below_drewN | apply below_drew1 | refine below_set ?_ GE101.out) | exact HB.out)⟩⟩
          ·rw [if_neg c29] at H
           have c29b0 : ((t111.length : Int) == 16) = false := beq_eq_false_iff_ne.mpr c29
           have c29b1 : ((t111.length : Int) != 16) = true := bne_iff_ne.mpr c29
           have H' := Aside0.mk H
           clear H
           obtain ⟨Ao34, co34, eo34⟩ := Kd.R_slice HO106.out
           subst eo34
           obtain ⟨Ao35, co35, eo35⟩ := Kd.R_slice HO110.out
           subst eo35
           obtain ⟨Ao36, co36, eo36⟩ := Kd.R_slice HO115.out
           subst eo36
           go_wp2
           go_meet
           case rel => exact ⟨_, (true), (by first | rfl | (simp; done) | (simp [*]; done)), H', ⟨by have := HJ2.out; first | omega | exact Nat.le_refl _⟩, ⟨by (with_reducible repeat (first | apply Kd.R_alloc | apply Kd.R_drewN | apply Kd.R_drew)); exact Kd.R_mono HO106.out (fun _ hk => ⟨hk.1.1.1.1.1.2, ⟨hk.1.1.1.1.2, ⟨hk.1.1.2, hk.2⟩⟩⟩)⟩, ⟨by (with_reducible repeat (first | apply Kd.R_alloc | apply Kd.R_drewN | apply Kd.R_drew)); exact Kd.R_mono HO110.out (fun _ hk => ⟨hk.1.1.1.1.1.2, ⟨hk.1.1.1.1.2, ⟨hk.1.1.2, hk.2⟩⟩⟩)⟩, ⟨by (with_reducible repeat (first | apply Kd.R_alloc | apply Kd.R_drewN | apply Kd.R_drew)); exact Kd.R_mono HO115.out (fun _ hk => ⟨hk.1.1.1.1.2, ⟨hk.1.1.1.2, ⟨hk.1.1.2, hk.2⟩⟩⟩)⟩, ⟨by (with_reducible repeat (first | apply Kd.R_alloc | apply Kd.R_drewN | apply Kd.R_drew)); exact Kd.R_mono HO122.out (fun _ hk => ⟨hk.1.1.1.1.2, ⟨hk.1.1.1.2, ⟨hk.1.1.2, hk.2⟩⟩⟩)⟩, ⟨by (with_reducible repeat (first | apply Kd.R_alloc | apply Kd.R_drewN | apply Kd.R_drew)); exact Kd.R_mono HO128.out (fun _ hk => ⟨hk.1.1.1.1.1.2, ⟨hk.1.1.1.1.2, ⟨hk.1.1.1.2, hk.1.2⟩⟩⟩)⟩, ⟨by (with_reducible repeat (first | refine blk_drewN ?_ _ | refine blk_drew ?_ | refine blk_alloc ?_ _)); exact BK101.out⟩, ⟨by repeat (first | (with_reducible first | exact HB.out | apply below_alloc | apply pw_below_drewN | apply below_drew1 | refine below_set ?_ GE101.out) | exact HB.out)⟩⟩
         ·rw [if_neg c28] at H
          have c28b0 : ((t107.length : Int) == (t103.length : Int)) = false := beq_eq_false_iff_ne.mpr c28
          have c28b1 : ((t107.length : Int) != (t103.length : Int)) = true := bne_iff_ne.mpr c28
          have c28b2 : (t107.length == t103.length) = false := by first | simpa using c28 | (simp at c28 ⊢; omega)
          have H' := Aside0.mk H
          clear H
          obtain ⟨Ao37, co37, eo37⟩ := Kd.R_slice HO106.out
          subst eo37
          obtain ⟨Ao38, co38, eo38⟩ := Kd.R_slice HO110.out
          subst eo38
          go_wp2
          go_meet
          case rel => exact ⟨_, (true), (by first | rfl | (simp; done) | (simp [*]; done)), H', ⟨by have := HJ2.out; first | omega | exact Nat.le_refl _⟩, ⟨by (with_reducible repeat (first | apply Kd.R_alloc | apply Kd.R_drewN | apply Kd.R_drew)); exact Kd.R_mono HO106.out (fun _ hk => ⟨hk.1.1.1.1.1.2, ⟨hk.1.1.1.1.2, ⟨hk.1.1.2, hk.2⟩⟩⟩)⟩, ⟨by (with_reducible repeat (first | apply Kd.R_alloc | apply Kd.R_drewN | apply Kd.R_drew)); exact Kd.R_mono HO110.out (fun _ hk => ⟨hk.1.1.1.1.1.2, ⟨hk.1.1.1.1.2, ⟨hk.1.1.2, hk.2⟩⟩⟩)⟩, ⟨by (with_reducible repeat (first | apply Kd.R_alloc | apply Kd.R_drewN | apply Kd.R_drew)); exact Kd.R_mono HO115.out (fun _ hk => ⟨hk.1.1.1.1.2, ⟨hk.1.1.1.2, ⟨hk.1.1.2, hk.2⟩⟩⟩)⟩, ⟨by (with_reducible repeat (first | apply Kd.R_alloc | apply Kd.R_drewN | apply Kd.R_drew)); exact Kd.R_mono HO122.out (fun _ hk => ⟨hk.1.1.1.1.2, ⟨hk.1.1.1.2, ⟨hk.1.1.2, hk.2⟩⟩⟩)⟩, ⟨by (with_reducible repeat (first | apply Kd.R_alloc | apply Kd.R_drewN | apply Kd.R_drew)); exact Kd.R_mono HO128.out (fun _ hk => ⟨hk.1.1.1.1.1.2, ⟨hk.1.1.1.1.2, ⟨hk.1.1.1.2, hk.1.2⟩⟩⟩)⟩, ⟨by (with_reducible repeat (first | refine blk_drewN ?_ _ | refine blk_drew ?_ | refine blk_alloc ?_ _)); exact BK101.out⟩, ⟨by repeat (first | (with_reducible first | exact HB.out | apply below_alloc | apply pw_below_drewN | apply below_drew1 | refine below_set ?_ GE101.out) | exact HB.out)⟩⟩
        ·rw [if_neg c27] at H
         have c27b0 : ((t103.length : Int) == (wrap64 ((l0_4.length : Int) + 32))) = false := beq_eq_false_iff_ne.mpr c27
         have c27b1 : ((t103.length : Int) != (wrap64 ((l0_4.length : Int) + 32))) = true := bne_iff_ne.mpr c27
         have H' := Aside0.mk H
         clear H
         obtain ⟨Ao39, co39, eo39⟩ := Kd.R_slice HO106.out
         subst eo39
         go_wp2
         go_meet
         case rel => exact ⟨_, (true), (by first | rfl | (simp; done) | (simp [*]; done)), H', ⟨by have := HJ2.out; first | omega | exact Nat.le_refl _⟩, ⟨by (with_reducible repeat (first | apply Kd.R_alloc | apply Kd.R_drewN | apply Kd.R_drew)); exact Kd.R_mono HO106.out (fun _ hk => ⟨hk.1.1.1.1.1.2, ⟨hk.1.1.1.1.2, ⟨hk.1.1.2, hk.2⟩⟩⟩)⟩, ⟨by (with_reducible repeat (first | apply Kd.R_alloc | apply Kd.R_drewN | apply Kd.R_drew)); exact Kd.R_mono HO110.out (fun _ hk => ⟨hk.1.1.1.1.1.2, ⟨hk.1.1.1.1.2, ⟨hk.1.1.2, hk.2⟩⟩⟩)⟩, ⟨by (with_reducible repeat (first | apply Kd.R_alloc | apply Kd.R_drewN | apply Kd.R_drew)); exact Kd.R_mono HO115.out (fun _ hk => ⟨hk.1.1.1.1.2, ⟨hk.1.1.1.2, ⟨hk.1.1.2, hk.2⟩⟩⟩)⟩, ⟨by (with_reducible repeat (first | apply Kd.R_alloc | apply Kd.R_drewN | apply Kd.R_drew)); exact Kd.R_mono HO122.out (fun _ hk => ⟨hk.1.1.1.1.2, ⟨hk.1.1.1.2, ⟨hk.1.1.2, hk.2⟩⟩⟩)⟩, ⟨by (with_reducible repeat (first | apply Kd.R_alloc | apply Kd.R_drewN | apply Kd.R_drew)); exact Kd.R_mono HO128.out (fun _ hk => ⟨hk.1.1.1.1.1.2, ⟨hk.1.1.1.1.2, ⟨hk.1.1.1.2, hk.1.2⟩⟩⟩)⟩, ⟨by (with_reducible repeat (first | refine blk_drewN ?_ _ | refine blk_drew ?_ | refine blk_alloc ?_ _)); exact BK101.out⟩, ⟨by repeat (first | (with_reducible first | exact HB.out | apply below_alloc | apply pw_below_drewN | apply below_drew1 | refine below_set ?_ GE101.out) | exact HB.out)⟩⟩
       ·rw [if_neg c26] at H
        have c26b0 : (t113 == 0) = false := beq_eq_false_iff_ne.mpr c26
        have c26b1 : (t113 != 0) = true := bne_iff_ne.mpr c26
        have H' := Aside0.mk H
        clear H
        go_wp2
        go_meet
        case rel => exact ⟨_, (true), (by first | rfl | (simp; done) | (simp [*]; done)), H', ⟨by have := HJ2.out; first | omega | exact Nat.le_refl _⟩, ⟨by (with_reducible repeat (first | apply Kd.R_alloc | apply Kd.R_drewN | apply Kd.R_drew)); exact Kd.R_mono HO106.out (fun _ hk => ⟨hk.1.1.1.1.1.2, ⟨hk.1.1.1.1.2, ⟨hk.1.1.2, hk.2⟩⟩⟩)⟩, ⟨by (with_reducible repeat (first | apply Kd.R_alloc | apply Kd.R_drewN | apply Kd.R_drew)); exact Kd.R_mono HO110.out (fun _ hk => ⟨hk.1.1.1.1.1.2, ⟨hk.1.1.1.1.2, ⟨hk.1.1.2, hk.2⟩⟩⟩)⟩, ⟨by (with_reducible repeat (first | apply Kd.R_alloc | apply Kd.R_drewN | apply Kd.R_drew)); exact Kd.R_mono HO115.out (fun _ hk => ⟨hk.1.1.1.1.2, ⟨hk.1.1.1.2, ⟨hk.1.1.2, hk.2⟩⟩⟩)⟩, ⟨by (with_reducible repeat (first | apply Kd.R_alloc | apply Kd.R_drewN | apply Kd.R_drew)); exact Kd.R_mono HO122.out (fun _ hk => ⟨hk.1.1.1.1.2, ⟨hk.1.1.1.2, ⟨hk.1.1.2, hk.2⟩⟩⟩)⟩, ⟨by (with_reducible repeat (first | apply Kd.R_alloc | apply Kd.R_drewN | apply Kd.R_drew)); exact Kd.R_mono HO128.out (fun _ hk => ⟨hk.1.1.1.1.1.2, ⟨hk.1.1.1.1.2, ⟨hk.1.1.1.2, hk.1.2⟩⟩⟩)⟩, ⟨by (with_reducible repeat (first | refine blk_drewN ?_ _ | refine blk_drew ?_ | refine blk_alloc ?_ _)); exact BK101.out⟩, ⟨by repeat (first | (with_reducible first | exact HB.out | apply below_alloc | apply pw_below_drewN | apply below_drew1 | refine below_set ?_ GE101.out) | exact HB.out)⟩⟩
      ·rw [if_neg c25] at H
       have c25b0 : (t108 == 0) = false := beq_eq_false_iff_ne.mpr c25
       have c25b1 : (t108 != 0) = true := bne_iff_ne.mpr c25
       have H' := Aside0.mk H
       clear H
       go_wp2
       go_meet
       case rel => exact ⟨_, (true), (by first | rfl | (simp; done) | (simp [*]; done)), H', ⟨by have := HJ2.out; first | omega | exact Nat.le_refl _⟩, ⟨by (with_reducible repeat (first | apply Kd.R_alloc | apply Kd.R_drewN | apply Kd.R_drew)); exact Kd.R_mono HO106.out (fun _ hk => ⟨hk.1.1.1.1.1.2, ⟨hk.1.1.1.1.2, ⟨hk.1.1.2, hk.2⟩⟩⟩)⟩, ⟨by (with_reducible repeat (first | apply Kd.R_alloc | apply Kd.R_drewN | apply Kd.R_drew)); exact Kd.R_mono HO110.out (fun _ hk => ⟨hk.1.1.1.1.1.2, ⟨hk.1.1.1.1.2, ⟨hk.1.1.2, hk.2⟩⟩⟩)⟩, ⟨by (with_reducible repeat (first | apply Kd.R_alloc | apply Kd.R_drewN | apply Kd.R_drew)); exact Kd.R_mono HO115.out (fun _ hk => ⟨hk.1.1.1.1.2, ⟨hk.1.1.1.2, ⟨hk.1.1.2, hk.2⟩⟩⟩)⟩, ⟨by (with_reducible repeat (first | apply Kd.R_alloc | apply Kd.R_drewN | apply Kd.R_drew)); exact Kd.R_mono HO122.out (fun _ hk => ⟨hk.1.1.1.1.2, ⟨hk.1.1.1.2, ⟨hk.1.1.2, hk.2⟩⟩⟩)⟩, ⟨by (with_reducible repeat (first | apply Kd.R_alloc | apply Kd.R_drewN | apply Kd.R_drew)); exact Kd.R_mono HO128.out (fun _ hk => ⟨hk.1.1.1.1.1.2, ⟨hk.1.1.1.1.2, ⟨hk.1.1.1.2, hk.1.2⟩⟩⟩)⟩, ⟨by (with_reducible repeat (first | refine blk_drewN ?_ _ | refine blk_drew ?_ | refine blk_alloc ?_ _)); exact BK101.out⟩, ⟨by repeat (first | (with_reducible first | exact HB.out | apply below_alloc | apply pw_below_drewN | apply below_drew1 | refine below_set ?_ GE101.out) | exact HB.out)⟩⟩
     ·rw [if_neg c24] at H
      have c24b0 : (t104 == 0) = false := beq_eq_false_iff_ne.mpr c24
      have c24b1 : (t104 != 0) = true := bne_iff_ne.mpr c24
      (first | rw [c24b0] | (simp only [i64_w, i32_w]; rw [c24b0]) | skip)
      have H' := Aside0.mk H
      clear H
      go_wp2
      go_meet
      case rel => exact ⟨_, (true), (by first | rfl | (simp; done) | (simp [*]; done)), H', ⟨by have := HJ2.out; first | omega | exact Nat.le_refl _⟩, ⟨by (with_reducible repeat (first | apply Kd.R_alloc | apply Kd.R_drewN | apply Kd.R_drew)); exact Kd.R_mono HO106.out (fun _ hk => ⟨hk.1.1.1.1.1.2, ⟨hk.1.1.1.1.2, ⟨hk.1.1.2, hk.2⟩⟩⟩)⟩, ⟨by (with_reducible repeat (first | apply Kd.R_alloc | apply Kd.R_drewN | apply Kd.R_drew)); exact Kd.R_mono HO110.out (fun _ hk => ⟨hk.1.1.1.1.1.2, ⟨hk.1.1.1.1.2, ⟨hk.1.1.2, hk.2⟩⟩⟩)⟩, ⟨by (with_reducible repeat (first | apply Kd.R_alloc | apply Kd.R_drewN | apply Kd.R_drew)); exact Kd.R_mono HO115.out (fun _ hk => ⟨hk.1.1.1.1.2, ⟨hk.1.1.1.2, ⟨hk.1.1.2, hk.2⟩⟩⟩)⟩, ⟨by (with_reducible repeat (first | apply Kd.R_alloc | apply Kd.R_drewN | apply Kd.R_drew)); exact Kd.R_mono HO122.out (fun _ hk => ⟨hk.1.1.1.1.2, ⟨hk.1.1.1.2, ⟨hk.1.1.2, hk.2⟩⟩⟩)⟩, ⟨by (with_reducible repeat (first | apply Kd.R_alloc | apply Kd.R_drewN | apply Kd.R_drew)); exact Kd.R_mono HO128.out (fun _ hk => ⟨hk.1.1.1.1.1.2, ⟨hk.1.1.1.1.2, ⟨hk.1.1.1.2, hk.1.2⟩⟩⟩)⟩, ⟨by (with_reducible repeat (first | refine blk_drewN ?_ _ | refine blk_drew ?_ | refine blk_alloc ?_ _)); exact BK101.out⟩, ⟨by repeat (first | (with_reducible first | exact HB.out | apply below_alloc | apply pw_below_drewN | apply below_drew1 | refine below_set ?_ GE101.out) | exact HB.out)⟩⟩
    case rest =>
     clear HC17
     try clear c1
     try clear c2
     try clear p2
     try clear p6
     try clear c7
     try clear c7b0
     try clear c7b1
     try clear c8
     try clear c8b0
     try clear c8b1
     try clear c9
     try clear c9b0
     try clear c9b1
     try clear c10
     try clear c10b0
     try clear c10b1
     try clear c11
     try clear c13
     try clear c14
     try clear c15
     try clear c16
     try clear c24
     try clear c24b0
     try clear c24b1
     try clear c25
     try clear c25b0
     try clear c25b1
     try clear c26
     try clear c26b0
     try clear c26b1
     try clear c27
     try clear c27b0
     try clear c27b1
     try clear c28
     try clear c28b0
     try clear c28b1
     try clear c28b2
     try clear c29
     try clear c29b0
     try clear c29b1
     try clear hcz5_0
     try clear hcz5_1
     try clear hcz5_2
     try clear hcz5_3
     try clear hcz5_4
     try clear hfz5_0
     try clear hfz5_1
     try clear hfz5_2
     try clear hfz5_3
     try clear hfz5_4
     try clear p2
     obtain ⟨kq, x125_16, rfl, HA, HJ16, HO_9, HO_11, HO_13, HO_16, HO_19, BK101, HB⟩ := hcut
     cases kq with
     | zero => exact absurd HA.out (by simp [pyxlaw06_SealLocked.j1])
     | succ kj16 =>
      have H := HA.out
      clear HA
      simp only [pyxlaw06_SealLocked.j1] at H
      by_cases c40 : x125_16 = true
      ·subst c40
       have H1 : (some false) = some true := by rw [if_pos rfl] at H; exact H
       clear H
       have H := H1
       clear H1
       exact absurd (Option.some.inj H) (by decide)
      ·replace c40 := Bool.eq_false_iff.mpr c40
       subst c40
       have H1 : (if t102 = true then ((pyxref01_Same.f t111 t118).bind fun t129 => (if t129 = true then (if 0 ≤ (l0_4.length : Int) then (if (l0_4.length : Int) ≤ (t103.length : Int) then ((pyxref01_Same.f (t103.take ((l0_4.length : Int) : Int).toNat) t125).bind fun t134 => (if t134 = true then (if (l0_4.length : Int) ≤ (t107.length : Int) then ((pyxref01_Same.f (t107.take ((l0_4.length : Int) : Int).toNat) t125).bind fun t139 => (if t139 = true then ((pyxref01_Same.f l0_2 l0_3).bind fun t140 => (if t140 = true then ((pyxref01_Same.f t103 t107).bind fun t141 => (some t141)) else (some true))) else (some false))) else (none)) else (some false))) else (none)) else (none)) else (some false))) else (some false)) = some true := by rw [if_neg (show ¬ (false = true) by decide)] at H; exact H
       clear H
       have H := H1
       clear H1
       by_cases c41 : t102 = true
       ·subst c41
        have H1 : ((pyxref01_Same.f t111 t118).bind fun t129 => (if t129 = true then (if 0 ≤ (l0_4.length : Int) then (if (l0_4.length : Int) ≤ (t103.length : Int) then ((pyxref01_Same.f (t103.take ((l0_4.length : Int) : Int).toNat) t125).bind fun t134 => (if t134 = true then (if (l0_4.length : Int) ≤ (t107.length : Int) then ((pyxref01_Same.f (t107.take ((l0_4.length : Int) : Int).toNat) t125).bind fun t139 => (if t139 = true then ((pyxref01_Same.f l0_2 l0_3).bind fun t140 => (if t140 = true then ((pyxref01_Same.f t103 t107).bind fun t141 => (some t141)) else (some true))) else (some false))) else (none)) else (some false))) else (none)) else (none)) else (some false))) = some true := by rw [if_pos rfl] at H; exact H
        clear H
        have H := H1
        clear H1
        replace H := Option.bind_eq_some_iff.mp H
        obtain ⟨t129, A420, H⟩ := H
        replace H : (if t129 = true then (if 0 ≤ (l0_4.length : Int) then (if (l0_4.length : Int) ≤ (t103.length : Int) then ((pyxref01_Same.f (t103.take ((l0_4.length : Int) : Int).toNat) t125).bind fun t134 => (if t134 = true then (if (l0_4.length : Int) ≤ (t107.length : Int) then ((pyxref01_Same.f (t107.take ((l0_4.length : Int) : Int).toNat) t125).bind fun t139 => (if t139 = true then ((pyxref01_Same.f l0_2 l0_3).bind fun t140 => (if t140 = true then ((pyxref01_Same.f t103 t107).bind fun t141 => (some t141)) else (some true))) else (some false))) else (none)) else (some false))) else (none)) else (none)) else (some false)) = some true := H
        have A42 := Aside0.mk A420
        clear A420
        by_cases c43 : t129 = true
        ·subst c43
         have H1 : (if 0 ≤ (l0_4.length : Int) then (if (l0_4.length : Int) ≤ (t103.length : Int) then ((pyxref01_Same.f (t103.take ((l0_4.length : Int) : Int).toNat) t125).bind fun t134 => (if t134 = true then (if (l0_4.length : Int) ≤ (t107.length : Int) then ((pyxref01_Same.f (t107.take ((l0_4.length : Int) : Int).toNat) t125).bind fun t139 => (if t139 = true then ((pyxref01_Same.f l0_2 l0_3).bind fun t140 => (if t140 = true then ((pyxref01_Same.f t103 t107).bind fun t141 => (some t141)) else (some true))) else (some false))) else (none)) else (some false))) else (none)) else (none)) = some true := by rw [if_pos rfl] at H; exact H
         clear H
         have H := H1
         clear H1
         by_cases c44 : 0 ≤ (l0_4.length : Int)
         ·rw [if_pos c44] at H
          have c44b0 := eq_true c44
          have c44b1 : decide (0 ≤ (l0_4.length : Int)) = true := decide_eq_true c44
          clear c44
          by_cases c45 : (l0_4.length : Int) ≤ (t103.length : Int)
          ·rw [if_pos c45] at H
           have c45b0 := eq_true c45
           have c45b1 : decide ((l0_4.length : Int) ≤ (t103.length : Int)) = true := decide_eq_true c45
           clear c45
           obtain ⟨y130, hy130⟩ : ∃ y_ : List Int, y_ = (t103.take ((l0_4.length : Int) : Int).toNat) := ⟨_, rfl⟩
           replace H : ((pyxref01_Same.f y130 t125).bind fun t134 => (if t134 = true then (if (l0_4.length : Int) ≤ (t107.length : Int) then ((pyxref01_Same.f (t107.take ((l0_4.length : Int) : Int).toNat) t125).bind fun t139 => (if t139 = true then ((pyxref01_Same.f l0_2 l0_3).bind fun t140 => (if t140 = true then ((pyxref01_Same.f t103 t107).bind fun t141 => (some t141)) else (some true))) else (some false))) else (none)) else (some false))) = some true := by first | (rw [hy130]; with_reducible exact H) | (have H2_ := (Option.bind_some _ _).symm.trans H; rw [hy130]; with_reducible exact H2_) | (have H2_ := (Option.bind_some _ _).symm.trans H; with_reducible exact H2_) | with_reducible exact H | (rw [hy130]; exact H) | exact H
           have Ny130 := Aside0.mk hy130
           clear hy130
           replace H := Option.bind_eq_some_iff.mp H
           obtain ⟨t134, A460, H⟩ := H
           replace H : (if t134 = true then (if (l0_4.length : Int) ≤ (t107.length : Int) then ((pyxref01_Same.f (t107.take ((l0_4.length : Int) : Int).toNat) t125).bind fun t139 => (if t139 = true then ((pyxref01_Same.f l0_2 l0_3).bind fun t140 => (if t140 = true then ((pyxref01_Same.f t103 t107).bind fun t141 => (some t141)) else (some true))) else (some false))) else (none)) else (some false)) = some true := H
           have A46 := Aside0.mk A460
           clear A460
           by_cases c47 : t134 = true
           ·subst c47
            have H1 : (if (l0_4.length : Int) ≤ (t107.length : Int) then ((pyxref01_Same.f (t107.take ((l0_4.length : Int) : Int).toNat) t125).bind fun t139 => (if t139 = true then ((pyxref01_Same.f l0_2 l0_3).bind fun t140 => (if t140 = true then ((pyxref01_Same.f t103 t107).bind fun t141 => (some t141)) else (some true))) else (some false))) else (none)) = some true := by rw [if_pos rfl] at H; exact H
            clear H
            have H := H1
            clear H1
            have c48b0 := eq_true (of_decide_eq_true (by first | (with_reducible assumption) | assumption) : 0 ≤ (l0_4.length : Int))
            by_cases c49 : (l0_4.length : Int) ≤ (t107.length : Int)
            ·rw [if_pos c49] at H
             have c49b0 := eq_true c49
             have c49b1 : decide ((l0_4.length : Int) ≤ (t107.length : Int)) = true := decide_eq_true c49
             clear c49
             obtain ⟨y135, hy135⟩ : ∃ y_ : List Int, y_ = (t107.take ((l0_4.length : Int) : Int).toNat) := ⟨_, rfl⟩
             replace H : ((pyxref01_Same.f y135 t125).bind fun t139 => (if t139 = true then ((pyxref01_Same.f l0_2 l0_3).bind fun t140 => (if t140 = true then ((pyxref01_Same.f t103 t107).bind fun t141 => (some t141)) else (some true))) else (some false))) = some true := by first | (rw [hy135]; with_reducible exact H) | (have H2_ := (Option.bind_some _ _).symm.trans H; rw [hy135]; with_reducible exact H2_) | (have H2_ := (Option.bind_some _ _).symm.trans H; with_reducible exact H2_) | with_reducible exact H | (rw [hy135]; exact H) | exact H
             have Ny135 := Aside0.mk hy135
             clear hy135
             replace H := Option.bind_eq_some_iff.mp H
             obtain ⟨t139, A500, H⟩ := H
             replace H : (if t139 = true then ((pyxref01_Same.f l0_2 l0_3).bind fun t140 => (if t140 = true then ((pyxref01_Same.f t103 t107).bind fun t141 => (some t141)) else (some true))) else (some false)) = some true := H
             have A50 := Aside0.mk A500
             clear A500
             by_cases c51 : t139 = true
             ·subst c51
              have H1 : ((pyxref01_Same.f l0_2 l0_3).bind fun t140 => (if t140 = true then ((pyxref01_Same.f t103 t107).bind fun t141 => (some t141)) else (some true))) = some true := by rw [if_pos rfl] at H; exact H
              clear H
              have H := H1
              clear H1
              replace H := Option.bind_eq_some_iff.mp H
              obtain ⟨t140, A520, H⟩ := H
              replace H : (if t140 = true then ((pyxref01_Same.f t103 t107).bind fun t141 => (some t141)) else (some true)) = some true := H
              have A52 := Aside0.mk A520
              clear A520
              by_cases c53 : t140 = true
              ·subst c53
               have H1 : ((pyxref01_Same.f t103 t107).bind fun t141 => (some t141)) = some true := by rw [if_pos rfl] at H; exact H
               clear H
               have H := H1
               clear H1
               replace H := Option.bind_eq_some_iff.mp H
               obtain ⟨t141, A540, H⟩ := H
               replace H : (some t141) = some true := H
               have A54 := Aside0.mk A540
               clear A540
               have HT_ := Option.some.inj H
               obtain ⟨Ao55, co55, eo55⟩ := Kd.R_slice HO_13.out
               subst eo55
               go_wp2_with (first | (go_at_call 18; (with_reducible refine (pyxref01_Same.calls _ _ t111 _ _ t118 true _ ?side1 ?side2 ?side3 ?side4 A42.out).mono ?_); (case side1 => repeat (first | exact (Kd.R_reads' HO_13.out).2.2 | (with_reducible refine Kd.C_alloc ?_ _) | (with_reducible refine Kd.C_drewN ?_ _) | (with_reducible refine Kd.C_drew ?_))); (case side2 => exact (Kd.R_reads' HO_13.out).2.1); (case side3 => repeat (first | exact (Kd.R_reads' HO_16.out).2.2 | (with_reducible refine Kd.C_alloc ?_ _) | (with_reducible refine Kd.C_drewN ?_ _) | (with_reducible refine Kd.C_drew ?_))); (case side4 => exact (Kd.R_reads' HO_16.out).2.1); rintro e w' ⟨rfl, ⟨nd, rfl⟩⟩; obtain ⟨Ao57, co57, eo57⟩ := Kd.R_slice HO_9.out; subst eo57; have q56 : ((l0_4.length : Int) : Int) ≤ ((t103.length : Int) : Int) := of_decide_eq_true (by first | (with_reducible assumption) | assumption); obtain ⟨i056, hi056, _, hsz56, _⟩ := info_parts info5; have hroom56 : t103.length ≤ co57 := (Kd.R_reads' HO_9.out).2.1; have hC56 : Kd.C (Kd.int .u8) _ Ao57 t103.length t103 := (Kd.R_reads' HO_9.out).2.2; have hcut56 := cut_to (P := Try.prog) 22 5 .i64 Try.underlying22 hi056 Ao57 t103.length co57 (l0_4.length : Int) (of_decide_eq_true (by first | (with_reducible assumption) | assumption)) q56 hroom56; have hr56 := Kd.C_take (m := ((l0_4.length : Int) : Int).toNat) hC56 (by omega); have hy56 : y130.length = ((l0_4.length : Int) : Int).toNat := (by rw [Ny130.out, List.length_take]; omega); rw [← Ny130.out] at hr56; rw [← hy56] at hcut56; have HR133 := Aside0.mk hr56; have HC133 := Aside0.mk (show y130.length ≤ co57 from by omega); clear hr56 hC56 hroom56 hi056 hsz56; have KY56 := Aside0.mk hy56; clear hy56; have KL56 := Aside0.mk (show ((l0_4.length : Int) : Int).toNat ≤ t103.length from by omega); replace q56 := eq_true q56; obtain ⟨Ao58, co58, eo58⟩ := Kd.R_slice HO_19.out; subst eo58) | (go_at_call 18; (with_reducible refine (pyxref01_Same.calls _ _ y130 _ _ t125 true _ ?side1 ?side2 ?side3 ?side4 A46.out).mono ?_); (case side1 => repeat (first | exact (by repeat (first | (with_reducible exact HR133.out) | (with_reducible refine Kd.C_alloc ?_ _) | (with_reducible refine Kd.C_drewN ?_ _) | (with_reducible refine Kd.C_drew ?_) | exact HR133.out)) | (with_reducible refine Kd.C_alloc ?_ _) | (with_reducible refine Kd.C_drewN ?_ _) | (with_reducible refine Kd.C_drew ?_))); (case side2 => exact HC133.out); (case side3 => repeat (first | exact (Kd.R_reads' HO_19.out).2.2 | (with_reducible refine Kd.C_alloc ?_ _) | (with_reducible refine Kd.C_drewN ?_ _) | (with_reducible refine Kd.C_drew ?_))); (case side4 => exact (Kd.R_reads' HO_19.out).2.1); rintro e w' ⟨rfl, ⟨nd, rfl⟩⟩; obtain ⟨Ao60, co60, eo60⟩ := Kd.R_slice HO_11.out; subst eo60; have q59 : ((l0_4.length : Int) : Int) ≤ ((t107.length : Int) : Int) := of_decide_eq_true (by first | (with_reducible assumption) | assumption); obtain ⟨i059, hi059, _, hsz59, _⟩ := info_parts info5; have hroom59 : t107.length ≤ co60 := (Kd.R_reads' HO_11.out).2.1; have hC59 : Kd.C (Kd.int .u8) _ Ao60 t107.length t107 := (Kd.R_reads' HO_11.out).2.2; have hcut59 := cut_to (P := Try.prog) 22 5 .i64 Try.underlying22 hi059 Ao60 t107.length co60 (l0_4.length : Int) (of_decide_eq_true (by first | (with_reducible assumption) | assumption)) q59 hroom59; have hr59 := Kd.C_take (m := ((l0_4.length : Int) : Int).toNat) hC59 (by omega); have hy59 : y135.length = ((l0_4.length : Int) : Int).toNat := (by rw [Ny135.out, List.length_take]; omega); rw [← Ny135.out] at hr59; rw [← hy59] at hcut59; have HR138 := Aside0.mk hr59; have HC138 := Aside0.mk (show y135.length ≤ co60 from by omega); clear hr59 hC59 hroom59 hi059 hsz59; have KY59 := Aside0.mk hy59; clear hy59; have KL59 := Aside0.mk (show ((l0_4.length : Int) : Int).toNat ≤ t107.length from by omega); replace q59 := eq_true q59) | (go_at_call 18; (with_reducible refine (pyxref01_Same.calls _ _ y135 _ _ t125 true _ ?side1 ?side2 ?side3 ?side4 A50.out).mono ?_); (case side1 => repeat (first | exact (by repeat (first | (with_reducible exact HR138.out) | (with_reducible refine Kd.C_alloc ?_ _) | (with_reducible refine Kd.C_drewN ?_ _) | (with_reducible refine Kd.C_drew ?_) | exact HR138.out)) | (with_reducible refine Kd.C_alloc ?_ _) | (with_reducible refine Kd.C_drewN ?_ _) | (with_reducible refine Kd.C_drew ?_))); (case side2 => exact HC138.out); (case side3 => repeat (first | exact (Kd.R_reads' HO_19.out).2.2 | (with_reducible refine Kd.C_alloc ?_ _) | (with_reducible refine Kd.C_drewN ?_ _) | (with_reducible refine Kd.C_drew ?_))); (case side4 => exact (Kd.R_reads' HO_19.out).2.1); rintro e w' ⟨rfl, ⟨nd, rfl⟩⟩) | (go_at_call 18; (with_reducible refine (pyxref01_Same.calls _ _ l0_2 _ _ l0_3 true _ ?side1 ?side2 ?side3 ?side4 A52.out).mono ?_); (case side1 => repeat (first | exact (Kd.C_below HR0_2.out (by repeat (first | (with_reducible first | exact HB.out | apply below_alloc | apply pw_below_drewN | apply below_drew1 | refine below_set ?_ GE101.out) | exact HB.out))) | (with_reducible refine Kd.C_alloc ?_ _) | (with_reducible refine Kd.C_drewN ?_ _) | (with_reducible refine Kd.C_drew ?_))); (case side2 => exact HC0_2.out); (case side3 => repeat (first | exact (Kd.C_below HR0_3.out (by repeat (first | (with_reducible first | exact HB.out | apply below_alloc | apply pw_below_drewN | apply below_drew1 | refine below_set ?_ GE101.out) | exact HB.out))) | (with_reducible refine Kd.C_alloc ?_ _) | (with_reducible refine Kd.C_drewN ?_ _) | (with_reducible refine Kd.C_drew ?_))); (case side4 => exact HC0_3.out); rintro e w' ⟨rfl, ⟨nd, rfl⟩⟩) | (go_at_call 18; (with_reducible refine (pyxref01_Same.calls _ _ t103 _ _ t107 t141 _ ?side1 ?side2 ?side3 ?side4 A54.out).mono ?_); (case side1 => repeat (first | exact (Kd.R_reads' HO_9.out).2.2 | (with_reducible refine Kd.C_alloc ?_ _) | (with_reducible refine Kd.C_drewN ?_ _) | (with_reducible refine Kd.C_drew ?_))); (case side2 => exact (Kd.R_reads' HO_9.out).2.1); (case side3 => repeat (first | exact (Kd.R_reads' HO_11.out).2.2 | (with_reducible refine Kd.C_alloc ?_ _) | (with_reducible refine Kd.C_drewN ?_ _) | (with_reducible refine Kd.C_drew ?_))); (case side4 => exact (Kd.R_reads' HO_11.out).2.1); rintro e w' ⟨rfl, ⟨nd, rfl⟩⟩))
               go_ret
               exact ⟨by first | rfl | (simp [errW_none, errW_some] <;> rfl) | (simp [*, errW_none, errW_some] <;> rfl), by repeat (first | (with_reducible first | exact HB.out | apply below_alloc | apply pw_below_drewN | apply below_drew1 | refine below_set ?_ GE101.out) | exact HB.out)⟩
              ·replace c53 := Bool.eq_false_iff.mpr c53
               subst c53
               have H1 : (some true) = some true := rfl
               clear H
               have H := H1
               clear H1
               have HT_ := Option.some.inj H
               obtain ⟨Ao61, co61, eo61⟩ := Kd.R_slice HO_13.out
               subst eo61
               go_wp2_with (first | (go_at_call 18; (with_reducible refine (pyxref01_Same.calls _ _ t111 _ _ t118 true _ ?side1 ?side2 ?side3 ?side4 A42.out).mono ?_); (case side1 => repeat (first | exact (Kd.R_reads' HO_13.out).2.2 | (with_reducible refine Kd.C_alloc ?_ _) | (with_reducible refine Kd.C_drewN ?_ _) | (with_reducible refine Kd.C_drew ?_))); (case side2 => exact (Kd.R_reads' HO_13.out).2.1); (case side3 => repeat (first | exact (Kd.R_reads' HO_16.out).2.2 | (with_reducible refine Kd.C_alloc ?_ _) | (with_reducible refine Kd.C_drewN ?_ _) | (with_reducible refine Kd.C_drew ?_))); (case side4 => exact (Kd.R_reads' HO_16.out).2.1); rintro e w' ⟨rfl, ⟨nd, rfl⟩⟩; obtain ⟨Ao63, co63, eo63⟩ := Kd.R_slice HO_9.out; subst eo63; have q62 : ((l0_4.length : Int) : Int) ≤ ((t103.length : Int) : Int) := of_decide_eq_true (by first | (with_reducible assumption) | assumption); obtain ⟨i062, hi062, _, hsz62, _⟩ := info_parts info5; have hroom62 : t103.length ≤ co63 := (Kd.R_reads' HO_9.out).2.1; have hC62 : Kd.C (Kd.int .u8) _ Ao63 t103.length t103 := (Kd.R_reads' HO_9.out).2.2; have hcut62 := cut_to (P := Try.prog) 22 5 .i64 Try.underlying22 hi062 Ao63 t103.length co63 (l0_4.length : Int) (of_decide_eq_true (by first | (with_reducible assumption) | assumption)) q62 hroom62; have hr62 := Kd.C_take (m := ((l0_4.length : Int) : Int).toNat) hC62 (by omega); have hy62 : y130.length = ((l0_4.length : Int) : Int).toNat := (by rw [Ny130.out, List.length_take]; omega); rw [← Ny130.out] at hr62; rw [← hy62] at hcut62; have HR133 := Aside0.mk hr62; have HC133 := Aside0.mk (show y130.length ≤ co63 from by omega); clear hr62 hC62 hroom62 hi062 hsz62; have KY62 := Aside0.mk hy62; clear hy62; have KL62 := Aside0.mk (show ((l0_4.length : Int) : Int).toNat ≤ t103.length from by omega); replace q62 := eq_true q62; obtain ⟨Ao64, co64, eo64⟩ := Kd.R_slice HO_19.out; subst eo64) | (go_at_call 18; (with_reducible refine (pyxref01_Same.calls _ _ y130 _ _ t125 true _ ?side1 ?side2 ?side3 ?side4 A46.out).mono ?_); (case side1 => repeat (first | exact (by repeat (first | (with_reducible exact HR133.out) | (with_reducible refine Kd.C_alloc ?_ _) | (with_reducible refine Kd.C_drewN ?_ _) | (with_reducible refine Kd.C_drew ?_) | exact HR133.out)) | (with_reducible refine Kd.C_alloc ?_ _) | (with_reducible refine Kd.C_drewN ?_ _) | (with_reducible refine Kd.C_drew ?_))); (case side2 => exact HC133.out); (case side3 => repeat (first | exact (Kd.R_reads' HO_19.out).2.2 | (with_reducible refine Kd.C_alloc ?_ _) | (with_reducible refine Kd.C_drewN ?_ _) | (with_reducible refine Kd.C_drew ?_))); (case side4 => exact (Kd.R_reads' HO_19.out).2.1); rintro e w' ⟨rfl, ⟨nd, rfl⟩⟩; obtain ⟨Ao66, co66, eo66⟩ := Kd.R_slice HO_11.out; subst eo66; have q65 : ((l0_4.length : Int) : Int) ≤ ((t107.length : Int) : Int) := of_decide_eq_true (by first | (with_reducible assumption) | assumption); obtain ⟨i065, hi065, _, hsz65, _⟩ := info_parts info5; have hroom65 : t107.length ≤ co66 := (Kd.R_reads' HO_11.out).2.1; have hC65 : Kd.C (Kd.int .u8) _ Ao66 t107.length t107 := (Kd.R_reads' HO_11.out).2.2; have hcut65 := cut_to (P := Try.prog) 22 5 .i64 Try.underlying22 hi065 Ao66 t107.length co66 (l0_4.length : Int) (of_decide_eq_true (by first | (with_reducible assumption) | assumption)) q65 hroom65; have hr65 := Kd.C_take (m := ((l0_4.length : Int) : Int).toNat) hC65 (by omega); have hy65 : y135.length = ((l0_4.length : Int) : Int).toNat := (by rw [Ny135.out, List.length_take]; omega); rw [← Ny135.out] at hr65; rw [← hy65] at hcut65; have HR138 := Aside0.mk hr65; have HC138 := Aside0.mk (show y135.length ≤ co66 from by omega); clear hr65 hC65 hroom65 hi065 hsz65; have KY65 := Aside0.mk hy65; clear hy65; have KL65 := Aside0.mk (show ((l0_4.length : Int) : Int).toNat ≤ t107.length from by omega); replace q65 := eq_true q65) | (go_at_call 18; (with_reducible refine (pyxref01_Same.calls _ _ y135 _ _ t125 true _ ?side1 ?side2 ?side3 ?side4 A50.out).mono ?_); (case side1 => repeat (first | exact (by repeat (first | (with_reducible exact HR138.out) | (with_reducible refine Kd.C_alloc ?_ _) | (with_reducible refine Kd.C_drewN ?_ _) | (with_reducible refine Kd.C_drew ?_) | exact HR138.out)) | (with_reducible refine Kd.C_alloc ?_ _) | (with_reducible refine Kd.C_drewN ?_ _) | (with_reducible refine Kd.C_drew ?_))); (case side2 => exact HC138.out); (case side3 => repeat (first | exact (Kd.R_reads' HO_19.out).2.2 | (with_reducible refine Kd.C_alloc ?_ _) | (with_reducible refine Kd.C_drewN ?_ _) | (with_reducible refine Kd.C_drew ?_))); (case side4 => exact (Kd.R_reads' HO_19.out).2.1); rintro e w' ⟨rfl, ⟨nd, rfl⟩⟩) | (go_at_call 18; (with_reducible refine (pyxref01_Same.calls _ _ l0_2 _ _ l0_3 false _ ?side1 ?side2 ?side3 ?side4 A52.out).mono ?_); (case side1 => repeat (first | exact (Kd.C_below HR0_2.out (by repeat (first | (with_reducible first | exact HB.out | apply below_alloc | apply pw_below_drewN | apply below_drew1 | refine below_set ?_ GE101.out) | exact HB.out))) | (with_reducible refine Kd.C_alloc ?_ _) | (with_reducible refine Kd.C_drewN ?_ _) | (with_reducible refine Kd.C_drew ?_))); (case side2 => exact HC0_2.out); (case side3 => repeat (first | exact (Kd.C_below HR0_3.out (by repeat (first | (with_reducible first | exact HB.out | apply below_alloc | apply pw_below_drewN | apply below_drew1 | refine below_set ?_ GE101.out) | exact HB.out))) | (with_reducible refine Kd.C_alloc ?_ _) | (with_reducible refine Kd.C_drewN ?_ _) | (with_reducible refine Kd.C_drew ?_))); (case side4 => exact HC0_3.out); rintro e w' ⟨rfl, ⟨nd, rfl⟩⟩))
               go_ret
               exact ⟨by first | rfl | (simp [errW_none, errW_some] <;> rfl) | (simp [*, errW_none, errW_some] <;> rfl), by repeat (first | (with_reducible first | exact HB.out | apply below_alloc | apply pw_below_drewN | apply below_drew1 | refine below_set ?_ GE101.out) | exact HB.out)⟩
             ·replace c51 := Bool.eq_false_iff.mpr c51
              subst c51
              have H1 : (some false) = some true := by rw [if_neg (show ¬ (false = true) by decide)] at H; exact H
              clear H
              have H := H1
              clear H1
              exact absurd (Option.some.inj H) (by decide)
            ·rw [if_neg c49] at H
             exact absurd H (by simp)
           ·replace c47 := Bool.eq_false_iff.mpr c47
            subst c47
            have H1 : (some false) = some true := by rw [if_neg (show ¬ (false = true) by decide)] at H; exact H
            clear H
            have H := H1
            clear H1
            exact absurd (Option.some.inj H) (by decide)
          ·rw [if_neg c45] at H
           exact absurd H (by simp)
         ·rw [if_neg c44] at H
          exact absurd H (by simp)
        ·replace c43 := Bool.eq_false_iff.mpr c43
         subst c43
         have H1 : (some false) = some true := by rw [if_neg (show ¬ (false = true) by decide)] at H; exact H
         clear H
         have H := H1
         clear H1
         exact absurd (Option.some.inj H) (by decide)
       ·replace c41 := Bool.eq_false_iff.mpr c41
        subst c41
        have H1 : (some false) = some true := by rw [if_neg (show ¬ (false = true) by decide)] at H; exact H
        clear H
        have H := H1
        clear H1
        exact absurd (Option.some.inj H) (by decide)
end Go.Proofs.Ytifpdpfjhjoieaa.P
