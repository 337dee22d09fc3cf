-- Written by xprint.py, this session's driver over the kit's print.py, out of the translation.
import Derived.Test.YtifpdpfjhjoieaaPSigSpoilty0
namespace Go.Proofs.Ytifpdpfjhjoieaa.P
open Go.RowKit Go.Proofs.YtifpdpfjhjoieaaW.PrintWords Go.Proofs.YtifpdpfjhjoieaaW.PrintLast Go.Proofs.YtifpdpfjhjoieaaW.PrintMore
attribute [local go_sem] max2_int min2_int max_two min_two max_three min_three max_four min_four   -- for this text's walks alone
set_option linter.unusedVariables false
set_option linter.unusedSimpArgs false

-- NOT PRINTED: function 71 (pyxref02_Pad)

-- NOT PRINTED: function 72 (pyxref02_keys)

-- NOT PRINTED: function 73 (pyxref02_Start)

-- NOT PRINTED: function 88 (pyxref02_word)

-- NOT PRINTED: function 89 (pyxref02_turn)

-- NOT PRINTED: function 74 (pyxref02_step)

-- NOT PRINTED: function 50 (pyxref02_Sum)

-- NOT PRINTED: function 49 (pyxref03_Key)

-- NOT PRINTED: function 51 (pyxref03_with)

-- NOT PRINTED: function 56 (sig_right)

-- NOT PRINTED: function 47 (byt_Num)

-- NOT PRINTED: function 95 (byt_wide)

-- NOT PRINTED: function 79 (byt_Len)

-- NOT PRINTED: function 62 (byt_Row)

-- NOT PRINTED: function 80 (kdf_first)

-- NOT PRINTED: function 63 (kdf_Expand)

-- NOT PRINTED: function 40 (kdf_Label)

-- NOT PRINTED: function 57 (sig_secret_label)

-- NOT PRINTED: function 104 (slices_Grow_byte_byte)

-- NOT PRINTED: function 99 (slices_Concat_byte_byte)

-- NOT PRINTED: function 87 (mac_joined)

-- NOT PRINTED: function 105 (sha_primes)

-- NOT PRINTED: function 112 (bits_Mul64)

-- NOT PRINTED: function 113 (bits_Add64)

-- NOT PRINTED: function 110 (sha_above)

-- NOT PRINTED: function 106 (sha_root)

-- NOT PRINTED: function 100 (sha_keys)

-- NOT PRINTED: function 101 (sha_Start)

-- NOT PRINTED: function 111 (bits_RotateLeft32)

-- NOT PRINTED: function 108 (sha_turned)

-- NOT PRINTED: function 107 (sha_words)

-- NOT PRINTED: function 102 (sha_mixed)

-- NOT PRINTED: function 103 (sha_Pad)

-- NOT PRINTED: function 94 (sha_Sum)

-- NOT PRINTED: function 91 (mac_Key)

-- NOT PRINTED: function 78 (mac_Sum)

-- NOT PRINTED: function 68 (mac_All)

-- NOT PRINTED: function 58 (sig_tag)

-- NOT PRINTED: function 46 (mac_Same)

-- NOT PRINTED: function 14 (seal_Halves)

-- NOT PRINTED: function 42 (seal_ready)

-- NOT PRINTED: function 83 (aes_Mul)

-- NOT PRINTED: function 96 (aes_inverse)

-- NOT PRINTED: function 97 (bits_RotateLeft8)

-- NOT PRINTED: function 82 (aes_Box)

-- NOT PRINTED: function 65 (aes_boxes)

-- NOT PRINTED: function 66 (aes_keys)

-- NOT PRINTED: function 84 (aes_state_with)

-- NOT PRINTED: function 85 (aes_state_shifted)

-- NOT PRINTED: function 86 (aes_state_mixed)

-- NOT PRINTED: function 67 (aes_locked)

-- NOT PRINTED: function 43 (aes_Stream)

-- NOT PRINTED: function 44 (seal_tag)

-- NOT PRINTED: function 16 (seal_Seal)

-- NOT PRINTED: function 60 (sig_shared)

-- NOT PRINTED: function 19 (seal_Open)

-- NOT PRINTED: function 77 (pyxref01_power)

-- NOT PRINTED: function 54 (pyxref01_Num)

-- NOT PRINTED: function 70 (pyxref01_Len)

-- NOT PRINTED: function 48 (pyxref01_Row)

/-! ### pyxlaw07_SigSpoilt: function 11 -/
mutual
def pyxlaw07_SigSpoilt.j0 : Nat → List Int → ByteArray → ByteArray → List Int → List Int → Int → Int → Bool → Bool → Option (Bool)
  | 0, _, _, _, _, _, _, _, _, _ => none
  | k + 1, x3, x4, x5, x6, x7, x8, x9, x10, x56 => if x56 = true then (some x10) else ((sig_Public.f x3).bind fun bt103 => ((sig_Sign.f x3 x4 x6).bind fun bt107 => (if bt103.2 = 0 then (if bt107.2 = 0 then (pyxlaw07_SigSpoilt.j1 k x4 x5 x6 x7 x8 x9 x10 bt103.1 bt107.1 ((bt107.1.length : Int) != 32)) else (pyxlaw07_SigSpoilt.j1 k x4 x5 x6 x7 x8 x9 x10 bt103.1 bt107.1 true)) else (pyxlaw07_SigSpoilt.j1 k x4 x5 x6 x7 x8 x9 x10 bt103.1 bt107.1 true))))
def pyxlaw07_SigSpoilt.j1 : Nat → ByteArray → ByteArray → List Int → List Int → Int → Int → Bool → List Int → List Int → Bool → Option (Bool)
  | 0, _, _, _, _, _, _, _, _, _, _ => none
  | k + 1, x4, x5, x6, x7, x8, x9, x10, x11, x13, x80 => if x80 = true then (some false) else ((sig_Verify.f x11 x5 x7 x13).bind fun t111 => (if x4.toList = x5.toList then ((pyxref01_Same.f x6 x7).bind fun t112 => (pyxlaw07_SigSpoilt.j2 k x4 x5 x6 x7 x8 x9 x10 x11 x13 (t111 == 0) t112)) else (pyxlaw07_SigSpoilt.j2 k x4 x5 x6 x7 x8 x9 x10 x11 x13 (t111 == 0) false)))
def pyxlaw07_SigSpoilt.j2 : Nat → ByteArray → ByteArray → List Int → List Int → Int → Int → Bool → List Int → List Int → Bool → Bool → Option (Bool)
  | 0, _, _, _, _, _, _, _, _, _, _, _ => none
  | k + 1, x4, x5, x6, x7, x8, x9, x10, x11, x13, x15, x16 => if (x16 != x15) = true then (if x16 = true then (pyxlaw07_SigSpoilt.j3 k x4 x6 x8 x9 x10 x11 x13 true) else ((pyxlaw07_told.f x4 x6).bind fun t113 => ((pyxref03_Sum.f x11 t113).bind fun t116 => ((pyxlaw07_told.f x5 x7).bind fun t119 => ((pyxref03_Sum.f x11 t119).bind fun t122 => ((pyxref01_Same.f t116 t122).bind fun t125 => (pyxlaw07_SigSpoilt.j3 k x4 x6 x8 x9 x10 x11 x13 (!t125)))))))) else (pyxlaw07_SigSpoilt.j3 k x4 x6 x8 x9 x10 x11 x13 false)
def pyxlaw07_SigSpoilt.j3 : Nat → ByteArray → List Int → Int → Int → Bool → List Int → List Int → Bool → Option (Bool)
  | 0, _, _, _, _, _, _, _, _ => none
  | k + 1, x4, x6, x8, x9, x10, x11, x13, x114 => if x114 = true then (some false) else ((some (([] : List Int) : List Int)).bind fun y126 => (if y126.length + x13.length < 140737488355328 then ((some (y126 ++ x13 : List Int)).bind fun y129 => (if 0 ≤ (Int.tmod (wrap64 (x8)) 32) then (if (Int.tmod (wrap64 (x8)) 32) < (y129.length : Int) then (if x10 = true then ((sig_Verify.f x11 x4 x6 (y129.set ((Int.tmod (wrap64 (x8)) 32) : Int).toNat (Go.bits .xor .u8 (rd y129 (Int.tmod (wrap64 (x8)) 32)) x9))).bind fun t134 => (if ((t134 == 0) == (x9 == 0)) = true then (if 31 ≤ (x13.length : Int) then ((sig_Verify.f x11 x4 x6 (x13.take 31)).bind fun t139 => (some (t139 == 5))) else (none)) else (some false))) else (some false)) else (none)) else (none))) else (none)))
end
def pyxlaw07_SigSpoilt.f (k : Nat) (l0_0 : List Int) (a0_1 : ByteArray) (a0_2 : ByteArray) (l0_3 : List Int) (l0_4 : List Int) (a0_5 : Int) (a0_6 : Int) : Option (Bool) := (pyxlaw07_shown.f).bind fun t102 => (if (l0_0.length : Int) = 32 then (if (a0_1.size : Int) > 50 then (pyxlaw07_SigSpoilt.j0 k l0_0 a0_1 a0_2 l0_3 l0_4 a0_5 a0_6 t102 true) else (if (a0_2.size : Int) > 50 then (pyxlaw07_SigSpoilt.j0 k l0_0 a0_1 a0_2 l0_3 l0_4 a0_5 a0_6 t102 true) else (if (l0_3.length : Int) > 100 then (pyxlaw07_SigSpoilt.j0 k l0_0 a0_1 a0_2 l0_3 l0_4 a0_5 a0_6 t102 true) else (pyxlaw07_SigSpoilt.j0 k l0_0 a0_1 a0_2 l0_3 l0_4 a0_5 a0_6 t102 (decide ((l0_4.length : Int) > 100)))))) else (pyxlaw07_SigSpoilt.j0 k l0_0 a0_1 a0_2 l0_3 l0_4 a0_5 a0_6 t102 true))
theorem pyxlaw07_SigSpoilt.mono_l : ∀ k, (∀ y0 y1 y2 y3 y4 y5 y6 y7 y8, LeO (pyxlaw07_SigSpoilt.j0 k y0 y1 y2 y3 y4 y5 y6 y7 y8) (pyxlaw07_SigSpoilt.j0 (k + 1) y0 y1 y2 y3 y4 y5 y6 y7 y8)) ∧ (∀ y0 y1 y2 y3 y4 y5 y6 y7 y8 y9, LeO (pyxlaw07_SigSpoilt.j1 k y0 y1 y2 y3 y4 y5 y6 y7 y8 y9) (pyxlaw07_SigSpoilt.j1 (k + 1) y0 y1 y2 y3 y4 y5 y6 y7 y8 y9)) ∧ (∀ y0 y1 y2 y3 y4 y5 y6 y7 y8 y9 y10, LeO (pyxlaw07_SigSpoilt.j2 k y0 y1 y2 y3 y4 y5 y6 y7 y8 y9 y10) (pyxlaw07_SigSpoilt.j2 (k + 1) y0 y1 y2 y3 y4 y5 y6 y7 y8 y9 y10)) ∧ (∀ y0 y1 y2 y3 y4 y5 y6 y7, LeO (pyxlaw07_SigSpoilt.j3 k y0 y1 y2 y3 y4 y5 y6 y7) (pyxlaw07_SigSpoilt.j3 (k + 1) y0 y1 y2 y3 y4 y5 y6 y7))
  | 0 => ⟨fun _ _ _ _ _ _ _ _ _ r h => by simp [pyxlaw07_SigSpoilt.j0] at h, fun _ _ _ _ _ _ _ _ _ _ r h => by simp [pyxlaw07_SigSpoilt.j1] at h, fun _ _ _ _ _ _ _ _ _ _ _ r h => by simp [pyxlaw07_SigSpoilt.j2] at h, fun _ _ _ _ _ _ _ _ r h => by simp [pyxlaw07_SigSpoilt.j3] at h⟩
  | k + 1 => by
    obtain ⟨ih0, ih1, ih2, ih3⟩ := pyxlaw07_SigSpoilt.mono_l k
    refine ⟨?_, ?_, ?_, ?_⟩
    · intro y0 y1 y2 y3 y4 y5 y6 y7 y8
      unfold pyxlaw07_SigSpoilt.j0
      repeat' first
      | (with_reducible exact ih0 _ _ _ _ _ _ _ _ _)
      | (with_reducible exact ih1 _ _ _ _ _ _ _ _ _ _)
      | (with_reducible exact ih2 _ _ _ _ _ _ _ _ _ _ _)
      | (with_reducible exact ih3 _ _ _ _ _ _ _ _)
      | (with_reducible exact LeO.refl _)
      | (with_reducible exact LeO.none _)
      | (with_reducible refine LeO.ite ?_ ?_)
      | (with_reducible refine LeO.bind ?_ (fun _ => ?_))
      | exact ih0 _ _ _ _ _ _ _ _ _
      | exact ih1 _ _ _ _ _ _ _ _ _ _
      | exact ih2 _ _ _ _ _ _ _ _ _ _ _
      | exact ih3 _ _ _ _ _ _ _ _
      | exact LeO.none _
      | refine LeO.ite ?_ ?_
      | refine LeO.bind ?_ (fun _ => ?_)
    · intro y0 y1 y2 y3 y4 y5 y6 y7 y8 y9
      unfold pyxlaw07_SigSpoilt.j1
      repeat' first
      | (with_reducible exact ih0 _ _ _ _ _ _ _ _ _)
      | (with_reducible exact ih1 _ _ _ _ _ _ _ _ _ _)
      | (with_reducible exact ih2 _ _ _ _ _ _ _ _ _ _ _)
      | (with_reducible exact ih3 _ _ _ _ _ _ _ _)
      | (with_reducible exact LeO.refl _)
      | (with_reducible exact LeO.none _)
      | (with_reducible refine LeO.ite ?_ ?_)
      | (with_reducible refine LeO.bind ?_ (fun _ => ?_))
      | exact ih0 _ _ _ _ _ _ _ _ _
      | exact ih1 _ _ _ _ _ _ _ _ _ _
      | exact ih2 _ _ _ _ _ _ _ _ _ _ _
      | exact ih3 _ _ _ _ _ _ _ _
      | exact LeO.none _
      | refine LeO.ite ?_ ?_
      | refine LeO.bind ?_ (fun _ => ?_)
    · intro y0 y1 y2 y3 y4 y5 y6 y7 y8 y9 y10
      unfold pyxlaw07_SigSpoilt.j2
      repeat' first
      | (with_reducible exact ih0 _ _ _ _ _ _ _ _ _)
      | (with_reducible exact ih1 _ _ _ _ _ _ _ _ _ _)
      | (with_reducible exact ih2 _ _ _ _ _ _ _ _ _ _ _)
      | (with_reducible exact ih3 _ _ _ _ _ _ _ _)
      | (with_reducible exact LeO.refl _)
      | (with_reducible exact LeO.none _)
      | (with_reducible refine LeO.ite ?_ ?_)
      | (with_reducible refine LeO.bind ?_ (fun _ => ?_))
      | exact ih0 _ _ _ _ _ _ _ _ _
      | exact ih1 _ _ _ _ _ _ _ _ _ _
      | exact ih2 _ _ _ _ _ _ _ _ _ _ _
      | exact ih3 _ _ _ _ _ _ _ _
      | exact LeO.none _
      | refine LeO.ite ?_ ?_
      | refine LeO.bind ?_ (fun _ => ?_)
    · intro y0 y1 y2 y3 y4 y5 y6 y7
      unfold pyxlaw07_SigSpoilt.j3
      repeat' first
      | (with_reducible exact ih0 _ _ _ _ _ _ _ _ _)
      | (with_reducible exact ih1 _ _ _ _ _ _ _ _ _ _)
      | (with_reducible exact ih2 _ _ _ _ _ _ _ _ _ _ _)
      | (with_reducible exact ih3 _ _ _ _ _ _ _ _)
      | (with_reducible exact LeO.refl _)
      | (with_reducible exact LeO.none _)
      | (with_reducible refine LeO.ite ?_ ?_)
      | (with_reducible refine LeO.bind ?_ (fun _ => ?_))
      | exact ih0 _ _ _ _ _ _ _ _ _
      | exact ih1 _ _ _ _ _ _ _ _ _ _
      | exact ih2 _ _ _ _ _ _ _ _ _ _ _
      | exact ih3 _ _ _ _ _ _ _ _
      | exact LeO.none _
      | refine LeO.ite ?_ ?_
      | refine LeO.bind ?_ (fun _ => ?_)
theorem pyxlaw07_SigSpoilt.mono : ∀ a0 a1 a2 a3 a4 a5 a6 k, LeO (pyxlaw07_SigSpoilt.f k a0 a1 a2 a3 a4 a5 a6) (pyxlaw07_SigSpoilt.f (k + 1) a0 a1 a2 a3 a4 a5 a6) := by
  intro a0 a1 a2 a3 a4 a5 a6 k
  obtain ⟨ih0, ih1, ih2, ih3⟩ := pyxlaw07_SigSpoilt.mono_l k
  unfold pyxlaw07_SigSpoilt.f
  repeat' first
      | (with_reducible exact ih0 _ _ _ _ _ _ _ _ _)
      | (with_reducible exact ih1 _ _ _ _ _ _ _ _ _ _)
      | (with_reducible exact ih2 _ _ _ _ _ _ _ _ _ _ _)
      | (with_reducible exact ih3 _ _ _ _ _ _ _ _)
      | (with_reducible exact LeO.refl _)
      | (with_reducible exact LeO.none _)
      | (with_reducible refine LeO.ite ?_ ?_)
      | (with_reducible refine LeO.bind ?_ (fun _ => ?_))
      | exact ih0 _ _ _ _ _ _ _ _ _
      | exact ih1 _ _ _ _ _ _ _ _ _ _
      | exact ih2 _ _ _ _ _ _ _ _ _ _ _
      | exact ih3 _ _ _ _ _ _ _ _
      | exact LeO.none _
      | refine LeO.ite ?_ ?_
      | refine LeO.bind ?_ (fun _ => ?_)
set_option maxHeartbeats 8000000 in
set_option maxRecDepth 100000 in
theorem pyxlaw07_SigSpoilt.calls (k : Nat) (A0_0 : Option Addr) (c0_0 : Nat) (l0_0 : List Int) (a0_1 : ByteArray) (a0_2 : ByteArray) (A0_3 : Option Addr) (c0_3 : Nat) (l0_3 : List Int) (A0_4 : Option Addr) (c0_4 : Nat) (l0_4 : List Int) (a0_5 : Int) (a0_6 : Int) (w : World) (hr0_0 : Kd.C (Kd.int .u8) w A0_0 l0_0.length l0_0) (hc0_0 : l0_0.length ≤ c0_0) (hr0_3 : Kd.C (Kd.int .u8) w A0_3 l0_3.length l0_3) (hc0_3 : l0_3.length ≤ c0_3) (hr0_4 : Kd.C (Kd.int .u8) w A0_4 l0_4.length l0_4) (hc0_4 : l0_4.length ≤ c0_4) (h : pyxlaw07_SigSpoilt.f k l0_0 a0_1 a0_2 l0_3 l0_4 a0_5 a0_6 = some true) :
    Calls Try.prog 11 #[.agg #[.slice A0_0 l0_0.length c0_0, .string a0_1, .string a0_2, .slice A0_3 l0_3.length c0_3, .slice A0_4 l0_4.length c0_4, .int .u8 a0_5, .int .u8 a0_6]] w fun e w' => e = .returned (.bool true) ∧ Below w.heap.size w w' := by
  have hu72 := Try.underlying72
  have HR0_0 := Aside0.mk hr0_0
  have HC0_0 := Aside0.mk hc0_0
  clear hr0_0 hc0_0
  have HR0_3 := Aside0.mk hr0_3
  have HC0_3 := Aside0.mk hc0_3
  clear hr0_3 hc0_3
  have HR0_4 := Aside0.mk hr0_4
  have HC0_4 := Aside0.mk hc0_4
  clear hr0_4 hc0_4
  have HB := Aside0.mk (Below.refl w.heap.size w)
  have H : ((pyxlaw07_shown.f).bind fun t102 => (if (l0_0.length : Int) = 32 then (if (a0_1.size : Int) > 50 then (pyxlaw07_SigSpoilt.j0 k l0_0 a0_1 a0_2 l0_3 l0_4 a0_5 a0_6 t102 true) else (if (a0_2.size : Int) > 50 then (pyxlaw07_SigSpoilt.j0 k l0_0 a0_1 a0_2 l0_3 l0_4 a0_5 a0_6 t102 true) else (if (l0_3.length : Int) > 100 then (pyxlaw07_SigSpoilt.j0 k l0_0 a0_1 a0_2 l0_3 l0_4 a0_5 a0_6 t102 true) else (pyxlaw07_SigSpoilt.j0 k l0_0 a0_1 a0_2 l0_3 l0_4 a0_5 a0_6 t102 (decide ((l0_4.length : Int) > 100)))))) else (pyxlaw07_SigSpoilt.j0 k l0_0 a0_1 a0_2 l0_3 l0_4 a0_5 a0_6 t102 true))) = some true := h
  clear h
  replace H := Option.bind_eq_some_iff.mp H
  obtain ⟨t102, A20, H⟩ := H
  replace H : (if (l0_0.length : Int) = 32 then (if (a0_1.size : Int) > 50 then (pyxlaw07_SigSpoilt.j0 k l0_0 a0_1 a0_2 l0_3 l0_4 a0_5 a0_6 t102 true) else (if (a0_2.size : Int) > 50 then (pyxlaw07_SigSpoilt.j0 k l0_0 a0_1 a0_2 l0_3 l0_4 a0_5 a0_6 t102 true) else (if (l0_3.length : Int) > 100 then (pyxlaw07_SigSpoilt.j0 k l0_0 a0_1 a0_2 l0_3 l0_4 a0_5 a0_6 t102 true) else (pyxlaw07_SigSpoilt.j0 k l0_0 a0_1 a0_2 l0_3 l0_4 a0_5 a0_6 t102 (decide ((l0_4.length : Int) > 100)))))) else (pyxlaw07_SigSpoilt.j0 k l0_0 a0_1 a0_2 l0_3 l0_4 a0_5 a0_6 t102 true)) = some true := H
  have A2 := Aside0.mk A20
  clear A20
  have HC3 := Aside0.mk H
  clear H
  go_enter Try.func11, Try.ntmps11
  go_upto_region 9 with (first | ((with_reducible refine gate_dst (N := 1) rfl ?_); (try (refine gate_guard (by rfl) ?_; dsimp only)); refine box_event ?hg (N := 1) ?hd (cs := #[.slice A0_0 l0_0.length c0_0, .string a0_1, .string a0_2, .slice A0_3 l0_3.length c0_3, .slice A0_4 l0_4.length c0_4, .int .u8 a0_5, .int .u8 a0_6]) (t := 72) ?hr ?_; (case hd => rfl); (case hg => rfl); (case hr => first | (go_simp; done) | (go_simp; rfl)); intro gb101 hg w4 hbox hb; have n0_ := Aside0.mk (below_step (by repeat (first | (with_reducible first | exact HB.out | apply below_alloc | apply pw_below_drewN | apply below_drew1) | exact HB.out)) hb); have n1_ := Aside0.mk (hbox); have n2_ := Aside0.mk ((by rw [hg]; exact (below_size (by repeat (first | (with_reducible first | exact HB.out | apply below_alloc | apply pw_below_drewN | apply below_drew1) | exact HB.out))) : w.heap.size ≤ gb101)); have n3_ := Aside0.mk ((by rw [hg]; exact (below_size (by repeat (first | (with_reducible first | exact HB.out | apply below_alloc | apply pw_below_drewN | apply below_drew1) | exact HB.out))) : w.heap.size ≤ gb101)); clear HB; have HB := n0_; have BK101 := n1_; have GW101 := n2_; have GE101 := n3_; clear n0_ n1_ n2_ n3_; clear hb hbox hg; have hcz5_0 : w4.cell? ⟨gb101, 0, none⟩ = some (.slice A0_0 l0_0.length c0_0) := (blk_cell BK101.out 0).trans rfl; have hcz5_1 : w4.cell? ⟨gb101, 1, none⟩ = some (.string a0_1) := (blk_cell BK101.out 1).trans rfl; have hcz5_2 : w4.cell? ⟨gb101, 2, none⟩ = some (.string a0_2) := (blk_cell BK101.out 2).trans rfl; have hcz5_3 : w4.cell? ⟨gb101, 3, none⟩ = some (.slice A0_3 l0_3.length c0_3) := (blk_cell BK101.out 3).trans rfl; have hcz5_4 : w4.cell? ⟨gb101, 4, none⟩ = some (.slice A0_4 l0_4.length c0_4) := (blk_cell BK101.out 4).trans rfl; have hcz5_5 : w4.cell? ⟨gb101, 5, none⟩ = some (.int .u8 a0_5) := (blk_cell BK101.out 5).trans rfl; have hcz5_6 : w4.cell? ⟨gb101, 6, none⟩ = some (.int .u8 a0_6) := (blk_cell BK101.out 6).trans rfl; have hfz5_0 := blk_frozen BK101.out 0; have hfz5_1 := blk_frozen BK101.out 1; have hfz5_2 := blk_frozen BK101.out 2; have hfz5_3 := blk_frozen BK101.out 3; have hfz5_4 := blk_frozen BK101.out 4; have hfz5_5 := blk_frozen BK101.out 5; have hfz5_6 := blk_frozen BK101.out 6) | ((with_reducible refine gate_callee (f := 26) rfl ?_); refine goesL_ (some 33) rfl rfl Try.func26 (by kernel_rfl) rfl #[] rfl (by (try simp only [List.map_toArray, List.map_cons, List.map_nil]); first | done | rfl | (simp only [List.length_drop, List.length_take]; rfl)) ?_; (with_reducible refine (pyxlaw07_shown.calls  t102 _ A2.out).mono ?_); rintro e w6 ⟨rfl, hb⟩; refine ⟨_, rfl, ?_⟩; have n0_ := Aside0.mk (blk_below (g := gb101) (o := .cells #[.slice A0_0 l0_0.length c0_0, .string a0_1, .string a0_2, .slice A0_3 l0_3.length c0_3, .slice A0_4 l0_4.length c0_4, .int .u8 a0_5, .int .u8 a0_6] 72 (0, 0)) (by (with_reducible repeat (first | refine blk_drewN ?_ _ | refine blk_drew ?_ | refine blk_alloc ?_ _)); exact BK101.out) hb); have n1_ := Aside0.mk (below_step (by repeat (first | (with_reducible first | exact HB.out | apply below_alloc | apply pw_below_drewN | apply below_drew1 | refine below_set ?_ GE101.out) | exact HB.out)) hb); clear BK101; clear HB; have BK101 := n0_; have HB := n1_; clear n0_ n1_; (try clear hb); (try clear hb2); (try clear hk); (try clear hi)))
  (try simp only [Act.put, List.setIfInBounds_toArray, List.set_cons_zero, List.set_cons_succ])
  go_cut [56] (fun v56 wc => ∃ (kq : Nat) (x56_2 : Bool), v56 = .bool x56_2 ∧ Aside0 (pyxlaw07_SigSpoilt.j0 kq l0_0 a0_1 a0_2 l0_3 l0_4 a0_5 a0_6 t102 x56_2 = some true) ∧ Aside0 (kq ≤ k) ∧ Aside0 (wc.heap[gb101]? = some (.cells #[(.slice A0_0 l0_0.length c0_0), .string a0_1, .string a0_2, (.slice A0_3 l0_3.length c0_3), (.slice A0_4 l0_4.length c0_4), .int .u8 a0_5, .int .u8 a0_6] 72 (0, 0))) ∧ Aside0 (Below w.heap.size w wc))
  case first =>
    have H := HC3.out
    clear HC3
    by_cases c7 : (l0_0.length : Int) = 32
    · rw [if_pos c7] at H
      have c7b0 : ((l0_0.length : Int) == 32) = true := beq_iff_eq.mpr c7
      have c7b1 : ((l0_0.length : Int) != 32) = false := bne_eq_false_iff_eq.mpr c7
      clear c7
      (first | rw [c7b0] | (simp only [i64_w, i32_w]; rw [c7b0]) | skip)
      by_cases c8 : (a0_1.size : Int) > 50
      · rw [if_pos c8] at H
        have c8b0 : decide (50 < (a0_1.size : Int)) = true := decide_eq_true c8
        have c8b1 : decide (50 < a0_1.size) = true := decide_eq_true (by omega)
        clear c8
        have H' := Aside0.mk H
        clear H
        go_wp2
        go_meet
        case rel => exact ⟨_, (true), (by first | rfl | (simp; done) | (simp [*]; done)), H', ⟨by first | omega | exact Nat.le_refl _⟩, ⟨by (with_reducible repeat (first | refine blk_drewN ?_ _ | refine blk_drew ?_ | refine blk_alloc ?_ _)); exact BK101.out⟩, ⟨by repeat (first | (with_reducible first | exact HB.out | apply below_alloc | apply pw_below_drewN | apply below_drew1 | refine below_set ?_ GE101.out) | exact HB.out)⟩⟩
      · rw [if_neg c8] at H
        have c8b0 : decide (50 < (a0_1.size : Int)) = false := decide_eq_false c8
        have c8b1 : decide (50 < a0_1.size) = false := decide_eq_false (by omega)
        clear c8
        by_cases c9 : (a0_2.size : Int) > 50
        · rw [if_pos c9] at H
          have c9b0 : decide (50 < (a0_2.size : Int)) = true := decide_eq_true c9
          have c9b1 : decide (50 < a0_2.size) = true := decide_eq_true (by omega)
          clear c9
          have H' := Aside0.mk H
          clear H
          go_wp2
          go_meet
          case rel => exact ⟨_, (true), (by first | rfl | (simp; done) | (simp [*]; done)), H', ⟨by first | omega | exact Nat.le_refl _⟩, ⟨by (with_reducible repeat (first | refine blk_drewN ?_ _ | refine blk_drew ?_ | refine blk_alloc ?_ _)); exact BK101.out⟩, ⟨by repeat (first | (with_reducible first | exact HB.out | apply below_alloc | apply pw_below_drewN | apply below_drew1 | refine below_set ?_ GE101.out) | exact HB.out)⟩⟩
        · rw [if_neg c9] at H
          have c9b0 : decide (50 < (a0_2.size : Int)) = false := decide_eq_false c9
          have c9b1 : decide (50 < a0_2.size) = false := decide_eq_false (by omega)
          clear c9
          by_cases c10 : (l0_3.length : Int) > 100
          · rw [if_pos c10] at H
            have c10b0 : decide (100 < (l0_3.length : Int)) = true := decide_eq_true c10
            have c10b1 : decide (100 < l0_3.length) = true := decide_eq_true (by omega)
            clear c10
            have H' := Aside0.mk H
            clear H
            go_wp2
            go_meet
            case rel => exact ⟨_, (true), (by first | rfl | (simp; done) | (simp [*]; done)), H', ⟨by first | omega | exact Nat.le_refl _⟩, ⟨by (with_reducible repeat (first | refine blk_drewN ?_ _ | refine blk_drew ?_ | refine blk_alloc ?_ _)); exact BK101.out⟩, ⟨by repeat (first | (with_reducible first | exact HB.out | apply below_alloc | apply pw_below_drewN | apply below_drew1 | refine below_set ?_ GE101.out) | exact HB.out)⟩⟩
          · rw [if_neg c10] at H
            have c10b0 : decide (100 < (l0_3.length : Int)) = false := decide_eq_false c10
            have c10b1 : decide (100 < l0_3.length) = false := decide_eq_false (by omega)
            clear c10
            have H' := Aside0.mk H
            clear H
            go_wp2
            go_meet
            case rel => exact ⟨_, (decide ((l0_4.length : Int) > 100)), (by first | rfl | (simp; done) | (simp [*]; done)), H', ⟨by first | omega | exact Nat.le_refl _⟩, ⟨by (with_reducible repeat (first | refine blk_drewN ?_ _ | refine blk_drew ?_ | refine blk_alloc ?_ _)); exact BK101.out⟩, ⟨by repeat (first | (with_reducible first | exact HB.out | apply below_alloc | apply pw_below_drewN | apply below_drew1 | refine below_set ?_ GE101.out) | exact HB.out)⟩⟩
    · rw [if_neg c7] at H
      have c7b0 : ((l0_0.length : Int) == 32) = false := beq_eq_false_iff_ne.mpr c7
      have c7b1 : ((l0_0.length : Int) != 32) = true := bne_iff_ne.mpr c7
      (first | rw [c7b0] | (simp only [i64_w, i32_w]; rw [c7b0]) | skip)
      have H' := Aside0.mk H
      clear H
      go_wp2
      go_meet
      case rel => exact ⟨_, (true), (by first | rfl | (simp; done) | (simp [*]; done)), H', ⟨by first | omega | exact Nat.le_refl _⟩, ⟨by (with_reducible repeat (first | refine blk_drewN ?_ _ | refine blk_drew ?_ | refine blk_alloc ?_ _)); exact BK101.out⟩, ⟨by repeat (first | (with_reducible first | exact HB.out | apply below_alloc | apply pw_below_drewN | apply below_drew1 | refine below_set ?_ GE101.out) | exact HB.out)⟩⟩
  case rest =>
    clear HC3
    try clear c1
    try clear c2
    try clear p2
    try clear c7
    try clear c7b0
    try clear c7b1
    try clear c8
    try clear c8b0
    try clear c8b1
    try clear c9
    try clear c9b0
    try clear c9b1
    try clear c10
    try clear c10b0
    try clear c10b1
    try clear hcz5_0
    try clear hcz5_1
    try clear hcz5_2
    try clear hcz5_3
    try clear hcz5_4
    try clear hcz5_5
    try clear hcz5_6
    try clear hfz5_0
    try clear hfz5_1
    try clear hfz5_2
    try clear hfz5_3
    try clear hfz5_4
    try clear hfz5_5
    try clear hfz5_6
    obtain ⟨kq, x56_2, rfl, HA, HJ2, BK101, HB⟩ := hcut
    cases kq with
    | zero => exact absurd HA.out (by simp [pyxlaw07_SigSpoilt.j0])
    | succ kj2 =>
      have H := HA.out
      clear HA
      simp only [pyxlaw07_SigSpoilt.j0] at H
      by_cases c11 : x56_2 = true
      · subst c11
        have H1 : (some t102) = some true := by rw [if_pos rfl] at H; exact H
        clear H
        have H := H1
        clear H1
        have HT_ := Option.some.inj H
        go_wp2
        go_ret
        exact ⟨by first | rfl | (simp [errW_none, errW_some] <;> rfl) | (simp [*, errW_none, errW_some] <;> rfl), by repeat (first | (with_reducible first | exact HB.out | apply below_alloc | apply pw_below_drewN | apply below_drew1 | refine below_set ?_ GE101.out) | exact HB.out)⟩
      · replace c11 := Bool.eq_false_iff.mpr c11
        subst c11
        have H1 : ((sig_Public.f l0_0).bind fun bt103 => ((sig_Sign.f l0_0 a0_1 l0_3).bind fun bt107 => (if bt103.2 = 0 then (if bt107.2 = 0 then (pyxlaw07_SigSpoilt.j1 kj2 a0_1 a0_2 l0_3 l0_4 a0_5 a0_6 t102 bt103.1 bt107.1 ((bt107.1.length : Int) != 32)) else (pyxlaw07_SigSpoilt.j1 kj2 a0_1 a0_2 l0_3 l0_4 a0_5 a0_6 t102 bt103.1 bt107.1 true)) else (pyxlaw07_SigSpoilt.j1 kj2 a0_1 a0_2 l0_3 l0_4 a0_5 a0_6 t102 bt103.1 bt107.1 true)))) = some true := by rw [if_neg (show ¬ (false = true) by decide)] at H; exact H
        clear H
        have H := H1
        clear H1
        replace H := Option.bind_eq_some_iff.mp H
        obtain ⟨⟨t103, t104⟩, A120, H⟩ := H
        replace H : ((sig_Sign.f l0_0 a0_1 l0_3).bind fun bt107 => (if t104 = 0 then (if bt107.2 = 0 then (pyxlaw07_SigSpoilt.j1 kj2 a0_1 a0_2 l0_3 l0_4 a0_5 a0_6 t102 t103 bt107.1 ((bt107.1.length : Int) != 32)) else (pyxlaw07_SigSpoilt.j1 kj2 a0_1 a0_2 l0_3 l0_4 a0_5 a0_6 t102 t103 bt107.1 true)) else (pyxlaw07_SigSpoilt.j1 kj2 a0_1 a0_2 l0_3 l0_4 a0_5 a0_6 t102 t103 bt107.1 true))) = some true := H
        have A12 := Aside0.mk A120
        clear A120
        replace H := Option.bind_eq_some_iff.mp H
        obtain ⟨⟨t107, t108⟩, A130, H⟩ := H
        replace H : (if t104 = 0 then (if t108 = 0 then (pyxlaw07_SigSpoilt.j1 kj2 a0_1 a0_2 l0_3 l0_4 a0_5 a0_6 t102 t103 t107 ((t107.length : Int) != 32)) else (pyxlaw07_SigSpoilt.j1 kj2 a0_1 a0_2 l0_3 l0_4 a0_5 a0_6 t102 t103 t107 true)) else (pyxlaw07_SigSpoilt.j1 kj2 a0_1 a0_2 l0_3 l0_4 a0_5 a0_6 t102 t103 t107 true)) = some true := H
        have A13 := Aside0.mk A130
        clear A130
        have HC14 := Aside0.mk H
        clear H
        go_upto_region 13 with (first | ((with_reducible refine gate_callee (f := 27) rfl ?_); refine goesL_ (some 60) rfl rfl Try.func27 (by kernel_rfl) rfl #[.slice A0_0 l0_0.length c0_0] rfl (by (try simp only [List.map_toArray, List.map_cons, List.map_nil]); first | done | rfl | (simp only [List.length_drop, List.length_take]; rfl)) ?_; (with_reducible refine (sig_Public.calls _ _ l0_0 t103 t104 _ ?side1 ?side2 A12.out).mono ?_); (case side1 => repeat (first | exact (Kd.C_below HR0_0.out HB.out) | (with_reducible refine Kd.C_alloc ?_ _) | (with_reducible refine Kd.C_drewN ?_ _) | (with_reducible refine Kd.C_drew ?_))); (case side2 => exact HC0_0.out); rintro e w15 ⟨v105, rfl, ho0, hb⟩; refine ⟨_, rfl, ?_⟩; have n0_ := Aside0.mk (Kd.R_lower ho0 (below_size (by repeat (first | (with_reducible first | exact HB.out | apply below_alloc | apply pw_below_drewN | apply below_drew1 | refine below_set ?_ GE101.out) | exact HB.out)))); have n1_ := Aside0.mk (blk_below (g := gb101) (o := .cells #[.slice A0_0 l0_0.length c0_0, .string a0_1, .string a0_2, .slice A0_3 l0_3.length c0_3, .slice A0_4 l0_4.length c0_4, .int .u8 a0_5, .int .u8 a0_6] 72 (0, 0)) (by (with_reducible repeat (first | refine blk_drewN ?_ _ | refine blk_drew ?_ | refine blk_alloc ?_ _)); exact BK101.out) hb); have n2_ := Aside0.mk (below_step (by repeat (first | (with_reducible first | exact HB.out | apply below_alloc | apply pw_below_drewN | apply below_drew1 | refine below_set ?_ GE101.out) | exact HB.out)) hb); clear BK101; clear HB; have HO106 := n0_; have BK101 := n1_; have HB := n2_; clear n0_ n1_ n2_; (try clear hb); (try clear hb2); (try clear hk); (try clear hi); (try clear ho0)) | ((with_reducible refine gate_callee (f := 29) rfl ?_); refine goesL_ (some 67) rfl rfl Try.func29 (by kernel_rfl) rfl #[.slice A0_0 l0_0.length c0_0, .string a0_1, .slice A0_3 l0_3.length c0_3] rfl (by (try simp only [List.map_toArray, List.map_cons, List.map_nil]); first | done | rfl | (simp only [List.length_drop, List.length_take]; rfl)) ?_; (with_reducible refine (sig_Sign.calls _ _ l0_0 a0_1 _ _ l0_3 t107 t108 _ ?side1 ?side2 ?side3 ?side4 A13.out).mono ?_); (case side1 => repeat (first | exact (Kd.C_below HR0_0.out HB.out) | (with_reducible refine Kd.C_alloc ?_ _) | (with_reducible refine Kd.C_drewN ?_ _) | (with_reducible refine Kd.C_drew ?_))); (case side2 => exact HC0_0.out); (case side3 => repeat (first | exact (Kd.C_below HR0_3.out HB.out) | (with_reducible refine Kd.C_alloc ?_ _) | (with_reducible refine Kd.C_drewN ?_ _) | (with_reducible refine Kd.C_drew ?_))); (case side4 => exact HC0_3.out); rintro e w16 ⟨v109, rfl, ho0, hb⟩; refine ⟨_, rfl, ?_⟩; have n0_ := Aside0.mk (Kd.R_elder' (by (with_reducible repeat (first | apply Kd.R_alloc | apply Kd.R_drewN | apply Kd.R_drew)); exact HO106.out) (Kd.R_base ho0) hb); have n1_ := Aside0.mk (Kd.R_lower (Kd.R_new' ho0 (Kd.R_lt (by (with_reducible repeat (first | apply Kd.R_alloc | apply Kd.R_drewN | apply Kd.R_drew)); exact HO106.out))) (below_size (by repeat (first | (with_reducible first | exact HB.out | apply below_alloc | apply pw_below_drewN | apply below_drew1 | refine below_set ?_ GE101.out) | exact HB.out)))); have n2_ := Aside0.mk (blk_below (g := gb101) (o := .cells #[.slice A0_0 l0_0.length c0_0, .string a0_1, .string a0_2, .slice A0_3 l0_3.length c0_3, .slice A0_4 l0_4.length c0_4, .int .u8 a0_5, .int .u8 a0_6] 72 (0, 0)) (by (with_reducible repeat (first | refine blk_drewN ?_ _ | refine blk_drew ?_ | refine blk_alloc ?_ _)); exact BK101.out) hb); have n3_ := Aside0.mk (below_step (by repeat (first | (with_reducible first | exact HB.out | apply below_alloc | apply pw_below_drewN | apply below_drew1 | refine below_set ?_ GE101.out) | exact HB.out)) hb); clear HO106; clear BK101; clear HB; have HO106 := n0_; have HO110 := n1_; have BK101 := n2_; have HB := n3_; clear n0_ n1_ n2_ n3_; (try clear hb); (try clear hb2); (try clear hk); (try clear hi); (try clear ho0)))
        (try simp only [Act.put, List.setIfInBounds_toArray, List.set_cons_zero, List.set_cons_succ])
        go_cut [80] (fun v80 wc => ∃ (kq : Nat) (x80_13 : Bool), v80 = .bool x80_13 ∧ Aside0 (pyxlaw07_SigSpoilt.j1 kq a0_1 a0_2 l0_3 l0_4 a0_5 a0_6 t102 t103 t107 x80_13 = some true) ∧ Aside0 (kq ≤ kj2) ∧ Aside0 (Kd.R (Kd.int .u8) 5 wc w.heap.size (fun k_ => some k_ ≠ (v109 : Value).ownBlock) v105 t103) ∧ Aside0 (Kd.R (Kd.int .u8) 5 wc w.heap.size (fun k_ => some k_ ≠ (v105 : Value).ownBlock) v109 t107) ∧ Aside0 (wc.heap[gb101]? = some (.cells #[(.slice A0_0 l0_0.length c0_0), .string a0_1, .string a0_2, (.slice A0_3 l0_3.length c0_3), (.slice A0_4 l0_4.length c0_4), .int .u8 a0_5, .int .u8 a0_6] 72 (0, 0))) ∧ Aside0 (Below w.heap.size w wc))
        case first =>
          have H := HC14.out
          clear HC14
          by_cases c17 : t104 = 0
          · rw [if_pos c17] at H
            have c17b0 : (t104 == 0) = true := beq_iff_eq.mpr c17
            have c17b1 : (t104 != 0) = false := bne_eq_false_iff_eq.mpr c17
            clear c17
            (first | rw [c17b0] | (simp only [i64_w, i32_w]; rw [c17b0]) | skip)
            by_cases c18 : t108 = 0
            · rw [if_pos c18] at H
              have c18b0 : (t108 == 0) = true := beq_iff_eq.mpr c18
              have c18b1 : (t108 != 0) = false := bne_eq_false_iff_eq.mpr c18
              clear c18
              have H' := Aside0.mk H
              clear H
              obtain ⟨Ao19, co19, eo19⟩ := Kd.R_slice HO110.out
              subst eo19
              go_wp2
              go_meet
              case rel => exact ⟨_, (((t107.length : Int) != 32)), (by first | rfl | (simp; done) | (simp [*]; done)), H', ⟨by have := HJ2.out; first | omega | exact Nat.le_refl _⟩, ⟨by (with_reducible repeat (first | apply Kd.R_alloc | apply Kd.R_drewN | apply Kd.R_drew)); exact Kd.R_mono HO106.out (fun _ hk => hk.2)⟩, ⟨by (with_reducible repeat (first | apply Kd.R_alloc | apply Kd.R_drewN | apply Kd.R_drew)); exact Kd.R_mono HO110.out (fun _ hk => hk.2)⟩, ⟨by (with_reducible repeat (first | refine blk_drewN ?_ _ | refine blk_drew ?_ | refine blk_alloc ?_ _)); exact BK101.out⟩, ⟨by repeat (first | (with_reducible first | exact HB.out | apply below_alloc | apply pw_below_drewN | apply below_drew1 | refine below_set ?_ GE101.out) | exact HB.out)⟩⟩
            · rw [if_neg c18] at H
              have c18b0 : (t108 == 0) = false := beq_eq_false_iff_ne.mpr c18
              have c18b1 : (t108 != 0) = true := bne_iff_ne.mpr c18
              have H' := Aside0.mk H
              clear H
              go_wp2
              go_meet
              case rel => exact ⟨_, (true), (by first | rfl | (simp; done) | (simp [*]; done)), H', ⟨by have := HJ2.out; first | omega | exact Nat.le_refl _⟩, ⟨by (with_reducible repeat (first | apply Kd.R_alloc | apply Kd.R_drewN | apply Kd.R_drew)); exact Kd.R_mono HO106.out (fun _ hk => hk.2)⟩, ⟨by (with_reducible repeat (first | apply Kd.R_alloc | apply Kd.R_drewN | apply Kd.R_drew)); exact Kd.R_mono HO110.out (fun _ hk => hk.2)⟩, ⟨by (with_reducible repeat (first | refine blk_drewN ?_ _ | refine blk_drew ?_ | refine blk_alloc ?_ _)); exact BK101.out⟩, ⟨by repeat (first | (with_reducible first | exact HB.out | apply below_alloc | apply pw_below_drewN | apply below_drew1 | refine below_set ?_ GE101.out) | exact HB.out)⟩⟩
          · rw [if_neg c17] at H
            have c17b0 : (t104 == 0) = false := beq_eq_false_iff_ne.mpr c17
            have c17b1 : (t104 != 0) = true := bne_iff_ne.mpr c17
            (first | rw [c17b0] | (simp only [i64_w, i32_w]; rw [c17b0]) | skip)
            have H' := Aside0.mk H
            clear H
            go_wp2
            go_meet
            case rel => exact ⟨_, (true), (by first | rfl | (simp; done) | (simp [*]; done)), H', ⟨by have := HJ2.out; first | omega | exact Nat.le_refl _⟩, ⟨by (with_reducible repeat (first | apply Kd.R_alloc | apply Kd.R_drewN | apply Kd.R_drew)); exact Kd.R_mono HO106.out (fun _ hk => hk.2)⟩, ⟨by (with_reducible repeat (first | apply Kd.R_alloc | apply Kd.R_drewN | apply Kd.R_drew)); exact Kd.R_mono HO110.out (fun _ hk => hk.2)⟩, ⟨by (with_reducible repeat (first | refine blk_drewN ?_ _ | refine blk_drew ?_ | refine blk_alloc ?_ _)); exact BK101.out⟩, ⟨by repeat (first | (with_reducible first | exact HB.out | apply below_alloc | apply pw_below_drewN | apply below_drew1 | refine below_set ?_ GE101.out) | exact HB.out)⟩⟩
        case rest =>
          clear HC14
          try clear c1
          try clear c2
          try clear p2
          try clear c7
          try clear c7b0
          try clear c7b1
          try clear c8
          try clear c8b0
          try clear c8b1
          try clear c9
          try clear c9b0
          try clear c9b1
          try clear c10
          try clear c10b0
          try clear c10b1
          try clear c11
          try clear c17
          try clear c17b0
          try clear c17b1
          try clear c18
          try clear c18b0
          try clear c18b1
          try clear hcz5_0
          try clear hcz5_1
          try clear hcz5_2
          try clear hcz5_3
          try clear hcz5_4
          try clear hcz5_5
          try clear hcz5_6
          try clear hfz5_0
          try clear hfz5_1
          try clear hfz5_2
          try clear hfz5_3
          try clear hfz5_4
          try clear hfz5_5
          try clear hfz5_6
          try clear p2
          obtain ⟨kq, x80_13, rfl, HA, HJ13, HO_11, HO_13, BK101, HB⟩ := hcut
          cases kq with
          | zero => exact absurd HA.out (by simp [pyxlaw07_SigSpoilt.j1])
          | succ kj13 =>
            have H := HA.out
            clear HA
            simp only [pyxlaw07_SigSpoilt.j1] at H
            by_cases c20 : x80_13 = true
            · subst c20
              have H1 : (some false) = some true := by rw [if_pos rfl] at H; exact H
              clear H
              have H := H1
              clear H1
              exact absurd (Option.some.inj H) (by decide)
            · replace c20 := Bool.eq_false_iff.mpr c20
              subst c20
              have H1 : ((sig_Verify.f t103 a0_2 l0_4 t107).bind fun t111 => (if a0_1.toList = a0_2.toList then ((pyxref01_Same.f l0_3 l0_4).bind fun t112 => (pyxlaw07_SigSpoilt.j2 kj13 a0_1 a0_2 l0_3 l0_4 a0_5 a0_6 t102 t103 t107 (t111 == 0) t112)) else (pyxlaw07_SigSpoilt.j2 kj13 a0_1 a0_2 l0_3 l0_4 a0_5 a0_6 t102 t103 t107 (t111 == 0) false))) = some true := by rw [if_neg (show ¬ (false = true) by decide)] at H; exact H
              clear H
              have H := H1
              clear H1
              replace H := Option.bind_eq_some_iff.mp H
              obtain ⟨t111, A210, H⟩ := H
              replace H : (if a0_1.toList = a0_2.toList then ((pyxref01_Same.f l0_3 l0_4).bind fun t112 => (pyxlaw07_SigSpoilt.j2 kj13 a0_1 a0_2 l0_3 l0_4 a0_5 a0_6 t102 t103 t107 (t111 == 0) t112)) else (pyxlaw07_SigSpoilt.j2 kj13 a0_1 a0_2 l0_3 l0_4 a0_5 a0_6 t102 t103 t107 (t111 == 0) false)) = some true := H
              have A21 := Aside0.mk A210
              clear A210
              have HC22 := Aside0.mk H
              clear H
              obtain ⟨Ao23, co23, eo23⟩ := Kd.R_slice HO_11.out
              subst eo23
              obtain ⟨Ao24, co24, eo24⟩ := Kd.R_slice HO_13.out
              subst eo24
              go_upto_region 16 with (first | ((with_reducible refine gate_callee (f := 31) rfl ?_); refine goesL_ (some 85) rfl rfl Try.func31 (by kernel_rfl) rfl #[.slice Ao23 t103.length co23, .string a0_2, .slice A0_4 l0_4.length c0_4, .slice Ao24 t107.length co24] rfl (by (try simp only [List.map_toArray, List.map_cons, List.map_nil]); first | done | rfl | (simp only [List.length_drop, List.length_take]; rfl)) ?_; (with_reducible refine (sig_Verify.calls _ _ t103 a0_2 _ _ l0_4 _ _ t107 t111 _ ?side1 ?side2 ?side3 ?side4 ?side5 ?side6 A21.out).mono ?_); (case side1 => repeat (first | exact (Kd.R_reads' HO_11.out).2.2 | (with_reducible refine Kd.C_alloc ?_ _) | (with_reducible refine Kd.C_drewN ?_ _) | (with_reducible refine Kd.C_drew ?_))); (case side2 => exact (Kd.R_reads' HO_11.out).2.1); (case side3 => repeat (first | exact (Kd.C_below HR0_4.out HB.out) | (with_reducible refine Kd.C_alloc ?_ _) | (with_reducible refine Kd.C_drewN ?_ _) | (with_reducible refine Kd.C_drew ?_))); (case side4 => exact HC0_4.out); (case side5 => repeat (first | exact (Kd.R_reads' HO_13.out).2.2 | (with_reducible refine Kd.C_alloc ?_ _) | (with_reducible refine Kd.C_drewN ?_ _) | (with_reducible refine Kd.C_drew ?_))); (case side6 => exact (Kd.R_reads' HO_13.out).2.1); rintro e w25 ⟨rfl, hb⟩; refine ⟨_, rfl, ?_⟩; have n0_ := Aside0.mk (Kd.R_below (by (with_reducible repeat (first | apply Kd.R_alloc | apply Kd.R_drewN | apply Kd.R_drew)); exact HO_11.out) hb); have n1_ := Aside0.mk (Kd.R_below (by (with_reducible repeat (first | apply Kd.R_alloc | apply Kd.R_drewN | apply Kd.R_drew)); exact HO_13.out) hb); have n2_ := Aside0.mk (blk_below (g := gb101) (o := .cells #[.slice A0_0 l0_0.length c0_0, .string a0_1, .string a0_2, .slice A0_3 l0_3.length c0_3, .slice A0_4 l0_4.length c0_4, .int .u8 a0_5, .int .u8 a0_6] 72 (0, 0)) (by (with_reducible repeat (first | refine blk_drewN ?_ _ | refine blk_drew ?_ | refine blk_alloc ?_ _)); exact BK101.out) hb); have n3_ := Aside0.mk (below_step (by repeat (first | (with_reducible first | exact HB.out | apply below_alloc | apply pw_below_drewN | apply below_drew1 | refine below_set ?_ GE101.out) | exact HB.out)) hb); clear HO_11; clear HO_13; clear BK101; clear HB; have HO_11 := n0_; have HO_13 := n1_; have BK101 := n2_; have HB := n3_; clear n0_ n1_ n2_ n3_; (try clear hb); (try clear hb2); (try clear hk); (try clear hi)))
              (try simp only [Act.put, List.setIfInBounds_toArray, List.set_cons_zero, List.set_cons_succ])
              go_cut [16] (fun v16 wc => ∃ (kq : Nat) (x16_21 : Bool), v16 = .bool x16_21 ∧ Aside0 (pyxlaw07_SigSpoilt.j2 kq a0_1 a0_2 l0_3 l0_4 a0_5 a0_6 t102 t103 t107 (t111 == 0) x16_21 = some true) ∧ Aside0 (kq ≤ kj13) ∧ Aside0 (Kd.R (Kd.int .u8) 5 wc w.heap.size (fun k_ => some k_ ≠ ((.slice Ao24 t107.length co24) : Value).ownBlock) (.slice Ao23 t103.length co23) t103) ∧ Aside0 (Kd.R (Kd.int .u8) 5 wc w.heap.size (fun k_ => some k_ ≠ ((.slice Ao23 t103.length co23) : Value).ownBlock) (.slice Ao24 t107.length co24) t107) ∧ Aside0 (wc.heap[gb101]? = some (.cells #[(.slice A0_0 l0_0.length c0_0), .string a0_1, .string a0_2, (.slice A0_3 l0_3.length c0_3), (.slice A0_4 l0_4.length c0_4), .int .u8 a0_5, .int .u8 a0_6] 72 (0, 0))) ∧ Aside0 (Below w.heap.size w wc))
              case first =>
                have H := HC22.out
                clear HC22
                by_cases c26 : a0_1.toList = a0_2.toList
                · rw [if_pos c26] at H
                  have c26b0 : (a0_1.toList == a0_2.toList) = true := beq_iff_eq.mpr c26
                  have c26b1 : (a0_1.toList != a0_2.toList) = false := bne_eq_false_iff_eq.mpr c26
                  clear c26
                  (first | rw [c26b0] | (simp only [i64_w, i32_w]; rw [c26b0]) | skip)
                  replace H := Option.bind_eq_some_iff.mp H
                  obtain ⟨t112, A270, H⟩ := H
                  replace H : (pyxlaw07_SigSpoilt.j2 kj13 a0_1 a0_2 l0_3 l0_4 a0_5 a0_6 t102 t103 t107 (t111 == 0) t112) = some true := H
                  have A27 := Aside0.mk A270
                  clear A270
                  have H' := Aside0.mk H
                  clear H
                  go_wp2_with (first | (go_at_call 18; (with_reducible refine (pyxref01_Same.calls _ _ l0_3 _ _ l0_4 t112 _ ?side1 ?side2 ?side3 ?side4 A27.out).mono ?_); (case side1 => repeat (first | exact (Kd.C_below HR0_3.out HB.out) | (with_reducible refine Kd.C_alloc ?_ _) | (with_reducible refine Kd.C_drewN ?_ _) | (with_reducible refine Kd.C_drew ?_))); (case side2 => exact HC0_3.out); (case side3 => repeat (first | exact (Kd.C_below HR0_4.out HB.out) | (with_reducible refine Kd.C_alloc ?_ _) | (with_reducible refine Kd.C_drewN ?_ _) | (with_reducible refine Kd.C_drew ?_))); (case side4 => exact HC0_4.out); rintro e w' ⟨rfl, ⟨nd, rfl⟩⟩))
                  go_meet
                  case rel => exact ⟨_, (t112), (by first | rfl | (simp; done) | (simp [*]; done)), H', ⟨by have := HJ2.out; have := HJ13.out; first | omega | exact Nat.le_refl _⟩, ⟨by (with_reducible repeat (first | apply Kd.R_alloc | apply Kd.R_drewN | apply Kd.R_drew)); exact HO_11.out⟩, ⟨by (with_reducible repeat (first | apply Kd.R_alloc | apply Kd.R_drewN | apply Kd.R_drew)); exact HO_13.out⟩, ⟨by (with_reducible repeat (first | refine blk_drewN ?_ _ | refine blk_drew ?_ | refine blk_alloc ?_ _)); exact BK101.out⟩, ⟨by repeat (first | (with_reducible first | exact HB.out | apply below_alloc | apply pw_below_drewN | apply below_drew1 | refine below_set ?_ GE101.out) | exact HB.out)⟩⟩
                · rw [if_neg c26] at H
                  have c26b0 : (a0_1.toList == a0_2.toList) = false := beq_eq_false_iff_ne.mpr c26
                  have c26b1 : (a0_1.toList != a0_2.toList) = true := bne_iff_ne.mpr c26
                  (first | rw [c26b0] | (simp only [i64_w, i32_w]; rw [c26b0]) | skip)
                  have H' := Aside0.mk H
                  clear H
                  go_wp2
                  go_meet
                  case rel => exact ⟨_, (false), (by first | rfl | (simp; done) | (simp [*]; done)), H', ⟨by have := HJ2.out; have := HJ13.out; first | omega | exact Nat.le_refl _⟩, ⟨by (with_reducible repeat (first | apply Kd.R_alloc | apply Kd.R_drewN | apply Kd.R_drew)); exact HO_11.out⟩, ⟨by (with_reducible repeat (first | apply Kd.R_alloc | apply Kd.R_drewN | apply Kd.R_drew)); exact HO_13.out⟩, ⟨by (with_reducible repeat (first | refine blk_drewN ?_ _ | refine blk_drew ?_ | refine blk_alloc ?_ _)); exact BK101.out⟩, ⟨by repeat (first | (with_reducible first | exact HB.out | apply below_alloc | apply pw_below_drewN | apply below_drew1 | refine below_set ?_ GE101.out) | exact HB.out)⟩⟩
              case rest =>
                clear HC22
                try clear c1
                try clear c2
                try clear p2
                try clear c3
                try clear c7
                try clear c7b0
                try clear c7b1
                try clear c8
                try clear c8b0
                try clear c8b1
                try clear c9
                try clear c9b0
                try clear c9b1
                try clear c10
                try clear c10b0
                try clear c10b1
                try clear c11
                try clear c17
                try clear c17b0
                try clear c17b1
                try clear c18
                try clear c18b0
                try clear c18b1
                try clear c20
                try clear c26
                try clear c26b0
                try clear c26b1
                try clear c27
                try clear hcz5_0
                try clear hcz5_1
                try clear hcz5_2
                try clear hcz5_3
                try clear hcz5_4
                try clear hcz5_5
                try clear hcz5_6
                try clear hfz5_0
                try clear hfz5_1
                try clear hfz5_2
                try clear hfz5_3
                try clear hfz5_4
                try clear hfz5_5
                try clear hfz5_6
                try clear p2
                obtain ⟨kq, x16_21, rfl, HA, HJ21, HO_11, HO_13, BK101, HB⟩ := hcut
                cases kq with
                | zero => exact absurd HA.out (by simp [pyxlaw07_SigSpoilt.j2])
                | succ kj21 =>
                  have H := HA.out
                  clear HA
                  simp only [pyxlaw07_SigSpoilt.j2] at H
                  have HC28 := Aside0.mk H
                  clear H
                  go_upto_region 17 with (fail)
                  go_cut [114] (fun v114 wc => ∃ (kq : Nat) (x114_27 : Bool), v114 = .bool x114_27 ∧ Aside0 (pyxlaw07_SigSpoilt.j3 kq a0_1 l0_3 a0_5 a0_6 t102 t103 t107 x114_27 = some true) ∧ Aside0 (kq ≤ kj21) ∧ Aside0 (Kd.R (Kd.int .u8) 5 wc w.heap.size (fun k_ => some k_ ≠ ((.slice Ao24 t107.length co24) : Value).ownBlock) (.slice Ao23 t103.length co23) t103) ∧ Aside0 (Kd.R (Kd.int .u8) 5 wc w.heap.size (fun k_ => some k_ ≠ ((.slice Ao23 t103.length co23) : Value).ownBlock) (.slice Ao24 t107.length co24) t107) ∧ Aside0 (wc.heap[gb101]? = some (.cells #[(.slice A0_0 l0_0.length c0_0), .string a0_1, .string a0_2, (.slice A0_3 l0_3.length c0_3), (.slice A0_4 l0_4.length c0_4), .int .u8 a0_5, .int .u8 a0_6] 72 (0, 0))) ∧ Aside0 (Below w.heap.size w wc))
                  case first =>
                    have H := HC28.out
                    clear HC28
                    by_cases c29 : (x16_21 != (t111 == 0)) = true
                    · rw [if_pos c29] at H
                      have c29b0 : (x16_21 != (t111 == 0)) = true := c29
                      (try (have c29b1 : decide (x16_21 = (t111 == 0)) = false := by simpa using c29))
                      (try (have c29b2 : (x16_21 == (t111 == 0)) = false := by simpa using c29))
                      (try (have c29b3 : ¬ (x16_21 = (t111 == 0)) := by simpa using c29))
                      clear c29
                      (first | rw [c29b0] | (simp only [i64_w, i32_w]; rw [c29b0]) | skip)
                      by_cases c30 : x16_21 = true
                      · subst c30
                        have H1 : (pyxlaw07_SigSpoilt.j3 kj21 a0_1 l0_3 a0_5 a0_6 t102 t103 t107 true) = some true := by rw [if_pos rfl] at H; exact H
                        clear H
                        have H := H1
                        clear H1
                        have H' := Aside0.mk H
                        clear H
                        go_wp2
                        go_meet
                        case rel => exact ⟨_, (true), (by first | rfl | (simp; done) | (simp [*]; done)), H', ⟨by have := HJ2.out; have := HJ13.out; have := HJ21.out; first | omega | exact Nat.le_refl _⟩, ⟨by (with_reducible repeat (first | apply Kd.R_alloc | apply Kd.R_drewN | apply Kd.R_drew)); exact HO_11.out⟩, ⟨by (with_reducible repeat (first | apply Kd.R_alloc | apply Kd.R_drewN | apply Kd.R_drew)); exact HO_13.out⟩, ⟨by (with_reducible repeat (first | refine blk_drewN ?_ _ | refine blk_drew ?_ | refine blk_alloc ?_ _)); exact BK101.out⟩, ⟨by repeat (first | (with_reducible first | exact HB.out | apply below_alloc | apply pw_below_drewN | apply below_drew1 | refine below_set ?_ GE101.out) | exact HB.out)⟩⟩
                      · replace c30 := Bool.eq_false_iff.mpr c30
                        subst c30
                        have H1 : ((pyxlaw07_told.f a0_1 l0_3).bind fun t113 => ((pyxref03_Sum.f t103 t113).bind fun t116 => ((pyxlaw07_told.f a0_2 l0_4).bind fun t119 => ((pyxref03_Sum.f t103 t119).bind fun t122 => ((pyxref01_Same.f t116 t122).bind fun t125 => (pyxlaw07_SigSpoilt.j3 kj21 a0_1 l0_3 a0_5 a0_6 t102 t103 t107 (!t125))))))) = some true := by rw [if_neg (show ¬ (false = true) by decide)] at H; exact H
                        clear H
                        have H := H1
                        clear H1
                        replace H := Option.bind_eq_some_iff.mp H
                        obtain ⟨t113, A310, H⟩ := H
                        replace H : ((pyxref03_Sum.f t103 t113).bind fun t116 => ((pyxlaw07_told.f a0_2 l0_4).bind fun t119 => ((pyxref03_Sum.f t103 t119).bind fun t122 => ((pyxref01_Same.f t116 t122).bind fun t125 => (pyxlaw07_SigSpoilt.j3 kj21 a0_1 l0_3 a0_5 a0_6 t102 t103 t107 (!t125)))))) = some true := H
                        have A31 := Aside0.mk A310
                        clear A310
                        replace H := Option.bind_eq_some_iff.mp H
                        obtain ⟨t116, A320, H⟩ := H
                        replace H : ((pyxlaw07_told.f a0_2 l0_4).bind fun t119 => ((pyxref03_Sum.f t103 t119).bind fun t122 => ((pyxref01_Same.f t116 t122).bind fun t125 => (pyxlaw07_SigSpoilt.j3 kj21 a0_1 l0_3 a0_5 a0_6 t102 t103 t107 (!t125))))) = some true := H
                        have A32 := Aside0.mk A320
                        clear A320
                        replace H := Option.bind_eq_some_iff.mp H
                        obtain ⟨t119, A330, H⟩ := H
                        replace H : ((pyxref03_Sum.f t103 t119).bind fun t122 => ((pyxref01_Same.f t116 t122).bind fun t125 => (pyxlaw07_SigSpoilt.j3 kj21 a0_1 l0_3 a0_5 a0_6 t102 t103 t107 (!t125)))) = some true := H
                        have A33 := Aside0.mk A330
                        clear A330
                        replace H := Option.bind_eq_some_iff.mp H
                        obtain ⟨t122, A340, H⟩ := H
                        replace H : ((pyxref01_Same.f t116 t122).bind fun t125 => (pyxlaw07_SigSpoilt.j3 kj21 a0_1 l0_3 a0_5 a0_6 t102 t103 t107 (!t125))) = some true := H
                        have A34 := Aside0.mk A340
                        clear A340
                        replace H := Option.bind_eq_some_iff.mp H
                        obtain ⟨t125, A350, H⟩ := H
                        replace H : (pyxlaw07_SigSpoilt.j3 kj21 a0_1 l0_3 a0_5 a0_6 t102 t103 t107 (!t125)) = some true := H
                        have A35 := Aside0.mk A350
                        clear A350
                        have H' := Aside0.mk H
                        clear H
                        go_wp2_with (first | (go_at_call 37; (with_reducible refine (pyxlaw07_told.calls a0_1 _ _ l0_3 t113 _ ?side1 ?side2 A31.out).mono ?_); (case side1 => repeat (first | exact (Kd.C_below HR0_3.out HB.out) | (with_reducible refine Kd.C_alloc ?_ _) | (with_reducible refine Kd.C_drewN ?_ _) | (with_reducible refine Kd.C_drew ?_))); (case side2 => exact HC0_3.out); rintro e w36 ⟨v114, rfl, ho0, hb⟩; have n0_ := Aside0.mk (Kd.R_elder' (by (with_reducible repeat (first | apply Kd.R_alloc | apply Kd.R_drewN | apply Kd.R_drew)); exact HO_11.out) (Kd.R_base ho0) hb); have n1_ := Aside0.mk (Kd.R_elder' (by (with_reducible repeat (first | apply Kd.R_alloc | apply Kd.R_drewN | apply Kd.R_drew)); exact HO_13.out) (Kd.R_base ho0) hb); have n2_ := Aside0.mk (Kd.R_lower (Kd.R_new' (Kd.R_new' ho0 (Kd.R_lt (by (with_reducible repeat (first | apply Kd.R_alloc | apply Kd.R_drewN | apply Kd.R_drew)); exact HO_11.out))) (Kd.R_lt (by (with_reducible repeat (first | apply Kd.R_alloc | apply Kd.R_drewN | apply Kd.R_drew)); exact HO_13.out))) (below_size (by repeat (first | (with_reducible first | exact HB.out | apply below_alloc | apply pw_below_drewN | apply below_drew1 | refine below_set ?_ GE101.out) | exact HB.out)))); have n3_ := Aside0.mk (blk_below (g := gb101) (o := .cells #[.slice A0_0 l0_0.length c0_0, .string a0_1, .string a0_2, .slice A0_3 l0_3.length c0_3, .slice A0_4 l0_4.length c0_4, .int .u8 a0_5, .int .u8 a0_6] 72 (0, 0)) (by (with_reducible repeat (first | refine blk_drewN ?_ _ | refine blk_drew ?_ | refine blk_alloc ?_ _)); exact BK101.out) hb); have n4_ := Aside0.mk (below_step (by repeat (first | (with_reducible first | exact HB.out | apply below_alloc | apply pw_below_drewN | apply below_drew1 | refine below_set ?_ GE101.out) | exact HB.out)) hb); clear HO_11; clear HO_13; clear BK101; clear HB; have HO_11 := n0_; have HO_13 := n1_; have HO115 := n2_; have BK101 := n3_; have HB := n4_; clear n0_ n1_ n2_ n3_ n4_; (try clear hb); (try clear hb2); (try clear hk); (try clear hi); (try clear ho0); obtain ⟨Ao37, co37, eo37⟩ := Kd.R_slice HO115.out; subst eo37) | (go_at_call 24; (with_reducible refine (pyxref03_Sum.calls _ _ t103 _ _ t113 t116 _ ?side1 ?side2 ?side3 ?side4 A32.out).mono ?_); (case side1 => repeat (first | exact (Kd.R_reads' HO_11.out).2.2 | (with_reducible refine Kd.C_alloc ?_ _) | (with_reducible refine Kd.C_drewN ?_ _) | (with_reducible refine Kd.C_drew ?_))); (case side2 => exact (Kd.R_reads' HO_11.out).2.1); (case side3 => repeat (first | exact (Kd.R_reads' HO115.out).2.2 | (with_reducible refine Kd.C_alloc ?_ _) | (with_reducible refine Kd.C_drewN ?_ _) | (with_reducible refine Kd.C_drew ?_))); (case side4 => exact (Kd.R_reads' HO115.out).2.1); rintro e w38 ⟨v117, rfl, ho0, hb⟩; have n0_ := Aside0.mk (Kd.R_elder' (by (with_reducible repeat (first | apply Kd.R_alloc | apply Kd.R_drewN | apply Kd.R_drew)); exact HO_11.out) (Kd.R_base ho0) hb); have n1_ := Aside0.mk (Kd.R_elder' (by (with_reducible repeat (first | apply Kd.R_alloc | apply Kd.R_drewN | apply Kd.R_drew)); exact HO_13.out) (Kd.R_base ho0) hb); have n2_ := Aside0.mk (Kd.R_elder' (by (with_reducible repeat (first | apply Kd.R_alloc | apply Kd.R_drewN | apply Kd.R_drew)); exact HO115.out) (Kd.R_base ho0) hb); have n3_ := Aside0.mk (Kd.R_lower (Kd.R_new' (Kd.R_new' (Kd.R_new' ho0 (Kd.R_lt (by (with_reducible repeat (first | apply Kd.R_alloc | apply Kd.R_drewN | apply Kd.R_drew)); exact HO_11.out))) (Kd.R_lt (by (with_reducible repeat (first | apply Kd.R_alloc | apply Kd.R_drewN | apply Kd.R_drew)); exact HO_13.out))) (Kd.R_lt (by (with_reducible repeat (first | apply Kd.R_alloc | apply Kd.R_drewN | apply Kd.R_drew)); exact HO115.out))) (below_size (by repeat (first | (with_reducible first | exact HB.out | apply below_alloc | apply pw_below_drewN | apply below_drew1 | refine below_set ?_ GE101.out) | exact HB.out)))); have n4_ := Aside0.mk (blk_below (g := gb101) (o := .cells #[.slice A0_0 l0_0.length c0_0, .string a0_1, .string a0_2, .slice A0_3 l0_3.length c0_3, .slice A0_4 l0_4.length c0_4, .int .u8 a0_5, .int .u8 a0_6] 72 (0, 0)) (by (with_reducible repeat (first | refine blk_drewN ?_ _ | refine blk_drew ?_ | refine blk_alloc ?_ _)); exact BK101.out) hb); have n5_ := Aside0.mk (below_step (by repeat (first | (with_reducible first | exact HB.out | apply below_alloc | apply pw_below_drewN | apply below_drew1 | refine below_set ?_ GE101.out) | exact HB.out)) hb); clear HO_11; clear HO_13; clear HO115; clear BK101; clear HB; have HO_11 := n0_; have HO_13 := n1_; have HO115 := n2_; have HO118 := n3_; have BK101 := n4_; have HB := n5_; clear n0_ n1_ n2_ n3_ n4_ n5_; (try clear hb); (try clear hb2); (try clear hk); (try clear hi); (try clear ho0)) | (go_at_call 37; (with_reducible refine (pyxlaw07_told.calls a0_2 _ _ l0_4 t119 _ ?side1 ?side2 A33.out).mono ?_); (case side1 => repeat (first | exact (Kd.C_below HR0_4.out HB.out) | (with_reducible refine Kd.C_alloc ?_ _) | (with_reducible refine Kd.C_drewN ?_ _) | (with_reducible refine Kd.C_drew ?_))); (case side2 => exact HC0_4.out); rintro e w39 ⟨v120, rfl, ho0, hb⟩; have n0_ := Aside0.mk (Kd.R_elder' (by (with_reducible repeat (first | apply Kd.R_alloc | apply Kd.R_drewN | apply Kd.R_drew)); exact HO_11.out) (Kd.R_base ho0) hb); have n1_ := Aside0.mk (Kd.R_elder' (by (with_reducible repeat (first | apply Kd.R_alloc | apply Kd.R_drewN | apply Kd.R_drew)); exact HO_13.out) (Kd.R_base ho0) hb); have n2_ := Aside0.mk (Kd.R_elder' (by (with_reducible repeat (first | apply Kd.R_alloc | apply Kd.R_drewN | apply Kd.R_drew)); exact HO115.out) (Kd.R_base ho0) hb); have n3_ := Aside0.mk (Kd.R_elder' (by (with_reducible repeat (first | apply Kd.R_alloc | apply Kd.R_drewN | apply Kd.R_drew)); exact HO118.out) (Kd.R_base ho0) hb); have n4_ := Aside0.mk (Kd.R_lower (Kd.R_new' (Kd.R_new' (Kd.R_new' (Kd.R_new' ho0 (Kd.R_lt (by (with_reducible repeat (first | apply Kd.R_alloc | apply Kd.R_drewN | apply Kd.R_drew)); exact HO_11.out))) (Kd.R_lt (by (with_reducible repeat (first | apply Kd.R_alloc | apply Kd.R_drewN | apply Kd.R_drew)); exact HO_13.out))) (Kd.R_lt (by (with_reducible repeat (first | apply Kd.R_alloc | apply Kd.R_drewN | apply Kd.R_drew)); exact HO115.out))) (Kd.R_lt (by (with_reducible repeat (first | apply Kd.R_alloc | apply Kd.R_drewN | apply Kd.R_drew)); exact HO118.out))) (below_size (by repeat (first | (with_reducible first | exact HB.out | apply below_alloc | apply pw_below_drewN | apply below_drew1 | refine below_set ?_ GE101.out) | exact HB.out)))); have n5_ := Aside0.mk (blk_below (g := gb101) (o := .cells #[.slice A0_0 l0_0.length c0_0, .string a0_1, .string a0_2, .slice A0_3 l0_3.length c0_3, .slice A0_4 l0_4.length c0_4, .int .u8 a0_5, .int .u8 a0_6] 72 (0, 0)) (by (with_reducible repeat (first | refine blk_drewN ?_ _ | refine blk_drew ?_ | refine blk_alloc ?_ _)); exact BK101.out) hb); have n6_ := Aside0.mk (below_step (by repeat (first | (with_reducible first | exact HB.out | apply below_alloc | apply pw_below_drewN | apply below_drew1 | refine below_set ?_ GE101.out) | exact HB.out)) hb); clear HO_11; clear HO_13; clear HO115; clear HO118; clear BK101; clear HB; have HO_11 := n0_; have HO_13 := n1_; have HO115 := n2_; have HO118 := n3_; have HO121 := n4_; have BK101 := n5_; have HB := n6_; clear n0_ n1_ n2_ n3_ n4_ n5_ n6_; (try clear hb); (try clear hb2); (try clear hk); (try clear hi); (try clear ho0); obtain ⟨Ao40, co40, eo40⟩ := Kd.R_slice HO121.out; subst eo40) | (go_at_call 24; (with_reducible refine (pyxref03_Sum.calls _ _ t103 _ _ t119 t122 _ ?side1 ?side2 ?side3 ?side4 A34.out).mono ?_); (case side1 => repeat (first | exact (Kd.R_reads' HO_11.out).2.2 | (with_reducible refine Kd.C_alloc ?_ _) | (with_reducible refine Kd.C_drewN ?_ _) | (with_reducible refine Kd.C_drew ?_))); (case side2 => exact (Kd.R_reads' HO_11.out).2.1); (case side3 => repeat (first | exact (Kd.R_reads' HO121.out).2.2 | (with_reducible refine Kd.C_alloc ?_ _) | (with_reducible refine Kd.C_drewN ?_ _) | (with_reducible refine Kd.C_drew ?_))); (case side4 => exact (Kd.R_reads' HO121.out).2.1); rintro e w41 ⟨v123, rfl, ho0, hb⟩; have n0_ := Aside0.mk (Kd.R_elder' (by (with_reducible repeat (first | apply Kd.R_alloc | apply Kd.R_drewN | apply Kd.R_drew)); exact HO_11.out) (Kd.R_base ho0) hb); have n1_ := Aside0.mk (Kd.R_elder' (by (with_reducible repeat (first | apply Kd.R_alloc | apply Kd.R_drewN | apply Kd.R_drew)); exact HO_13.out) (Kd.R_base ho0) hb); have n2_ := Aside0.mk (Kd.R_elder' (by (with_reducible repeat (first | apply Kd.R_alloc | apply Kd.R_drewN | apply Kd.R_drew)); exact HO115.out) (Kd.R_base ho0) hb); have n3_ := Aside0.mk (Kd.R_elder' (by (with_reducible repeat (first | apply Kd.R_alloc | apply Kd.R_drewN | apply Kd.R_drew)); exact HO118.out) (Kd.R_base ho0) hb); have n4_ := Aside0.mk (Kd.R_elder' (by (with_reducible repeat (first | apply Kd.R_alloc | apply Kd.R_drewN | apply Kd.R_drew)); exact HO121.out) (Kd.R_base ho0) hb); have n5_ := Aside0.mk (Kd.R_lower (Kd.R_new' (Kd.R_new' (Kd.R_new' (Kd.R_new' (Kd.R_new' ho0 (Kd.R_lt (by (with_reducible repeat (first | apply Kd.R_alloc | apply Kd.R_drewN | apply Kd.R_drew)); exact HO_11.out))) (Kd.R_lt (by (with_reducible repeat (first | apply Kd.R_alloc | apply Kd.R_drewN | apply Kd.R_drew)); exact HO_13.out))) (Kd.R_lt (by (with_reducible repeat (first | apply Kd.R_alloc | apply Kd.R_drewN | apply Kd.R_drew)); exact HO115.out))) (Kd.R_lt (by (with_reducible repeat (first | apply Kd.R_alloc | apply Kd.R_drewN | apply Kd.R_drew)); exact HO118.out))) (Kd.R_lt (by (with_reducible repeat (first | apply Kd.R_alloc | apply Kd.R_drewN | apply Kd.R_drew)); exact HO121.out))) (below_size (by repeat (first | (with_reducible first | exact HB.out | apply below_alloc | apply pw_below_drewN | apply below_drew1 | refine below_set ?_ GE101.out) | exact HB.out)))); have n6_ := Aside0.mk (blk_below (g := gb101) (o := .cells #[.slice A0_0 l0_0.length c0_0, .string a0_1, .string a0_2, .slice A0_3 l0_3.length c0_3, .slice A0_4 l0_4.length c0_4, .int .u8 a0_5, .int .u8 a0_6] 72 (0, 0)) (by (with_reducible repeat (first | refine blk_drewN ?_ _ | refine blk_drew ?_ | refine blk_alloc ?_ _)); exact BK101.out) hb); have n7_ := Aside0.mk (below_step (by repeat (first | (with_reducible first | exact HB.out | apply below_alloc | apply pw_below_drewN | apply below_drew1 | refine below_set ?_ GE101.out) | exact HB.out)) hb); clear HO_11; clear HO_13; clear HO115; clear HO118; clear HO121; clear BK101; clear HB; have HO_11 := n0_; have HO_13 := n1_; have HO115 := n2_; have HO118 := n3_; have HO121 := n4_; have HO124 := n5_; have BK101 := n6_; have HB := n7_; clear n0_ n1_ n2_ n3_ n4_ n5_ n6_ n7_; (try clear hb); (try clear hb2); (try clear hk); (try clear hi); (try clear ho0); obtain ⟨Ao42, co42, eo42⟩ := Kd.R_slice HO118.out; subst eo42; obtain ⟨Ao43, co43, eo43⟩ := Kd.R_slice HO124.out; subst eo43) | (go_at_call 18; (with_reducible refine (pyxref01_Same.calls _ _ t116 _ _ t122 t125 _ ?side1 ?side2 ?side3 ?side4 A35.out).mono ?_); (case side1 => repeat (first | exact (Kd.R_reads' HO118.out).2.2 | (with_reducible refine Kd.C_alloc ?_ _) | (with_reducible refine Kd.C_drewN ?_ _) | (with_reducible refine Kd.C_drew ?_))); (case side2 => exact (Kd.R_reads' HO118.out).2.1); (case side3 => repeat (first | exact (Kd.R_reads' HO124.out).2.2 | (with_reducible refine Kd.C_alloc ?_ _) | (with_reducible refine Kd.C_drewN ?_ _) | (with_reducible refine Kd.C_drew ?_))); (case side4 => exact (Kd.R_reads' HO124.out).2.1); rintro e w' ⟨rfl, ⟨nd, rfl⟩⟩))
                        go_meet
                        case rel => exact ⟨_, (!t125), (by first | rfl | (simp; done) | (simp [*]; done)), H', ⟨by have := HJ2.out; have := HJ13.out; have := HJ21.out; first | omega | exact Nat.le_refl _⟩, ⟨by (with_reducible repeat (first | apply Kd.R_alloc | apply Kd.R_drewN | apply Kd.R_drew)); exact Kd.R_mono HO_11.out (fun _ hk => hk.1.1.1.1)⟩, ⟨by (with_reducible repeat (first | apply Kd.R_alloc | apply Kd.R_drewN | apply Kd.R_drew)); exact Kd.R_mono HO_13.out (fun _ hk => hk.1.1.1.1)⟩, ⟨by (with_reducible repeat (first | refine blk_drewN ?_ _ | refine blk_drew ?_ | refine blk_alloc ?_ _)); exact BK101.out⟩, ⟨by repeat (first | (with_reducible first | exact HB.out | apply below_alloc | apply pw_below_drewN | apply below_drew1 | refine below_set ?_ GE101.out) | exact HB.out)⟩⟩
                    · rw [if_neg c29] at H
                      have c29b0 : (x16_21 != (t111 == 0)) = false := by simpa using c29
                      (try (have c29b1 : decide (x16_21 = (t111 == 0)) = true := by simpa using c29))
                      (try (have c29b2 : (x16_21 == (t111 == 0)) = true := by simpa using c29))
                      clear c29
                      (first | rw [c29b0] | (simp only [i64_w, i32_w]; rw [c29b0]) | skip)
                      have H' := Aside0.mk H
                      clear H
                      go_wp2
                      go_meet
                      case rel => exact ⟨_, (false), (by first | rfl | (simp; done) | (simp [*]; done)), H', ⟨by have := HJ2.out; have := HJ13.out; have := HJ21.out; first | omega | exact Nat.le_refl _⟩, ⟨by (with_reducible repeat (first | apply Kd.R_alloc | apply Kd.R_drewN | apply Kd.R_drew)); exact HO_11.out⟩, ⟨by (with_reducible repeat (first | apply Kd.R_alloc | apply Kd.R_drewN | apply Kd.R_drew)); exact HO_13.out⟩, ⟨by (with_reducible repeat (first | refine blk_drewN ?_ _ | refine blk_drew ?_ | refine blk_alloc ?_ _)); exact BK101.out⟩, ⟨by repeat (first | (with_reducible first | exact HB.out | apply below_alloc | apply pw_below_drewN | apply below_drew1 | refine below_set ?_ GE101.out) | exact HB.out)⟩⟩
                  case rest =>
                    clear HC28
                    try clear c1
                    try clear c2
                    try clear p2
                    try clear c3
                    try clear c7
                    try clear c7b0
                    try clear c7b1
                    try clear c8
                    try clear c8b0
                    try clear c8b1
                    try clear c9
                    try clear c9b0
                    try clear c9b1
                    try clear c10
                    try clear c10b0
                    try clear c10b1
                    try clear c11
                    try clear c17
                    try clear c17b0
                    try clear c17b1
                    try clear c18
                    try clear c18b0
                    try clear c18b1
                    try clear c20
                    try clear c26
                    try clear c26b0
                    try clear c26b1
                    try clear c27
                    try clear c29
                    try clear c29b0
                    try clear c29b1
                    try clear c29b2
                    try clear c30
                    try clear c31
                    try clear hcz5_0
                    try clear hcz5_1
                    try clear hcz5_2
                    try clear hcz5_3
                    try clear hcz5_4
                    try clear hcz5_5
                    try clear hcz5_6
                    try clear hfz5_0
                    try clear hfz5_1
                    try clear hfz5_2
                    try clear hfz5_3
                    try clear hfz5_4
                    try clear hfz5_5
                    try clear hfz5_6
                    try clear p2
                    obtain ⟨kq, x114_27, rfl, HA, HJ27, HO_11, HO_13, BK101, HB⟩ := hcut
                    cases kq with
                    | zero => exact absurd HA.out (by simp [pyxlaw07_SigSpoilt.j3])
                    | succ kj27 =>
                      have H := HA.out
                      clear HA
                      simp only [pyxlaw07_SigSpoilt.j3] at H
                      by_cases c44 : x114_27 = true
                      · subst c44
                        have H1 : (some false) = some true := by rw [if_pos rfl] at H; exact H
                        clear H
                        have H := H1
                        clear H1
                        exact absurd (Option.some.inj H) (by decide)
                      · replace c44 := Bool.eq_false_iff.mpr c44
                        subst c44
                        have H1 : ((some (([] : List Int) : List Int)).bind fun y126 => (if y126.length + t107.length < 140737488355328 then ((some (y126 ++ t107 : List Int)).bind fun y129 => (if 0 ≤ (Int.tmod (wrap64 (a0_5)) 32) then (if (Int.tmod (wrap64 (a0_5)) 32) < (y129.length : Int) then (if t102 = true then ((sig_Verify.f t103 a0_1 l0_3 (y129.set ((Int.tmod (wrap64 (a0_5)) 32) : Int).toNat (Go.bits .xor .u8 (rd y129 (Int.tmod (wrap64 (a0_5)) 32)) a0_6))).bind fun t134 => (if ((t134 == 0) == (a0_6 == 0)) = true then (if 31 ≤ (t107.length : Int) then ((sig_Verify.f t103 a0_1 l0_3 (t107.take 31)).bind fun t139 => (some (t139 == 5))) else (none)) else (some false))) else (some false)) else (none)) else (none))) else (none))) = some true := by rw [if_neg (show ¬ (false = true) by decide)] at H; exact H
                        clear H
                        have H := H1
                        clear H1
                        obtain ⟨y126, hy126⟩ : ∃ y_ : List Int, y_ = (([] : List Int)) := ⟨_, rfl⟩
                        replace H : (if y126.length + t107.length < 140737488355328 then ((some (y126 ++ t107 : List Int)).bind fun y129 => (if 0 ≤ (Int.tmod (wrap64 (a0_5)) 32) then (if (Int.tmod (wrap64 (a0_5)) 32) < (y129.length : Int) then (if t102 = true then ((sig_Verify.f t103 a0_1 l0_3 (y129.set ((Int.tmod (wrap64 (a0_5)) 32) : Int).toNat (Go.bits .xor .u8 (rd y129 (Int.tmod (wrap64 (a0_5)) 32)) a0_6))).bind fun t134 => (if ((t134 == 0) == (a0_6 == 0)) = true then (if 31 ≤ (t107.length : Int) then ((sig_Verify.f t103 a0_1 l0_3 (t107.take 31)).bind fun t139 => (some (t139 == 5))) else (none)) else (some false))) else (some false)) else (none)) else (none))) else (none)) = some true := by first | (rw [hy126]; with_reducible exact H) | (have H2_ := (Option.bind_some _ _).symm.trans H; rw [hy126]; with_reducible exact H2_) | (have H2_ := (Option.bind_some _ _).symm.trans H; with_reducible exact H2_) | with_reducible exact H | (rw [hy126]; exact H) | exact H
                        have Ny126 := Aside0.mk hy126
                        clear hy126
                        by_cases c45 : y126.length + t107.length < 140737488355328
                        · rw [if_pos c45] at H
                          have LMc45 := Aside0.mk c45
                          clear c45
                          obtain ⟨y129, hy129⟩ : ∃ y_ : List Int, y_ = (y126 ++ t107) := ⟨_, rfl⟩
                          replace H : (if 0 ≤ (Int.tmod (wrap64 (a0_5)) 32) then (if (Int.tmod (wrap64 (a0_5)) 32) < (y129.length : Int) then (if t102 = true then ((sig_Verify.f t103 a0_1 l0_3 (y129.set ((Int.tmod (wrap64 (a0_5)) 32) : Int).toNat (Go.bits .xor .u8 (rd y129 (Int.tmod (wrap64 (a0_5)) 32)) a0_6))).bind fun t134 => (if ((t134 == 0) == (a0_6 == 0)) = true then (if 31 ≤ (t107.length : Int) then ((sig_Verify.f t103 a0_1 l0_3 (t107.take 31)).bind fun t139 => (some (t139 == 5))) else (none)) else (some false))) else (some false)) else (none)) else (none)) = some true := by first | (rw [hy129]; with_reducible exact H) | (have H2_ := (Option.bind_some _ _).symm.trans H; rw [hy129]; with_reducible exact H2_) | (have H2_ := (Option.bind_some _ _).symm.trans H; with_reducible exact H2_) | with_reducible exact H | (rw [hy129]; exact H) | exact H
                          have Ny129 := Aside0.mk hy129
                          clear hy129
                          obtain ⟨ji46, hji46⟩ : ∃ j_ : Int, (Int.tmod (wrap64 (a0_5)) 32) = j_ := ⟨_, rfl⟩
                          replace H : (if 0 ≤ (ji46) then (if (ji46) < (y129.length : Int) then (if t102 = true then ((sig_Verify.f t103 a0_1 l0_3 (y129.set ((ji46) : Int).toNat (Go.bits .xor .u8 (rd y129 (ji46)) a0_6))).bind fun t134 => (if ((t134 == 0) == (a0_6 == 0)) = true then (if 31 ≤ (t107.length : Int) then ((sig_Verify.f t103 a0_1 l0_3 (t107.take 31)).bind fun t139 => (some (t139 == 5))) else (none)) else (some false))) else (some false)) else (none)) else (none)) = some true := by first | (rw [hji46] at H; exact H) | (simp only [hji46] at H ⊢; exact H)
                          by_cases c47 : 0 ≤ (ji46)
                          · rw [if_pos c47] at H
                            have c47b0 : decide (0 ≤ (ji46)) = true := decide_eq_true c47
                            clear c47
                            by_cases c48 : (ji46) < (y129.length : Int)
                            · rw [if_pos c48] at H
                              have c48b0 : decide ((ji46) < (y129.length : Int)) = true := decide_eq_true c48
                              clear c48
                              obtain ⟨y133, hy133⟩ : ∃ y_ : List Int, y_ = (y129.set ((ji46) : Int).toNat (Go.bits .xor .u8 (rd y129 (ji46)) a0_6)) := ⟨_, rfl⟩
                              replace H : (if t102 = true then ((sig_Verify.f t103 a0_1 l0_3 y133).bind fun t134 => (if ((t134 == 0) == (a0_6 == 0)) = true then (if 31 ≤ (t107.length : Int) then ((sig_Verify.f t103 a0_1 l0_3 (t107.take 31)).bind fun t139 => (some (t139 == 5))) else (none)) else (some false))) else (some false)) = some true := by first | (rw [hy133]; with_reducible exact H) | (have H2_ := (Option.bind_some _ _).symm.trans H; rw [hy133]; with_reducible exact H2_) | (have H2_ := (Option.bind_some _ _).symm.trans H; with_reducible exact H2_) | with_reducible exact H | (rw [hy133]; exact H) | exact H
                              have Ny133 := Aside0.mk hy133
                              clear hy133
                              by_cases c50 : t102 = true
                              · subst c50
                                have H1 : ((sig_Verify.f t103 a0_1 l0_3 y133).bind fun t134 => (if ((t134 == 0) == (a0_6 == 0)) = true then (if 31 ≤ (t107.length : Int) then ((sig_Verify.f t103 a0_1 l0_3 (t107.take 31)).bind fun t139 => (some (t139 == 5))) else (none)) else (some false))) = some true := by rw [if_pos rfl] at H; exact H
                                clear H
                                have H := H1
                                clear H1
                                replace H := Option.bind_eq_some_iff.mp H
                                obtain ⟨t134, A510, H⟩ := H
                                replace H : (if ((t134 == 0) == (a0_6 == 0)) = true then (if 31 ≤ (t107.length : Int) then ((sig_Verify.f t103 a0_1 l0_3 (t107.take 31)).bind fun t139 => (some (t139 == 5))) else (none)) else (some false)) = some true := H
                                have A51 := Aside0.mk A510
                                clear A510
                                by_cases c52 : ((t134 == 0) == (a0_6 == 0)) = true
                                · rw [if_pos c52] at H
                                  have c52b0 : ((t134 == 0) == (a0_6 == 0)) = true := c52
                                  (try (have c52b1 : decide ((t134 == 0) = (a0_6 == 0)) = true := by simpa using c52))
                                  (try (have c52b2 : ((t134 == 0) == (a0_6 == 0)) = true := by simpa using c52))
                                  clear c52
                                  by_cases c53 : 31 ≤ (t107.length : Int)
                                  · rw [if_pos c53] at H
                                    have c53b0 := eq_true c53
                                    have c53b1 : decide (31 ≤ (t107.length : Int)) = true := decide_eq_true c53
                                    clear c53
                                    obtain ⟨y135, hy135⟩ : ∃ y_ : List Int, y_ = (t107.take 31) := ⟨_, rfl⟩
                                    replace H : ((sig_Verify.f t103 a0_1 l0_3 y135).bind fun t139 => (some (t139 == 5))) = some true := by first | (rw [hy135]; with_reducible exact H) | (have H2_ := (Option.bind_some _ _).symm.trans H; rw [hy135]; with_reducible exact H2_) | (have H2_ := (Option.bind_some _ _).symm.trans H; with_reducible exact H2_) | with_reducible exact H | (rw [hy135]; exact H) | exact H
                                    have Ny135 := Aside0.mk hy135
                                    clear hy135
                                    replace H := Option.bind_eq_some_iff.mp H
                                    obtain ⟨t139, A540, H⟩ := H
                                    replace H : (some (t139 == 5)) = some true := H
                                    have A54 := Aside0.mk A540
                                    clear A540
                                    have HT_ := Option.some.inj H
                                    go_wp2_with (first | ((with_reducible refine gate_dst (N := 115) rfl ?_); (try (refine gate_guard (by rfl) ?_; dsimp only)); refine Kd.R_lit (Kd.int .u8) _ 5 ?hg (N := 115) ?hd (xs := ([] : List Int)) (inner := []) (ok := fun _ => True) (okp := fun _ => True) ?hr ?hp (fun _ hk => hk) trivial (Below.refl _ _) (Nat.le_refl _) (by simp) ?_; (case hd => rfl); (case hg => rfl); (case hr => first | (go_simp; done) | (go_simp; rfl)); (case hp => exact (Reps.none _ _)); intro v127 w55 ho56 hb hg_ hnew_; clear hg_ hnew_; (first | rw [← Ny126.out] at ho56 | (simp only [Int.reduceToNat] at ho56; rw [← Ny126.out] at ho56)); have n0_ := Aside0.mk (Kd.R_elder' (by (with_reducible repeat (first | apply Kd.R_alloc | apply Kd.R_drewN | apply Kd.R_drew)); exact HO_11.out) (Kd.R_base ho56) hb); have n1_ := Aside0.mk (Kd.R_elder' (by (with_reducible repeat (first | apply Kd.R_alloc | apply Kd.R_drewN | apply Kd.R_drew)); exact HO_13.out) (Kd.R_base ho56) hb); have n2_ := Aside0.mk (Kd.R_lower (Kd.R_new' (Kd.R_new' ho56 (Kd.R_lt (by (with_reducible repeat (first | apply Kd.R_alloc | apply Kd.R_drewN | apply Kd.R_drew)); exact HO_11.out))) (Kd.R_lt (by (with_reducible repeat (first | apply Kd.R_alloc | apply Kd.R_drewN | apply Kd.R_drew)); exact HO_13.out))) (below_size (by repeat (first | (with_reducible first | exact HB.out | apply below_alloc | apply pw_below_drewN | apply below_drew1 | refine below_set ?_ GE101.out) | exact HB.out)))); have n3_ := Aside0.mk (blk_below (g := gb101) (o := .cells #[.slice A0_0 l0_0.length c0_0, .string a0_1, .string a0_2, .slice A0_3 l0_3.length c0_3, .slice A0_4 l0_4.length c0_4, .int .u8 a0_5, .int .u8 a0_6] 72 (0, 0)) (by (with_reducible repeat (first | refine blk_drewN ?_ _ | refine blk_drew ?_ | refine blk_alloc ?_ _)); exact BK101.out) hb); have n4_ := Aside0.mk (below_step (by repeat (first | (with_reducible first | exact HB.out | apply below_alloc | apply pw_below_drewN | apply below_drew1 | refine below_set ?_ GE101.out) | exact HB.out)) hb); clear HO_11; clear HO_13; clear BK101; clear HB; have HO_11 := n0_; have HO_13 := n1_; have HO128 := n2_; have BK101 := n3_; have HB := n4_; clear n0_ n1_ n2_ n3_ n4_; clear hb ho56) | ((with_reducible refine gate_builtin (b := .append) (xs := #[.tmp 115, .tmp 116]) rfl ?_); (try (refine gate_guard (by rfl) ?_; dsimp only)); at_builtin; refine Kd.R_append_rows (Kd.int .u8) (w0 := w) w.heap.size rfl (.tmp 115) (.tmp 116) 22 5 (.int .u8 0) 1 rfl Try.underlying22 info5 rfl (by decide) (by omega) v127 y126 t107 _ _ _ (fun k_ => some k_ ≠ (.slice Ao23 t103.length co23 : Value).ownBlock ∧ some k_ ≠ (.slice Ao24 t107.length co24 : Value).ownBlock) (fun _ => False) rfl rfl ?aO ?aR (fun _ _ h => h) (fun _ h => h.elim) ?aF ?aB ?aS ?aL ?_; (case aR => repeat (first | exact (Kd.R_reads' HO_13.out).2.2 | (with_reducible refine Kd.C_alloc ?_ _) | (with_reducible refine Kd.C_drewN ?_ _) | (with_reducible refine Kd.C_drew ?_))); (case aB => exact (by repeat (first | (with_reducible first | exact HB.out | apply below_alloc | apply pw_below_drewN | apply below_drew1 | refine below_set ?_ GE101.out) | exact HB.out))); (case aF => exact (fun k_ hk => ⟨Kd.fresh' (Kd.R_lt (by (with_reducible repeat (first | apply Kd.R_alloc | apply Kd.R_drewN | apply Kd.R_drew)); exact HO_11.out)) k_ hk, Kd.fresh' (Kd.R_lt (by (with_reducible repeat (first | apply Kd.R_alloc | apply Kd.R_drewN | apply Kd.R_drew)); exact HO_13.out)) k_ hk⟩)); (case aO => exact (by (with_reducible repeat (first | apply Kd.R_alloc | apply Kd.R_drewN | apply Kd.R_drew)); exact Kd.R_mono HO128.out (fun _ hk => ⟨hk.1.2, hk.2⟩))); (case aS => exact (below_size (by repeat (first | (with_reducible first | exact HB.out | apply below_alloc | apply pw_below_drewN | apply below_drew1 | refine below_set ?_ GE101.out) | exact HB.out)))); (case aL => have := LMc45.out; omega); intro v130 w57 ho hb hg hat; rw [← Ny129.out] at ho; have n0_ := Aside0.mk (Kd.R_after (ok := (fun k_ => some k_ ≠ (.slice Ao24 t107.length co24 : Value).ownBlock)) (by (with_reducible repeat (first | apply Kd.R_alloc | apply Kd.R_drewN | apply Kd.R_drew)); exact HO_11.out) hg hat); have n1_ := Aside0.mk (Kd.R_after (ok := (fun k_ => some k_ ≠ (.slice Ao23 t103.length co23 : Value).ownBlock)) (by (with_reducible repeat (first | apply Kd.R_alloc | apply Kd.R_drewN | apply Kd.R_drew)); exact HO_13.out) hg hat); have n2_ := Aside0.mk (blk_grown (g := gb101) (o := .cells #[.slice A0_0 l0_0.length c0_0, .string a0_1, .string a0_2, .slice A0_3 l0_3.length c0_3, .slice A0_4 l0_4.length c0_4, .int .u8 a0_5, .int .u8 a0_6] 72 (0, 0)) (by (with_reducible repeat (first | refine blk_drewN ?_ _ | refine blk_drew ?_ | refine blk_alloc ?_ _)); exact BK101.out) hg (Kd.R_ne HO128.out BK101.out (by decide))); have n3_ := Aside0.mk (hb); have n4_ := Aside0.mk (ho); clear HO_11; clear HO_13; clear BK101; clear HB; clear HO128; have HO_11 := n0_; have HO_13 := n1_; have BK101 := n2_; have HB := n3_; have HO131 := n4_; clear n0_ n1_ n2_ n3_ n4_; clear ho hb hg hat; obtain ⟨Ao58, co58, eo58⟩ := Kd.R_slice HO131.out; subst eo58; have p132 : 0 ≤ ((ji46) : Int) := of_decide_eq_true (by first | (with_reducible assumption) | assumption); have q132 : (ji46) < (y129.length : Int) := of_decide_eq_true (by first | (with_reducible assumption) | assumption); obtain ⟨ad132, e132, hx132_0⟩ := Kd.at_int (Kd.R_reads' HO131.out).2.2 (ji46) p132 q132; cases e132; replace p132 := eq_true p132; replace q132 := eq_true q132; have p49 : 0 ≤ ((ji46) : Int) := of_decide_eq_true (by first | (with_reducible assumption) | assumption); have q49 : ((ji46) : Int) < ((y129.length : Int) : Int) := of_decide_eq_true (by first | (with_reducible assumption) | assumption); obtain ⟨go49, co49, eo49, gb49, gl49, cl49, HG49⟩ := Kd.R_form HO131.out (by omega); (first | cases eo49 | (injection eo49 with ea_ en_ ec_; (first | subst ea_ | (injection ea_ with ea_; subst ea_)); subst ec_; clear en_)); have GB49 := Aside0.mk gb49; have GG49 := Aside0.mk HG49; clear gb49 gl49 HG49; (first | simp only [add_plain] at hx132_0 | skip); obtain ⟨hx49_0, hf49_0⟩ := Kd.R_celln 0 HO131.out ((ji46) : Int) p49 q49; replace p49 := eq_true p49; replace q49 := eq_true q49; obtain ⟨hy59_, hz59_⟩ := Kd.R_celln 0 HO131.out ((ji46) : Int) (of_decide_eq_true (by first | (with_reducible assumption) | assumption)) (of_decide_eq_true (by first | (with_reducible assumption) | assumption)); have HP59 := Kd.R_putg HO131.out ((ji46) : Int) (Go.bits .xor .u8 (rd y129 (ji46)) a0_6)) | ((with_reducible refine gate_store (t := 5) (p := 129) rfl ?_); refine store_event (t := 5) (p := 129) (v := ?vo_w60) (w1 := (w57.setCell ⟨go49, ((ji46) : Int).toNat, none⟩ (.int .u8 (Go.bits .xor .u8 (rd y129 (ji46)) a0_6)))) ?hg ?ho ?hn ?hr ?_; (case ho => rfl); (case hg => rfl); (case hn => rfl); (case hr => first | (go_simp; done) | (go_simp; rfl)); intro w60 hw; have hg : w57.grownBy w60 (some go49) := (by rw [hw]; exact HP59.2); have hp_ : Kd.R (Kd.int .u8) 5 w60 w.heap.size (fun k_ => some k_ ≠ (.slice Ao23 t103.length co23 : Value).ownBlock ∧ some k_ ≠ (.slice Ao24 t107.length co24 : Value).ownBlock) (.slice (some ⟨go49, 0, none⟩) y129.length co58) y133 := (by rw [hw, Ny133.out]; exact HP59.1); clear HP59; have n0_ := Aside0.mk (Kd.R_after (v := (.slice (some ⟨go49, 0, none⟩) y129.length co58)) (v1 := (.slice (some ⟨go49, 0, none⟩) y129.length co58)) (ok := (fun k_ => some k_ ≠ (.slice Ao24 t107.length co24 : Value).ownBlock)) (by (with_reducible repeat (first | apply Kd.R_alloc | apply Kd.R_drewN | apply Kd.R_drew)); exact HO_11.out) hg (.inl rfl)); have n1_ := Aside0.mk (Kd.R_after (v := (.slice (some ⟨go49, 0, none⟩) y129.length co58)) (v1 := (.slice (some ⟨go49, 0, none⟩) y129.length co58)) (ok := (fun k_ => some k_ ≠ (.slice Ao23 t103.length co23 : Value).ownBlock)) (by (with_reducible repeat (first | apply Kd.R_alloc | apply Kd.R_drewN | apply Kd.R_drew)); exact HO_13.out) hg (.inl rfl)); have n2_ := Aside0.mk (blk_grown (g := gb101) (o := .cells #[.slice A0_0 l0_0.length c0_0, .string a0_1, .string a0_2, .slice A0_3 l0_3.length c0_3, .slice A0_4 l0_4.length c0_4, .int .u8 a0_5, .int .u8 a0_6] 72 (0, 0)) (by (with_reducible repeat (first | refine blk_drewN ?_ _ | refine blk_drew ?_ | refine blk_alloc ?_ _)); exact BK101.out) hg (Kd.R_ne HO131.out BK101.out (by decide))); have n3_ := Aside0.mk (hp_); have n4_ := Aside0.mk ((by rw [hw]; exact below_set (HB.out) GB49.out : Below w.heap.size w w60)); clear HO_11; clear HO_13; clear BK101; clear HO131; clear HB; have HO_11 := n0_; have HO_13 := n1_; have BK101 := n2_; have HO131 := n3_; have HB := n4_; clear n0_ n1_ n2_ n3_ n4_; clear hg hw hp_) | (go_at_call 31; refine calls_of_args (args' := #[.slice Ao23 t103.length co23, .string a0_1, .slice A0_3 l0_3.length c0_3, .slice (some ⟨go49, 0, none⟩) y133.length co58]) (by first | (rw [show y133.length = y129.length from (Kd.R_reads' HO131.out).1.symm] <;> rfl) | rfl) ?_; (with_reducible refine (sig_Verify.calls _ _ t103 a0_1 _ _ l0_3 _ _ y133 t134 _ ?side1 ?side2 ?side3 ?side4 ?side5 ?side6 A51.out).mono ?_); (case side1 => repeat (first | exact (Kd.R_reads' HO_11.out).2.2 | (with_reducible refine Kd.C_alloc ?_ _) | (with_reducible refine Kd.C_drewN ?_ _) | (with_reducible refine Kd.C_drew ?_))); (case side2 => exact (Kd.R_reads' HO_11.out).2.1); (case side3 => repeat (first | exact (Kd.C_below HR0_3.out HB.out) | (with_reducible refine Kd.C_alloc ?_ _) | (with_reducible refine Kd.C_drewN ?_ _) | (with_reducible refine Kd.C_drew ?_))); (case side4 => exact HC0_3.out); (case side5 => repeat (first | exact (Kd.R_reads' HO131.out).2.2 | (with_reducible refine Kd.C_alloc ?_ _) | (with_reducible refine Kd.C_drewN ?_ _) | (with_reducible refine Kd.C_drew ?_))); (case side6 => rw [show y133.length = y129.length from (Kd.R_reads' HO131.out).1.symm]; exact (Kd.R_reads' HO131.out).2.1); rintro e w61 ⟨rfl, hb⟩; have n0_ := Aside0.mk (Kd.R_below (by (with_reducible repeat (first | apply Kd.R_alloc | apply Kd.R_drewN | apply Kd.R_drew)); exact HO_11.out) hb); have n1_ := Aside0.mk (Kd.R_below (by (with_reducible repeat (first | apply Kd.R_alloc | apply Kd.R_drewN | apply Kd.R_drew)); exact HO_13.out) hb); have n2_ := Aside0.mk (Kd.R_below (by (with_reducible repeat (first | apply Kd.R_alloc | apply Kd.R_drewN | apply Kd.R_drew)); exact HO131.out) hb); have n3_ := Aside0.mk (blk_below (g := gb101) (o := .cells #[.slice A0_0 l0_0.length c0_0, .string a0_1, .string a0_2, .slice A0_3 l0_3.length c0_3, .slice A0_4 l0_4.length c0_4, .int .u8 a0_5, .int .u8 a0_6] 72 (0, 0)) (by (with_reducible repeat (first | refine blk_drewN ?_ _ | refine blk_drew ?_ | refine blk_alloc ?_ _)); exact BK101.out) hb); have n4_ := Aside0.mk (below_step (by repeat (first | (with_reducible first | exact HB.out | apply below_alloc | apply pw_below_drewN | apply below_drew1 | refine below_set ?_ GE101.out) | exact HB.out)) hb); clear HO_11; clear HO_13; clear HO131; clear BK101; clear HB; have HO_11 := n0_; have HO_13 := n1_; have HO131 := n2_; have BK101 := n3_; have HB := n4_; clear n0_ n1_ n2_ n3_ n4_; (try clear hb); (try clear hb2); (try clear hk); (try clear hi); have q62 : (31 : Int) ≤ ((t107.length : Int) : Int) := of_decide_eq_true (by first | (with_reducible assumption) | assumption); obtain ⟨i062, hi062, _, hsz62, _⟩ := info_parts info5; have hroom62 : t107.length ≤ co24 := (Kd.R_reads' HO_13.out).2.1; have hC62 : Kd.C (Kd.int .u8) _ Ao24 t107.length t107 := (Kd.R_reads' HO_13.out).2.2; have hcut62 := cut_to (P := Try.prog) 22 5 .i64 Try.underlying22 hi062 Ao24 t107.length co24 31 (by omega) q62 hroom62; have hr62 := Kd.C_take (m := 31) hC62 (by omega); have hy62 : y135.length = (31 : Int).toNat := (by rw [Ny135.out, List.length_take]; omega); rw [← Ny135.out] at hr62; rw [← hy62] at hcut62; have HR138 := Aside0.mk hr62; have HC138 := Aside0.mk (show y135.length ≤ co24 from by omega); clear hr62 hC62 hroom62 hi062 hsz62; have KY62 := Aside0.mk hy62; clear hy62; have KL62 := Aside0.mk (show 31 ≤ t107.length from by omega); replace q62 := eq_true q62) | (go_at_call 31; (with_reducible refine (sig_Verify.calls _ _ t103 a0_1 _ _ l0_3 _ _ y135 t139 _ ?side1 ?side2 ?side3 ?side4 ?side5 ?side6 A54.out).mono ?_); (case side1 => repeat (first | exact (Kd.R_reads' HO_11.out).2.2 | (with_reducible refine Kd.C_alloc ?_ _) | (with_reducible refine Kd.C_drewN ?_ _) | (with_reducible refine Kd.C_drew ?_))); (case side2 => exact (Kd.R_reads' HO_11.out).2.1); (case side3 => repeat (first | exact (Kd.C_below HR0_3.out HB.out) | (with_reducible refine Kd.C_alloc ?_ _) | (with_reducible refine Kd.C_drewN ?_ _) | (with_reducible refine Kd.C_drew ?_))); (case side4 => exact HC0_3.out); (case side5 => repeat (first | exact (by repeat (first | (with_reducible exact HR138.out) | (with_reducible refine Kd.C_alloc ?_ _) | (with_reducible refine Kd.C_drewN ?_ _) | (with_reducible refine Kd.C_drew ?_) | exact HR138.out)) | (with_reducible refine Kd.C_alloc ?_ _) | (with_reducible refine Kd.C_drewN ?_ _) | (with_reducible refine Kd.C_drew ?_))); (case side6 => exact HC138.out); rintro e w63 ⟨rfl, hb⟩; have n0_ := Aside0.mk (Kd.R_below (by (with_reducible repeat (first | apply Kd.R_alloc | apply Kd.R_drewN | apply Kd.R_drew)); exact HO_11.out) hb); have n1_ := Aside0.mk (Kd.R_below (by (with_reducible repeat (first | apply Kd.R_alloc | apply Kd.R_drewN | apply Kd.R_drew)); exact HO_13.out) hb); have n2_ := Aside0.mk (Kd.R_below (by (with_reducible repeat (first | apply Kd.R_alloc | apply Kd.R_drewN | apply Kd.R_drew)); exact HO131.out) hb); have n3_ := Aside0.mk (blk_below (g := gb101) (o := .cells #[.slice A0_0 l0_0.length c0_0, .string a0_1, .string a0_2, .slice A0_3 l0_3.length c0_3, .slice A0_4 l0_4.length c0_4, .int .u8 a0_5, .int .u8 a0_6] 72 (0, 0)) (by (with_reducible repeat (first | refine blk_drewN ?_ _ | refine blk_drew ?_ | refine blk_alloc ?_ _)); exact BK101.out) hb); have n4_ := Aside0.mk (Kd.C_below (by repeat (first | (with_reducible exact HR138.out) | (with_reducible refine Kd.C_alloc ?_ _) | (with_reducible refine Kd.C_drewN ?_ _) | (with_reducible refine Kd.C_drew ?_) | exact HR138.out)) hb); have n5_ := Aside0.mk (below_step (by repeat (first | (with_reducible first | exact HB.out | apply below_alloc | apply pw_below_drewN | apply below_drew1 | refine below_set ?_ GE101.out) | exact HB.out)) hb); clear HO_11; clear HO_13; clear HO131; clear BK101; clear HR138; clear HB; have HO_11 := n0_; have HO_13 := n1_; have HO131 := n2_; have BK101 := n3_; have HR138 := n4_; have HB := n5_; clear n0_ n1_ n2_ n3_ n4_ n5_; (try clear hb); (try clear hb2); (try clear hk); (try clear hi)))
                                    go_ret
                                    exact ⟨by first | rfl | (simp [errW_none, errW_some] <;> rfl) | (simp only [← hji46]; first | rfl | (simp [errW_none, errW_some] <;> rfl)) | (simp [*, errW_none, errW_some] <;> rfl), by repeat (first | (with_reducible first | exact HB.out | apply below_alloc | apply pw_below_drewN | apply below_drew1 | refine below_set ?_ GE101.out) | exact HB.out)⟩
                                  · rw [if_neg c53] at H
                                    exact absurd H (by simp)
                                · rw [if_neg c52] at H
                                  have c52b0 : ((t134 == 0) == (a0_6 == 0)) = false := by simpa using c52
                                  (try (have c52b1 : decide ((t134 == 0) = (a0_6 == 0)) = false := by simpa using c52))
                                  (try (have c52b2 : ((t134 == 0) == (a0_6 == 0)) = false := by simpa using c52))
                                  (try (have c52b3 : ¬ ((t134 == 0) = (a0_6 == 0)) := by simpa using c52))
                                  clear c52
                                  exact absurd (Option.some.inj H) (by decide)
                              · replace c50 := Bool.eq_false_iff.mpr c50
                                subst c50
                                have H1 : (some false) = some true := by rw [if_neg (show ¬ (false = true) by decide)] at H; exact H
                                clear H
                                have H := H1
                                clear H1
                                exact absurd (Option.some.inj H) (by decide)
                            · rw [if_neg c48] at H
                              exact absurd H (by simp)
                          · rw [if_neg c47] at H
                            exact absurd H (by simp)
                        · rw [if_neg c45] at H
                          exact absurd H (by simp)

end Go.Proofs.Ytifpdpfjhjoieaa.P
