/-
  Walk: pyxlaw02.ShaParts.
-/
import Derived.Test.YtamaokokbajlgaaShaRounds
namespace Go.Proofs.Ytamaokokbajlgaa
set_option linter.unusedVariables false
set_option linter.unusedSimpArgs false
open Go.RowKit Go.Proofs.Ytamaokokbajlgaa.L Go.Proofs.YtamaokokbajlgaaW.PrintWords Go.Proofs.YtamaokokbajlgaaW.PrintLast Go.Proofs.YtamaokokbajlgaaW.PrintMore

theorem refKey_same (i : Int) (hi : -9223372036854775808 ≤ i) (hi2 : i ≤ 9223372036854775807) : L.pyxref02_Key.f i = P.sha_Key.f i := by
  unfold L.pyxref02_Key.f P.sha_Key.f
  by_cases h0 : i < 0
  · rw [if_pos h0, if_pos h0]
  rw [if_neg h0, if_neg h0]
  by_cases h1 : 63 < i
  · rw [if_pos h1, if_pos (by omega)]
  rw [if_neg (by omega), if_neg h1, refKeys_eq, Option.bind_some]
  obtain ⟨n, rfl⟩ := Int.eq_ofNat_of_zero_le (show 0 ≤ i by omega)
  have hl : (ofB Sha.kTab).length = 64 := by rw [ofB_length]; rfl
  rw [if_pos (by omega), if_pos (by omega), rd_ofB]
  rfl
theorem refPad_same (n : Int) : L.pyxref02_Pad.f 80 n = P.sha_Pad.f n := by
  unfold P.sha_Pad.f
  by_cases h0 : n < 0
  · rw [if_pos h0]
    unfold L.pyxref02_Pad.f
    rw [if_pos h0, L.pyxref02_Pad.j0, if_pos rfl]
  rw [if_neg h0]
  by_cases h1 : 1125899906842624 < n
  · rw [if_pos h1]
    unfold L.pyxref02_Pad.f
    rw [if_neg h0, L.pyxref02_Pad.j0, if_pos (by simp; omega)]
  · rw [if_neg h1]
    obtain ⟨m, rfl⟩ := Int.eq_ofNat_of_zero_le (show 0 ≤ n by omega)
    exact refPad_eq m (by omega)
theorem pad_some (n : Int) : ∃ l, P.sha_Pad.f n = some l ∧ byteOk l = true := by
  unfold P.sha_Pad.f
  refine ⟨_, rfl, ?_⟩
  split
  · rfl
  · split
    · rfl
    · exact byteOk_pad _

set_option maxRecDepth 100000 in
set_option maxHeartbeats 4000000 in
theorem shaParts_calls (i n : Int) (x0 x1 x2 x3 x4 x5 x6 x7 : Nat) (A1 : Option Addr) (c1 : Nat) (l1 : List Int) (w : World) (hh : Ws [x0, x1, x2, x3, x4, x5, x6, x7]) (hi : -9223372036854775808 ≤ i) (hi2 : i ≤ 9223372036854775807)
    (hr1 : Kd.C (Kd.int .u8) w A1 l1.length l1) (hc1 : l1.length ≤ c1) (o1 : byteOk l1 = true) :
    Calls Try.prog 7 #[.agg #[.int .i64 i, .int .i64 n, .int .u32 (x0 : Int), .int .u32 (x1 : Int), .int .u32 (x2 : Int), .int .u32 (x3 : Int), .int .u32 (x4 : Int), .int .u32 (x5 : Int), .int .u32 (x6 : Int), .int .u32 (x7 : Int), .slice A1 l1.length c1]] w fun e w' => e = .returned (.bool true) ∧ Below w.heap.size w w' := by
  obtain ⟨pl, hp1, op⟩ := pad_some n
  have hp2 := (refPad_same n).trans hp1
  obtain ⟨kv, hk1⟩ : ∃ kv, P.sha_Key.f i = some kv := ⟨_, rfl⟩
  have hk2 := (refKey_same i hi hi2).trans hk1
  have hsm : P.pyxref01_Same.f pl pl = some true := by unfold P.pyxref01_Same.f; rw [if_pos ⟨op, op⟩, beq_self_eq_true]
  have HP := Lib.hid (And.intro hp1 (And.intro hp2 (And.intro hk1 (And.intro hk2 hsm))))
  clear hp1 hp2 hk1 hk2 hsm op hi hi2
  have hb0 := (Below.refl w.heap.size w).alloc (Nat.le_refl _) (Obj.cells #[.int .i64 i, .int .i64 n, .int .u32 (x0 : Int), .int .u32 (x1 : Int), .int .u32 (x2 : Int), .int .u32 (x3 : Int), .int .u32 (x4 : Int), .int .u32 (x5 : Int), .int .u32 (x6 : Int), .int .u32 (x7 : Int), .slice A1 l1.length c1] 37)
  have hb0 := hb0.alloc hb0.size (Obj.cells #[Value.int .u32 (x0 : Int), .int .u32 (x1 : Int), .int .u32 (x2 : Int), .int .u32 (x3 : Int), .int .u32 (x4 : Int), .int .u32 (x5 : Int), .int .u32 (x6 : Int), .int .u32 (x7 : Int)] 31)
  have bh := Blk.new (w.alloc (.cells #[.int .i64 i, .int .i64 n, .int .u32 (x0 : Int), .int .u32 (x1 : Int), .int .u32 (x2 : Int), .int .u32 (x3 : Int), .int .u32 (x4 : Int), .int .u32 (x5 : Int), .int .u32 (x6 : Int), .int .u32 (x7 : Int), .slice A1 l1.length c1] 37)) 31 (wordsV [x0, x1, x2, x3, x4, x5, x6, x7])
  rw [World.size_alloc] at bh
  have bh : Blk ((w.alloc (.cells #[.int .i64 i, .int .i64 n, .int .u32 (x0 : Int), .int .u32 (x1 : Int), .int .u32 (x2 : Int), .int .u32 (x3 : Int), .int .u32 (x4 : Int), .int .u32 (x5 : Int), .int .u32 (x6 : Int), .int .u32 (x7 : Int), .slice A1 l1.length c1] 37)).alloc (.cells #[.int .u32 (x0 : Int), .int .u32 (x1 : Int), .int .u32 (x2 : Int), .int .u32 (x3 : Int), .int .u32 (x4 : Int), .int .u32 (x5 : Int), .int .u32 (x6 : Int), .int .u32 (x7 : Int)] 31)) (w.heap.size + 1) 31 (wordsV [x0, x1, x2, x3, x4, x5, x6, x7]) := bh
  by_cases g1 : 200 < l1.length
  · have d1 : decide (200 < (l1.length : Int)) = true := by rw [decide_eq_true_eq]; omega
    have HB0 := Lib.hid hb0
    clear hb0 bh
    go_enter Try.func7, Try.ntmps7
    go_wp2_with (go_at_call 15; refine (P.pyxlaw02_shown.calls true _ rfl).mono ?_; rintro e W1 ⟨rfl, hb1⟩)
    go_ret
    exact ⟨rfl, HB0.out.trans (hb1.mono HB0.out.size)⟩
  have d1 : decide (200 < (l1.length : Int)) = false := by rw [decide_eq_false_iff_not]; omega
  have K1 := fun W => block_calls [x0, x1, x2, x3, x4, x5, x6, x7] A1 c1 l1 W hh rfl
  have K2 := fun W => refBlock_calls [x0, x1, x2, x3, x4, x5, x6, x7] A1 c1 l1 W hh rfl
  have xl := blockOf_len [x0, x1, x2, x3, x4, x5, x6, x7] (toB l1) rfl
  generalize blockOf [x0, x1, x2, x3, x4, x5, x6, x7] (toB l1) = X at *
  generalize blockErr (toB l1) = er at *
  have ih : (Try.prog.info? 31).map (·.size) = some (wordsV [x0, x1, x2, x3, x4, x5, x6, x7]).size := infoStart
  have ix : (Try.prog.info? 31).map (·.size) = some (wordsV X).size := by rw [wordsV_size, xl]; exact infoStart
  have HI := Lib.hid (And.intro ih ix)
  have HL := Lib.hid xl
  have HK := Lib.hid (And.intro K1 K2)
  have eqr := eql_row X xl
  have eqs := eql_row Sha.hTab hTab_len
  have egr := fun x y xs ys W => eqGuard_row x y xs ys W
  have HC := Lib.hid (And.intro hr1 (And.intro hc1 o1))
  have HB0 := Lib.hid hb0
  clear ih ix xl K1 K2 hb0 hr1 hc1 o1 g1
  go_enter Try.func7, Try.ntmps7
  go_wp2_with fail
  refine (P.pyxlaw02_shown.calls true _ rfl).mono ?_
  rintro e W1 ⟨rfl, hb1⟩
  have bh1 := bh.below hb1 bh.lt
  have H1 := Lib.hid (HB0.out.trans (hb1.mono HB0.out.size))
  clear hb1 bh
  go_wp2_with (refine wpList_load_row rfl 31 (.tmp 5) rfl (w.heap.size + 1) rfl 31 _ (0, 0) _ bh1 Try.underlying31 rfl HI.out.1 ?_)
  refine (HK.out.1 W1 (Kd.C_below HC.out.1 H1.out) HC.out.2.1 HC.out.2.2).mono ?_
  rintro e W2 ⟨rfl, hb2⟩
  have bh2 := bh1.below hb2 bh1.lt
  have H2 := Lib.hid (H1.out.trans (hb2.mono H1.out.size))
  clear hb2 bh1 H1
  go_wp2_with (first
    | (refine wpList_store_row rfl 31 (.tmp 8) (.tmp 29) rfl W2.heap.size (wordsV X) rfl rfl 31 _ (heap_alloc_new _ _) HI.out.2 (by rw [wordsV_size, HL.out]; rfl) (by simp [wordsV, Value.oneCell']) ?_)
    | (refine wpList_load_row rfl 31 (.tmp 5) rfl (w.heap.size + 1) rfl 31 _ (0, 0) _ (Blk.farRow (bh2.alloc _) (by have := bh2.lt; omega) _) Try.underlying31 rfl HI.out.1 ?_))
  rw [zero8]
  have bx := (Blk.new W2 31 (wordsV z8)).setRow_ (wordsV X)
  have hgx := bx.lt
  have H3 := Lib.hid ((H2.out.alloc H2.out.size (.cells (wordsV z8) 31)).trans (Iter.below_setRow (B := w.heap.size) (g := W2.heap.size) (wordsV X) H2.out.size))
  generalize (W2.alloc (.cells (wordsV z8) 31)).setRow W2.heap.size (wordsV X) = W3 at bx H3 hgx ⊢
  generalize W2.heap.size = gx at *
  clear bh2 H2
  refine (HK.out.2 W3 (Kd.C_below HC.out.1 H3.out) HC.out.2.1 HC.out.2.2).mono ?_
  rintro e W4 ⟨rfl, hb4⟩
  have bx4 := bx.below hb4 hgx
  have H4 := Lib.hid (H3.out.trans (hb4.mono H3.out.size))
  clear hb4 bx H3 hgx
  go_wp2_with (refine wpList_store_row rfl 31 (.tmp 10) (.tmp 35) rfl W4.heap.size (wordsV X) rfl rfl 31 _ (heap_alloc_new _ _) HI.out.2 (by rw [wordsV_size, HL.out]; rfl) (by simp [wordsV, Value.oneCell']) ?_)
  rw [zero8]
  have by_ := (Blk.new W4 31 (wordsV z8)).setRow_ (wordsV X)
  have bx5 := (bx4.alloc (.cells (wordsV z8) 31)).farRow (g' := W4.heap.size) (by have := bx4.lt; omega) (wordsV X)
  have H5 := Lib.hid ((H4.out.alloc H4.out.size (.cells (wordsV z8) 31)).trans (Iter.below_setRow (B := w.heap.size) (g := W4.heap.size) (wordsV X) H4.out.size))
  generalize (W4.alloc (.cells (wordsV z8) 31)).setRow W4.heap.size (wordsV X) = W5 at bx5 by_ H5 ⊢
  generalize W4.heap.size = gy at *
  clear bx4 H4
  refine (Start_calls W5).mono ?_
  rintro e W6 ⟨rfl, hb6⟩
  have bx6 := bx5.below hb6 bx5.lt
  have by6 := by_.below hb6 by_.lt
  have H6 := Lib.hid (H5.out.trans (hb6.mono H5.out.size))
  clear hb6 bx5 by_ H5
  go_wp2_with fail
  refine (refStart_calls W6).mono ?_
  rintro e W7 ⟨rfl, hb7⟩
  have bx7 := bx6.below hb7 bx6.lt
  have by7 := by6.below hb7 by6.lt
  have H7 := Lib.hid (H6.out.trans (hb7.mono H6.out.size))
  clear hb7 bx6 by6 H6
  go_wp2_with fail
  refine (P.sha_Key.calls i kv W7 HP.out.2.2.1).mono ?_
  rintro e W8 ⟨rfl, hb8⟩
  have bx8 := bx7.below hb8 bx7.lt
  have by8 := by7.below hb8 by7.lt
  have H8 := Lib.hid (H7.out.trans (hb8.mono H7.out.size))
  clear hb8 bx7 by7 H7
  go_wp2_with fail
  refine (L.pyxref02_Key.calls i kv W8 HP.out.2.2.2.1).mono ?_
  rintro e W9 ⟨rfl, hb9⟩
  have bx9 := bx8.below hb9 bx8.lt
  have by9 := by8.below hb9 by8.lt
  have H9 := Lib.hid (H8.out.trans (hb9.mono H8.out.size))
  clear hb9 bx8 by8 H8
  go_wp2_with fail
  refine (P.sha_Pad.calls n pl W9 HP.out.1).mono ?_
  rintro e W10 ⟨v10, rfl, hR10, hb10⟩
  obtain ⟨A10, c10, rfl, hl10, hC10⟩ := Kd.R_reads hR10
  have bx10 := bx9.below hb10 bx9.lt
  have by10 := by9.below hb10 by9.lt
  have H10 := Lib.hid (H9.out.trans (hb10.mono H9.out.size))
  clear hb10 bx9 by9 H9 hR10
  go_wp2_with fail
  refine (L.pyxref02_Pad.calls 80 n pl W10 HP.out.2.1).mono ?_
  rintro e W11 ⟨v11, rfl, hR11, hb11⟩
  obtain ⟨A11, c11, rfl, hl11, hC11⟩ := Kd.R_reads hR11
  have hC10 := Kd.C_below hC10 hb11
  have bx11 := bx10.below hb11 bx10.lt
  have by11 := by10.below hb11 by10.lt
  have H11 := Lib.hid (H10.out.trans (hb11.mono H10.out.size))
  clear hb11 bx10 by10 H10 hR11
  go_wp2_with fail
  refine (P.pyxref01_Same.calls A10 c10 pl A11 c11 pl true W11 hC10 hl10 hC11 hl11 HP.out.2.2.2.2).mono ?_
  rintro e w' ⟨rfl, ⟨nd, rfl⟩⟩
  have bx12 : Blk (W11.drewN nd) gx _ _ := bx11
  have by12 : Blk (W11.drewN nd) gy _ _ := by11
  have H12 := Lib.hid (pw_below_drewN H11.out nd)
  generalize W11.drewN nd = W12 at bx12 by12 H12 ⊢
  clear hC10 hC11 hl10 hl11 bx11 by11 H11
  go_wp2_with (first
    | ((refine gate_guard (by rfl) ?_); dsimp only; refine wpList_load_row rfl 31 (.tmp 8) rfl gx rfl 31 _ (0, 0) _ bx12 Try.underlying31 rfl HI.out.2 ?_)
    | ((refine gate_guard (by rfl) ?_); dsimp only; refine wpList_load_row rfl 31 (.tmp 10) rfl gy rfl 31 _ (0, 0) _ by12 Try.underlying31 rfl HI.out.2 ?_))
  go_ret
  exact ⟨rfl, H12.out⟩
end Go.Proofs.Ytamaokokbajlgaa
