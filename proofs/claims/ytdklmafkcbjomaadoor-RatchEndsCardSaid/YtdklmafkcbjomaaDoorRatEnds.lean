/-
  Walk: pyxlaw13.RatchEnds.
-/
import Derived.Test.YtdklmafkcbjomaaDoorZ7
namespace Go.Proofs.YtdklmafkcbjomaaDoor
set_option linter.unusedVariables false
set_option linter.unusedSimpArgs false
open Go.RowKit Go.Shelf Go.Proofs.YtdklmafkcbjomaaDoorW.PrintWords Go.Proofs.YtdklmafkcbjomaaDoorW.PrintLast Go.Proofs.YtdklmafkcbjomaaDoorW.PrintMore Iter
attribute [local go_sem] Oper.semAt_some

theorem one_box (W : World) (cs : Array Value) (t : TypeId) : Blk (W.alloc (.cells cs t)) W.heap.size t cs ∧ Below W.heap.size W (W.alloc (.cells cs t)) := ⟨Blk.new W t cs, (Below.refl _ W).alloc (Nat.le_refl _) _⟩
theorem wrap_small (a b : Int) (h : -9223372036854775808 ≤ a + b) (h' : a + b < 9223372036854775808) : wrap64 (a + b) = a + b := by unfold wrap64; omega
set_option maxRecDepth 100000 in
set_option maxHeartbeats 4000000 in
theorem ends_few (N by_ : Int) (s : List Int) (L : List R.S43) (A B : Option Addr) (c d : Nat) (w : World) (hT : TabOk w) (hs : Kd.C (Kd.int .u8) w A s.length s) (hc : s.length ≤ c) (hL : Kd.C R.k43 w B L.length L) (hd : L.length ≤ d) (hf : fewC s L = false) :
    Calls Tryd.prog 9 #[.agg #[.int .i64 N, .slice A s.length c, .slice B L.length d], .int .u16 by_] w fun e w' => e = .returned (.bool true) ∧ Below w.heap.size w w' := by
  have HF := Lib.hid hf
  clear hf
  have HH := Lib.hid (And.intro hc hd)
  have H0 := Lib.hid (And.intro (hT) (And.intro (hs) (And.intro (hL) (Below.refl w.heap.size w))))
  clear hT hs hL hc hd
  go_enter Tryd.func9, Tryd.ntmps9
  go_wp2_with fail
  obtain ⟨r1_, r3_⟩ := one_box w #[.int .i64 N, .slice A s.length c, .slice B L.length d] 25
  have H1 := Lib.hid (And.intro ((H0.out.1).below r3_ (H0.out.1).1) (And.intro (Kd.C_below (H0.out.2.1) r3_) (And.intro (Kd.C_below (H0.out.2.2.1) r3_) (And.intro (r1_) ((H0.out.2.2.2).trans (r3_.mono (H0.out.2.2.2).size))))))
  clear H0
  generalize (w.alloc (Obj.cells #[.int .i64 N, .slice A s.length c, .slice B L.length d] 25)) = W1 at *
  clear r1_ r3_
  refine (shown13_calls W1 (H1.out.1)).mono ?_
  rintro e W2 ⟨rfl, hb_⟩
  have H2 := Lib.hid (And.intro ((H1.out.1).below hb_ (H1.out.1).1) (And.intro (Kd.C_below (H1.out.2.1) hb_) (And.intro (Kd.C_below (H1.out.2.2.1) hb_) (And.intro ((H1.out.2.2.2.1).below hb_ (H1.out.2.2.2.1).lt) ((H1.out.2.2.2.2).trans (hb_.mono (H1.out.2.2.2.2).size))))))
  clear H1
  clear hb_
  have c_0 : W2.cell? ⟨w.heap.size, 0, none⟩ = some (.int .i64 N) := (H2.out.2.2.2.1).cell 0
  have c_1 : W2.cell? ⟨w.heap.size, 1, none⟩ = some (.slice A s.length c) := (H2.out.2.2.2.1).cell 1
  have c_2 : W2.cell? ⟨w.heap.size, 2, none⟩ = some (.slice B L.length d) := (H2.out.2.2.2.1).cell 2
  go_wp2_with fail
  clear c_0 c_1 c_2
  refine (R.pyxref13_Few.calls 50 N A c s B d L false W2 (H2.out.2.1) HH.out.1 (H2.out.2.2.1) HH.out.2 (by rw [few_some _ _ _ 50 (by decide), HF.out])).mono ?_
  rintro e W3 ⟨rfl, hb_⟩
  have H3 := Lib.hid (And.intro ((H2.out.1).below hb_ (H2.out.1).1) (And.intro (Kd.C_below (H2.out.2.1) hb_) (And.intro (Kd.C_below (H2.out.2.2.1) hb_) (And.intro ((H2.out.2.2.2.1).below hb_ (H2.out.2.2.2.1).lt) ((H2.out.2.2.2.2).trans (hb_.mono (H2.out.2.2.2.2).size))))))
  clear H2
  clear hb_
  go_wp2
  go_ret
  exact ⟨rfl, H3.out.2.2.2.2⟩
set_option maxRecDepth 100000 in
set_option maxHeartbeats 4000000 in
theorem ends_right (N by_ : Int) (s : List Int) (L : List R.S43) (A B : Option Addr) (c d : Nat) (w : World) (hT : TabOk w) (hs : Kd.C (Kd.int .u8) w A s.length s) (hc : s.length ≤ c) (hL : Kd.C R.k43 w B L.length L) (hd : L.length ≤ d) (hf : fewC s L = true) (hr : rightC N s L = false) :
    Calls Tryd.prog 9 #[.agg #[.int .i64 N, .slice A s.length c, .slice B L.length d], .int .u16 by_] w fun e w' => e = .returned (.bool true) ∧ Below w.heap.size w w' := by
  have HF := Lib.hid hf
  have HR := Lib.hid hr
  clear hf hr
  have HH := Lib.hid (And.intro hc hd)
  have H0 := Lib.hid (And.intro (hT) (And.intro (hs) (And.intro (hL) (Below.refl w.heap.size w))))
  clear hT hs hL hc hd
  go_enter Tryd.func9, Tryd.ntmps9
  go_wp2_with fail
  obtain ⟨r1_, r3_⟩ := one_box w #[.int .i64 N, .slice A s.length c, .slice B L.length d] 25
  have H1 := Lib.hid (And.intro ((H0.out.1).below r3_ (H0.out.1).1) (And.intro (Kd.C_below (H0.out.2.1) r3_) (And.intro (Kd.C_below (H0.out.2.2.1) r3_) (And.intro (r1_) ((H0.out.2.2.2).trans (r3_.mono (H0.out.2.2.2).size))))))
  clear H0
  generalize (w.alloc (Obj.cells #[.int .i64 N, .slice A s.length c, .slice B L.length d] 25)) = W1 at *
  clear r1_ r3_
  refine (shown13_calls W1 (H1.out.1)).mono ?_
  rintro e W2 ⟨rfl, hb_⟩
  have H2 := Lib.hid (And.intro ((H1.out.1).below hb_ (H1.out.1).1) (And.intro (Kd.C_below (H1.out.2.1) hb_) (And.intro (Kd.C_below (H1.out.2.2.1) hb_) (And.intro ((H1.out.2.2.2.1).below hb_ (H1.out.2.2.2.1).lt) ((H1.out.2.2.2.2).trans (hb_.mono (H1.out.2.2.2.2).size))))))
  clear H1
  clear hb_
  have c_0 : W2.cell? ⟨w.heap.size, 0, none⟩ = some (.int .i64 N) := (H2.out.2.2.2.1).cell 0
  have c_1 : W2.cell? ⟨w.heap.size, 1, none⟩ = some (.slice A s.length c) := (H2.out.2.2.2.1).cell 1
  have c_2 : W2.cell? ⟨w.heap.size, 2, none⟩ = some (.slice B L.length d) := (H2.out.2.2.2.1).cell 2
  go_wp2_with fail
  clear c_0 c_1 c_2
  refine (R.pyxref13_Few.calls 50 N A c s B d L true W2 (H2.out.2.1) HH.out.1 (H2.out.2.2.1) HH.out.2 (by rw [few_some _ _ _ 50 (by decide), HF.out])).mono ?_
  rintro e W3 ⟨rfl, hb_⟩
  have H3 := Lib.hid (And.intro ((H2.out.1).below hb_ (H2.out.1).1) (And.intro (Kd.C_below (H2.out.2.1) hb_) (And.intro (Kd.C_below (H2.out.2.2.1) hb_) (And.intro ((H2.out.2.2.2.1).below hb_ (H2.out.2.2.2.1).lt) ((H2.out.2.2.2.2).trans (hb_.mono (H2.out.2.2.2.2).size))))))
  clear H2
  clear hb_
  have c_0 : W3.cell? ⟨w.heap.size, 0, none⟩ = some (.int .i64 N) := (H3.out.2.2.2.1).cell 0
  have c_1 : W3.cell? ⟨w.heap.size, 1, none⟩ = some (.slice A s.length c) := (H3.out.2.2.2.1).cell 1
  have c_2 : W3.cell? ⟨w.heap.size, 2, none⟩ = some (.slice B L.length d) := (H3.out.2.2.2.1).cell 2
  go_wp2_with fail
  clear c_0 c_1 c_2
  refine (R.pyxref13_Right.calls 40 N A c s B d L false W3 (H3.out.2.1) HH.out.1 (H3.out.2.2.1) HH.out.2 (by rw [refRight_some _ _ _ 40 (by decide), HR.out])).mono ?_
  rintro e W4 ⟨rfl, hb_⟩
  have H4 := Lib.hid (And.intro ((H3.out.1).below hb_ (H3.out.1).1) (And.intro (Kd.C_below (H3.out.2.1) hb_) (And.intro (Kd.C_below (H3.out.2.2.1) hb_) (And.intro ((H3.out.2.2.2.1).below hb_ (H3.out.2.2.2.1).lt) ((H3.out.2.2.2.2).trans (hb_.mono (H3.out.2.2.2.2).size))))))
  clear H3
  clear hb_
  go_wp2
  go_ret
  exact ⟨rfl, H4.out.2.2.2.2⟩
set_option maxRecDepth 100000 in
set_option maxHeartbeats 4000000 in
theorem ends_main0 (N by_ : Int) (s : List Int) (L : List R.S43) (A B : Option Addr) (c d : Nat) (w : World) (hT : TabOk w) (hs : Kd.C (Kd.int .u8) w A s.length s) (hc : s.length ≤ c) (hL : Kd.C R.k43 w B L.length L) (hd : L.length ≤ d) (m : Nat) (hN : (m : Int) = N) (hf : fewC s L = true) (hg : Good m s L) (hb0 : 0 ≤ by_) (hb1 : by_ < 65536) (hX : N + 101 + by_ ≤ 4294967294) (hY : N ≤ 4294967293) :
    Calls Tryd.prog 9 #[.agg #[.int .i64 N, .slice A s.length c, .slice B L.length d], .int .u16 by_] w fun e w' => e = .returned (.bool true) ∧ Below w.heap.size w w' := by
  have hr : rightC N s L = true := by rw [← hN]; exact good_right hg
  have HF := Lib.hid hf
  have HR := Lib.hid hr
  have HG := Lib.hid (And.intro hg hN)
  have h1 : wrap64 (N + 101) = N + 101 := wrap_small _ _ (by omega) (by have := hg.1; omega)
  have h2 : wrap64 (N + 101 + by_) = N + 101 + by_ := wrap_small _ _ (by omega) (by have := hg.1; omega)
  obtain ⟨X, hXe⟩ : ∃ X, N + 101 + by_ = X := ⟨_, rfl⟩
  have hu : IntKind.i64.wrap by_ = by_ := IntWalk.i64_in _ ⟨by omega, by omega⟩
  rw [hXe] at hX
  have h2 : wrap64 (N + 101 + by_) = X := h2.trans hXe
  have ht : takeF m s L X = (m, s, L, R.z43, 4) := takeF_far hg X (by omega) hX (.inl (by omega))
  have d1 : decide (X ≤ 4294967294) = true := by rw [decide_eq_true_eq]; omega
  have d2 : decide (4294967294 < X) = false := by rw [decide_eq_false_iff_not]; omega
  have d3 : decide (4294967293 < N) = false := by rw [decide_eq_false_iff_not]; omega
  have HX := Lib.hid (And.intro ht (And.intro h1 (And.intro h2 hu)))
  have HXe := Lib.hid (And.intro hXe (show wrap64 X = X by have h3 := h2; rw [hXe] at h3; exact h3))
  have hg2 : Good 4294967293 s L := ⟨by decide, hg.2.1, hg.2.2.1, hg.2.2.2.1, hg.2.2.2.2.1, riseP_mono hg.2.2.2.2.2 (by omega)⟩
  have ht2 := takeF_next hg2 0 (by decide) (by decide)
  have hg3 := good_next hg2 0 (by decide)
  have eL : (L ++ passed s 4294967293 0).drop (L.length + 0 - 32) = L := by rw [show passed s 4294967293 0 = [] from rfl, List.append_nil, show L.length + 0 - 32 = 0 by have := hg.2.2.2.1; omega, List.drop_zero]
  rw [eL] at ht2 hg3
  obtain ⟨K, hK⟩ : ∃ K, lockN s 4294967293 0 = K := ⟨_, rfl⟩
  obtain ⟨T, hT2⟩ : ∃ T, secS s 4294967293 (0 + 1) = T := ⟨_, rfl⟩
  rw [hK, hT2] at ht2
  rw [hT2] at hg3
  have ht3 : takeF (4294967293 + (0 + 1)) T L 4294967294 = (4294967293 + (0 + 1), T, L, R.z43, 4) := takeF_far hg3 _ (by decide) (by decide) (.inr (by decide))
  have HY := Lib.hid (And.intro hg2 (And.intro ht2 (And.intro hg3 ht3)))
  clear hg2 ht2 hg3 ht3 eL hK hT2
  clear hf hr hg hN hb0 hb1 hX hY ht h1 h2 hu hXe
  have HH := Lib.hid (And.intro hc hd)
  have H0 := Lib.hid (And.intro (hT) (And.intro (hs) (And.intro (hL) (Below.refl w.heap.size w))))
  clear hT hs hL hc hd
  go_enter Tryd.func9, Tryd.ntmps9
  go_wp2_with fail
  obtain ⟨r1_, r3_⟩ := one_box w #[.int .i64 N, .slice A s.length c, .slice B L.length d] 25
  have H1 := Lib.hid (And.intro ((H0.out.1).below r3_ (H0.out.1).1) (And.intro (Kd.C_below (H0.out.2.1) r3_) (And.intro (Kd.C_below (H0.out.2.2.1) r3_) (And.intro (r1_) ((H0.out.2.2.2).trans (r3_.mono (H0.out.2.2.2).size))))))
  clear H0
  generalize (w.alloc (Obj.cells #[.int .i64 N, .slice A s.length c, .slice B L.length d] 25)) = W1 at *
  clear r1_ r3_
  refine (shown13_calls W1 (H1.out.1)).mono ?_
  rintro e W2 ⟨rfl, hb_⟩
  have H2 := Lib.hid (And.intro ((H1.out.1).below hb_ (H1.out.1).1) (And.intro (Kd.C_below (H1.out.2.1) hb_) (And.intro (Kd.C_below (H1.out.2.2.1) hb_) (And.intro ((H1.out.2.2.2.1).below hb_ (H1.out.2.2.2.1).lt) ((H1.out.2.2.2.2).trans (hb_.mono (H1.out.2.2.2.2).size))))))
  clear H1
  clear hb_
  have c_0 : W2.cell? ⟨w.heap.size, 0, none⟩ = some (.int .i64 N) := (H2.out.2.2.2.1).cell 0
  have c_1 : W2.cell? ⟨w.heap.size, 1, none⟩ = some (.slice A s.length c) := (H2.out.2.2.2.1).cell 1
  have c_2 : W2.cell? ⟨w.heap.size, 2, none⟩ = some (.slice B L.length d) := (H2.out.2.2.2.1).cell 2
  go_wp2_with fail
  clear c_0 c_1 c_2
  refine (R.pyxref13_Few.calls 50 N A c s B d L true W2 (H2.out.2.1) HH.out.1 (H2.out.2.2.1) HH.out.2 (by rw [few_some _ _ _ 50 (by decide), HF.out])).mono ?_
  rintro e W3 ⟨rfl, hb_⟩
  have H3 := Lib.hid (And.intro ((H2.out.1).below hb_ (H2.out.1).1) (And.intro (Kd.C_below (H2.out.2.1) hb_) (And.intro (Kd.C_below (H2.out.2.2.1) hb_) (And.intro ((H2.out.2.2.2.1).below hb_ (H2.out.2.2.2.1).lt) ((H2.out.2.2.2.2).trans (hb_.mono (H2.out.2.2.2.2).size))))))
  clear H2
  clear hb_
  have c_0 : W3.cell? ⟨w.heap.size, 0, none⟩ = some (.int .i64 N) := (H3.out.2.2.2.1).cell 0
  have c_1 : W3.cell? ⟨w.heap.size, 1, none⟩ = some (.slice A s.length c) := (H3.out.2.2.2.1).cell 1
  have c_2 : W3.cell? ⟨w.heap.size, 2, none⟩ = some (.slice B L.length d) := (H3.out.2.2.2.1).cell 2
  go_wp2_with fail
  clear c_0 c_1 c_2
  refine (R.pyxref13_Right.calls 40 N A c s B d L true W3 (H3.out.2.1) HH.out.1 (H3.out.2.2.1) HH.out.2 (by rw [refRight_some _ _ _ 40 (by decide), HR.out])).mono ?_
  rintro e W4 ⟨rfl, hb_⟩
  have H4 := Lib.hid (And.intro ((H3.out.1).below hb_ (H3.out.1).1) (And.intro (Kd.C_below (H3.out.2.1) hb_) (And.intro (Kd.C_below (H3.out.2.2.1) hb_) (And.intro ((H3.out.2.2.2.1).below hb_ (H3.out.2.2.2.1).lt) ((H3.out.2.2.2.2).trans (hb_.mono (H3.out.2.2.2.2).size))))))
  clear H3
  clear hb_
  obtain ⟨-, h1, h2, hu⟩ := HX.out
  have c_0 : W4.cell? ⟨w.heap.size, 0, none⟩ = some (.int .i64 N) := (H4.out.2.2.2.1).cell 0
  have c_1 : W4.cell? ⟨w.heap.size, 1, none⟩ = some (.slice A s.length c) := (H4.out.2.2.2.1).cell 1
  have c_2 : W4.cell? ⟨w.heap.size, 2, none⟩ = some (.slice B L.length d) := (H4.out.2.2.2.1).cell 2
  go_wp2_with fail
  clear c_0 c_1 c_2
  clear h1 h2 hu
  rw [HXe.out.1]
  rw [HXe.out.2]
  refine (take_any m N X HG.out.2 A s c B L d W4 m N s L R.z43 4 HX.out.1 HG.out.2 HG.out.1 (H4.out.2.1) HH.out.1 (H4.out.2.2.1) HH.out.2).mono ?_
  rintro e W5 ⟨Ax, cx, Bx, dx, Ak, ck, An, cn, rfl, q1_, q2_, q3_, q4_, -, -, -, -, hb_⟩
  have H5 := Lib.hid (And.intro ((H4.out.1).below hb_ (H4.out.1).1) (And.intro (Kd.C_below (H4.out.2.1) hb_) (And.intro (Kd.C_below (H4.out.2.2.1) hb_) (And.intro ((H4.out.2.2.2.1).below hb_ (H4.out.2.2.2.1).lt) (And.intro (q2_) (And.intro (q4_) ((H4.out.2.2.2.2).trans (hb_.mono (H4.out.2.2.2.2).size))))))))
  clear H4
  clear hb_
  have HQ := Lib.hid (And.intro q1_ q3_)
  clear q1_ q2_ q3_ q4_
  rw [show R.z43.f0 = 0 from rfl, show R.z43.f1.length = 0 from rfl, show R.z43.f2.length = 0 from rfl]
  go_upto_region 6 with fail
  obtain ⟨r1_, r2_, r3_, r4_⟩ := two_boxes W5 #[.int .i64 N, .slice Ax s.length cx, .slice Bx L.length dx] #[.int .i64 0, .slice Ak 0 ck, .slice An 0 cn] 25 43
  have H6 := Lib.hid (And.intro ((H5.out.1).below r3_ (H5.out.1).1) (And.intro (Kd.C_below (H5.out.2.1) r3_) (And.intro (Kd.C_below (H5.out.2.2.1) r3_) (And.intro ((H5.out.2.2.2.1).below r3_ (H5.out.2.2.2.1).lt) (And.intro (Kd.C_below (H5.out.2.2.2.2.1) r3_) (And.intro (Kd.C_below (H5.out.2.2.2.2.2.1) r3_) (And.intro (r1_) (And.intro (r2_) ((H5.out.2.2.2.2.2.2).trans (r3_.mono (H5.out.2.2.2.2.2.2).size))))))))))
  clear H5
  generalize ((W5.alloc (Obj.cells #[.int .i64 N, .slice Ax s.length cx, .slice Bx L.length dx] 25)).alloc (Obj.cells #[.int .i64 0, .slice Ak 0 ck, .slice An 0 cn] 43)) = W6 at *
  obtain ⟨g6, hg6⟩ : ∃ g, W5.heap.size = g := ⟨_, rfl⟩
  rw [hg6] at H6 ⊢
  clear hg6 r1_ r3_ r2_ r4_
  have x_0 : W6.cell? ⟨g6, 0, none⟩ = some (.int .i64 N) := (H6.out.2.2.2.2.2.2.1).cell 0
  have x_1 : W6.cell? ⟨g6, 1, none⟩ = some (.slice Ax s.length cx) := (H6.out.2.2.2.2.2.2.1).cell 1
  have x_2 : W6.cell? ⟨g6, 2, none⟩ = some (.slice Bx L.length dx) := (H6.out.2.2.2.2.2.2.1).cell 2
  have c_0 : W6.cell? ⟨w.heap.size, 0, none⟩ = some (.int .i64 N) := (H6.out.2.2.2.1).cell 0
  have c_1 : W6.cell? ⟨w.heap.size, 1, none⟩ = some (.slice A s.length c) := (H6.out.2.2.2.1).cell 1
  have c_2 : W6.cell? ⟨w.heap.size, 2, none⟩ = some (.slice B L.length d) := (H6.out.2.2.2.1).cell 2
  go_wp2_with fail
  clear x_0 x_1 x_2 c_0 c_1 c_2
  refine (R.pyxref13_Same.calls 110 N Ax cx s Bx dx L N A c s B d L true W6 (H6.out.2.2.2.2.1) HQ.out.1 (H6.out.2.2.2.2.2.1) HQ.out.2 (H6.out.2.1) HH.out.1 (H6.out.2.2.1) HH.out.2 (by rw [refSame_some _ _ _ _ _ _ HG.out.1.2.2.1 HG.out.1.2.2.1 HG.out.1.2.2.2.2.1 HG.out.1.2.2.2.2.1 (by have := HG.out.1.2.2.2.1; omega) 110 (by decide), sameC_refl])).mono ?_
  rintro e W7 ⟨rfl, hb_⟩
  have H7 := Lib.hid (And.intro ((H6.out.1).below hb_ (H6.out.1).1) (And.intro (Kd.C_below (H6.out.2.1) hb_) (And.intro (Kd.C_below (H6.out.2.2.1) hb_) (And.intro ((H6.out.2.2.2.1).below hb_ (H6.out.2.2.2.1).lt) (And.intro (Kd.C_below (H6.out.2.2.2.2.1) hb_) (And.intro (Kd.C_below (H6.out.2.2.2.2.2.1) hb_) (And.intro ((H6.out.2.2.2.2.2.2.1).below hb_ (H6.out.2.2.2.2.2.2.1).lt) (And.intro ((H6.out.2.2.2.2.2.2.2.1).below hb_ (H6.out.2.2.2.2.2.2.2.1).lt) ((H6.out.2.2.2.2.2.2.2.2).trans (hb_.mono (H6.out.2.2.2.2.2.2.2.2).size))))))))))
  clear H6
  clear hb_
  have l_1 : W7.cell? ⟨g6 + 1, 1, none⟩ = some (.slice Ak 0 ck) := (H7.out.2.2.2.2.2.2.2.1).cell 1
  have c_0 : W7.cell? ⟨w.heap.size, 0, none⟩ = some (.int .i64 N) := (H7.out.2.2.2.1).cell 0
  have c_1 : W7.cell? ⟨w.heap.size, 1, none⟩ = some (.slice A s.length c) := (H7.out.2.2.2.1).cell 1
  have c_2 : W7.cell? ⟨w.heap.size, 2, none⟩ = some (.slice B L.length d) := (H7.out.2.2.2.1).cell 2
  go_upto_region 12 with fail
  clear l_1 c_0 c_1 c_2
  obtain ⟨r1_, r3_⟩ := one_box W7 #[.int .i64 4294967293, .slice A s.length c, .slice B L.length d] 25
  have H8 := Lib.hid (And.intro ((H7.out.1).below r3_ (H7.out.1).1) (And.intro (Kd.C_below (H7.out.2.1) r3_) (And.intro (Kd.C_below (H7.out.2.2.1) r3_) (And.intro ((H7.out.2.2.2.1).below r3_ (H7.out.2.2.2.1).lt) (And.intro (Kd.C_below (H7.out.2.2.2.2.1) r3_) (And.intro (Kd.C_below (H7.out.2.2.2.2.2.1) r3_) (And.intro ((H7.out.2.2.2.2.2.2.1).below r3_ (H7.out.2.2.2.2.2.2.1).lt) (And.intro ((H7.out.2.2.2.2.2.2.2.1).below r3_ (H7.out.2.2.2.2.2.2.2.1).lt) (And.intro (r1_) ((H7.out.2.2.2.2.2.2.2.2).trans (r3_.mono (H7.out.2.2.2.2.2.2.2.2).size)))))))))))
  clear H7
  generalize (W7.alloc (Obj.cells #[.int .i64 4294967293, .slice A s.length c, .slice B L.length d] 25)) = W8 at *
  obtain ⟨g8, hg8⟩ : ∃ g, W7.heap.size = g := ⟨_, rfl⟩
  rw [hg8] at H8 ⊢
  clear hg8 r1_ r3_
  have e_0 : W8.cell? ⟨g8, 0, none⟩ = some (.int .i64 4294967293) := (H8.out.2.2.2.2.2.2.2.2.1).cell 0
  have e_1 : W8.cell? ⟨g8, 1, none⟩ = some (.slice A s.length c) := (H8.out.2.2.2.2.2.2.2.2.1).cell 1
  have e_2 : W8.cell? ⟨g8, 2, none⟩ = some (.slice B L.length d) := (H8.out.2.2.2.2.2.2.2.2.1).cell 2
  go_wp2_with fail
  clear e_0 e_1 e_2
  refine (take_any 4294967293 4294967293 4294967293 rfl A s c B L d W8 (4294967293 + (0 + 1)) 4294967294 T L K 0 HY.out.2.1 rfl HY.out.1 (H8.out.2.1) HH.out.1 (H8.out.2.2.1) HH.out.2).mono ?_
  rintro e W9 ⟨Ay, cy, By, dy, Ak2, ck2, An2, cn2, rfl, q1_, q2_, q3_, q4_, -, -, -, -, hb_⟩
  have H9 := Lib.hid (And.intro ((H8.out.1).below hb_ (H8.out.1).1) (And.intro (Kd.C_below (H8.out.2.1) hb_) (And.intro (Kd.C_below (H8.out.2.2.1) hb_) (And.intro ((H8.out.2.2.2.1).below hb_ (H8.out.2.2.2.1).lt) (And.intro (Kd.C_below (H8.out.2.2.2.2.1) hb_) (And.intro (Kd.C_below (H8.out.2.2.2.2.2.1) hb_) (And.intro ((H8.out.2.2.2.2.2.2.1).below hb_ (H8.out.2.2.2.2.2.2.1).lt) (And.intro ((H8.out.2.2.2.2.2.2.2.1).below hb_ (H8.out.2.2.2.2.2.2.2.1).lt) (And.intro ((H8.out.2.2.2.2.2.2.2.2.1).below hb_ (H8.out.2.2.2.2.2.2.2.2.1).lt) (And.intro (q2_) (And.intro (q4_) ((H8.out.2.2.2.2.2.2.2.2.2).trans (hb_.mono (H8.out.2.2.2.2.2.2.2.2.2).size)))))))))))))
  clear H8
  clear hb_
  have HQ2 := Lib.hid (And.intro q1_ q3_)
  clear q1_ q2_ q3_ q4_
  generalize K.f0 = K0 at *
  generalize K.f1.length = K1 at *
  generalize K.f2.length = K2 at *
  go_upto_region 13 with fail
  obtain ⟨r1_, r2_, r3_, r4_⟩ := two_boxes W9 #[.int .i64 4294967294, .slice Ay T.length cy, .slice By L.length dy] #[.int .i64 K0, .slice Ak2 K1 ck2, .slice An2 K2 cn2] 25 43
  have H10 := Lib.hid (And.intro ((H9.out.1).below r3_ (H9.out.1).1) (And.intro (Kd.C_below (H9.out.2.1) r3_) (And.intro (Kd.C_below (H9.out.2.2.1) r3_) (And.intro ((H9.out.2.2.2.1).below r3_ (H9.out.2.2.2.1).lt) (And.intro (Kd.C_below (H9.out.2.2.2.2.1) r3_) (And.intro (Kd.C_below (H9.out.2.2.2.2.2.1) r3_) (And.intro ((H9.out.2.2.2.2.2.2.1).below r3_ (H9.out.2.2.2.2.2.2.1).lt) (And.intro ((H9.out.2.2.2.2.2.2.2.1).below r3_ (H9.out.2.2.2.2.2.2.2.1).lt) (And.intro ((H9.out.2.2.2.2.2.2.2.2.1).below r3_ (H9.out.2.2.2.2.2.2.2.2.1).lt) (And.intro (Kd.C_below (H9.out.2.2.2.2.2.2.2.2.2.1) r3_) (And.intro (Kd.C_below (H9.out.2.2.2.2.2.2.2.2.2.2.1) r3_) (And.intro (r1_) (And.intro (r2_) ((H9.out.2.2.2.2.2.2.2.2.2.2.2).trans (r3_.mono (H9.out.2.2.2.2.2.2.2.2.2.2.2).size)))))))))))))))
  clear H9
  generalize ((W9.alloc (Obj.cells #[.int .i64 4294967294, .slice Ay T.length cy, .slice By L.length dy] 25)).alloc (Obj.cells #[.int .i64 K0, .slice Ak2 K1 ck2, .slice An2 K2 cn2] 43)) = W10 at *
  obtain ⟨g10, hg10⟩ : ∃ g, W9.heap.size = g := ⟨_, rfl⟩
  rw [hg10] at H10 ⊢
  clear hg10 r1_ r3_ r2_ r4_
  have y_0 : W10.cell? ⟨g10, 0, none⟩ = some (.int .i64 4294967294) := (H10.out.2.2.2.2.2.2.2.2.2.2.2.1).cell 0
  have y_1 : W10.cell? ⟨g10, 1, none⟩ = some (.slice Ay T.length cy) := (H10.out.2.2.2.2.2.2.2.2.2.2.2.1).cell 1
  have y_2 : W10.cell? ⟨g10, 2, none⟩ = some (.slice By L.length dy) := (H10.out.2.2.2.2.2.2.2.2.2.2.2.1).cell 2
  go_wp2_with fail
  clear y_0 y_1 y_2
  refine (take_any (4294967293 + (0 + 1)) 4294967294 4294967294 rfl Ay T cy By L dy W10 (4294967293 + (0 + 1)) 4294967294 T L R.z43 4 HY.out.2.2.2 rfl HY.out.2.2.1 (H10.out.2.2.2.2.2.2.2.2.2.1) HQ2.out.1 (H10.out.2.2.2.2.2.2.2.2.2.2.1) HQ2.out.2).mono ?_
  rintro e W11 ⟨Az, cz, Bz, dz, Ak3, ck3, An3, cn3, rfl, q1_, q2_, q3_, q4_, -, -, -, -, hb_⟩
  have H11 := Lib.hid (And.intro ((H10.out.1).below hb_ (H10.out.1).1) (And.intro (Kd.C_below (H10.out.2.1) hb_) (And.intro (Kd.C_below (H10.out.2.2.1) hb_) (And.intro ((H10.out.2.2.2.1).below hb_ (H10.out.2.2.2.1).lt) (And.intro (Kd.C_below (H10.out.2.2.2.2.1) hb_) (And.intro (Kd.C_below (H10.out.2.2.2.2.2.1) hb_) (And.intro ((H10.out.2.2.2.2.2.2.1).below hb_ (H10.out.2.2.2.2.2.2.1).lt) (And.intro ((H10.out.2.2.2.2.2.2.2.1).below hb_ (H10.out.2.2.2.2.2.2.2.1).lt) (And.intro ((H10.out.2.2.2.2.2.2.2.2.1).below hb_ (H10.out.2.2.2.2.2.2.2.2.1).lt) (And.intro (Kd.C_below (H10.out.2.2.2.2.2.2.2.2.2.1) hb_) (And.intro (Kd.C_below (H10.out.2.2.2.2.2.2.2.2.2.2.1) hb_) (And.intro ((H10.out.2.2.2.2.2.2.2.2.2.2.2.1).below hb_ (H10.out.2.2.2.2.2.2.2.2.2.2.2.1).lt) (And.intro ((H10.out.2.2.2.2.2.2.2.2.2.2.2.2.1).below hb_ (H10.out.2.2.2.2.2.2.2.2.2.2.2.2.1).lt) (And.intro (q2_) (And.intro (q4_) ((H10.out.2.2.2.2.2.2.2.2.2.2.2.2.2).trans (hb_.mono (H10.out.2.2.2.2.2.2.2.2.2.2.2.2.2).size)))))))))))))))))
  clear H10
  clear hb_
  have HQ3 := Lib.hid (And.intro q1_ q3_)
  clear q1_ q2_ q3_ q4_
  rw [show R.z43.f0 = 0 from rfl, show R.z43.f1.length = 0 from rfl, show R.z43.f2.length = 0 from rfl]
  go_upto_region 14 with fail
  obtain ⟨r1_, r2_, r3_, r4_⟩ := two_boxes W11 #[.int .i64 4294967294, .slice Az T.length cz, .slice Bz L.length dz] #[.int .i64 0, .slice Ak3 0 ck3, .slice An3 0 cn3] 25 43
  have H12 := Lib.hid (And.intro ((H11.out.1).below r3_ (H11.out.1).1) (And.intro (Kd.C_below (H11.out.2.1) r3_) (And.intro (Kd.C_below (H11.out.2.2.1) r3_) (And.intro ((H11.out.2.2.2.1).below r3_ (H11.out.2.2.2.1).lt) (And.intro (Kd.C_below (H11.out.2.2.2.2.1) r3_) (And.intro (Kd.C_below (H11.out.2.2.2.2.2.1) r3_) (And.intro ((H11.out.2.2.2.2.2.2.1).below r3_ (H11.out.2.2.2.2.2.2.1).lt) (And.intro ((H11.out.2.2.2.2.2.2.2.1).below r3_ (H11.out.2.2.2.2.2.2.2.1).lt) (And.intro ((H11.out.2.2.2.2.2.2.2.2.1).below r3_ (H11.out.2.2.2.2.2.2.2.2.1).lt) (And.intro (Kd.C_below (H11.out.2.2.2.2.2.2.2.2.2.1) r3_) (And.intro (Kd.C_below (H11.out.2.2.2.2.2.2.2.2.2.2.1) r3_) (And.intro ((H11.out.2.2.2.2.2.2.2.2.2.2.2.1).below r3_ (H11.out.2.2.2.2.2.2.2.2.2.2.2.1).lt) (And.intro ((H11.out.2.2.2.2.2.2.2.2.2.2.2.2.1).below r3_ (H11.out.2.2.2.2.2.2.2.2.2.2.2.2.1).lt) (And.intro (Kd.C_below (H11.out.2.2.2.2.2.2.2.2.2.2.2.2.2.1) r3_) (And.intro (Kd.C_below (H11.out.2.2.2.2.2.2.2.2.2.2.2.2.2.2.1) r3_) (And.intro (r1_) (And.intro (r2_) ((H11.out.2.2.2.2.2.2.2.2.2.2.2.2.2.2.2).trans (r3_.mono (H11.out.2.2.2.2.2.2.2.2.2.2.2.2.2.2.2).size)))))))))))))))))))
  clear H11
  generalize ((W11.alloc (Obj.cells #[.int .i64 4294967294, .slice Az T.length cz, .slice Bz L.length dz] 25)).alloc (Obj.cells #[.int .i64 0, .slice Ak3 0 ck3, .slice An3 0 cn3] 43)) = W12 at *
  obtain ⟨g12, hg12⟩ : ∃ g, W11.heap.size = g := ⟨_, rfl⟩
  rw [hg12] at H12 ⊢
  clear hg12 r1_ r3_ r2_ r4_
  have y_0 : W12.cell? ⟨g10, 0, none⟩ = some (.int .i64 4294967294) := (H12.out.2.2.2.2.2.2.2.2.2.2.2.1).cell 0
  have y_1 : W12.cell? ⟨g10, 1, none⟩ = some (.slice Ay T.length cy) := (H12.out.2.2.2.2.2.2.2.2.2.2.2.1).cell 1
  have y_2 : W12.cell? ⟨g10, 2, none⟩ = some (.slice By L.length dy) := (H12.out.2.2.2.2.2.2.2.2.2.2.2.1).cell 2
  have z_0 : W12.cell? ⟨g12, 0, none⟩ = some (.int .i64 4294967294) := (H12.out.2.2.2.2.2.2.2.2.2.2.2.2.2.2.2.1).cell 0
  have z_1 : W12.cell? ⟨g12, 1, none⟩ = some (.slice Az T.length cz) := (H12.out.2.2.2.2.2.2.2.2.2.2.2.2.2.2.2.1).cell 1
  have z_2 : W12.cell? ⟨g12, 2, none⟩ = some (.slice Bz L.length dz) := (H12.out.2.2.2.2.2.2.2.2.2.2.2.2.2.2.2.1).cell 2
  go_wp2_with fail
  clear y_0 y_1 y_2 z_0 z_1 z_2
  refine (R.pyxref13_Same.calls 110 4294967294 Az cz T Bz dz L 4294967294 Ay cy T By dy L true W12 (H12.out.2.2.2.2.2.2.2.2.2.2.2.2.2.1) HQ3.out.1 (H12.out.2.2.2.2.2.2.2.2.2.2.2.2.2.2.1) HQ3.out.2 (H12.out.2.2.2.2.2.2.2.2.2.1) HQ2.out.1 (H12.out.2.2.2.2.2.2.2.2.2.2.1) HQ2.out.2 (by rw [refSame_some _ _ _ _ _ _ HY.out.2.2.1.2.2.1 HY.out.2.2.1.2.2.1 HG.out.1.2.2.2.2.1 HG.out.1.2.2.2.2.1 (by have := HG.out.1.2.2.2.1; omega) 110 (by decide), sameC_refl])).mono ?_
  rintro e W13 ⟨rfl, hb_⟩
  have H13 := Lib.hid (And.intro ((H12.out.1).below hb_ (H12.out.1).1) (And.intro (Kd.C_below (H12.out.2.1) hb_) (And.intro (Kd.C_below (H12.out.2.2.1) hb_) (And.intro ((H12.out.2.2.2.1).below hb_ (H12.out.2.2.2.1).lt) (And.intro (Kd.C_below (H12.out.2.2.2.2.1) hb_) (And.intro (Kd.C_below (H12.out.2.2.2.2.2.1) hb_) (And.intro ((H12.out.2.2.2.2.2.2.1).below hb_ (H12.out.2.2.2.2.2.2.1).lt) (And.intro ((H12.out.2.2.2.2.2.2.2.1).below hb_ (H12.out.2.2.2.2.2.2.2.1).lt) (And.intro ((H12.out.2.2.2.2.2.2.2.2.1).below hb_ (H12.out.2.2.2.2.2.2.2.2.1).lt) (And.intro (Kd.C_below (H12.out.2.2.2.2.2.2.2.2.2.1) hb_) (And.intro (Kd.C_below (H12.out.2.2.2.2.2.2.2.2.2.2.1) hb_) (And.intro ((H12.out.2.2.2.2.2.2.2.2.2.2.2.1).below hb_ (H12.out.2.2.2.2.2.2.2.2.2.2.2.1).lt) (And.intro ((H12.out.2.2.2.2.2.2.2.2.2.2.2.2.1).below hb_ (H12.out.2.2.2.2.2.2.2.2.2.2.2.2.1).lt) (And.intro (Kd.C_below (H12.out.2.2.2.2.2.2.2.2.2.2.2.2.2.1) hb_) (And.intro (Kd.C_below (H12.out.2.2.2.2.2.2.2.2.2.2.2.2.2.2.1) hb_) (And.intro ((H12.out.2.2.2.2.2.2.2.2.2.2.2.2.2.2.2.1).below hb_ (H12.out.2.2.2.2.2.2.2.2.2.2.2.2.2.2.2.1).lt) (And.intro ((H12.out.2.2.2.2.2.2.2.2.2.2.2.2.2.2.2.2.1).below hb_ (H12.out.2.2.2.2.2.2.2.2.2.2.2.2.2.2.2.2.1).lt) ((H12.out.2.2.2.2.2.2.2.2.2.2.2.2.2.2.2.2.2).trans (hb_.mono (H12.out.2.2.2.2.2.2.2.2.2.2.2.2.2.2.2.2.2).size)))))))))))))))))))
  clear H12
  clear hb_
  have y_0 : W13.cell? ⟨g10, 0, none⟩ = some (.int .i64 4294967294) := (H13.out.2.2.2.2.2.2.2.2.2.2.2.1).cell 0
  have y_1 : W13.cell? ⟨g10, 1, none⟩ = some (.slice Ay T.length cy) := (H13.out.2.2.2.2.2.2.2.2.2.2.2.1).cell 1
  have y_2 : W13.cell? ⟨g10, 2, none⟩ = some (.slice By L.length dy) := (H13.out.2.2.2.2.2.2.2.2.2.2.2.1).cell 2
  go_wp2_with fail
  clear y_0 y_1 y_2
  refine (R.pyxref13_Right.calls 40 4294967294 Ay cy T By dy L true W13 (H13.out.2.2.2.2.2.2.2.2.2.1) HQ2.out.1 (H13.out.2.2.2.2.2.2.2.2.2.2.1) HQ2.out.2 (by rw [refRight_some _ _ _ 40 (by decide)]; exact congrArg some (good_right HY.out.2.2.1))).mono ?_
  rintro e W14 ⟨rfl, hb_⟩
  have H14 := Lib.hid (And.intro ((H13.out.1).below hb_ (H13.out.1).1) (And.intro (Kd.C_below (H13.out.2.1) hb_) (And.intro (Kd.C_below (H13.out.2.2.1) hb_) (And.intro ((H13.out.2.2.2.1).below hb_ (H13.out.2.2.2.1).lt) (And.intro (Kd.C_below (H13.out.2.2.2.2.1) hb_) (And.intro (Kd.C_below (H13.out.2.2.2.2.2.1) hb_) (And.intro ((H13.out.2.2.2.2.2.2.1).below hb_ (H13.out.2.2.2.2.2.2.1).lt) (And.intro ((H13.out.2.2.2.2.2.2.2.1).below hb_ (H13.out.2.2.2.2.2.2.2.1).lt) (And.intro ((H13.out.2.2.2.2.2.2.2.2.1).below hb_ (H13.out.2.2.2.2.2.2.2.2.1).lt) (And.intro (Kd.C_below (H13.out.2.2.2.2.2.2.2.2.2.1) hb_) (And.intro (Kd.C_below (H13.out.2.2.2.2.2.2.2.2.2.2.1) hb_) (And.intro ((H13.out.2.2.2.2.2.2.2.2.2.2.2.1).below hb_ (H13.out.2.2.2.2.2.2.2.2.2.2.2.1).lt) (And.intro ((H13.out.2.2.2.2.2.2.2.2.2.2.2.2.1).below hb_ (H13.out.2.2.2.2.2.2.2.2.2.2.2.2.1).lt) (And.intro (Kd.C_below (H13.out.2.2.2.2.2.2.2.2.2.2.2.2.2.1) hb_) (And.intro (Kd.C_below (H13.out.2.2.2.2.2.2.2.2.2.2.2.2.2.2.1) hb_) (And.intro ((H13.out.2.2.2.2.2.2.2.2.2.2.2.2.2.2.2.1).below hb_ (H13.out.2.2.2.2.2.2.2.2.2.2.2.2.2.2.2.1).lt) (And.intro ((H13.out.2.2.2.2.2.2.2.2.2.2.2.2.2.2.2.2.1).below hb_ (H13.out.2.2.2.2.2.2.2.2.2.2.2.2.2.2.2.2.1).lt) ((H13.out.2.2.2.2.2.2.2.2.2.2.2.2.2.2.2.2.2).trans (hb_.mono (H13.out.2.2.2.2.2.2.2.2.2.2.2.2.2.2.2.2.2).size)))))))))))))))))))
  clear H13
  clear hb_
  go_wp2
  go_ret
  exact ⟨rfl, H14.out.2.2.2.2.2.2.2.2.2.2.2.2.2.2.2.2.2⟩
set_option maxRecDepth 100000 in
set_option maxHeartbeats 4000000 in
theorem ends_main1 (N by_ : Int) (s : List Int) (L : List R.S43) (A B : Option Addr) (c d : Nat) (w : World) (hT : TabOk w) (hs : Kd.C (Kd.int .u8) w A s.length s) (hc : s.length ≤ c) (hL : Kd.C R.k43 w B L.length L) (hd : L.length ≤ d) (m : Nat) (hN : (m : Int) = N) (hf : fewC s L = true) (hg : Good m s L) (hb0 : 0 ≤ by_) (hb1 : by_ < 65536) (hX : 4294967294 < N + 101 + by_) (hY : N ≤ 4294967293) :
    Calls Tryd.prog 9 #[.agg #[.int .i64 N, .slice A s.length c, .slice B L.length d], .int .u16 by_] w fun e w' => e = .returned (.bool true) ∧ Below w.heap.size w w' := by
  have hr : rightC N s L = true := by rw [← hN]; exact good_right hg
  have HF := Lib.hid hf
  have HR := Lib.hid hr
  have HG := Lib.hid (And.intro hg hN)
  have h1 : wrap64 (N + 101) = N + 101 := wrap_small _ _ (by omega) (by have := hg.1; omega)
  have h2 : wrap64 (N + 101 + by_) = N + 101 + by_ := wrap_small _ _ (by omega) (by have := hg.1; omega)
  obtain ⟨X, hXe⟩ : ∃ X, N + 101 + by_ = X := ⟨_, rfl⟩
  have hu : IntKind.i64.wrap by_ = by_ := IntWalk.i64_in _ ⟨by omega, by omega⟩
  rw [hXe] at hX
  have h2 : wrap64 (N + 101 + by_) = X := h2.trans hXe
  have ht : takeF m s L X = (m, s, L, R.z43, 1) := takeF_out m s L X (.inr hX)
  have d1 : decide (X ≤ 4294967294) = false := by rw [decide_eq_false_iff_not]; omega
  have d2 : decide (4294967294 < X) = true := by rw [decide_eq_true_eq]; omega
  have d3 : decide (4294967293 < N) = false := by rw [decide_eq_false_iff_not]; omega
  have HX := Lib.hid (And.intro ht (And.intro h1 (And.intro h2 hu)))
  have HXe := Lib.hid (And.intro hXe (show wrap64 X = X by have h3 := h2; rw [hXe] at h3; exact h3))
  have hg2 : Good 4294967293 s L := ⟨by decide, hg.2.1, hg.2.2.1, hg.2.2.2.1, hg.2.2.2.2.1, riseP_mono hg.2.2.2.2.2 (by omega)⟩
  have ht2 := takeF_next hg2 0 (by decide) (by decide)
  have hg3 := good_next hg2 0 (by decide)
  have eL : (L ++ passed s 4294967293 0).drop (L.length + 0 - 32) = L := by rw [show passed s 4294967293 0 = [] from rfl, List.append_nil, show L.length + 0 - 32 = 0 by have := hg.2.2.2.1; omega, List.drop_zero]
  rw [eL] at ht2 hg3
  obtain ⟨K, hK⟩ : ∃ K, lockN s 4294967293 0 = K := ⟨_, rfl⟩
  obtain ⟨T, hT2⟩ : ∃ T, secS s 4294967293 (0 + 1) = T := ⟨_, rfl⟩
  rw [hK, hT2] at ht2
  rw [hT2] at hg3
  have ht3 : takeF (4294967293 + (0 + 1)) T L 4294967294 = (4294967293 + (0 + 1), T, L, R.z43, 4) := takeF_far hg3 _ (by decide) (by decide) (.inr (by decide))
  have HY := Lib.hid (And.intro hg2 (And.intro ht2 (And.intro hg3 ht3)))
  clear hg2 ht2 hg3 ht3 eL hK hT2
  clear hf hr hg hN hb0 hb1 hX hY ht h1 h2 hu hXe
  have HH := Lib.hid (And.intro hc hd)
  have H0 := Lib.hid (And.intro (hT) (And.intro (hs) (And.intro (hL) (Below.refl w.heap.size w))))
  clear hT hs hL hc hd
  go_enter Tryd.func9, Tryd.ntmps9
  go_wp2_with fail
  obtain ⟨r1_, r3_⟩ := one_box w #[.int .i64 N, .slice A s.length c, .slice B L.length d] 25
  have H1 := Lib.hid (And.intro ((H0.out.1).below r3_ (H0.out.1).1) (And.intro (Kd.C_below (H0.out.2.1) r3_) (And.intro (Kd.C_below (H0.out.2.2.1) r3_) (And.intro (r1_) ((H0.out.2.2.2).trans (r3_.mono (H0.out.2.2.2).size))))))
  clear H0
  generalize (w.alloc (Obj.cells #[.int .i64 N, .slice A s.length c, .slice B L.length d] 25)) = W1 at *
  clear r1_ r3_
  refine (shown13_calls W1 (H1.out.1)).mono ?_
  rintro e W2 ⟨rfl, hb_⟩
  have H2 := Lib.hid (And.intro ((H1.out.1).below hb_ (H1.out.1).1) (And.intro (Kd.C_below (H1.out.2.1) hb_) (And.intro (Kd.C_below (H1.out.2.2.1) hb_) (And.intro ((H1.out.2.2.2.1).below hb_ (H1.out.2.2.2.1).lt) ((H1.out.2.2.2.2).trans (hb_.mono (H1.out.2.2.2.2).size))))))
  clear H1
  clear hb_
  have c_0 : W2.cell? ⟨w.heap.size, 0, none⟩ = some (.int .i64 N) := (H2.out.2.2.2.1).cell 0
  have c_1 : W2.cell? ⟨w.heap.size, 1, none⟩ = some (.slice A s.length c) := (H2.out.2.2.2.1).cell 1
  have c_2 : W2.cell? ⟨w.heap.size, 2, none⟩ = some (.slice B L.length d) := (H2.out.2.2.2.1).cell 2
  go_wp2_with fail
  clear c_0 c_1 c_2
  refine (R.pyxref13_Few.calls 50 N A c s B d L true W2 (H2.out.2.1) HH.out.1 (H2.out.2.2.1) HH.out.2 (by rw [few_some _ _ _ 50 (by decide), HF.out])).mono ?_
  rintro e W3 ⟨rfl, hb_⟩
  have H3 := Lib.hid (And.intro ((H2.out.1).below hb_ (H2.out.1).1) (And.intro (Kd.C_below (H2.out.2.1) hb_) (And.intro (Kd.C_below (H2.out.2.2.1) hb_) (And.intro ((H2.out.2.2.2.1).below hb_ (H2.out.2.2.2.1).lt) ((H2.out.2.2.2.2).trans (hb_.mono (H2.out.2.2.2.2).size))))))
  clear H2
  clear hb_
  have c_0 : W3.cell? ⟨w.heap.size, 0, none⟩ = some (.int .i64 N) := (H3.out.2.2.2.1).cell 0
  have c_1 : W3.cell? ⟨w.heap.size, 1, none⟩ = some (.slice A s.length c) := (H3.out.2.2.2.1).cell 1
  have c_2 : W3.cell? ⟨w.heap.size, 2, none⟩ = some (.slice B L.length d) := (H3.out.2.2.2.1).cell 2
  go_wp2_with fail
  clear c_0 c_1 c_2
  refine (R.pyxref13_Right.calls 40 N A c s B d L true W3 (H3.out.2.1) HH.out.1 (H3.out.2.2.1) HH.out.2 (by rw [refRight_some _ _ _ 40 (by decide), HR.out])).mono ?_
  rintro e W4 ⟨rfl, hb_⟩
  have H4 := Lib.hid (And.intro ((H3.out.1).below hb_ (H3.out.1).1) (And.intro (Kd.C_below (H3.out.2.1) hb_) (And.intro (Kd.C_below (H3.out.2.2.1) hb_) (And.intro ((H3.out.2.2.2.1).below hb_ (H3.out.2.2.2.1).lt) ((H3.out.2.2.2.2).trans (hb_.mono (H3.out.2.2.2.2).size))))))
  clear H3
  clear hb_
  obtain ⟨-, h1, h2, hu⟩ := HX.out
  have c_0 : W4.cell? ⟨w.heap.size, 0, none⟩ = some (.int .i64 N) := (H4.out.2.2.2.1).cell 0
  have c_1 : W4.cell? ⟨w.heap.size, 1, none⟩ = some (.slice A s.length c) := (H4.out.2.2.2.1).cell 1
  have c_2 : W4.cell? ⟨w.heap.size, 2, none⟩ = some (.slice B L.length d) := (H4.out.2.2.2.1).cell 2
  go_wp2_with fail
  clear c_0 c_1 c_2
  clear h1 h2 hu
  rw [HXe.out.1]
  rw [HXe.out.2]
  refine (take_any m N X HG.out.2 A s c B L d W4 m N s L R.z43 1 HX.out.1 HG.out.2 HG.out.1 (H4.out.2.1) HH.out.1 (H4.out.2.2.1) HH.out.2).mono ?_
  rintro e W5 ⟨Ax, cx, Bx, dx, Ak, ck, An, cn, rfl, q1_, q2_, q3_, q4_, -, -, -, -, hb_⟩
  have H5 := Lib.hid (And.intro ((H4.out.1).below hb_ (H4.out.1).1) (And.intro (Kd.C_below (H4.out.2.1) hb_) (And.intro (Kd.C_below (H4.out.2.2.1) hb_) (And.intro ((H4.out.2.2.2.1).below hb_ (H4.out.2.2.2.1).lt) (And.intro (q2_) (And.intro (q4_) ((H4.out.2.2.2.2).trans (hb_.mono (H4.out.2.2.2.2).size))))))))
  clear H4
  clear hb_
  have HQ := Lib.hid (And.intro q1_ q3_)
  clear q1_ q2_ q3_ q4_
  rw [show R.z43.f0 = 0 from rfl, show R.z43.f1.length = 0 from rfl, show R.z43.f2.length = 0 from rfl]
  go_upto_region 6 with fail
  obtain ⟨r1_, r2_, r3_, r4_⟩ := two_boxes W5 #[.int .i64 N, .slice Ax s.length cx, .slice Bx L.length dx] #[.int .i64 0, .slice Ak 0 ck, .slice An 0 cn] 25 43
  have H6 := Lib.hid (And.intro ((H5.out.1).below r3_ (H5.out.1).1) (And.intro (Kd.C_below (H5.out.2.1) r3_) (And.intro (Kd.C_below (H5.out.2.2.1) r3_) (And.intro ((H5.out.2.2.2.1).below r3_ (H5.out.2.2.2.1).lt) (And.intro (Kd.C_below (H5.out.2.2.2.2.1) r3_) (And.intro (Kd.C_below (H5.out.2.2.2.2.2.1) r3_) (And.intro (r1_) (And.intro (r2_) ((H5.out.2.2.2.2.2.2).trans (r3_.mono (H5.out.2.2.2.2.2.2).size))))))))))
  clear H5
  generalize ((W5.alloc (Obj.cells #[.int .i64 N, .slice Ax s.length cx, .slice Bx L.length dx] 25)).alloc (Obj.cells #[.int .i64 0, .slice Ak 0 ck, .slice An 0 cn] 43)) = W6 at *
  obtain ⟨g6, hg6⟩ : ∃ g, W5.heap.size = g := ⟨_, rfl⟩
  rw [hg6] at H6 ⊢
  clear hg6 r1_ r3_ r2_ r4_
  have x_0 : W6.cell? ⟨g6, 0, none⟩ = some (.int .i64 N) := (H6.out.2.2.2.2.2.2.1).cell 0
  have x_1 : W6.cell? ⟨g6, 1, none⟩ = some (.slice Ax s.length cx) := (H6.out.2.2.2.2.2.2.1).cell 1
  have x_2 : W6.cell? ⟨g6, 2, none⟩ = some (.slice Bx L.length dx) := (H6.out.2.2.2.2.2.2.1).cell 2
  have c_0 : W6.cell? ⟨w.heap.size, 0, none⟩ = some (.int .i64 N) := (H6.out.2.2.2.1).cell 0
  have c_1 : W6.cell? ⟨w.heap.size, 1, none⟩ = some (.slice A s.length c) := (H6.out.2.2.2.1).cell 1
  have c_2 : W6.cell? ⟨w.heap.size, 2, none⟩ = some (.slice B L.length d) := (H6.out.2.2.2.1).cell 2
  go_wp2_with fail
  clear x_0 x_1 x_2 c_0 c_1 c_2
  refine (R.pyxref13_Same.calls 110 N Ax cx s Bx dx L N A c s B d L true W6 (H6.out.2.2.2.2.1) HQ.out.1 (H6.out.2.2.2.2.2.1) HQ.out.2 (H6.out.2.1) HH.out.1 (H6.out.2.2.1) HH.out.2 (by rw [refSame_some _ _ _ _ _ _ HG.out.1.2.2.1 HG.out.1.2.2.1 HG.out.1.2.2.2.2.1 HG.out.1.2.2.2.2.1 (by have := HG.out.1.2.2.2.1; omega) 110 (by decide), sameC_refl])).mono ?_
  rintro e W7 ⟨rfl, hb_⟩
  have H7 := Lib.hid (And.intro ((H6.out.1).below hb_ (H6.out.1).1) (And.intro (Kd.C_below (H6.out.2.1) hb_) (And.intro (Kd.C_below (H6.out.2.2.1) hb_) (And.intro ((H6.out.2.2.2.1).below hb_ (H6.out.2.2.2.1).lt) (And.intro (Kd.C_below (H6.out.2.2.2.2.1) hb_) (And.intro (Kd.C_below (H6.out.2.2.2.2.2.1) hb_) (And.intro ((H6.out.2.2.2.2.2.2.1).below hb_ (H6.out.2.2.2.2.2.2.1).lt) (And.intro ((H6.out.2.2.2.2.2.2.2.1).below hb_ (H6.out.2.2.2.2.2.2.2.1).lt) ((H6.out.2.2.2.2.2.2.2.2).trans (hb_.mono (H6.out.2.2.2.2.2.2.2.2).size))))))))))
  clear H6
  clear hb_
  have l_1 : W7.cell? ⟨g6 + 1, 1, none⟩ = some (.slice Ak 0 ck) := (H7.out.2.2.2.2.2.2.2.1).cell 1
  have c_0 : W7.cell? ⟨w.heap.size, 0, none⟩ = some (.int .i64 N) := (H7.out.2.2.2.1).cell 0
  have c_1 : W7.cell? ⟨w.heap.size, 1, none⟩ = some (.slice A s.length c) := (H7.out.2.2.2.1).cell 1
  have c_2 : W7.cell? ⟨w.heap.size, 2, none⟩ = some (.slice B L.length d) := (H7.out.2.2.2.1).cell 2
  go_upto_region 12 with fail
  clear l_1 c_0 c_1 c_2
  obtain ⟨r1_, r3_⟩ := one_box W7 #[.int .i64 4294967293, .slice A s.length c, .slice B L.length d] 25
  have H8 := Lib.hid (And.intro ((H7.out.1).below r3_ (H7.out.1).1) (And.intro (Kd.C_below (H7.out.2.1) r3_) (And.intro (Kd.C_below (H7.out.2.2.1) r3_) (And.intro ((H7.out.2.2.2.1).below r3_ (H7.out.2.2.2.1).lt) (And.intro (Kd.C_below (H7.out.2.2.2.2.1) r3_) (And.intro (Kd.C_below (H7.out.2.2.2.2.2.1) r3_) (And.intro ((H7.out.2.2.2.2.2.2.1).below r3_ (H7.out.2.2.2.2.2.2.1).lt) (And.intro ((H7.out.2.2.2.2.2.2.2.1).below r3_ (H7.out.2.2.2.2.2.2.2.1).lt) (And.intro (r1_) ((H7.out.2.2.2.2.2.2.2.2).trans (r3_.mono (H7.out.2.2.2.2.2.2.2.2).size)))))))))))
  clear H7
  generalize (W7.alloc (Obj.cells #[.int .i64 4294967293, .slice A s.length c, .slice B L.length d] 25)) = W8 at *
  obtain ⟨g8, hg8⟩ : ∃ g, W7.heap.size = g := ⟨_, rfl⟩
  rw [hg8] at H8 ⊢
  clear hg8 r1_ r3_
  have e_0 : W8.cell? ⟨g8, 0, none⟩ = some (.int .i64 4294967293) := (H8.out.2.2.2.2.2.2.2.2.1).cell 0
  have e_1 : W8.cell? ⟨g8, 1, none⟩ = some (.slice A s.length c) := (H8.out.2.2.2.2.2.2.2.2.1).cell 1
  have e_2 : W8.cell? ⟨g8, 2, none⟩ = some (.slice B L.length d) := (H8.out.2.2.2.2.2.2.2.2.1).cell 2
  go_wp2_with fail
  clear e_0 e_1 e_2
  refine (take_any 4294967293 4294967293 4294967293 rfl A s c B L d W8 (4294967293 + (0 + 1)) 4294967294 T L K 0 HY.out.2.1 rfl HY.out.1 (H8.out.2.1) HH.out.1 (H8.out.2.2.1) HH.out.2).mono ?_
  rintro e W9 ⟨Ay, cy, By, dy, Ak2, ck2, An2, cn2, rfl, q1_, q2_, q3_, q4_, -, -, -, -, hb_⟩
  have H9 := Lib.hid (And.intro ((H8.out.1).below hb_ (H8.out.1).1) (And.intro (Kd.C_below (H8.out.2.1) hb_) (And.intro (Kd.C_below (H8.out.2.2.1) hb_) (And.intro ((H8.out.2.2.2.1).below hb_ (H8.out.2.2.2.1).lt) (And.intro (Kd.C_below (H8.out.2.2.2.2.1) hb_) (And.intro (Kd.C_below (H8.out.2.2.2.2.2.1) hb_) (And.intro ((H8.out.2.2.2.2.2.2.1).below hb_ (H8.out.2.2.2.2.2.2.1).lt) (And.intro ((H8.out.2.2.2.2.2.2.2.1).below hb_ (H8.out.2.2.2.2.2.2.2.1).lt) (And.intro ((H8.out.2.2.2.2.2.2.2.2.1).below hb_ (H8.out.2.2.2.2.2.2.2.2.1).lt) (And.intro (q2_) (And.intro (q4_) ((H8.out.2.2.2.2.2.2.2.2.2).trans (hb_.mono (H8.out.2.2.2.2.2.2.2.2.2).size)))))))))))))
  clear H8
  clear hb_
  have HQ2 := Lib.hid (And.intro q1_ q3_)
  clear q1_ q2_ q3_ q4_
  generalize K.f0 = K0 at *
  generalize K.f1.length = K1 at *
  generalize K.f2.length = K2 at *
  go_upto_region 13 with fail
  obtain ⟨r1_, r2_, r3_, r4_⟩ := two_boxes W9 #[.int .i64 4294967294, .slice Ay T.length cy, .slice By L.length dy] #[.int .i64 K0, .slice Ak2 K1 ck2, .slice An2 K2 cn2] 25 43
  have H10 := Lib.hid (And.intro ((H9.out.1).below r3_ (H9.out.1).1) (And.intro (Kd.C_below (H9.out.2.1) r3_) (And.intro (Kd.C_below (H9.out.2.2.1) r3_) (And.intro ((H9.out.2.2.2.1).below r3_ (H9.out.2.2.2.1).lt) (And.intro (Kd.C_below (H9.out.2.2.2.2.1) r3_) (And.intro (Kd.C_below (H9.out.2.2.2.2.2.1) r3_) (And.intro ((H9.out.2.2.2.2.2.2.1).below r3_ (H9.out.2.2.2.2.2.2.1).lt) (And.intro ((H9.out.2.2.2.2.2.2.2.1).below r3_ (H9.out.2.2.2.2.2.2.2.1).lt) (And.intro ((H9.out.2.2.2.2.2.2.2.2.1).below r3_ (H9.out.2.2.2.2.2.2.2.2.1).lt) (And.intro (Kd.C_below (H9.out.2.2.2.2.2.2.2.2.2.1) r3_) (And.intro (Kd.C_below (H9.out.2.2.2.2.2.2.2.2.2.2.1) r3_) (And.intro (r1_) (And.intro (r2_) ((H9.out.2.2.2.2.2.2.2.2.2.2.2).trans (r3_.mono (H9.out.2.2.2.2.2.2.2.2.2.2.2).size)))))))))))))))
  clear H9
  generalize ((W9.alloc (Obj.cells #[.int .i64 4294967294, .slice Ay T.length cy, .slice By L.length dy] 25)).alloc (Obj.cells #[.int .i64 K0, .slice Ak2 K1 ck2, .slice An2 K2 cn2] 43)) = W10 at *
  obtain ⟨g10, hg10⟩ : ∃ g, W9.heap.size = g := ⟨_, rfl⟩
  rw [hg10] at H10 ⊢
  clear hg10 r1_ r3_ r2_ r4_
  have y_0 : W10.cell? ⟨g10, 0, none⟩ = some (.int .i64 4294967294) := (H10.out.2.2.2.2.2.2.2.2.2.2.2.1).cell 0
  have y_1 : W10.cell? ⟨g10, 1, none⟩ = some (.slice Ay T.length cy) := (H10.out.2.2.2.2.2.2.2.2.2.2.2.1).cell 1
  have y_2 : W10.cell? ⟨g10, 2, none⟩ = some (.slice By L.length dy) := (H10.out.2.2.2.2.2.2.2.2.2.2.2.1).cell 2
  go_wp2_with fail
  clear y_0 y_1 y_2
  refine (take_any (4294967293 + (0 + 1)) 4294967294 4294967294 rfl Ay T cy By L dy W10 (4294967293 + (0 + 1)) 4294967294 T L R.z43 4 HY.out.2.2.2 rfl HY.out.2.2.1 (H10.out.2.2.2.2.2.2.2.2.2.1) HQ2.out.1 (H10.out.2.2.2.2.2.2.2.2.2.2.1) HQ2.out.2).mono ?_
  rintro e W11 ⟨Az, cz, Bz, dz, Ak3, ck3, An3, cn3, rfl, q1_, q2_, q3_, q4_, -, -, -, -, hb_⟩
  have H11 := Lib.hid (And.intro ((H10.out.1).below hb_ (H10.out.1).1) (And.intro (Kd.C_below (H10.out.2.1) hb_) (And.intro (Kd.C_below (H10.out.2.2.1) hb_) (And.intro ((H10.out.2.2.2.1).below hb_ (H10.out.2.2.2.1).lt) (And.intro (Kd.C_below (H10.out.2.2.2.2.1) hb_) (And.intro (Kd.C_below (H10.out.2.2.2.2.2.1) hb_) (And.intro ((H10.out.2.2.2.2.2.2.1).below hb_ (H10.out.2.2.2.2.2.2.1).lt) (And.intro ((H10.out.2.2.2.2.2.2.2.1).below hb_ (H10.out.2.2.2.2.2.2.2.1).lt) (And.intro ((H10.out.2.2.2.2.2.2.2.2.1).below hb_ (H10.out.2.2.2.2.2.2.2.2.1).lt) (And.intro (Kd.C_below (H10.out.2.2.2.2.2.2.2.2.2.1) hb_) (And.intro (Kd.C_below (H10.out.2.2.2.2.2.2.2.2.2.2.1) hb_) (And.intro ((H10.out.2.2.2.2.2.2.2.2.2.2.2.1).below hb_ (H10.out.2.2.2.2.2.2.2.2.2.2.2.1).lt) (And.intro ((H10.out.2.2.2.2.2.2.2.2.2.2.2.2.1).below hb_ (H10.out.2.2.2.2.2.2.2.2.2.2.2.2.1).lt) (And.intro (q2_) (And.intro (q4_) ((H10.out.2.2.2.2.2.2.2.2.2.2.2.2.2).trans (hb_.mono (H10.out.2.2.2.2.2.2.2.2.2.2.2.2.2).size)))))))))))))))))
  clear H10
  clear hb_
  have HQ3 := Lib.hid (And.intro q1_ q3_)
  clear q1_ q2_ q3_ q4_
  rw [show R.z43.f0 = 0 from rfl, show R.z43.f1.length = 0 from rfl, show R.z43.f2.length = 0 from rfl]
  go_upto_region 14 with fail
  obtain ⟨r1_, r2_, r3_, r4_⟩ := two_boxes W11 #[.int .i64 4294967294, .slice Az T.length cz, .slice Bz L.length dz] #[.int .i64 0, .slice Ak3 0 ck3, .slice An3 0 cn3] 25 43
  have H12 := Lib.hid (And.intro ((H11.out.1).below r3_ (H11.out.1).1) (And.intro (Kd.C_below (H11.out.2.1) r3_) (And.intro (Kd.C_below (H11.out.2.2.1) r3_) (And.intro ((H11.out.2.2.2.1).below r3_ (H11.out.2.2.2.1).lt) (And.intro (Kd.C_below (H11.out.2.2.2.2.1) r3_) (And.intro (Kd.C_below (H11.out.2.2.2.2.2.1) r3_) (And.intro ((H11.out.2.2.2.2.2.2.1).below r3_ (H11.out.2.2.2.2.2.2.1).lt) (And.intro ((H11.out.2.2.2.2.2.2.2.1).below r3_ (H11.out.2.2.2.2.2.2.2.1).lt) (And.intro ((H11.out.2.2.2.2.2.2.2.2.1).below r3_ (H11.out.2.2.2.2.2.2.2.2.1).lt) (And.intro (Kd.C_below (H11.out.2.2.2.2.2.2.2.2.2.1) r3_) (And.intro (Kd.C_below (H11.out.2.2.2.2.2.2.2.2.2.2.1) r3_) (And.intro ((H11.out.2.2.2.2.2.2.2.2.2.2.2.1).below r3_ (H11.out.2.2.2.2.2.2.2.2.2.2.2.1).lt) (And.intro ((H11.out.2.2.2.2.2.2.2.2.2.2.2.2.1).below r3_ (H11.out.2.2.2.2.2.2.2.2.2.2.2.2.1).lt) (And.intro (Kd.C_below (H11.out.2.2.2.2.2.2.2.2.2.2.2.2.2.1) r3_) (And.intro (Kd.C_below (H11.out.2.2.2.2.2.2.2.2.2.2.2.2.2.2.1) r3_) (And.intro (r1_) (And.intro (r2_) ((H11.out.2.2.2.2.2.2.2.2.2.2.2.2.2.2.2).trans (r3_.mono (H11.out.2.2.2.2.2.2.2.2.2.2.2.2.2.2.2).size)))))))))))))))))))
  clear H11
  generalize ((W11.alloc (Obj.cells #[.int .i64 4294967294, .slice Az T.length cz, .slice Bz L.length dz] 25)).alloc (Obj.cells #[.int .i64 0, .slice Ak3 0 ck3, .slice An3 0 cn3] 43)) = W12 at *
  obtain ⟨g12, hg12⟩ : ∃ g, W11.heap.size = g := ⟨_, rfl⟩
  rw [hg12] at H12 ⊢
  clear hg12 r1_ r3_ r2_ r4_
  have y_0 : W12.cell? ⟨g10, 0, none⟩ = some (.int .i64 4294967294) := (H12.out.2.2.2.2.2.2.2.2.2.2.2.1).cell 0
  have y_1 : W12.cell? ⟨g10, 1, none⟩ = some (.slice Ay T.length cy) := (H12.out.2.2.2.2.2.2.2.2.2.2.2.1).cell 1
  have y_2 : W12.cell? ⟨g10, 2, none⟩ = some (.slice By L.length dy) := (H12.out.2.2.2.2.2.2.2.2.2.2.2.1).cell 2
  have z_0 : W12.cell? ⟨g12, 0, none⟩ = some (.int .i64 4294967294) := (H12.out.2.2.2.2.2.2.2.2.2.2.2.2.2.2.2.1).cell 0
  have z_1 : W12.cell? ⟨g12, 1, none⟩ = some (.slice Az T.length cz) := (H12.out.2.2.2.2.2.2.2.2.2.2.2.2.2.2.2.1).cell 1
  have z_2 : W12.cell? ⟨g12, 2, none⟩ = some (.slice Bz L.length dz) := (H12.out.2.2.2.2.2.2.2.2.2.2.2.2.2.2.2.1).cell 2
  go_wp2_with fail
  clear y_0 y_1 y_2 z_0 z_1 z_2
  refine (R.pyxref13_Same.calls 110 4294967294 Az cz T Bz dz L 4294967294 Ay cy T By dy L true W12 (H12.out.2.2.2.2.2.2.2.2.2.2.2.2.2.1) HQ3.out.1 (H12.out.2.2.2.2.2.2.2.2.2.2.2.2.2.2.1) HQ3.out.2 (H12.out.2.2.2.2.2.2.2.2.2.1) HQ2.out.1 (H12.out.2.2.2.2.2.2.2.2.2.2.1) HQ2.out.2 (by rw [refSame_some _ _ _ _ _ _ HY.out.2.2.1.2.2.1 HY.out.2.2.1.2.2.1 HG.out.1.2.2.2.2.1 HG.out.1.2.2.2.2.1 (by have := HG.out.1.2.2.2.1; omega) 110 (by decide), sameC_refl])).mono ?_
  rintro e W13 ⟨rfl, hb_⟩
  have H13 := Lib.hid (And.intro ((H12.out.1).below hb_ (H12.out.1).1) (And.intro (Kd.C_below (H12.out.2.1) hb_) (And.intro (Kd.C_below (H12.out.2.2.1) hb_) (And.intro ((H12.out.2.2.2.1).below hb_ (H12.out.2.2.2.1).lt) (And.intro (Kd.C_below (H12.out.2.2.2.2.1) hb_) (And.intro (Kd.C_below (H12.out.2.2.2.2.2.1) hb_) (And.intro ((H12.out.2.2.2.2.2.2.1).below hb_ (H12.out.2.2.2.2.2.2.1).lt) (And.intro ((H12.out.2.2.2.2.2.2.2.1).below hb_ (H12.out.2.2.2.2.2.2.2.1).lt) (And.intro ((H12.out.2.2.2.2.2.2.2.2.1).below hb_ (H12.out.2.2.2.2.2.2.2.2.1).lt) (And.intro (Kd.C_below (H12.out.2.2.2.2.2.2.2.2.2.1) hb_) (And.intro (Kd.C_below (H12.out.2.2.2.2.2.2.2.2.2.2.1) hb_) (And.intro ((H12.out.2.2.2.2.2.2.2.2.2.2.2.1).below hb_ (H12.out.2.2.2.2.2.2.2.2.2.2.2.1).lt) (And.intro ((H12.out.2.2.2.2.2.2.2.2.2.2.2.2.1).below hb_ (H12.out.2.2.2.2.2.2.2.2.2.2.2.2.1).lt) (And.intro (Kd.C_below (H12.out.2.2.2.2.2.2.2.2.2.2.2.2.2.1) hb_) (And.intro (Kd.C_below (H12.out.2.2.2.2.2.2.2.2.2.2.2.2.2.2.1) hb_) (And.intro ((H12.out.2.2.2.2.2.2.2.2.2.2.2.2.2.2.2.1).below hb_ (H12.out.2.2.2.2.2.2.2.2.2.2.2.2.2.2.2.1).lt) (And.intro ((H12.out.2.2.2.2.2.2.2.2.2.2.2.2.2.2.2.2.1).below hb_ (H12.out.2.2.2.2.2.2.2.2.2.2.2.2.2.2.2.2.1).lt) ((H12.out.2.2.2.2.2.2.2.2.2.2.2.2.2.2.2.2.2).trans (hb_.mono (H12.out.2.2.2.2.2.2.2.2.2.2.2.2.2.2.2.2.2).size)))))))))))))))))))
  clear H12
  clear hb_
  have y_0 : W13.cell? ⟨g10, 0, none⟩ = some (.int .i64 4294967294) := (H13.out.2.2.2.2.2.2.2.2.2.2.2.1).cell 0
  have y_1 : W13.cell? ⟨g10, 1, none⟩ = some (.slice Ay T.length cy) := (H13.out.2.2.2.2.2.2.2.2.2.2.2.1).cell 1
  have y_2 : W13.cell? ⟨g10, 2, none⟩ = some (.slice By L.length dy) := (H13.out.2.2.2.2.2.2.2.2.2.2.2.1).cell 2
  go_wp2_with fail
  clear y_0 y_1 y_2
  refine (R.pyxref13_Right.calls 40 4294967294 Ay cy T By dy L true W13 (H13.out.2.2.2.2.2.2.2.2.2.1) HQ2.out.1 (H13.out.2.2.2.2.2.2.2.2.2.2.1) HQ2.out.2 (by rw [refRight_some _ _ _ 40 (by decide)]; exact congrArg some (good_right HY.out.2.2.1))).mono ?_
  rintro e W14 ⟨rfl, hb_⟩
  have H14 := Lib.hid (And.intro ((H13.out.1).below hb_ (H13.out.1).1) (And.intro (Kd.C_below (H13.out.2.1) hb_) (And.intro (Kd.C_below (H13.out.2.2.1) hb_) (And.intro ((H13.out.2.2.2.1).below hb_ (H13.out.2.2.2.1).lt) (And.intro (Kd.C_below (H13.out.2.2.2.2.1) hb_) (And.intro (Kd.C_below (H13.out.2.2.2.2.2.1) hb_) (And.intro ((H13.out.2.2.2.2.2.2.1).below hb_ (H13.out.2.2.2.2.2.2.1).lt) (And.intro ((H13.out.2.2.2.2.2.2.2.1).below hb_ (H13.out.2.2.2.2.2.2.2.1).lt) (And.intro ((H13.out.2.2.2.2.2.2.2.2.1).below hb_ (H13.out.2.2.2.2.2.2.2.2.1).lt) (And.intro (Kd.C_below (H13.out.2.2.2.2.2.2.2.2.2.1) hb_) (And.intro (Kd.C_below (H13.out.2.2.2.2.2.2.2.2.2.2.1) hb_) (And.intro ((H13.out.2.2.2.2.2.2.2.2.2.2.2.1).below hb_ (H13.out.2.2.2.2.2.2.2.2.2.2.2.1).lt) (And.intro ((H13.out.2.2.2.2.2.2.2.2.2.2.2.2.1).below hb_ (H13.out.2.2.2.2.2.2.2.2.2.2.2.2.1).lt) (And.intro (Kd.C_below (H13.out.2.2.2.2.2.2.2.2.2.2.2.2.2.1) hb_) (And.intro (Kd.C_below (H13.out.2.2.2.2.2.2.2.2.2.2.2.2.2.2.1) hb_) (And.intro ((H13.out.2.2.2.2.2.2.2.2.2.2.2.2.2.2.2.1).below hb_ (H13.out.2.2.2.2.2.2.2.2.2.2.2.2.2.2.2.1).lt) (And.intro ((H13.out.2.2.2.2.2.2.2.2.2.2.2.2.2.2.2.2.1).below hb_ (H13.out.2.2.2.2.2.2.2.2.2.2.2.2.2.2.2.2.1).lt) ((H13.out.2.2.2.2.2.2.2.2.2.2.2.2.2.2.2.2.2).trans (hb_.mono (H13.out.2.2.2.2.2.2.2.2.2.2.2.2.2.2.2.2.2).size)))))))))))))))))))
  clear H13
  clear hb_
  go_wp2
  go_ret
  exact ⟨rfl, H14.out.2.2.2.2.2.2.2.2.2.2.2.2.2.2.2.2.2⟩
set_option maxRecDepth 100000 in
set_option maxHeartbeats 4000000 in
theorem ends_main2 (N by_ : Int) (s : List Int) (L : List R.S43) (A B : Option Addr) (c d : Nat) (w : World) (hT : TabOk w) (hs : Kd.C (Kd.int .u8) w A s.length s) (hc : s.length ≤ c) (hL : Kd.C R.k43 w B L.length L) (hd : L.length ≤ d) (m : Nat) (hN : (m : Int) = N) (hf : fewC s L = true) (hg : Good m s L) (hb0 : 0 ≤ by_) (hb1 : by_ < 65536) (hX : 4294967294 < N + 101 + by_) (hY : 4294967293 < N) :
    Calls Tryd.prog 9 #[.agg #[.int .i64 N, .slice A s.length c, .slice B L.length d], .int .u16 by_] w fun e w' => e = .returned (.bool true) ∧ Below w.heap.size w w' := by
  have hr : rightC N s L = true := by rw [← hN]; exact good_right hg
  have HF := Lib.hid hf
  have HR := Lib.hid hr
  have HG := Lib.hid (And.intro hg hN)
  have h1 : wrap64 (N + 101) = N + 101 := wrap_small _ _ (by omega) (by have := hg.1; omega)
  have h2 : wrap64 (N + 101 + by_) = N + 101 + by_ := wrap_small _ _ (by omega) (by have := hg.1; omega)
  obtain ⟨X, hXe⟩ : ∃ X, N + 101 + by_ = X := ⟨_, rfl⟩
  have hu : IntKind.i64.wrap by_ = by_ := IntWalk.i64_in _ ⟨by omega, by omega⟩
  rw [hXe] at hX
  have h2 : wrap64 (N + 101 + by_) = X := h2.trans hXe
  have ht : takeF m s L X = (m, s, L, R.z43, 1) := takeF_out m s L X (.inr hX)
  have d1 : decide (X ≤ 4294967294) = false := by rw [decide_eq_false_iff_not]; omega
  have d2 : decide (4294967294 < X) = true := by rw [decide_eq_true_eq]; omega
  have d3 : decide (4294967293 < N) = true := by rw [decide_eq_true_eq]; omega
  have HX := Lib.hid (And.intro ht (And.intro h1 (And.intro h2 hu)))
  have HXe := Lib.hid (And.intro hXe (show wrap64 X = X by have h3 := h2; rw [hXe] at h3; exact h3))
  clear hf hr hg hN hb0 hb1 hX hY ht h1 h2 hu hXe
  have HH := Lib.hid (And.intro hc hd)
  have H0 := Lib.hid (And.intro (hT) (And.intro (hs) (And.intro (hL) (Below.refl w.heap.size w))))
  clear hT hs hL hc hd
  go_enter Tryd.func9, Tryd.ntmps9
  go_wp2_with fail
  obtain ⟨r1_, r3_⟩ := one_box w #[.int .i64 N, .slice A s.length c, .slice B L.length d] 25
  have H1 := Lib.hid (And.intro ((H0.out.1).below r3_ (H0.out.1).1) (And.intro (Kd.C_below (H0.out.2.1) r3_) (And.intro (Kd.C_below (H0.out.2.2.1) r3_) (And.intro (r1_) ((H0.out.2.2.2).trans (r3_.mono (H0.out.2.2.2).size))))))
  clear H0
  generalize (w.alloc (Obj.cells #[.int .i64 N, .slice A s.length c, .slice B L.length d] 25)) = W1 at *
  clear r1_ r3_
  refine (shown13_calls W1 (H1.out.1)).mono ?_
  rintro e W2 ⟨rfl, hb_⟩
  have H2 := Lib.hid (And.intro ((H1.out.1).below hb_ (H1.out.1).1) (And.intro (Kd.C_below (H1.out.2.1) hb_) (And.intro (Kd.C_below (H1.out.2.2.1) hb_) (And.intro ((H1.out.2.2.2.1).below hb_ (H1.out.2.2.2.1).lt) ((H1.out.2.2.2.2).trans (hb_.mono (H1.out.2.2.2.2).size))))))
  clear H1
  clear hb_
  have c_0 : W2.cell? ⟨w.heap.size, 0, none⟩ = some (.int .i64 N) := (H2.out.2.2.2.1).cell 0
  have c_1 : W2.cell? ⟨w.heap.size, 1, none⟩ = some (.slice A s.length c) := (H2.out.2.2.2.1).cell 1
  have c_2 : W2.cell? ⟨w.heap.size, 2, none⟩ = some (.slice B L.length d) := (H2.out.2.2.2.1).cell 2
  go_wp2_with fail
  clear c_0 c_1 c_2
  refine (R.pyxref13_Few.calls 50 N A c s B d L true W2 (H2.out.2.1) HH.out.1 (H2.out.2.2.1) HH.out.2 (by rw [few_some _ _ _ 50 (by decide), HF.out])).mono ?_
  rintro e W3 ⟨rfl, hb_⟩
  have H3 := Lib.hid (And.intro ((H2.out.1).below hb_ (H2.out.1).1) (And.intro (Kd.C_below (H2.out.2.1) hb_) (And.intro (Kd.C_below (H2.out.2.2.1) hb_) (And.intro ((H2.out.2.2.2.1).below hb_ (H2.out.2.2.2.1).lt) ((H2.out.2.2.2.2).trans (hb_.mono (H2.out.2.2.2.2).size))))))
  clear H2
  clear hb_
  have c_0 : W3.cell? ⟨w.heap.size, 0, none⟩ = some (.int .i64 N) := (H3.out.2.2.2.1).cell 0
  have c_1 : W3.cell? ⟨w.heap.size, 1, none⟩ = some (.slice A s.length c) := (H3.out.2.2.2.1).cell 1
  have c_2 : W3.cell? ⟨w.heap.size, 2, none⟩ = some (.slice B L.length d) := (H3.out.2.2.2.1).cell 2
  go_wp2_with fail
  clear c_0 c_1 c_2
  refine (R.pyxref13_Right.calls 40 N A c s B d L true W3 (H3.out.2.1) HH.out.1 (H3.out.2.2.1) HH.out.2 (by rw [refRight_some _ _ _ 40 (by decide), HR.out])).mono ?_
  rintro e W4 ⟨rfl, hb_⟩
  have H4 := Lib.hid (And.intro ((H3.out.1).below hb_ (H3.out.1).1) (And.intro (Kd.C_below (H3.out.2.1) hb_) (And.intro (Kd.C_below (H3.out.2.2.1) hb_) (And.intro ((H3.out.2.2.2.1).below hb_ (H3.out.2.2.2.1).lt) ((H3.out.2.2.2.2).trans (hb_.mono (H3.out.2.2.2.2).size))))))
  clear H3
  clear hb_
  obtain ⟨-, h1, h2, hu⟩ := HX.out
  have c_0 : W4.cell? ⟨w.heap.size, 0, none⟩ = some (.int .i64 N) := (H4.out.2.2.2.1).cell 0
  have c_1 : W4.cell? ⟨w.heap.size, 1, none⟩ = some (.slice A s.length c) := (H4.out.2.2.2.1).cell 1
  have c_2 : W4.cell? ⟨w.heap.size, 2, none⟩ = some (.slice B L.length d) := (H4.out.2.2.2.1).cell 2
  go_wp2_with fail
  clear c_0 c_1 c_2
  clear h1 h2 hu
  rw [HXe.out.1]
  rw [HXe.out.2]
  refine (take_any m N X HG.out.2 A s c B L d W4 m N s L R.z43 1 HX.out.1 HG.out.2 HG.out.1 (H4.out.2.1) HH.out.1 (H4.out.2.2.1) HH.out.2).mono ?_
  rintro e W5 ⟨Ax, cx, Bx, dx, Ak, ck, An, cn, rfl, q1_, q2_, q3_, q4_, -, -, -, -, hb_⟩
  have H5 := Lib.hid (And.intro ((H4.out.1).below hb_ (H4.out.1).1) (And.intro (Kd.C_below (H4.out.2.1) hb_) (And.intro (Kd.C_below (H4.out.2.2.1) hb_) (And.intro ((H4.out.2.2.2.1).below hb_ (H4.out.2.2.2.1).lt) (And.intro (q2_) (And.intro (q4_) ((H4.out.2.2.2.2).trans (hb_.mono (H4.out.2.2.2.2).size))))))))
  clear H4
  clear hb_
  have HQ := Lib.hid (And.intro q1_ q3_)
  clear q1_ q2_ q3_ q4_
  rw [show R.z43.f0 = 0 from rfl, show R.z43.f1.length = 0 from rfl, show R.z43.f2.length = 0 from rfl]
  go_upto_region 6 with fail
  obtain ⟨r1_, r2_, r3_, r4_⟩ := two_boxes W5 #[.int .i64 N, .slice Ax s.length cx, .slice Bx L.length dx] #[.int .i64 0, .slice Ak 0 ck, .slice An 0 cn] 25 43
  have H6 := Lib.hid (And.intro ((H5.out.1).below r3_ (H5.out.1).1) (And.intro (Kd.C_below (H5.out.2.1) r3_) (And.intro (Kd.C_below (H5.out.2.2.1) r3_) (And.intro ((H5.out.2.2.2.1).below r3_ (H5.out.2.2.2.1).lt) (And.intro (Kd.C_below (H5.out.2.2.2.2.1) r3_) (And.intro (Kd.C_below (H5.out.2.2.2.2.2.1) r3_) (And.intro (r1_) (And.intro (r2_) ((H5.out.2.2.2.2.2.2).trans (r3_.mono (H5.out.2.2.2.2.2.2).size))))))))))
  clear H5
  generalize ((W5.alloc (Obj.cells #[.int .i64 N, .slice Ax s.length cx, .slice Bx L.length dx] 25)).alloc (Obj.cells #[.int .i64 0, .slice Ak 0 ck, .slice An 0 cn] 43)) = W6 at *
  obtain ⟨g6, hg6⟩ : ∃ g, W5.heap.size = g := ⟨_, rfl⟩
  rw [hg6] at H6 ⊢
  clear hg6 r1_ r3_ r2_ r4_
  have x_0 : W6.cell? ⟨g6, 0, none⟩ = some (.int .i64 N) := (H6.out.2.2.2.2.2.2.1).cell 0
  have x_1 : W6.cell? ⟨g6, 1, none⟩ = some (.slice Ax s.length cx) := (H6.out.2.2.2.2.2.2.1).cell 1
  have x_2 : W6.cell? ⟨g6, 2, none⟩ = some (.slice Bx L.length dx) := (H6.out.2.2.2.2.2.2.1).cell 2
  have c_0 : W6.cell? ⟨w.heap.size, 0, none⟩ = some (.int .i64 N) := (H6.out.2.2.2.1).cell 0
  have c_1 : W6.cell? ⟨w.heap.size, 1, none⟩ = some (.slice A s.length c) := (H6.out.2.2.2.1).cell 1
  have c_2 : W6.cell? ⟨w.heap.size, 2, none⟩ = some (.slice B L.length d) := (H6.out.2.2.2.1).cell 2
  go_wp2_with fail
  clear x_0 x_1 x_2 c_0 c_1 c_2
  refine (R.pyxref13_Same.calls 110 N Ax cx s Bx dx L N A c s B d L true W6 (H6.out.2.2.2.2.1) HQ.out.1 (H6.out.2.2.2.2.2.1) HQ.out.2 (H6.out.2.1) HH.out.1 (H6.out.2.2.1) HH.out.2 (by rw [refSame_some _ _ _ _ _ _ HG.out.1.2.2.1 HG.out.1.2.2.1 HG.out.1.2.2.2.2.1 HG.out.1.2.2.2.2.1 (by have := HG.out.1.2.2.2.1; omega) 110 (by decide), sameC_refl])).mono ?_
  rintro e W7 ⟨rfl, hb_⟩
  have H7 := Lib.hid (And.intro ((H6.out.1).below hb_ (H6.out.1).1) (And.intro (Kd.C_below (H6.out.2.1) hb_) (And.intro (Kd.C_below (H6.out.2.2.1) hb_) (And.intro ((H6.out.2.2.2.1).below hb_ (H6.out.2.2.2.1).lt) (And.intro (Kd.C_below (H6.out.2.2.2.2.1) hb_) (And.intro (Kd.C_below (H6.out.2.2.2.2.2.1) hb_) (And.intro ((H6.out.2.2.2.2.2.2.1).below hb_ (H6.out.2.2.2.2.2.2.1).lt) (And.intro ((H6.out.2.2.2.2.2.2.2.1).below hb_ (H6.out.2.2.2.2.2.2.2.1).lt) ((H6.out.2.2.2.2.2.2.2.2).trans (hb_.mono (H6.out.2.2.2.2.2.2.2.2).size))))))))))
  clear H6
  clear hb_
  have l_1 : W7.cell? ⟨g6 + 1, 1, none⟩ = some (.slice Ak 0 ck) := (H7.out.2.2.2.2.2.2.2.1).cell 1
  have c_0 : W7.cell? ⟨w.heap.size, 0, none⟩ = some (.int .i64 N) := (H7.out.2.2.2.1).cell 0
  go_wp2
  go_ret
  exact ⟨rfl, H7.out.2.2.2.2.2.2.2.2⟩
theorem ends_calls (N by_ : Int) (s : List Int) (L : List R.S43) (A B : Option Addr) (c d : Nat) (w : World) (hT : TabOk w) (hs : Kd.C (Kd.int .u8) w A s.length s) (hc : s.length ≤ c) (hL : Kd.C R.k43 w B L.length L) (hd : L.length ≤ d) (os : byteOk s = true) (oL : locksOk L) (hb0 : 0 ≤ by_) (hb1 : by_ < 65536) :
    Calls Tryd.prog 9 #[.agg #[.int .i64 N, .slice A s.length c, .slice B L.length d], .int .u16 by_] w fun e w' => e = .returned (.bool true) ∧ Below w.heap.size w w' := by
  cases hf : fewC s L with
  | false => exact ends_few N by_ s L A B c d w hT hs hc hL hd hf
  | true =>
    cases hr : rightC N s L with
    | false => exact ends_right N by_ s L A B c d w hT hs hc hL hd hf hr
    | true =>
      obtain ⟨m, hN, hg⟩ := good_of_right hr os oL
      by_cases hX : N + 101 + by_ ≤ 4294967294
      · exact ends_main0 N by_ s L A B c d w hT hs hc hL hd m hN.symm hf hg hb0 hb1 hX (by omega)
      · by_cases hY : N ≤ 4294967293
        · exact ends_main1 N by_ s L A B c d w hT hs hc hL hd m hN.symm hf hg hb0 hb1 (by omega) hY
        · exact ends_main2 N by_ s L A B c d w hT hs hc hL hd m hN.symm hf hg hb0 hb1 (by omega) (by omega)
end Go.Proofs.YtdklmafkcbjomaaDoor
