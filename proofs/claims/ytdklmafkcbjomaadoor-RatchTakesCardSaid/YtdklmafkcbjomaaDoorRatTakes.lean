/-
  Walk: pyxlaw13.RatchTakes.
-/
import Derived.Test.YtdklmafkcbjomaaDoorY7
namespace Go.Proofs.YtdklmafkcbjomaaDoor
set_option linter.unusedVariables false
set_option linter.unusedSimpArgs false
open Go.RowKit Go.Shelf Go.Proofs.YtdklmafkcbjomaaDoorW.PrintWords Go.Proofs.YtdklmafkcbjomaaDoorW.PrintLast Go.Proofs.YtdklmafkcbjomaaDoorW.PrintMore Iter
attribute [local go_sem] Oper.semAt_some

theorem one_box (W : World) (cs : Array Value) (t : TypeId) : Blk (W.alloc (.cells cs t)) W.heap.size t cs ∧ Below W.heap.size W (W.alloc (.cells cs t)) := ⟨Blk.new W t cs, (Below.refl _ W).alloc (Nat.le_refl _) _⟩
set_option maxRecDepth 100000 in
set_option maxHeartbeats 4000000 in
theorem takes_few (N X : Int) (s : List Int) (L : List R.S43) (A B : Option Addr) (c d : Nat) (w : World) (hT : TabOk w) (hs : Kd.C (Kd.int .u8) w A s.length s) (hc : s.length ≤ c) (hL : Kd.C R.k43 w B L.length L) (hd : L.length ≤ d) (hf : fewC s L = false) :
    Calls Tryd.prog 4 #[.agg #[.int .i64 N, .slice A s.length c, .slice B L.length d], .int .i64 X] w fun e w' => e = .returned (.bool true) ∧ Below w.heap.size w w' := by
  have HF := Lib.hid hf
  clear hf
  have HH := Lib.hid (And.intro hc hd)
  have H0 := Lib.hid (And.intro (hT) (And.intro (hs) (And.intro (hL) (Below.refl w.heap.size w))))
  clear hT hs hL hc hd
  go_enter Tryd.func4, Tryd.ntmps4
  go_wp2_with fail
  obtain ⟨r1_, r3_⟩ := one_box w #[.int .i64 N, .slice A s.length c, .slice B L.length d] 25
  have H1 := Lib.hid (And.intro ((H0.out.1).below r3_ (H0.out.1).1) (And.intro (Kd.C_below (H0.out.2.1) r3_) (And.intro (Kd.C_below (H0.out.2.2.1) r3_) (And.intro (r1_) ((H0.out.2.2.2).trans (r3_.mono (H0.out.2.2.2).size))))))
  clear H0
  generalize (w.alloc (Obj.cells #[.int .i64 N, .slice A s.length c, .slice B L.length d] 25)) = W1 at *
  clear r1_ r3_
  refine (shown13_calls W1 (H1.out.1)).mono ?_
  rintro e W2 ⟨rfl, hb_⟩
  have H2 := Lib.hid (And.intro ((H1.out.1).below hb_ (H1.out.1).1) (And.intro (Kd.C_below (H1.out.2.1) hb_) (And.intro (Kd.C_below (H1.out.2.2.1) hb_) (And.intro ((H1.out.2.2.2.1).below hb_ (H1.out.2.2.2.1).lt) ((H1.out.2.2.2.2).trans (hb_.mono (H1.out.2.2.2.2).size))))))
  clear H1
  clear hb_
  have c_0 : W2.cell? ⟨w.heap.size, 0, none⟩ = some (.int .i64 N) := (H2.out.2.2.2.1).cell 0
  have c_1 : W2.cell? ⟨w.heap.size, 1, none⟩ = some (.slice A s.length c) := (H2.out.2.2.2.1).cell 1
  have c_2 : W2.cell? ⟨w.heap.size, 2, none⟩ = some (.slice B L.length d) := (H2.out.2.2.2.1).cell 2
  go_wp2_with fail
  clear c_0 c_1 c_2
  refine (R.pyxref13_Few.calls 50 N A c s B d L false W2 (H2.out.2.1) HH.out.1 (H2.out.2.2.1) HH.out.2 (by rw [few_some _ _ _ 50 (by decide), HF.out])).mono ?_
  rintro e W3 ⟨rfl, hb_⟩
  have H3 := Lib.hid (And.intro ((H2.out.1).below hb_ (H2.out.1).1) (And.intro (Kd.C_below (H2.out.2.1) hb_) (And.intro (Kd.C_below (H2.out.2.2.1) hb_) (And.intro ((H2.out.2.2.2.1).below hb_ (H2.out.2.2.2.1).lt) ((H2.out.2.2.2.2).trans (hb_.mono (H2.out.2.2.2.2).size))))))
  clear H2
  clear hb_
  go_wp2
  go_ret
  exact ⟨rfl, H3.out.2.2.2.2⟩
set_option maxRecDepth 100000 in
set_option maxHeartbeats 4000000 in
theorem takes_right (N X : Int) (s : List Int) (L : List R.S43) (A B : Option Addr) (c d : Nat) (w : World) (hT : TabOk w) (hs : Kd.C (Kd.int .u8) w A s.length s) (hc : s.length ≤ c) (hL : Kd.C R.k43 w B L.length L) (hd : L.length ≤ d) (hf : fewC s L = true) (hr : rightC N s L = false) :
    Calls Tryd.prog 4 #[.agg #[.int .i64 N, .slice A s.length c, .slice B L.length d], .int .i64 X] w fun e w' => e = .returned (.bool true) ∧ Below w.heap.size w w' := by
  have HF := Lib.hid hf
  have HR := Lib.hid hr
  clear hf hr
  have HH := Lib.hid (And.intro hc hd)
  have H0 := Lib.hid (And.intro (hT) (And.intro (hs) (And.intro (hL) (Below.refl w.heap.size w))))
  clear hT hs hL hc hd
  go_enter Tryd.func4, Tryd.ntmps4
  go_wp2_with fail
  obtain ⟨r1_, r3_⟩ := one_box w #[.int .i64 N, .slice A s.length c, .slice B L.length d] 25
  have H1 := Lib.hid (And.intro ((H0.out.1).below r3_ (H0.out.1).1) (And.intro (Kd.C_below (H0.out.2.1) r3_) (And.intro (Kd.C_below (H0.out.2.2.1) r3_) (And.intro (r1_) ((H0.out.2.2.2).trans (r3_.mono (H0.out.2.2.2).size))))))
  clear H0
  generalize (w.alloc (Obj.cells #[.int .i64 N, .slice A s.length c, .slice B L.length d] 25)) = W1 at *
  clear r1_ r3_
  refine (shown13_calls W1 (H1.out.1)).mono ?_
  rintro e W2 ⟨rfl, hb_⟩
  have H2 := Lib.hid (And.intro ((H1.out.1).below hb_ (H1.out.1).1) (And.intro (Kd.C_below (H1.out.2.1) hb_) (And.intro (Kd.C_below (H1.out.2.2.1) hb_) (And.intro ((H1.out.2.2.2.1).below hb_ (H1.out.2.2.2.1).lt) ((H1.out.2.2.2.2).trans (hb_.mono (H1.out.2.2.2.2).size))))))
  clear H1
  clear hb_
  have c_0 : W2.cell? ⟨w.heap.size, 0, none⟩ = some (.int .i64 N) := (H2.out.2.2.2.1).cell 0
  have c_1 : W2.cell? ⟨w.heap.size, 1, none⟩ = some (.slice A s.length c) := (H2.out.2.2.2.1).cell 1
  have c_2 : W2.cell? ⟨w.heap.size, 2, none⟩ = some (.slice B L.length d) := (H2.out.2.2.2.1).cell 2
  go_wp2_with fail
  clear c_0 c_1 c_2
  refine (R.pyxref13_Few.calls 50 N A c s B d L true W2 (H2.out.2.1) HH.out.1 (H2.out.2.2.1) HH.out.2 (by rw [few_some _ _ _ 50 (by decide), HF.out])).mono ?_
  rintro e W3 ⟨rfl, hb_⟩
  have H3 := Lib.hid (And.intro ((H2.out.1).below hb_ (H2.out.1).1) (And.intro (Kd.C_below (H2.out.2.1) hb_) (And.intro (Kd.C_below (H2.out.2.2.1) hb_) (And.intro ((H2.out.2.2.2.1).below hb_ (H2.out.2.2.2.1).lt) ((H2.out.2.2.2.2).trans (hb_.mono (H2.out.2.2.2.2).size))))))
  clear H2
  clear hb_
  have c_0 : W3.cell? ⟨w.heap.size, 0, none⟩ = some (.int .i64 N) := (H3.out.2.2.2.1).cell 0
  have c_1 : W3.cell? ⟨w.heap.size, 1, none⟩ = some (.slice A s.length c) := (H3.out.2.2.2.1).cell 1
  have c_2 : W3.cell? ⟨w.heap.size, 2, none⟩ = some (.slice B L.length d) := (H3.out.2.2.2.1).cell 2
  go_wp2_with fail
  clear c_0 c_1 c_2
  refine (R.pyxref13_Right.calls 40 N A c s B d L false W3 (H3.out.2.1) HH.out.1 (H3.out.2.2.1) HH.out.2 (by rw [refRight_some _ _ _ 40 (by decide), HR.out])).mono ?_
  rintro e W4 ⟨rfl, hb_⟩
  have H4 := Lib.hid (And.intro ((H3.out.1).below hb_ (H3.out.1).1) (And.intro (Kd.C_below (H3.out.2.1) hb_) (And.intro (Kd.C_below (H3.out.2.2.1) hb_) (And.intro ((H3.out.2.2.2.1).below hb_ (H3.out.2.2.2.1).lt) ((H3.out.2.2.2.2).trans (hb_.mono (H3.out.2.2.2.2).size))))))
  clear H3
  clear hb_
  go_wp2
  go_ret
  exact ⟨rfl, H4.out.2.2.2.2⟩
set_option maxRecDepth 100000 in
set_option maxHeartbeats 4000000 in
theorem takes_main (N X : Int) (s : List Int) (L : List R.S43) (A B : Option Addr) (c d : Nat) (w : World) (hT : TabOk w) (hs : Kd.C (Kd.int .u8) w A s.length s) (hc : s.length ≤ c) (hL : Kd.C R.k43 w B L.length L) (hd : L.length ≤ d) (m : Nat) (hN : (m : Int) = N) (hf : fewC s L = true) (hg : Good m s L) :
    Calls Tryd.prog 4 #[.agg #[.int .i64 N, .slice A s.length c, .slice B L.length d], .int .i64 X] w fun e w' => e = .returned (.bool true) ∧ Below w.heap.size w w' := by
  have hr : rightC N s L = true := by rw [← hN]; exact good_right hg
  have HF := Lib.hid hf
  have HR := Lib.hid hr
  have HG := Lib.hid (And.intro hg hN)
  have hg2 := good_takeF hg X
  obtain ⟨⟨n2, t, M, x, er⟩, ht⟩ : ∃ r, takeF m s L X = r := ⟨_, rfl⟩
  rw [ht] at hg2
  dsimp only at hg2
  obtain ⟨N2, hN2⟩ : ∃ N2, (n2 : Int) = N2 := ⟨_, rfl⟩
  have HX := Lib.hid (And.intro ht (And.intro hN2 hg2))
  clear hf hr hg hN ht hN2 hg2
  have HH := Lib.hid (And.intro hc hd)
  have H0 := Lib.hid (And.intro (hT) (And.intro (hs) (And.intro (hL) (Below.refl w.heap.size w))))
  clear hT hs hL hc hd
  go_enter Tryd.func4, Tryd.ntmps4
  go_wp2_with fail
  obtain ⟨r1_, r3_⟩ := one_box w #[.int .i64 N, .slice A s.length c, .slice B L.length d] 25
  have H1 := Lib.hid (And.intro ((H0.out.1).below r3_ (H0.out.1).1) (And.intro (Kd.C_below (H0.out.2.1) r3_) (And.intro (Kd.C_below (H0.out.2.2.1) r3_) (And.intro (r1_) ((H0.out.2.2.2).trans (r3_.mono (H0.out.2.2.2).size))))))
  clear H0
  generalize (w.alloc (Obj.cells #[.int .i64 N, .slice A s.length c, .slice B L.length d] 25)) = W1 at *
  clear r1_ r3_
  refine (shown13_calls W1 (H1.out.1)).mono ?_
  rintro e W2 ⟨rfl, hb_⟩
  have H2 := Lib.hid (And.intro ((H1.out.1).below hb_ (H1.out.1).1) (And.intro (Kd.C_below (H1.out.2.1) hb_) (And.intro (Kd.C_below (H1.out.2.2.1) hb_) (And.intro ((H1.out.2.2.2.1).below hb_ (H1.out.2.2.2.1).lt) ((H1.out.2.2.2.2).trans (hb_.mono (H1.out.2.2.2.2).size))))))
  clear H1
  clear hb_
  have c_0 : W2.cell? ⟨w.heap.size, 0, none⟩ = some (.int .i64 N) := (H2.out.2.2.2.1).cell 0
  have c_1 : W2.cell? ⟨w.heap.size, 1, none⟩ = some (.slice A s.length c) := (H2.out.2.2.2.1).cell 1
  have c_2 : W2.cell? ⟨w.heap.size, 2, none⟩ = some (.slice B L.length d) := (H2.out.2.2.2.1).cell 2
  go_wp2_with fail
  clear c_0 c_1 c_2
  refine (R.pyxref13_Few.calls 50 N A c s B d L true W2 (H2.out.2.1) HH.out.1 (H2.out.2.2.1) HH.out.2 (by rw [few_some _ _ _ 50 (by decide), HF.out])).mono ?_
  rintro e W3 ⟨rfl, hb_⟩
  have H3 := Lib.hid (And.intro ((H2.out.1).below hb_ (H2.out.1).1) (And.intro (Kd.C_below (H2.out.2.1) hb_) (And.intro (Kd.C_below (H2.out.2.2.1) hb_) (And.intro ((H2.out.2.2.2.1).below hb_ (H2.out.2.2.2.1).lt) ((H2.out.2.2.2.2).trans (hb_.mono (H2.out.2.2.2.2).size))))))
  clear H2
  clear hb_
  have c_0 : W3.cell? ⟨w.heap.size, 0, none⟩ = some (.int .i64 N) := (H3.out.2.2.2.1).cell 0
  have c_1 : W3.cell? ⟨w.heap.size, 1, none⟩ = some (.slice A s.length c) := (H3.out.2.2.2.1).cell 1
  have c_2 : W3.cell? ⟨w.heap.size, 2, none⟩ = some (.slice B L.length d) := (H3.out.2.2.2.1).cell 2
  go_wp2_with fail
  clear c_0 c_1 c_2
  refine (R.pyxref13_Right.calls 40 N A c s B d L true W3 (H3.out.2.1) HH.out.1 (H3.out.2.2.1) HH.out.2 (by rw [refRight_some _ _ _ 40 (by decide), HR.out])).mono ?_
  rintro e W4 ⟨rfl, hb_⟩
  have H4 := Lib.hid (And.intro ((H3.out.1).below hb_ (H3.out.1).1) (And.intro (Kd.C_below (H3.out.2.1) hb_) (And.intro (Kd.C_below (H3.out.2.2.1) hb_) (And.intro ((H3.out.2.2.2.1).below hb_ (H3.out.2.2.2.1).lt) ((H3.out.2.2.2.2).trans (hb_.mono (H3.out.2.2.2.2).size))))))
  clear H3
  clear hb_
  have c_0 : W4.cell? ⟨w.heap.size, 0, none⟩ = some (.int .i64 N) := (H4.out.2.2.2.1).cell 0
  have c_1 : W4.cell? ⟨w.heap.size, 1, none⟩ = some (.slice A s.length c) := (H4.out.2.2.2.1).cell 1
  have c_2 : W4.cell? ⟨w.heap.size, 2, none⟩ = some (.slice B L.length d) := (H4.out.2.2.2.1).cell 2
  go_wp2_with fail
  clear c_0 c_1 c_2
  refine (take_any m N X HG.out.2 A s c B L d W4 n2 N2 t M x er HX.out.1 HX.out.2.1 HG.out.1 (H4.out.2.1) HH.out.1 (H4.out.2.2.1) HH.out.2).mono ?_
  rintro e W5 ⟨Ax, cx, Bx, dx, Ak, ck, An, cn, rfl, q1_, q2_, q3_, q4_, q5_, q6_, q7_, q8_, hb_⟩
  have H5 := Lib.hid (And.intro ((H4.out.1).below hb_ (H4.out.1).1) (And.intro (Kd.C_below (H4.out.2.1) hb_) (And.intro (Kd.C_below (H4.out.2.2.1) hb_) (And.intro ((H4.out.2.2.2.1).below hb_ (H4.out.2.2.2.1).lt) (And.intro (q2_) (And.intro (q4_) (And.intro (q6_) (And.intro (q8_) ((H4.out.2.2.2.2).trans (hb_.mono (H4.out.2.2.2.2).size))))))))))
  clear H4
  clear hb_
  have HQ := Lib.hid (And.intro q1_ (And.intro q3_ (And.intro q5_ q7_)))
  clear q1_ q2_ q3_ q4_ q5_ q6_ q7_ q8_
  go_upto_region 5 with fail
  obtain ⟨r1_, r2_, r3_, r4_⟩ := two_boxes W5 #[.int .i64 N2, .slice Ax t.length cx, .slice Bx M.length dx] #[.int .i64 x.f0, .slice Ak x.f1.length ck, .slice An x.f2.length cn] 25 43
  have H6 := Lib.hid (And.intro ((H5.out.1).below r3_ (H5.out.1).1) (And.intro (Kd.C_below (H5.out.2.1) r3_) (And.intro (Kd.C_below (H5.out.2.2.1) r3_) (And.intro ((H5.out.2.2.2.1).below r3_ (H5.out.2.2.2.1).lt) (And.intro (Kd.C_below (H5.out.2.2.2.2.1) r3_) (And.intro (Kd.C_below (H5.out.2.2.2.2.2.1) r3_) (And.intro (Kd.C_below (H5.out.2.2.2.2.2.2.1) r3_) (And.intro (Kd.C_below (H5.out.2.2.2.2.2.2.2.1) r3_) (And.intro (r1_) (And.intro (r2_) ((H5.out.2.2.2.2.2.2.2.2).trans (r3_.mono (H5.out.2.2.2.2.2.2.2.2).size))))))))))))
  clear H5
  generalize ((W5.alloc (Obj.cells #[.int .i64 N2, .slice Ax t.length cx, .slice Bx M.length dx] 25)).alloc (Obj.cells #[.int .i64 x.f0, .slice Ak x.f1.length ck, .slice An x.f2.length cn] 43)) = W6 at *
  obtain ⟨g6, hg6⟩ : ∃ g, W5.heap.size = g := ⟨_, rfl⟩
  rw [hg6] at H6 ⊢
  clear hg6 r1_ r3_ r2_ r4_
  have c_0 : W6.cell? ⟨w.heap.size, 0, none⟩ = some (.int .i64 N) := (H6.out.2.2.2.1).cell 0
  have c_1 : W6.cell? ⟨w.heap.size, 1, none⟩ = some (.slice A s.length c) := (H6.out.2.2.2.1).cell 1
  have c_2 : W6.cell? ⟨w.heap.size, 2, none⟩ = some (.slice B L.length d) := (H6.out.2.2.2.1).cell 2
  go_wp2_with fail
  clear c_0 c_1 c_2
  refine (refTake_any m N X HG.out.2 A s c B L d W6 n2 N2 t M x er HX.out.1 HX.out.2.1 HG.out.1 (H6.out.2.1) HH.out.1 (H6.out.2.2.1) HH.out.2).mono ?_
  rintro e W7 ⟨Ay, cy, By, dy, Am, cm, Ao, co, rfl, q1_, q2_, q3_, q4_, q5_, q6_, q7_, q8_, hb_⟩
  have H7 := Lib.hid (And.intro ((H6.out.1).below hb_ (H6.out.1).1) (And.intro (Kd.C_below (H6.out.2.1) hb_) (And.intro (Kd.C_below (H6.out.2.2.1) hb_) (And.intro ((H6.out.2.2.2.1).below hb_ (H6.out.2.2.2.1).lt) (And.intro (Kd.C_below (H6.out.2.2.2.2.1) hb_) (And.intro (Kd.C_below (H6.out.2.2.2.2.2.1) hb_) (And.intro (Kd.C_below (H6.out.2.2.2.2.2.2.1) hb_) (And.intro (Kd.C_below (H6.out.2.2.2.2.2.2.2.1) hb_) (And.intro ((H6.out.2.2.2.2.2.2.2.2.1).below hb_ (H6.out.2.2.2.2.2.2.2.2.1).lt) (And.intro ((H6.out.2.2.2.2.2.2.2.2.2.1).below hb_ (H6.out.2.2.2.2.2.2.2.2.2.1).lt) (And.intro (q2_) (And.intro (q4_) (And.intro (q6_) (And.intro (q8_) ((H6.out.2.2.2.2.2.2.2.2.2.2).trans (hb_.mono (H6.out.2.2.2.2.2.2.2.2.2.2).size))))))))))))))))
  clear H6
  clear hb_
  have HP := Lib.hid (And.intro q1_ (And.intro q3_ (And.intro q5_ q7_)))
  clear q1_ q2_ q3_ q4_ q5_ q6_ q7_ q8_
  go_upto_region 6 with fail
  obtain ⟨r1_, r2_, r3_, r4_⟩ := two_boxes W7 #[.int .i64 N2, .slice Ay t.length cy, .slice By M.length dy] #[.int .i64 x.f0, .slice Am x.f1.length cm, .slice Ao x.f2.length co] 25 43
  have H8 := Lib.hid (And.intro ((H7.out.1).below r3_ (H7.out.1).1) (And.intro (Kd.C_below (H7.out.2.1) r3_) (And.intro (Kd.C_below (H7.out.2.2.1) r3_) (And.intro ((H7.out.2.2.2.1).below r3_ (H7.out.2.2.2.1).lt) (And.intro (Kd.C_below (H7.out.2.2.2.2.1) r3_) (And.intro (Kd.C_below (H7.out.2.2.2.2.2.1) r3_) (And.intro (Kd.C_below (H7.out.2.2.2.2.2.2.1) r3_) (And.intro (Kd.C_below (H7.out.2.2.2.2.2.2.2.1) r3_) (And.intro ((H7.out.2.2.2.2.2.2.2.2.1).below r3_ (H7.out.2.2.2.2.2.2.2.2.1).lt) (And.intro ((H7.out.2.2.2.2.2.2.2.2.2.1).below r3_ (H7.out.2.2.2.2.2.2.2.2.2.1).lt) (And.intro (Kd.C_below (H7.out.2.2.2.2.2.2.2.2.2.2.1) r3_) (And.intro (Kd.C_below (H7.out.2.2.2.2.2.2.2.2.2.2.2.1) r3_) (And.intro (Kd.C_below (H7.out.2.2.2.2.2.2.2.2.2.2.2.2.1) r3_) (And.intro (Kd.C_below (H7.out.2.2.2.2.2.2.2.2.2.2.2.2.2.1) r3_) (And.intro (r1_) (And.intro (r2_) ((H7.out.2.2.2.2.2.2.2.2.2.2.2.2.2.2).trans (r3_.mono (H7.out.2.2.2.2.2.2.2.2.2.2.2.2.2.2).size))))))))))))))))))
  clear H7
  generalize ((W7.alloc (Obj.cells #[.int .i64 N2, .slice Ay t.length cy, .slice By M.length dy] 25)).alloc (Obj.cells #[.int .i64 x.f0, .slice Am x.f1.length cm, .slice Ao x.f2.length co] 43)) = W8 at *
  obtain ⟨g8, hg8⟩ : ∃ g, W7.heap.size = g := ⟨_, rfl⟩
  rw [hg8] at H8 ⊢
  clear hg8 r1_ r3_ r2_ r4_
  have x_0 : W8.cell? ⟨g6, 0, none⟩ = some (.int .i64 N2) := (H8.out.2.2.2.2.2.2.2.2.1).cell 0
  have x_1 : W8.cell? ⟨g6, 1, none⟩ = some (.slice Ax t.length cx) := (H8.out.2.2.2.2.2.2.2.2.1).cell 1
  have x_2 : W8.cell? ⟨g6, 2, none⟩ = some (.slice Bx M.length dx) := (H8.out.2.2.2.2.2.2.2.2.1).cell 2
  have y_0 : W8.cell? ⟨g8, 0, none⟩ = some (.int .i64 N2) := (H8.out.2.2.2.2.2.2.2.2.2.2.2.2.2.2.1).cell 0
  have y_1 : W8.cell? ⟨g8, 1, none⟩ = some (.slice Ay t.length cy) := (H8.out.2.2.2.2.2.2.2.2.2.2.2.2.2.2.1).cell 1
  have y_2 : W8.cell? ⟨g8, 2, none⟩ = some (.slice By M.length dy) := (H8.out.2.2.2.2.2.2.2.2.2.2.2.2.2.2.1).cell 2
  go_wp2_with fail
  clear x_0 x_1 x_2 y_0 y_1 y_2
  refine (R.pyxref13_Same.calls 110 N2 Ax cx t Bx dx M N2 Ay cy t By dy M true W8 (H8.out.2.2.2.2.1) HQ.out.1 (H8.out.2.2.2.2.2.1) HQ.out.2.1 (H8.out.2.2.2.2.2.2.2.2.2.2.1) HP.out.1 (H8.out.2.2.2.2.2.2.2.2.2.2.2.1) HP.out.2.1 (by rw [refSame_some _ _ _ _ _ _ HX.out.2.2.1.2.2.1 HX.out.2.2.1.2.2.1 HX.out.2.2.1.2.2.2.2.1 HX.out.2.2.1.2.2.2.2.1 (by have := HX.out.2.2.1.2.2.2.1; omega) 110 (by decide), sameC_refl])).mono ?_
  rintro e W9 ⟨rfl, hb_⟩
  have H9 := Lib.hid (And.intro ((H8.out.1).below hb_ (H8.out.1).1) (And.intro (Kd.C_below (H8.out.2.1) hb_) (And.intro (Kd.C_below (H8.out.2.2.1) hb_) (And.intro ((H8.out.2.2.2.1).below hb_ (H8.out.2.2.2.1).lt) (And.intro (Kd.C_below (H8.out.2.2.2.2.1) hb_) (And.intro (Kd.C_below (H8.out.2.2.2.2.2.1) hb_) (And.intro (Kd.C_below (H8.out.2.2.2.2.2.2.1) hb_) (And.intro (Kd.C_below (H8.out.2.2.2.2.2.2.2.1) hb_) (And.intro ((H8.out.2.2.2.2.2.2.2.2.1).below hb_ (H8.out.2.2.2.2.2.2.2.2.1).lt) (And.intro ((H8.out.2.2.2.2.2.2.2.2.2.1).below hb_ (H8.out.2.2.2.2.2.2.2.2.2.1).lt) (And.intro (Kd.C_below (H8.out.2.2.2.2.2.2.2.2.2.2.1) hb_) (And.intro (Kd.C_below (H8.out.2.2.2.2.2.2.2.2.2.2.2.1) hb_) (And.intro (Kd.C_below (H8.out.2.2.2.2.2.2.2.2.2.2.2.2.1) hb_) (And.intro (Kd.C_below (H8.out.2.2.2.2.2.2.2.2.2.2.2.2.2.1) hb_) (And.intro ((H8.out.2.2.2.2.2.2.2.2.2.2.2.2.2.2.1).below hb_ (H8.out.2.2.2.2.2.2.2.2.2.2.2.2.2.2.1).lt) (And.intro ((H8.out.2.2.2.2.2.2.2.2.2.2.2.2.2.2.2.1).below hb_ (H8.out.2.2.2.2.2.2.2.2.2.2.2.2.2.2.2.1).lt) ((H8.out.2.2.2.2.2.2.2.2.2.2.2.2.2.2.2.2).trans (hb_.mono (H8.out.2.2.2.2.2.2.2.2.2.2.2.2.2.2.2.2).size))))))))))))))))))
  clear H8
  clear hb_
  have l_0 : W9.cell? ⟨g6 + 1, 0, none⟩ = some (.int .i64 x.f0) := (H9.out.2.2.2.2.2.2.2.2.2.1).cell 0
  have l_1 : W9.cell? ⟨g6 + 1, 1, none⟩ = some (.slice Ak x.f1.length ck) := (H9.out.2.2.2.2.2.2.2.2.2.1).cell 1
  have l_2 : W9.cell? ⟨g6 + 1, 2, none⟩ = some (.slice An x.f2.length cn) := (H9.out.2.2.2.2.2.2.2.2.2.1).cell 2
  have m_0 : W9.cell? ⟨g8 + 1, 0, none⟩ = some (.int .i64 x.f0) := (H9.out.2.2.2.2.2.2.2.2.2.2.2.2.2.2.2.1).cell 0
  have m_1 : W9.cell? ⟨g8 + 1, 1, none⟩ = some (.slice Am x.f1.length cm) := (H9.out.2.2.2.2.2.2.2.2.2.2.2.2.2.2.2.1).cell 1
  have m_2 : W9.cell? ⟨g8 + 1, 2, none⟩ = some (.slice Ao x.f2.length co) := (H9.out.2.2.2.2.2.2.2.2.2.2.2.2.2.2.2.1).cell 2
  go_wp2_with fail
  clear l_0 l_1 l_2 m_0 m_1 m_2
  refine (R.pyxref13_SameLock.calls x.f0 Ak ck x.f1 An cn x.f2 x.f0 Am cm x.f1 Ao co x.f2 true W9 (H9.out.2.2.2.2.2.2.1) HQ.out.2.2.1 (H9.out.2.2.2.2.2.2.2.1) HQ.out.2.2.2 (H9.out.2.2.2.2.2.2.2.2.2.2.2.2.1) HP.out.2.2.1 (H9.out.2.2.2.2.2.2.2.2.2.2.2.2.2.1) HP.out.2.2.2 (by rw [sameL_ref x x HX.out.2.2.2 HX.out.2.2.2, (sameK_eq x x).2 rfl])).mono ?_
  rintro e W10 ⟨rfl, hb_⟩
  have H10 := Lib.hid (And.intro ((H9.out.1).below hb_ (H9.out.1).1) (And.intro (Kd.C_below (H9.out.2.1) hb_) (And.intro (Kd.C_below (H9.out.2.2.1) hb_) (And.intro ((H9.out.2.2.2.1).below hb_ (H9.out.2.2.2.1).lt) (And.intro (Kd.C_below (H9.out.2.2.2.2.1) hb_) (And.intro (Kd.C_below (H9.out.2.2.2.2.2.1) hb_) (And.intro (Kd.C_below (H9.out.2.2.2.2.2.2.1) hb_) (And.intro (Kd.C_below (H9.out.2.2.2.2.2.2.2.1) hb_) (And.intro ((H9.out.2.2.2.2.2.2.2.2.1).below hb_ (H9.out.2.2.2.2.2.2.2.2.1).lt) (And.intro ((H9.out.2.2.2.2.2.2.2.2.2.1).below hb_ (H9.out.2.2.2.2.2.2.2.2.2.1).lt) (And.intro (Kd.C_below (H9.out.2.2.2.2.2.2.2.2.2.2.1) hb_) (And.intro (Kd.C_below (H9.out.2.2.2.2.2.2.2.2.2.2.2.1) hb_) (And.intro (Kd.C_below (H9.out.2.2.2.2.2.2.2.2.2.2.2.2.1) hb_) (And.intro (Kd.C_below (H9.out.2.2.2.2.2.2.2.2.2.2.2.2.2.1) hb_) (And.intro ((H9.out.2.2.2.2.2.2.2.2.2.2.2.2.2.2.1).below hb_ (H9.out.2.2.2.2.2.2.2.2.2.2.2.2.2.2.1).lt) (And.intro ((H9.out.2.2.2.2.2.2.2.2.2.2.2.2.2.2.2.1).below hb_ (H9.out.2.2.2.2.2.2.2.2.2.2.2.2.2.2.2.1).lt) ((H9.out.2.2.2.2.2.2.2.2.2.2.2.2.2.2.2.2).trans (hb_.mono (H9.out.2.2.2.2.2.2.2.2.2.2.2.2.2.2.2.2).size))))))))))))))))))
  clear H9
  clear hb_
  have he : (er == er) = true := by simp
  go_wp2
  go_ret
  exact ⟨rfl, H10.out.2.2.2.2.2.2.2.2.2.2.2.2.2.2.2.2⟩
theorem takes_calls (N X : Int) (s : List Int) (L : List R.S43) (A B : Option Addr) (c d : Nat) (w : World) (hT : TabOk w) (hs : Kd.C (Kd.int .u8) w A s.length s) (hc : s.length ≤ c) (hL : Kd.C R.k43 w B L.length L) (hd : L.length ≤ d) (os : byteOk s = true) (oL : locksOk L) :
    Calls Tryd.prog 4 #[.agg #[.int .i64 N, .slice A s.length c, .slice B L.length d], .int .i64 X] w fun e w' => e = .returned (.bool true) ∧ Below w.heap.size w w' := by
  cases hf : fewC s L with
  | false => exact takes_few N X s L A B c d w hT hs hc hL hd hf
  | true =>
    cases hr : rightC N s L with
    | false => exact takes_right N X s L A B c d w hT hs hc hL hd hf hr
    | true =>
      obtain ⟨m, hN, hg⟩ := good_of_right hr os oL
      exact takes_main N X s L A B c d w hT hs hc hL hd m hN.symm hf hg
end Go.Proofs.YtdklmafkcbjomaaDoor
