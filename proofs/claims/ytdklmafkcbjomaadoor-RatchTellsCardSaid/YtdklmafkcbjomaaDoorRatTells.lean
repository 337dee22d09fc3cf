/-
  Walk: pyxlaw13.RatchTells.
-/
import Derived.Test.YtdklmafkcbjomaaDoorX7
import Derived.Deep.DrawnRows
import Derived.Deep.RegionHeld3
namespace Go.Proofs.YtdklmafkcbjomaaDoor
set_option linter.unusedVariables false
set_option linter.unusedSimpArgs false
open Go.RowKit Go.Shelf Go.Proofs.YtdklmafkcbjomaaDoorW.PrintWords Go.Proofs.YtdklmafkcbjomaaDoorW.PrintLast Go.Proofs.YtdklmafkcbjomaaDoorW.PrintMore Iter
attribute [local go_sem] Oper.semAt_some
attribute [local go_sem ↓] Go.wp_at_zero Go.wp_at_succ

theorem one_box (W : World) (cs : Array Value) (t : TypeId) : Blk (W.alloc (.cells cs t)) W.heap.size t cs ∧ Below W.heap.size W (W.alloc (.cells cs t)) := ⟨Blk.new W t cs, (Below.refl _ W).alloc (Nat.le_refl _) _⟩
theorem calls_under {P : Program} {f : FuncId} {args : Array Value} {n : Nat} {w W : World} {v : Value} (hn : n ≤ w.heap.size) (hW : Below n w W) (h : Calls P f args W fun e w' => e = .returned v ∧ Below W.heap.size W w') : Calls P f args W fun e w' => e = .returned v ∧ Below n w w' :=
  h.mono (fun e w' ⟨he, hb⟩ => ⟨he, hW.trans (hb.mono (Nat.le_trans hn hW.size))⟩)
theorem calls_drawn {P : Program} {f : FuncId} {args : Array Value} {W : World} {v : Value} (h : Calls P f args W fun e w' => e = .returned v ∧ Drawn0 W w') : Calls P f args W fun e w' => e = .returned v ∧ Below W.heap.size W w' :=
  h.mono (fun e w' ⟨he, hb⟩ => ⟨he, drawn_below hb⟩)
theorem leafF_ok (l : List Int) (n i : Int) : byteOk (leafF l n i).1 = true := by
  unfold leafF
  split
  · exact byteOk_leafS _ _ _
  · rfl
theorem leaf_any' (A0 : Option Addr) (c0 : Nat) (l0 : List Int) (n i : Int) (X : List Int) (er : Int) (w : World) (h : leafF l0 n i = (X, er)) (hT : TabOk w) (h1 : -9223372036854775808 ≤ n) (h2 : n < 9223372036854775808) (o0 : byteOk l0 = true) (hr0 : Kd.C (Kd.int .u8) w A0 l0.length l0) (hc0 : l0.length ≤ c0) :
    Calls Tryd.prog 12 #[.slice A0 l0.length c0, .int .i64 n, .int .i64 i] w fun e w' => ∃ A c, e = .returned (.tuple #[.slice A X.length c, .int .i64 er]) ∧ X.length ≤ c ∧ Kd.C (Kd.int .u8) w' A X.length X ∧ Below w.heap.size w w' := by
  have := leaf_any A0 c0 l0 n i w hT h1 h2 o0 hr0 hc0
  rw [h] at this
  exact this
theorem start_any' (A0 : Option Addr) (c0 : Nat) (l0 : List Int) (n i : Int) (X : List Int) (er : Int) (w : World) (h : leafF l0 n i = (X, er)) (hT : TabOk w) (h1 : -9223372036854775808 ≤ n) (h2 : n < 9223372036854775808) (o0 : byteOk l0 = true) (hr0 : Kd.C (Kd.int .u8) w A0 l0.length l0) (hc0 : l0.length ≤ c0) :
    Calls Tryd.prog 14 #[.slice A0 l0.length c0, .int .i64 n, .int .i64 i] w fun e w' => ∃ A c, e = .returned (.tuple #[.agg #[.int .i64 0, .slice A X.length c, .slice none 0 0], .int .i64 er]) ∧ X.length ≤ c ∧ Kd.C (Kd.int .u8) w' A X.length X ∧ Below w.heap.size w w' := by
  have := start_any A0 c0 l0 n i w hT h1 h2 o0 hr0 hc0
  rw [h] at this
  exact this
set_option maxRecDepth 100000 in
set_option maxHeartbeats 4000000 in
theorem tells_long (N I Na Nb : Int) (l sa sb : List Int) (La Lb : List R.S43) (A0 Aa Ba Ab Bb : Option Addr) (c0 ca da cb db : Nat) (w : World) (hT : TabOk w) (hl : Kd.C (Kd.int .u8) w A0 l.length l) (hc0 : l.length ≤ c0) (hsa : Kd.C (Kd.int .u8) w Aa sa.length sa) (hca : sa.length ≤ ca) (hLa : Kd.C R.k43 w Ba La.length La) (hda : La.length ≤ da) (hsb : Kd.C (Kd.int .u8) w Ab sb.length sb) (hcb : sb.length ≤ cb) (hLb : Kd.C R.k43 w Bb Lb.length Lb) (hdb : Lb.length ≤ db) (h40 : 40 < l.length) :
    Calls Tryd.prog 3 #[.agg #[.slice A0 l.length c0, .int .i64 N, .int .i64 I, .int .i64 Na, .slice Aa sa.length ca, .slice Ba La.length da, .int .i64 Nb, .slice Ab sb.length cb, .slice Bb Lb.length db]] w fun e w' => e = .returned (.bool true) ∧ Below w.heap.size w w' := by
  have d0 : decide ((40 : Int) < (l.length : Int)) = true := by rw [decide_eq_true_eq]; omega
  clear h40
  have HH := Lib.hid (And.intro hc0 (And.intro hca (And.intro hda (And.intro hcb hdb))))
  have H0 := Lib.hid (And.intro (hT) (And.intro (hl) (And.intro (hsa) (And.intro (hLa) (And.intro (hsb) (And.intro (hLb) (Below.refl w.heap.size w)))))))
  clear hT hl hc0 hsa hca hLa hda hsb hcb hLb hdb
  go_enter Tryd.func3, Tryd.ntmps3
  go_upto_region 1 with fail
  obtain ⟨r1_, r3_⟩ := one_box w #[.slice A0 l.length c0, .int .i64 N, .int .i64 I, .int .i64 Na, .slice Aa sa.length ca, .slice Ba La.length da, .int .i64 Nb, .slice Ab sb.length cb, .slice Bb Lb.length db] 27
  have H1 := Lib.hid (And.intro ((H0.out.1).below r3_ (H0.out.1).1) (And.intro (Kd.C_below (H0.out.2.1) r3_) (And.intro (Kd.C_below (H0.out.2.2.1) r3_) (And.intro (Kd.C_below (H0.out.2.2.2.1) r3_) (And.intro (Kd.C_below (H0.out.2.2.2.2.1) r3_) (And.intro (Kd.C_below (H0.out.2.2.2.2.2.1) r3_) (And.intro (r1_) ((H0.out.2.2.2.2.2.2).trans (r3_.mono (H0.out.2.2.2.2.2.2).size)))))))))
  clear H0
  generalize (w.alloc (Obj.cells #[.slice A0 l.length c0, .int .i64 N, .int .i64 I, .int .i64 Na, .slice Aa sa.length ca, .slice Ba La.length da, .int .i64 Nb, .slice Ab sb.length cb, .slice Bb Lb.length db] 27)) = W1 at *
  clear r1_ r3_
  have p_0 : W1.cell? ⟨w.heap.size, 0, none⟩ = some (.slice A0 l.length c0) := (H1.out.2.2.2.2.2.2.1).cell 0
  have p_1 : W1.cell? ⟨w.heap.size, 1, none⟩ = some (.int .i64 N) := (H1.out.2.2.2.2.2.2.1).cell 1
  have p_2 : W1.cell? ⟨w.heap.size, 2, none⟩ = some (.int .i64 I) := (H1.out.2.2.2.2.2.2.1).cell 2
  have p_3 : W1.cell? ⟨w.heap.size, 3, none⟩ = some (.int .i64 Na) := (H1.out.2.2.2.2.2.2.1).cell 3
  have p_4 : W1.cell? ⟨w.heap.size, 4, none⟩ = some (.slice Aa sa.length ca) := (H1.out.2.2.2.2.2.2.1).cell 4
  have p_5 : W1.cell? ⟨w.heap.size, 5, none⟩ = some (.slice Ba La.length da) := (H1.out.2.2.2.2.2.2.1).cell 5
  have p_6 : W1.cell? ⟨w.heap.size, 6, none⟩ = some (.int .i64 Nb) := (H1.out.2.2.2.2.2.2.1).cell 6
  have p_7 : W1.cell? ⟨w.heap.size, 7, none⟩ = some (.slice Ab sb.length cb) := (H1.out.2.2.2.2.2.2.1).cell 7
  have p_8 : W1.cell? ⟨w.heap.size, 8, none⟩ = some (.slice Bb Lb.length db) := (H1.out.2.2.2.2.2.2.1).cell 8
  go_upto_region 5 with fail
  clear p_0 p_1 p_2 p_3 p_4 p_5 p_6 p_7 p_8
  obtain ⟨r1_, r3_⟩ := one_box W1 #[.int .i64 Na, .slice Aa sa.length ca, .slice Ba La.length da] 25
  have H2 := Lib.hid (And.intro ((H1.out.1).below r3_ (H1.out.1).1) (And.intro (Kd.C_below (H1.out.2.1) r3_) (And.intro (Kd.C_below (H1.out.2.2.1) r3_) (And.intro (Kd.C_below (H1.out.2.2.2.1) r3_) (And.intro (Kd.C_below (H1.out.2.2.2.2.1) r3_) (And.intro (Kd.C_below (H1.out.2.2.2.2.2.1) r3_) (And.intro ((H1.out.2.2.2.2.2.2.1).below r3_ (H1.out.2.2.2.2.2.2.1).lt) (And.intro (r1_) ((H1.out.2.2.2.2.2.2.2).trans (r3_.mono (H1.out.2.2.2.2.2.2.2).size))))))))))
  clear H1
  generalize (W1.alloc (Obj.cells #[.int .i64 Na, .slice Aa sa.length ca, .slice Ba La.length da] 25)) = W2 at *
  obtain ⟨g2, hg2⟩ : ∃ g, W1.heap.size = g := ⟨_, rfl⟩
  rw [hg2] at H2 ⊢
  clear hg2 r1_ r3_
  have p_0 : W2.cell? ⟨w.heap.size, 0, none⟩ = some (.slice A0 l.length c0) := (H2.out.2.2.2.2.2.2.1).cell 0
  have p_1 : W2.cell? ⟨w.heap.size, 1, none⟩ = some (.int .i64 N) := (H2.out.2.2.2.2.2.2.1).cell 1
  have p_2 : W2.cell? ⟨w.heap.size, 2, none⟩ = some (.int .i64 I) := (H2.out.2.2.2.2.2.2.1).cell 2
  have p_3 : W2.cell? ⟨w.heap.size, 3, none⟩ = some (.int .i64 Na) := (H2.out.2.2.2.2.2.2.1).cell 3
  have p_4 : W2.cell? ⟨w.heap.size, 4, none⟩ = some (.slice Aa sa.length ca) := (H2.out.2.2.2.2.2.2.1).cell 4
  have p_5 : W2.cell? ⟨w.heap.size, 5, none⟩ = some (.slice Ba La.length da) := (H2.out.2.2.2.2.2.2.1).cell 5
  have p_6 : W2.cell? ⟨w.heap.size, 6, none⟩ = some (.int .i64 Nb) := (H2.out.2.2.2.2.2.2.1).cell 6
  have p_7 : W2.cell? ⟨w.heap.size, 7, none⟩ = some (.slice Ab sb.length cb) := (H2.out.2.2.2.2.2.2.1).cell 7
  have p_8 : W2.cell? ⟨w.heap.size, 8, none⟩ = some (.slice Bb Lb.length db) := (H2.out.2.2.2.2.2.2.1).cell 8
  go_upto_region 6 with fail
  clear p_0 p_1 p_2 p_3 p_4 p_5 p_6 p_7 p_8
  obtain ⟨r1_, r3_⟩ := one_box W2 #[.int .i64 Nb, .slice Ab sb.length cb, .slice Bb Lb.length db] 25
  have H3 := Lib.hid (And.intro ((H2.out.1).below r3_ (H2.out.1).1) (And.intro (Kd.C_below (H2.out.2.1) r3_) (And.intro (Kd.C_below (H2.out.2.2.1) r3_) (And.intro (Kd.C_below (H2.out.2.2.2.1) r3_) (And.intro (Kd.C_below (H2.out.2.2.2.2.1) r3_) (And.intro (Kd.C_below (H2.out.2.2.2.2.2.1) r3_) (And.intro ((H2.out.2.2.2.2.2.2.1).below r3_ (H2.out.2.2.2.2.2.2.1).lt) (And.intro ((H2.out.2.2.2.2.2.2.2.1).below r3_ (H2.out.2.2.2.2.2.2.2.1).lt) (And.intro (r1_) ((H2.out.2.2.2.2.2.2.2.2).trans (r3_.mono (H2.out.2.2.2.2.2.2.2.2).size)))))))))))
  clear H2
  generalize (W2.alloc (Obj.cells #[.int .i64 Nb, .slice Ab sb.length cb, .slice Bb Lb.length db] 25)) = W3 at *
  obtain ⟨g3, hg3⟩ : ∃ g, W2.heap.size = g := ⟨_, rfl⟩
  rw [hg3] at H3 ⊢
  clear hg3 r1_ r3_
  go_wp2_with fail
  refine (shown13_calls W3 (H3.out.1)).mono ?_
  rintro e W4 ⟨rfl, hb_⟩
  have H4 := Lib.hid (And.intro ((H3.out.1).below hb_ (H3.out.1).1) (And.intro (Kd.C_below (H3.out.2.1) hb_) (And.intro (Kd.C_below (H3.out.2.2.1) hb_) (And.intro (Kd.C_below (H3.out.2.2.2.1) hb_) (And.intro (Kd.C_below (H3.out.2.2.2.2.1) hb_) (And.intro (Kd.C_below (H3.out.2.2.2.2.2.1) hb_) (And.intro ((H3.out.2.2.2.2.2.2.1).below hb_ (H3.out.2.2.2.2.2.2.1).lt) (And.intro ((H3.out.2.2.2.2.2.2.2.1).below hb_ (H3.out.2.2.2.2.2.2.2.1).lt) (And.intro ((H3.out.2.2.2.2.2.2.2.2.1).below hb_ (H3.out.2.2.2.2.2.2.2.2.1).lt) ((H3.out.2.2.2.2.2.2.2.2.2).trans (hb_.mono (H3.out.2.2.2.2.2.2.2.2.2).size)))))))))))
  clear H3
  clear hb_
  have a_0 : W4.cell? ⟨g2, 0, none⟩ = some (.int .i64 Na) := (H4.out.2.2.2.2.2.2.2.1).cell 0
  have a_1 : W4.cell? ⟨g2, 1, none⟩ = some (.slice Aa sa.length ca) := (H4.out.2.2.2.2.2.2.2.1).cell 1
  have a_2 : W4.cell? ⟨g2, 2, none⟩ = some (.slice Ba La.length da) := (H4.out.2.2.2.2.2.2.2.1).cell 2
  go_wp2_with fail
  clear a_0 a_1 a_2
  go_wp2
  go_ret
  exact ⟨rfl, H4.out.2.2.2.2.2.2.2.2.2⟩
set_option maxRecDepth 100000 in
set_option maxHeartbeats 4000000 in
theorem tells_fewa (N I Na Nb : Int) (l sa sb : List Int) (La Lb : List R.S43) (A0 Aa Ba Ab Bb : Option Addr) (c0 ca da cb db : Nat) (w : World) (hT : TabOk w) (hl : Kd.C (Kd.int .u8) w A0 l.length l) (hc0 : l.length ≤ c0) (hsa : Kd.C (Kd.int .u8) w Aa sa.length sa) (hca : sa.length ≤ ca) (hLa : Kd.C R.k43 w Ba La.length La) (hda : La.length ≤ da) (hsb : Kd.C (Kd.int .u8) w Ab sb.length sb) (hcb : sb.length ≤ cb) (hLb : Kd.C R.k43 w Bb Lb.length Lb) (hdb : Lb.length ≤ db) (h40 : l.length ≤ 40) (hfa : fewC sa La = false) :
    Calls Tryd.prog 3 #[.agg #[.slice A0 l.length c0, .int .i64 N, .int .i64 I, .int .i64 Na, .slice Aa sa.length ca, .slice Ba La.length da, .int .i64 Nb, .slice Ab sb.length cb, .slice Bb Lb.length db]] w fun e w' => e = .returned (.bool true) ∧ Below w.heap.size w w' := by
  have d0 : decide ((40 : Int) < (l.length : Int)) = false := by rw [decide_eq_false_iff_not]; omega
  clear h40
  have HFa := Lib.hid hfa
  clear hfa
  have HH := Lib.hid (And.intro hc0 (And.intro hca (And.intro hda (And.intro hcb hdb))))
  have H0 := Lib.hid (And.intro (hT) (And.intro (hl) (And.intro (hsa) (And.intro (hLa) (And.intro (hsb) (And.intro (hLb) (Below.refl w.heap.size w)))))))
  clear hT hl hc0 hsa hca hLa hda hsb hcb hLb hdb
  go_enter Tryd.func3, Tryd.ntmps3
  go_upto_region 1 with fail
  obtain ⟨r1_, r3_⟩ := one_box w #[.slice A0 l.length c0, .int .i64 N, .int .i64 I, .int .i64 Na, .slice Aa sa.length ca, .slice Ba La.length da, .int .i64 Nb, .slice Ab sb.length cb, .slice Bb Lb.length db] 27
  have H1 := Lib.hid (And.intro ((H0.out.1).below r3_ (H0.out.1).1) (And.intro (Kd.C_below (H0.out.2.1) r3_) (And.intro (Kd.C_below (H0.out.2.2.1) r3_) (And.intro (Kd.C_below (H0.out.2.2.2.1) r3_) (And.intro (Kd.C_below (H0.out.2.2.2.2.1) r3_) (And.intro (Kd.C_below (H0.out.2.2.2.2.2.1) r3_) (And.intro (r1_) ((H0.out.2.2.2.2.2.2).trans (r3_.mono (H0.out.2.2.2.2.2.2).size)))))))))
  clear H0
  generalize (w.alloc (Obj.cells #[.slice A0 l.length c0, .int .i64 N, .int .i64 I, .int .i64 Na, .slice Aa sa.length ca, .slice Ba La.length da, .int .i64 Nb, .slice Ab sb.length cb, .slice Bb Lb.length db] 27)) = W1 at *
  clear r1_ r3_
  have p_0 : W1.cell? ⟨w.heap.size, 0, none⟩ = some (.slice A0 l.length c0) := (H1.out.2.2.2.2.2.2.1).cell 0
  have p_1 : W1.cell? ⟨w.heap.size, 1, none⟩ = some (.int .i64 N) := (H1.out.2.2.2.2.2.2.1).cell 1
  have p_2 : W1.cell? ⟨w.heap.size, 2, none⟩ = some (.int .i64 I) := (H1.out.2.2.2.2.2.2.1).cell 2
  have p_3 : W1.cell? ⟨w.heap.size, 3, none⟩ = some (.int .i64 Na) := (H1.out.2.2.2.2.2.2.1).cell 3
  have p_4 : W1.cell? ⟨w.heap.size, 4, none⟩ = some (.slice Aa sa.length ca) := (H1.out.2.2.2.2.2.2.1).cell 4
  have p_5 : W1.cell? ⟨w.heap.size, 5, none⟩ = some (.slice Ba La.length da) := (H1.out.2.2.2.2.2.2.1).cell 5
  have p_6 : W1.cell? ⟨w.heap.size, 6, none⟩ = some (.int .i64 Nb) := (H1.out.2.2.2.2.2.2.1).cell 6
  have p_7 : W1.cell? ⟨w.heap.size, 7, none⟩ = some (.slice Ab sb.length cb) := (H1.out.2.2.2.2.2.2.1).cell 7
  have p_8 : W1.cell? ⟨w.heap.size, 8, none⟩ = some (.slice Bb Lb.length db) := (H1.out.2.2.2.2.2.2.1).cell 8
  go_upto_region 5 with fail
  clear p_0 p_1 p_2 p_3 p_4 p_5 p_6 p_7 p_8
  obtain ⟨r1_, r3_⟩ := one_box W1 #[.int .i64 Na, .slice Aa sa.length ca, .slice Ba La.length da] 25
  have H2 := Lib.hid (And.intro ((H1.out.1).below r3_ (H1.out.1).1) (And.intro (Kd.C_below (H1.out.2.1) r3_) (And.intro (Kd.C_below (H1.out.2.2.1) r3_) (And.intro (Kd.C_below (H1.out.2.2.2.1) r3_) (And.intro (Kd.C_below (H1.out.2.2.2.2.1) r3_) (And.intro (Kd.C_below (H1.out.2.2.2.2.2.1) r3_) (And.intro ((H1.out.2.2.2.2.2.2.1).below r3_ (H1.out.2.2.2.2.2.2.1).lt) (And.intro (r1_) ((H1.out.2.2.2.2.2.2.2).trans (r3_.mono (H1.out.2.2.2.2.2.2.2).size))))))))))
  clear H1
  generalize (W1.alloc (Obj.cells #[.int .i64 Na, .slice Aa sa.length ca, .slice Ba La.length da] 25)) = W2 at *
  obtain ⟨g2, hg2⟩ : ∃ g, W1.heap.size = g := ⟨_, rfl⟩
  rw [hg2] at H2 ⊢
  clear hg2 r1_ r3_
  have p_0 : W2.cell? ⟨w.heap.size, 0, none⟩ = some (.slice A0 l.length c0) := (H2.out.2.2.2.2.2.2.1).cell 0
  have p_1 : W2.cell? ⟨w.heap.size, 1, none⟩ = some (.int .i64 N) := (H2.out.2.2.2.2.2.2.1).cell 1
  have p_2 : W2.cell? ⟨w.heap.size, 2, none⟩ = some (.int .i64 I) := (H2.out.2.2.2.2.2.2.1).cell 2
  have p_3 : W2.cell? ⟨w.heap.size, 3, none⟩ = some (.int .i64 Na) := (H2.out.2.2.2.2.2.2.1).cell 3
  have p_4 : W2.cell? ⟨w.heap.size, 4, none⟩ = some (.slice Aa sa.length ca) := (H2.out.2.2.2.2.2.2.1).cell 4
  have p_5 : W2.cell? ⟨w.heap.size, 5, none⟩ = some (.slice Ba La.length da) := (H2.out.2.2.2.2.2.2.1).cell 5
  have p_6 : W2.cell? ⟨w.heap.size, 6, none⟩ = some (.int .i64 Nb) := (H2.out.2.2.2.2.2.2.1).cell 6
  have p_7 : W2.cell? ⟨w.heap.size, 7, none⟩ = some (.slice Ab sb.length cb) := (H2.out.2.2.2.2.2.2.1).cell 7
  have p_8 : W2.cell? ⟨w.heap.size, 8, none⟩ = some (.slice Bb Lb.length db) := (H2.out.2.2.2.2.2.2.1).cell 8
  go_upto_region 6 with fail
  clear p_0 p_1 p_2 p_3 p_4 p_5 p_6 p_7 p_8
  obtain ⟨r1_, r3_⟩ := one_box W2 #[.int .i64 Nb, .slice Ab sb.length cb, .slice Bb Lb.length db] 25
  have H3 := Lib.hid (And.intro ((H2.out.1).below r3_ (H2.out.1).1) (And.intro (Kd.C_below (H2.out.2.1) r3_) (And.intro (Kd.C_below (H2.out.2.2.1) r3_) (And.intro (Kd.C_below (H2.out.2.2.2.1) r3_) (And.intro (Kd.C_below (H2.out.2.2.2.2.1) r3_) (And.intro (Kd.C_below (H2.out.2.2.2.2.2.1) r3_) (And.intro ((H2.out.2.2.2.2.2.2.1).below r3_ (H2.out.2.2.2.2.2.2.1).lt) (And.intro ((H2.out.2.2.2.2.2.2.2.1).below r3_ (H2.out.2.2.2.2.2.2.2.1).lt) (And.intro (r1_) ((H2.out.2.2.2.2.2.2.2.2).trans (r3_.mono (H2.out.2.2.2.2.2.2.2.2).size)))))))))))
  clear H2
  generalize (W2.alloc (Obj.cells #[.int .i64 Nb, .slice Ab sb.length cb, .slice Bb Lb.length db] 25)) = W3 at *
  obtain ⟨g3, hg3⟩ : ∃ g, W2.heap.size = g := ⟨_, rfl⟩
  rw [hg3] at H3 ⊢
  clear hg3 r1_ r3_
  go_wp2_with fail
  refine (shown13_calls W3 (H3.out.1)).mono ?_
  rintro e W4 ⟨rfl, hb_⟩
  have H4 := Lib.hid (And.intro ((H3.out.1).below hb_ (H3.out.1).1) (And.intro (Kd.C_below (H3.out.2.1) hb_) (And.intro (Kd.C_below (H3.out.2.2.1) hb_) (And.intro (Kd.C_below (H3.out.2.2.2.1) hb_) (And.intro (Kd.C_below (H3.out.2.2.2.2.1) hb_) (And.intro (Kd.C_below (H3.out.2.2.2.2.2.1) hb_) (And.intro ((H3.out.2.2.2.2.2.2.1).below hb_ (H3.out.2.2.2.2.2.2.1).lt) (And.intro ((H3.out.2.2.2.2.2.2.2.1).below hb_ (H3.out.2.2.2.2.2.2.2.1).lt) (And.intro ((H3.out.2.2.2.2.2.2.2.2.1).below hb_ (H3.out.2.2.2.2.2.2.2.2.1).lt) ((H3.out.2.2.2.2.2.2.2.2.2).trans (hb_.mono (H3.out.2.2.2.2.2.2.2.2.2).size)))))))))))
  clear H3
  clear hb_
  have a_0 : W4.cell? ⟨g2, 0, none⟩ = some (.int .i64 Na) := (H4.out.2.2.2.2.2.2.2.1).cell 0
  have a_1 : W4.cell? ⟨g2, 1, none⟩ = some (.slice Aa sa.length ca) := (H4.out.2.2.2.2.2.2.2.1).cell 1
  have a_2 : W4.cell? ⟨g2, 2, none⟩ = some (.slice Ba La.length da) := (H4.out.2.2.2.2.2.2.2.1).cell 2
  go_wp2_with fail
  clear a_0 a_1 a_2
  refine (R.pyxref13_Few.calls 50 Na Aa ca sa Ba da La false W4 (H4.out.2.2.1) HH.out.2.1 (H4.out.2.2.2.1) HH.out.2.2.1 (by rw [few_some _ _ _ 50 (by decide), HFa.out])).mono ?_
  rintro e W5 ⟨rfl, hb_⟩
  have H5 := Lib.hid (And.intro ((H4.out.1).below hb_ (H4.out.1).1) (And.intro (Kd.C_below (H4.out.2.1) hb_) (And.intro (Kd.C_below (H4.out.2.2.1) hb_) (And.intro (Kd.C_below (H4.out.2.2.2.1) hb_) (And.intro (Kd.C_below (H4.out.2.2.2.2.1) hb_) (And.intro (Kd.C_below (H4.out.2.2.2.2.2.1) hb_) (And.intro ((H4.out.2.2.2.2.2.2.1).below hb_ (H4.out.2.2.2.2.2.2.1).lt) (And.intro ((H4.out.2.2.2.2.2.2.2.1).below hb_ (H4.out.2.2.2.2.2.2.2.1).lt) (And.intro ((H4.out.2.2.2.2.2.2.2.2.1).below hb_ (H4.out.2.2.2.2.2.2.2.2.1).lt) ((H4.out.2.2.2.2.2.2.2.2.2).trans (hb_.mono (H4.out.2.2.2.2.2.2.2.2.2).size)))))))))))
  clear H4
  clear hb_
  go_wp2
  go_ret
  exact ⟨rfl, H5.out.2.2.2.2.2.2.2.2.2⟩
set_option maxRecDepth 100000 in
set_option maxHeartbeats 4000000 in
theorem tells_fewb (N I Na Nb : Int) (l sa sb : List Int) (La Lb : List R.S43) (A0 Aa Ba Ab Bb : Option Addr) (c0 ca da cb db : Nat) (w : World) (hT : TabOk w) (hl : Kd.C (Kd.int .u8) w A0 l.length l) (hc0 : l.length ≤ c0) (hsa : Kd.C (Kd.int .u8) w Aa sa.length sa) (hca : sa.length ≤ ca) (hLa : Kd.C R.k43 w Ba La.length La) (hda : La.length ≤ da) (hsb : Kd.C (Kd.int .u8) w Ab sb.length sb) (hcb : sb.length ≤ cb) (hLb : Kd.C R.k43 w Bb Lb.length Lb) (hdb : Lb.length ≤ db) (h40 : l.length ≤ 40) (hfa : fewC sa La = true) (hfb : fewC sb Lb = false) :
    Calls Tryd.prog 3 #[.agg #[.slice A0 l.length c0, .int .i64 N, .int .i64 I, .int .i64 Na, .slice Aa sa.length ca, .slice Ba La.length da, .int .i64 Nb, .slice Ab sb.length cb, .slice Bb Lb.length db]] w fun e w' => e = .returned (.bool true) ∧ Below w.heap.size w w' := by
  have d0 : decide ((40 : Int) < (l.length : Int)) = false := by rw [decide_eq_false_iff_not]; omega
  clear h40
  have HFa := Lib.hid hfa
  have HFb := Lib.hid hfb
  clear hfa hfb
  have HH := Lib.hid (And.intro hc0 (And.intro hca (And.intro hda (And.intro hcb hdb))))
  have H0 := Lib.hid (And.intro (hT) (And.intro (hl) (And.intro (hsa) (And.intro (hLa) (And.intro (hsb) (And.intro (hLb) (Below.refl w.heap.size w)))))))
  clear hT hl hc0 hsa hca hLa hda hsb hcb hLb hdb
  go_enter Tryd.func3, Tryd.ntmps3
  go_upto_region 1 with fail
  obtain ⟨r1_, r3_⟩ := one_box w #[.slice A0 l.length c0, .int .i64 N, .int .i64 I, .int .i64 Na, .slice Aa sa.length ca, .slice Ba La.length da, .int .i64 Nb, .slice Ab sb.length cb, .slice Bb Lb.length db] 27
  have H1 := Lib.hid (And.intro ((H0.out.1).below r3_ (H0.out.1).1) (And.intro (Kd.C_below (H0.out.2.1) r3_) (And.intro (Kd.C_below (H0.out.2.2.1) r3_) (And.intro (Kd.C_below (H0.out.2.2.2.1) r3_) (And.intro (Kd.C_below (H0.out.2.2.2.2.1) r3_) (And.intro (Kd.C_below (H0.out.2.2.2.2.2.1) r3_) (And.intro (r1_) ((H0.out.2.2.2.2.2.2).trans (r3_.mono (H0.out.2.2.2.2.2.2).size)))))))))
  clear H0
  generalize (w.alloc (Obj.cells #[.slice A0 l.length c0, .int .i64 N, .int .i64 I, .int .i64 Na, .slice Aa sa.length ca, .slice Ba La.length da, .int .i64 Nb, .slice Ab sb.length cb, .slice Bb Lb.length db] 27)) = W1 at *
  clear r1_ r3_
  have p_0 : W1.cell? ⟨w.heap.size, 0, none⟩ = some (.slice A0 l.length c0) := (H1.out.2.2.2.2.2.2.1).cell 0
  have p_1 : W1.cell? ⟨w.heap.size, 1, none⟩ = some (.int .i64 N) := (H1.out.2.2.2.2.2.2.1).cell 1
  have p_2 : W1.cell? ⟨w.heap.size, 2, none⟩ = some (.int .i64 I) := (H1.out.2.2.2.2.2.2.1).cell 2
  have p_3 : W1.cell? ⟨w.heap.size, 3, none⟩ = some (.int .i64 Na) := (H1.out.2.2.2.2.2.2.1).cell 3
  have p_4 : W1.cell? ⟨w.heap.size, 4, none⟩ = some (.slice Aa sa.length ca) := (H1.out.2.2.2.2.2.2.1).cell 4
  have p_5 : W1.cell? ⟨w.heap.size, 5, none⟩ = some (.slice Ba La.length da) := (H1.out.2.2.2.2.2.2.1).cell 5
  have p_6 : W1.cell? ⟨w.heap.size, 6, none⟩ = some (.int .i64 Nb) := (H1.out.2.2.2.2.2.2.1).cell 6
  have p_7 : W1.cell? ⟨w.heap.size, 7, none⟩ = some (.slice Ab sb.length cb) := (H1.out.2.2.2.2.2.2.1).cell 7
  have p_8 : W1.cell? ⟨w.heap.size, 8, none⟩ = some (.slice Bb Lb.length db) := (H1.out.2.2.2.2.2.2.1).cell 8
  go_upto_region 5 with fail
  clear p_0 p_1 p_2 p_3 p_4 p_5 p_6 p_7 p_8
  obtain ⟨r1_, r3_⟩ := one_box W1 #[.int .i64 Na, .slice Aa sa.length ca, .slice Ba La.length da] 25
  have H2 := Lib.hid (And.intro ((H1.out.1).below r3_ (H1.out.1).1) (And.intro (Kd.C_below (H1.out.2.1) r3_) (And.intro (Kd.C_below (H1.out.2.2.1) r3_) (And.intro (Kd.C_below (H1.out.2.2.2.1) r3_) (And.intro (Kd.C_below (H1.out.2.2.2.2.1) r3_) (And.intro (Kd.C_below (H1.out.2.2.2.2.2.1) r3_) (And.intro ((H1.out.2.2.2.2.2.2.1).below r3_ (H1.out.2.2.2.2.2.2.1).lt) (And.intro (r1_) ((H1.out.2.2.2.2.2.2.2).trans (r3_.mono (H1.out.2.2.2.2.2.2.2).size))))))))))
  clear H1
  generalize (W1.alloc (Obj.cells #[.int .i64 Na, .slice Aa sa.length ca, .slice Ba La.length da] 25)) = W2 at *
  obtain ⟨g2, hg2⟩ : ∃ g, W1.heap.size = g := ⟨_, rfl⟩
  rw [hg2] at H2 ⊢
  clear hg2 r1_ r3_
  have p_0 : W2.cell? ⟨w.heap.size, 0, none⟩ = some (.slice A0 l.length c0) := (H2.out.2.2.2.2.2.2.1).cell 0
  have p_1 : W2.cell? ⟨w.heap.size, 1, none⟩ = some (.int .i64 N) := (H2.out.2.2.2.2.2.2.1).cell 1
  have p_2 : W2.cell? ⟨w.heap.size, 2, none⟩ = some (.int .i64 I) := (H2.out.2.2.2.2.2.2.1).cell 2
  have p_3 : W2.cell? ⟨w.heap.size, 3, none⟩ = some (.int .i64 Na) := (H2.out.2.2.2.2.2.2.1).cell 3
  have p_4 : W2.cell? ⟨w.heap.size, 4, none⟩ = some (.slice Aa sa.length ca) := (H2.out.2.2.2.2.2.2.1).cell 4
  have p_5 : W2.cell? ⟨w.heap.size, 5, none⟩ = some (.slice Ba La.length da) := (H2.out.2.2.2.2.2.2.1).cell 5
  have p_6 : W2.cell? ⟨w.heap.size, 6, none⟩ = some (.int .i64 Nb) := (H2.out.2.2.2.2.2.2.1).cell 6
  have p_7 : W2.cell? ⟨w.heap.size, 7, none⟩ = some (.slice Ab sb.length cb) := (H2.out.2.2.2.2.2.2.1).cell 7
  have p_8 : W2.cell? ⟨w.heap.size, 8, none⟩ = some (.slice Bb Lb.length db) := (H2.out.2.2.2.2.2.2.1).cell 8
  go_upto_region 6 with fail
  clear p_0 p_1 p_2 p_3 p_4 p_5 p_6 p_7 p_8
  obtain ⟨r1_, r3_⟩ := one_box W2 #[.int .i64 Nb, .slice Ab sb.length cb, .slice Bb Lb.length db] 25
  have H3 := Lib.hid (And.intro ((H2.out.1).below r3_ (H2.out.1).1) (And.intro (Kd.C_below (H2.out.2.1) r3_) (And.intro (Kd.C_below (H2.out.2.2.1) r3_) (And.intro (Kd.C_below (H2.out.2.2.2.1) r3_) (And.intro (Kd.C_below (H2.out.2.2.2.2.1) r3_) (And.intro (Kd.C_below (H2.out.2.2.2.2.2.1) r3_) (And.intro ((H2.out.2.2.2.2.2.2.1).below r3_ (H2.out.2.2.2.2.2.2.1).lt) (And.intro ((H2.out.2.2.2.2.2.2.2.1).below r3_ (H2.out.2.2.2.2.2.2.2.1).lt) (And.intro (r1_) ((H2.out.2.2.2.2.2.2.2.2).trans (r3_.mono (H2.out.2.2.2.2.2.2.2.2).size)))))))))))
  clear H2
  generalize (W2.alloc (Obj.cells #[.int .i64 Nb, .slice Ab sb.length cb, .slice Bb Lb.length db] 25)) = W3 at *
  obtain ⟨g3, hg3⟩ : ∃ g, W2.heap.size = g := ⟨_, rfl⟩
  rw [hg3] at H3 ⊢
  clear hg3 r1_ r3_
  go_wp2_with fail
  refine (shown13_calls W3 (H3.out.1)).mono ?_
  rintro e W4 ⟨rfl, hb_⟩
  have H4 := Lib.hid (And.intro ((H3.out.1).below hb_ (H3.out.1).1) (And.intro (Kd.C_below (H3.out.2.1) hb_) (And.intro (Kd.C_below (H3.out.2.2.1) hb_) (And.intro (Kd.C_below (H3.out.2.2.2.1) hb_) (And.intro (Kd.C_below (H3.out.2.2.2.2.1) hb_) (And.intro (Kd.C_below (H3.out.2.2.2.2.2.1) hb_) (And.intro ((H3.out.2.2.2.2.2.2.1).below hb_ (H3.out.2.2.2.2.2.2.1).lt) (And.intro ((H3.out.2.2.2.2.2.2.2.1).below hb_ (H3.out.2.2.2.2.2.2.2.1).lt) (And.intro ((H3.out.2.2.2.2.2.2.2.2.1).below hb_ (H3.out.2.2.2.2.2.2.2.2.1).lt) ((H3.out.2.2.2.2.2.2.2.2.2).trans (hb_.mono (H3.out.2.2.2.2.2.2.2.2.2).size)))))))))))
  clear H3
  clear hb_
  have a_0 : W4.cell? ⟨g2, 0, none⟩ = some (.int .i64 Na) := (H4.out.2.2.2.2.2.2.2.1).cell 0
  have a_1 : W4.cell? ⟨g2, 1, none⟩ = some (.slice Aa sa.length ca) := (H4.out.2.2.2.2.2.2.2.1).cell 1
  have a_2 : W4.cell? ⟨g2, 2, none⟩ = some (.slice Ba La.length da) := (H4.out.2.2.2.2.2.2.2.1).cell 2
  go_wp2_with fail
  clear a_0 a_1 a_2
  refine (R.pyxref13_Few.calls 50 Na Aa ca sa Ba da La true W4 (H4.out.2.2.1) HH.out.2.1 (H4.out.2.2.2.1) HH.out.2.2.1 (by rw [few_some _ _ _ 50 (by decide), HFa.out])).mono ?_
  rintro e W5 ⟨rfl, hb_⟩
  have H5 := Lib.hid (And.intro ((H4.out.1).below hb_ (H4.out.1).1) (And.intro (Kd.C_below (H4.out.2.1) hb_) (And.intro (Kd.C_below (H4.out.2.2.1) hb_) (And.intro (Kd.C_below (H4.out.2.2.2.1) hb_) (And.intro (Kd.C_below (H4.out.2.2.2.2.1) hb_) (And.intro (Kd.C_below (H4.out.2.2.2.2.2.1) hb_) (And.intro ((H4.out.2.2.2.2.2.2.1).below hb_ (H4.out.2.2.2.2.2.2.1).lt) (And.intro ((H4.out.2.2.2.2.2.2.2.1).below hb_ (H4.out.2.2.2.2.2.2.2.1).lt) (And.intro ((H4.out.2.2.2.2.2.2.2.2.1).below hb_ (H4.out.2.2.2.2.2.2.2.2.1).lt) ((H4.out.2.2.2.2.2.2.2.2.2).trans (hb_.mono (H4.out.2.2.2.2.2.2.2.2.2).size)))))))))))
  clear H4
  clear hb_
  have b_0 : W5.cell? ⟨g3, 0, none⟩ = some (.int .i64 Nb) := (H5.out.2.2.2.2.2.2.2.2.1).cell 0
  have b_1 : W5.cell? ⟨g3, 1, none⟩ = some (.slice Ab sb.length cb) := (H5.out.2.2.2.2.2.2.2.2.1).cell 1
  have b_2 : W5.cell? ⟨g3, 2, none⟩ = some (.slice Bb Lb.length db) := (H5.out.2.2.2.2.2.2.2.2.1).cell 2
  go_wp2_with fail
  clear b_0 b_1 b_2
  refine (R.pyxref13_Few.calls 50 Nb Ab cb sb Bb db Lb false W5 (H5.out.2.2.2.2.1) HH.out.2.2.2.1 (H5.out.2.2.2.2.2.1) HH.out.2.2.2.2 (by rw [few_some _ _ _ 50 (by decide), HFb.out])).mono ?_
  rintro e W6 ⟨rfl, hb_⟩
  have H6 := Lib.hid (And.intro ((H5.out.1).below hb_ (H5.out.1).1) (And.intro (Kd.C_below (H5.out.2.1) hb_) (And.intro (Kd.C_below (H5.out.2.2.1) hb_) (And.intro (Kd.C_below (H5.out.2.2.2.1) hb_) (And.intro (Kd.C_below (H5.out.2.2.2.2.1) hb_) (And.intro (Kd.C_below (H5.out.2.2.2.2.2.1) hb_) (And.intro ((H5.out.2.2.2.2.2.2.1).below hb_ (H5.out.2.2.2.2.2.2.1).lt) (And.intro ((H5.out.2.2.2.2.2.2.2.1).below hb_ (H5.out.2.2.2.2.2.2.2.1).lt) (And.intro ((H5.out.2.2.2.2.2.2.2.2.1).below hb_ (H5.out.2.2.2.2.2.2.2.2.1).lt) ((H5.out.2.2.2.2.2.2.2.2.2).trans (hb_.mono (H5.out.2.2.2.2.2.2.2.2.2).size)))))))))))
  clear H5
  clear hb_
  go_wp2
  go_ret
  exact ⟨rfl, H6.out.2.2.2.2.2.2.2.2.2⟩
set_option maxRecDepth 100000 in
set_option maxHeartbeats 4000000 in
theorem tells_main (N I Na Nb : Int) (l sa sb : List Int) (La Lb : List R.S43) (A0 Aa Ba Ab Bb : Option Addr) (c0 ca da cb db : Nat) (w : World) (hT : TabOk w) (hl : Kd.C (Kd.int .u8) w A0 l.length l) (hc0 : l.length ≤ c0) (hsa : Kd.C (Kd.int .u8) w Aa sa.length sa) (hca : sa.length ≤ ca) (hLa : Kd.C R.k43 w Ba La.length La) (hda : La.length ≤ da) (hsb : Kd.C (Kd.int .u8) w Ab sb.length sb) (hcb : sb.length ≤ cb) (hLb : Kd.C R.k43 w Bb Lb.length Lb) (hdb : Lb.length ≤ db) (h40 : l.length ≤ 40) (hfa : fewC sa La = true) (hfb : fewC sb Lb = true) (h1 : -9223372036854775808 ≤ N) (h2 : N < 9223372036854775808) (ol : byteOk l = true) (osa : byteOk sa = true) (oLa : locksOk La) (osb : byteOk sb = true) (oLb : locksOk Lb) :
    Calls Tryd.prog 3 #[.agg #[.slice A0 l.length c0, .int .i64 N, .int .i64 I, .int .i64 Na, .slice Aa sa.length ca, .slice Ba La.length da, .int .i64 Nb, .slice Ab sb.length cb, .slice Bb Lb.length db]] w fun e w' => e = .returned (.bool true) ∧ Below w.heap.size w w' := by
  have d0 : decide ((40 : Int) < (l.length : Int)) = false := by rw [decide_eq_false_iff_not]; omega
  clear h40
  have HFa := Lib.hid hfa
  have HFb := Lib.hid hfb
  have hla : La.length ≤ 100 := by have h := hfa; unfold fewC at h; simp only [Bool.and_eq_true, decide_eq_true_eq] at h; omega
  obtain ⟨⟨X, er⟩, hx⟩ : ∃ r, leafF l N I = r := ⟨_, rfl⟩
  have hxo : byteOk X = true := by have h := leafF_ok l N I; rw [hx] at h; exact h
  have HX := Lib.hid (And.intro hx (And.intro hxo (And.intro h1 (And.intro h2 ol))))
  have HO := Lib.hid (And.intro osa (And.intro oLa (And.intro osb (And.intro oLb hla))))
  clear hfa hfb hla hx hxo h1 h2 ol osa oLa osb oLb
  have HH := Lib.hid (And.intro hc0 (And.intro hca (And.intro hda (And.intro hcb hdb))))
  have H0 := Lib.hid (And.intro (hT) (And.intro (hl) (And.intro (hsa) (And.intro (hLa) (And.intro (hsb) (And.intro (hLb) (Below.refl w.heap.size w)))))))
  clear hT hl hc0 hsa hca hLa hda hsb hcb hLb hdb
  go_enter Tryd.func3, Tryd.ntmps3
  go_upto_region 1 with fail
  obtain ⟨r1_, r3_⟩ := one_box w #[.slice A0 l.length c0, .int .i64 N, .int .i64 I, .int .i64 Na, .slice Aa sa.length ca, .slice Ba La.length da, .int .i64 Nb, .slice Ab sb.length cb, .slice Bb Lb.length db] 27
  have H1 := Lib.hid (And.intro ((H0.out.1).below r3_ (H0.out.1).1) (And.intro (Kd.C_below (H0.out.2.1) r3_) (And.intro (Kd.C_below (H0.out.2.2.1) r3_) (And.intro (Kd.C_below (H0.out.2.2.2.1) r3_) (And.intro (Kd.C_below (H0.out.2.2.2.2.1) r3_) (And.intro (Kd.C_below (H0.out.2.2.2.2.2.1) r3_) (And.intro (r1_) ((H0.out.2.2.2.2.2.2).trans (r3_.mono (H0.out.2.2.2.2.2.2).size)))))))))
  clear H0
  generalize (w.alloc (Obj.cells #[.slice A0 l.length c0, .int .i64 N, .int .i64 I, .int .i64 Na, .slice Aa sa.length ca, .slice Ba La.length da, .int .i64 Nb, .slice Ab sb.length cb, .slice Bb Lb.length db] 27)) = W1 at *
  clear r1_ r3_
  have p_0 : W1.cell? ⟨w.heap.size, 0, none⟩ = some (.slice A0 l.length c0) := (H1.out.2.2.2.2.2.2.1).cell 0
  have p_1 : W1.cell? ⟨w.heap.size, 1, none⟩ = some (.int .i64 N) := (H1.out.2.2.2.2.2.2.1).cell 1
  have p_2 : W1.cell? ⟨w.heap.size, 2, none⟩ = some (.int .i64 I) := (H1.out.2.2.2.2.2.2.1).cell 2
  have p_3 : W1.cell? ⟨w.heap.size, 3, none⟩ = some (.int .i64 Na) := (H1.out.2.2.2.2.2.2.1).cell 3
  have p_4 : W1.cell? ⟨w.heap.size, 4, none⟩ = some (.slice Aa sa.length ca) := (H1.out.2.2.2.2.2.2.1).cell 4
  have p_5 : W1.cell? ⟨w.heap.size, 5, none⟩ = some (.slice Ba La.length da) := (H1.out.2.2.2.2.2.2.1).cell 5
  have p_6 : W1.cell? ⟨w.heap.size, 6, none⟩ = some (.int .i64 Nb) := (H1.out.2.2.2.2.2.2.1).cell 6
  have p_7 : W1.cell? ⟨w.heap.size, 7, none⟩ = some (.slice Ab sb.length cb) := (H1.out.2.2.2.2.2.2.1).cell 7
  have p_8 : W1.cell? ⟨w.heap.size, 8, none⟩ = some (.slice Bb Lb.length db) := (H1.out.2.2.2.2.2.2.1).cell 8
  go_upto_region 5 with fail
  clear p_0 p_1 p_2 p_3 p_4 p_5 p_6 p_7 p_8
  obtain ⟨r1_, r3_⟩ := one_box W1 #[.int .i64 Na, .slice Aa sa.length ca, .slice Ba La.length da] 25
  have H2 := Lib.hid (And.intro ((H1.out.1).below r3_ (H1.out.1).1) (And.intro (Kd.C_below (H1.out.2.1) r3_) (And.intro (Kd.C_below (H1.out.2.2.1) r3_) (And.intro (Kd.C_below (H1.out.2.2.2.1) r3_) (And.intro (Kd.C_below (H1.out.2.2.2.2.1) r3_) (And.intro (Kd.C_below (H1.out.2.2.2.2.2.1) r3_) (And.intro ((H1.out.2.2.2.2.2.2.1).below r3_ (H1.out.2.2.2.2.2.2.1).lt) (And.intro (r1_) ((H1.out.2.2.2.2.2.2.2).trans (r3_.mono (H1.out.2.2.2.2.2.2.2).size))))))))))
  clear H1
  generalize (W1.alloc (Obj.cells #[.int .i64 Na, .slice Aa sa.length ca, .slice Ba La.length da] 25)) = W2 at *
  obtain ⟨g2, hg2⟩ : ∃ g, W1.heap.size = g := ⟨_, rfl⟩
  rw [hg2] at H2 ⊢
  clear hg2 r1_ r3_
  have p_0 : W2.cell? ⟨w.heap.size, 0, none⟩ = some (.slice A0 l.length c0) := (H2.out.2.2.2.2.2.2.1).cell 0
  have p_1 : W2.cell? ⟨w.heap.size, 1, none⟩ = some (.int .i64 N) := (H2.out.2.2.2.2.2.2.1).cell 1
  have p_2 : W2.cell? ⟨w.heap.size, 2, none⟩ = some (.int .i64 I) := (H2.out.2.2.2.2.2.2.1).cell 2
  have p_3 : W2.cell? ⟨w.heap.size, 3, none⟩ = some (.int .i64 Na) := (H2.out.2.2.2.2.2.2.1).cell 3
  have p_4 : W2.cell? ⟨w.heap.size, 4, none⟩ = some (.slice Aa sa.length ca) := (H2.out.2.2.2.2.2.2.1).cell 4
  have p_5 : W2.cell? ⟨w.heap.size, 5, none⟩ = some (.slice Ba La.length da) := (H2.out.2.2.2.2.2.2.1).cell 5
  have p_6 : W2.cell? ⟨w.heap.size, 6, none⟩ = some (.int .i64 Nb) := (H2.out.2.2.2.2.2.2.1).cell 6
  have p_7 : W2.cell? ⟨w.heap.size, 7, none⟩ = some (.slice Ab sb.length cb) := (H2.out.2.2.2.2.2.2.1).cell 7
  have p_8 : W2.cell? ⟨w.heap.size, 8, none⟩ = some (.slice Bb Lb.length db) := (H2.out.2.2.2.2.2.2.1).cell 8
  go_upto_region 6 with fail
  clear p_0 p_1 p_2 p_3 p_4 p_5 p_6 p_7 p_8
  obtain ⟨r1_, r3_⟩ := one_box W2 #[.int .i64 Nb, .slice Ab sb.length cb, .slice Bb Lb.length db] 25
  have H3 := Lib.hid (And.intro ((H2.out.1).below r3_ (H2.out.1).1) (And.intro (Kd.C_below (H2.out.2.1) r3_) (And.intro (Kd.C_below (H2.out.2.2.1) r3_) (And.intro (Kd.C_below (H2.out.2.2.2.1) r3_) (And.intro (Kd.C_below (H2.out.2.2.2.2.1) r3_) (And.intro (Kd.C_below (H2.out.2.2.2.2.2.1) r3_) (And.intro ((H2.out.2.2.2.2.2.2.1).below r3_ (H2.out.2.2.2.2.2.2.1).lt) (And.intro ((H2.out.2.2.2.2.2.2.2.1).below r3_ (H2.out.2.2.2.2.2.2.2.1).lt) (And.intro (r1_) ((H2.out.2.2.2.2.2.2.2.2).trans (r3_.mono (H2.out.2.2.2.2.2.2.2.2).size)))))))))))
  clear H2
  generalize (W2.alloc (Obj.cells #[.int .i64 Nb, .slice Ab sb.length cb, .slice Bb Lb.length db] 25)) = W3 at *
  obtain ⟨g3, hg3⟩ : ∃ g, W2.heap.size = g := ⟨_, rfl⟩
  rw [hg3] at H3 ⊢
  clear hg3 r1_ r3_
  go_wp2_with fail
  refine (shown13_calls W3 (H3.out.1)).mono ?_
  rintro e W4 ⟨rfl, hb_⟩
  have H4 := Lib.hid (And.intro ((H3.out.1).below hb_ (H3.out.1).1) (And.intro (Kd.C_below (H3.out.2.1) hb_) (And.intro (Kd.C_below (H3.out.2.2.1) hb_) (And.intro (Kd.C_below (H3.out.2.2.2.1) hb_) (And.intro (Kd.C_below (H3.out.2.2.2.2.1) hb_) (And.intro (Kd.C_below (H3.out.2.2.2.2.2.1) hb_) (And.intro ((H3.out.2.2.2.2.2.2.1).below hb_ (H3.out.2.2.2.2.2.2.1).lt) (And.intro ((H3.out.2.2.2.2.2.2.2.1).below hb_ (H3.out.2.2.2.2.2.2.2.1).lt) (And.intro ((H3.out.2.2.2.2.2.2.2.2.1).below hb_ (H3.out.2.2.2.2.2.2.2.2.1).lt) ((H3.out.2.2.2.2.2.2.2.2.2).trans (hb_.mono (H3.out.2.2.2.2.2.2.2.2.2).size)))))))))))
  clear H3
  clear hb_
  have a_0 : W4.cell? ⟨g2, 0, none⟩ = some (.int .i64 Na) := (H4.out.2.2.2.2.2.2.2.1).cell 0
  have a_1 : W4.cell? ⟨g2, 1, none⟩ = some (.slice Aa sa.length ca) := (H4.out.2.2.2.2.2.2.2.1).cell 1
  have a_2 : W4.cell? ⟨g2, 2, none⟩ = some (.slice Ba La.length da) := (H4.out.2.2.2.2.2.2.2.1).cell 2
  go_wp2_with fail
  clear a_0 a_1 a_2
  refine (R.pyxref13_Few.calls 50 Na Aa ca sa Ba da La true W4 (H4.out.2.2.1) HH.out.2.1 (H4.out.2.2.2.1) HH.out.2.2.1 (by rw [few_some _ _ _ 50 (by decide), HFa.out])).mono ?_
  rintro e W5 ⟨rfl, hb_⟩
  have H5 := Lib.hid (And.intro ((H4.out.1).below hb_ (H4.out.1).1) (And.intro (Kd.C_below (H4.out.2.1) hb_) (And.intro (Kd.C_below (H4.out.2.2.1) hb_) (And.intro (Kd.C_below (H4.out.2.2.2.1) hb_) (And.intro (Kd.C_below (H4.out.2.2.2.2.1) hb_) (And.intro (Kd.C_below (H4.out.2.2.2.2.2.1) hb_) (And.intro ((H4.out.2.2.2.2.2.2.1).below hb_ (H4.out.2.2.2.2.2.2.1).lt) (And.intro ((H4.out.2.2.2.2.2.2.2.1).below hb_ (H4.out.2.2.2.2.2.2.2.1).lt) (And.intro ((H4.out.2.2.2.2.2.2.2.2.1).below hb_ (H4.out.2.2.2.2.2.2.2.2.1).lt) ((H4.out.2.2.2.2.2.2.2.2.2).trans (hb_.mono (H4.out.2.2.2.2.2.2.2.2.2).size)))))))))))
  clear H4
  clear hb_
  have b_0 : W5.cell? ⟨g3, 0, none⟩ = some (.int .i64 Nb) := (H5.out.2.2.2.2.2.2.2.2.1).cell 0
  have b_1 : W5.cell? ⟨g3, 1, none⟩ = some (.slice Ab sb.length cb) := (H5.out.2.2.2.2.2.2.2.2.1).cell 1
  have b_2 : W5.cell? ⟨g3, 2, none⟩ = some (.slice Bb Lb.length db) := (H5.out.2.2.2.2.2.2.2.2.1).cell 2
  go_wp2_with fail
  clear b_0 b_1 b_2
  refine (R.pyxref13_Few.calls 50 Nb Ab cb sb Bb db Lb true W5 (H5.out.2.2.2.2.1) HH.out.2.2.2.1 (H5.out.2.2.2.2.2.1) HH.out.2.2.2.2 (by rw [few_some _ _ _ 50 (by decide), HFb.out])).mono ?_
  rintro e W6 ⟨rfl, hb_⟩
  have H6 := Lib.hid (And.intro ((H5.out.1).below hb_ (H5.out.1).1) (And.intro (Kd.C_below (H5.out.2.1) hb_) (And.intro (Kd.C_below (H5.out.2.2.1) hb_) (And.intro (Kd.C_below (H5.out.2.2.2.1) hb_) (And.intro (Kd.C_below (H5.out.2.2.2.2.1) hb_) (And.intro (Kd.C_below (H5.out.2.2.2.2.2.1) hb_) (And.intro ((H5.out.2.2.2.2.2.2.1).below hb_ (H5.out.2.2.2.2.2.2.1).lt) (And.intro ((H5.out.2.2.2.2.2.2.2.1).below hb_ (H5.out.2.2.2.2.2.2.2.1).lt) (And.intro ((H5.out.2.2.2.2.2.2.2.2.1).below hb_ (H5.out.2.2.2.2.2.2.2.2.1).lt) ((H5.out.2.2.2.2.2.2.2.2.2).trans (hb_.mono (H5.out.2.2.2.2.2.2.2.2.2).size)))))))))))
  clear H5
  clear hb_
  go_wp2_with fail
  clear d0
  refine (leaf_any' A0 c0 l N I X er W6 HX.out.1 (H6.out.1) HX.out.2.2.1 HX.out.2.2.2.1 HX.out.2.2.2.2 (H6.out.2.1) HH.out.1).mono ?_
  rintro e W7 ⟨Ax, cx, rfl, q1_, q2_, hb_⟩
  have H7 := Lib.hid (And.intro ((H6.out.1).below hb_ (H6.out.1).1) (And.intro (Kd.C_below (H6.out.2.1) hb_) (And.intro (Kd.C_below (H6.out.2.2.1) hb_) (And.intro (Kd.C_below (H6.out.2.2.2.1) hb_) (And.intro (Kd.C_below (H6.out.2.2.2.2.1) hb_) (And.intro (Kd.C_below (H6.out.2.2.2.2.2.1) hb_) (And.intro ((H6.out.2.2.2.2.2.2.1).below hb_ (H6.out.2.2.2.2.2.2.1).lt) (And.intro ((H6.out.2.2.2.2.2.2.2.1).below hb_ (H6.out.2.2.2.2.2.2.2.1).lt) (And.intro ((H6.out.2.2.2.2.2.2.2.2.1).below hb_ (H6.out.2.2.2.2.2.2.2.2.1).lt) (And.intro (q2_) ((H6.out.2.2.2.2.2.2.2.2.2).trans (hb_.mono (H6.out.2.2.2.2.2.2.2.2.2).size))))))))))))
  clear H6
  clear hb_
  have HQ1 := Lib.hid q1_
  clear q1_ q2_
  go_wp2_with fail
  refine (R.pyxref13_Leaf.calls 2300 A0 c0 l N I X er W7 (H7.out.2.1) HH.out.1 (by rw [refLeaf_some l N I HX.out.2.2.2.2 2300 (by decide), HX.out.1])).mono ?_
  rintro e W8 ⟨v_, rfl, hR_, hb_⟩
  obtain ⟨Ay, cy, rfl, q1_, q2_⟩ := Kd.R_reads hR_
  clear hR_
  have H8 := Lib.hid (And.intro ((H7.out.1).below hb_ (H7.out.1).1) (And.intro (Kd.C_below (H7.out.2.1) hb_) (And.intro (Kd.C_below (H7.out.2.2.1) hb_) (And.intro (Kd.C_below (H7.out.2.2.2.1) hb_) (And.intro (Kd.C_below (H7.out.2.2.2.2.1) hb_) (And.intro (Kd.C_below (H7.out.2.2.2.2.2.1) hb_) (And.intro ((H7.out.2.2.2.2.2.2.1).below hb_ (H7.out.2.2.2.2.2.2.1).lt) (And.intro ((H7.out.2.2.2.2.2.2.2.1).below hb_ (H7.out.2.2.2.2.2.2.2.1).lt) (And.intro ((H7.out.2.2.2.2.2.2.2.2.1).below hb_ (H7.out.2.2.2.2.2.2.2.2.1).lt) (And.intro (Kd.C_below (H7.out.2.2.2.2.2.2.2.2.2.1) hb_) (And.intro (q2_) ((H7.out.2.2.2.2.2.2.2.2.2.2).trans (hb_.mono (H7.out.2.2.2.2.2.2.2.2.2.2).size)))))))))))))
  clear H7
  clear hb_
  have HQ2 := Lib.hid q1_
  clear q1_ q2_
  go_wp2_with fail
  refine (start_any' A0 c0 l N I X er W8 HX.out.1 (H8.out.1) HX.out.2.2.1 HX.out.2.2.2.1 HX.out.2.2.2.2 (H8.out.2.1) HH.out.1).mono ?_
  rintro e W9 ⟨Ac, cc, rfl, q1_, q2_, hb_⟩
  have H9 := Lib.hid (And.intro ((H8.out.1).below hb_ (H8.out.1).1) (And.intro (Kd.C_below (H8.out.2.1) hb_) (And.intro (Kd.C_below (H8.out.2.2.1) hb_) (And.intro (Kd.C_below (H8.out.2.2.2.1) hb_) (And.intro (Kd.C_below (H8.out.2.2.2.2.1) hb_) (And.intro (Kd.C_below (H8.out.2.2.2.2.2.1) hb_) (And.intro ((H8.out.2.2.2.2.2.2.1).below hb_ (H8.out.2.2.2.2.2.2.1).lt) (And.intro ((H8.out.2.2.2.2.2.2.2.1).below hb_ (H8.out.2.2.2.2.2.2.2.1).lt) (And.intro ((H8.out.2.2.2.2.2.2.2.2.1).below hb_ (H8.out.2.2.2.2.2.2.2.2.1).lt) (And.intro (Kd.C_below (H8.out.2.2.2.2.2.2.2.2.2.1) hb_) (And.intro (Kd.C_below (H8.out.2.2.2.2.2.2.2.2.2.2.1) hb_) (And.intro (q2_) ((H8.out.2.2.2.2.2.2.2.2.2.2.2).trans (hb_.mono (H8.out.2.2.2.2.2.2.2.2.2.2.2).size))))))))))))))
  clear H8
  clear hb_
  have HQ3 := Lib.hid q1_
  clear q1_ q2_
  go_upto_region 12 with fail
  obtain ⟨r1_, r3_⟩ := one_box W9 #[.int .i64 0, .slice Ac X.length cc, .slice none 0 0] 25
  have H10 := Lib.hid (And.intro ((H9.out.1).below r3_ (H9.out.1).1) (And.intro (Kd.C_below (H9.out.2.1) r3_) (And.intro (Kd.C_below (H9.out.2.2.1) r3_) (And.intro (Kd.C_below (H9.out.2.2.2.1) r3_) (And.intro (Kd.C_below (H9.out.2.2.2.2.1) r3_) (And.intro (Kd.C_below (H9.out.2.2.2.2.2.1) r3_) (And.intro ((H9.out.2.2.2.2.2.2.1).below r3_ (H9.out.2.2.2.2.2.2.1).lt) (And.intro ((H9.out.2.2.2.2.2.2.2.1).below r3_ (H9.out.2.2.2.2.2.2.2.1).lt) (And.intro ((H9.out.2.2.2.2.2.2.2.2.1).below r3_ (H9.out.2.2.2.2.2.2.2.2.1).lt) (And.intro (Kd.C_below (H9.out.2.2.2.2.2.2.2.2.2.1) r3_) (And.intro (Kd.C_below (H9.out.2.2.2.2.2.2.2.2.2.2.1) r3_) (And.intro (Kd.C_below (H9.out.2.2.2.2.2.2.2.2.2.2.2.1) r3_) (And.intro (r1_) ((H9.out.2.2.2.2.2.2.2.2.2.2.2.2).trans (r3_.mono (H9.out.2.2.2.2.2.2.2.2.2.2.2.2).size)))))))))))))))
  clear H9
  generalize (W9.alloc (Obj.cells #[.int .i64 0, .slice Ac X.length cc, .slice none 0 0] 25)) = W10 at *
  obtain ⟨g10, hg10⟩ : ∃ g, W9.heap.size = g := ⟨_, rfl⟩
  rw [hg10] at H10 ⊢
  clear hg10 r1_ r3_
  go_wp2_with fail
  refine (R.pyxref13_Start.calls 2300 A0 c0 l N I 0 X [] er W10 (H10.out.2.1) HH.out.1 (by rw [refStart_some l N I HX.out.2.2.2.2 2300 (by decide), HX.out.1])).mono ?_
  rintro e W11 ⟨v1_, v2_, rfl, hR_, hS_, hb_⟩
  obtain ⟨Ad, cd, rfl, q1_, q2_⟩ := Kd.R_reads hR_
  obtain ⟨Ae, ce, rfl, q3_, q4_⟩ := Kd.S_reads hS_
  clear hR_ hS_
  have H11 := Lib.hid (And.intro ((H10.out.1).below hb_ (H10.out.1).1) (And.intro (Kd.C_below (H10.out.2.1) hb_) (And.intro (Kd.C_below (H10.out.2.2.1) hb_) (And.intro (Kd.C_below (H10.out.2.2.2.1) hb_) (And.intro (Kd.C_below (H10.out.2.2.2.2.1) hb_) (And.intro (Kd.C_below (H10.out.2.2.2.2.2.1) hb_) (And.intro ((H10.out.2.2.2.2.2.2.1).below hb_ (H10.out.2.2.2.2.2.2.1).lt) (And.intro ((H10.out.2.2.2.2.2.2.2.1).below hb_ (H10.out.2.2.2.2.2.2.2.1).lt) (And.intro ((H10.out.2.2.2.2.2.2.2.2.1).below hb_ (H10.out.2.2.2.2.2.2.2.2.1).lt) (And.intro (Kd.C_below (H10.out.2.2.2.2.2.2.2.2.2.1) hb_) (And.intro (Kd.C_below (H10.out.2.2.2.2.2.2.2.2.2.2.1) hb_) (And.intro (Kd.C_below (H10.out.2.2.2.2.2.2.2.2.2.2.2.1) hb_) (And.intro ((H10.out.2.2.2.2.2.2.2.2.2.2.2.2.1).below hb_ (H10.out.2.2.2.2.2.2.2.2.2.2.2.2.1).lt) (And.intro (q2_) (And.intro (q4_) ((H10.out.2.2.2.2.2.2.2.2.2.2.2.2.2).trans (hb_.mono (H10.out.2.2.2.2.2.2.2.2.2.2.2.2.2).size)))))))))))))))))
  clear H10
  clear hb_
  have HQ4 := Lib.hid (And.intro q1_ q3_)
  clear q1_ q2_ q3_ q4_
  go_upto_region 13 with fail
  obtain ⟨r1_, r3_⟩ := one_box W11 #[.int .i64 0, .slice Ad X.length cd, .slice Ae ([] : List R.S43).length ce] 25
  have H12 := Lib.hid (And.intro ((H11.out.1).below r3_ (H11.out.1).1) (And.intro (Kd.C_below (H11.out.2.1) r3_) (And.intro (Kd.C_below (H11.out.2.2.1) r3_) (And.intro (Kd.C_below (H11.out.2.2.2.1) r3_) (And.intro (Kd.C_below (H11.out.2.2.2.2.1) r3_) (And.intro (Kd.C_below (H11.out.2.2.2.2.2.1) r3_) (And.intro ((H11.out.2.2.2.2.2.2.1).below r3_ (H11.out.2.2.2.2.2.2.1).lt) (And.intro ((H11.out.2.2.2.2.2.2.2.1).below r3_ (H11.out.2.2.2.2.2.2.2.1).lt) (And.intro ((H11.out.2.2.2.2.2.2.2.2.1).below r3_ (H11.out.2.2.2.2.2.2.2.2.1).lt) (And.intro (Kd.C_below (H11.out.2.2.2.2.2.2.2.2.2.1) r3_) (And.intro (Kd.C_below (H11.out.2.2.2.2.2.2.2.2.2.2.1) r3_) (And.intro (Kd.C_below (H11.out.2.2.2.2.2.2.2.2.2.2.2.1) r3_) (And.intro ((H11.out.2.2.2.2.2.2.2.2.2.2.2.2.1).below r3_ (H11.out.2.2.2.2.2.2.2.2.2.2.2.2.1).lt) (And.intro (Kd.C_below (H11.out.2.2.2.2.2.2.2.2.2.2.2.2.2.1) r3_) (And.intro (Kd.C_below (H11.out.2.2.2.2.2.2.2.2.2.2.2.2.2.2.1) r3_) (And.intro (r1_) ((H11.out.2.2.2.2.2.2.2.2.2.2.2.2.2.2.2).trans (r3_.mono (H11.out.2.2.2.2.2.2.2.2.2.2.2.2.2.2.2).size))))))))))))))))))
  clear H11
  generalize (W11.alloc (Obj.cells #[.int .i64 0, .slice Ad X.length cd, .slice Ae ([] : List R.S43).length ce] 25)) = W12 at *
  obtain ⟨g12, hg12⟩ : ∃ g, W11.heap.size = g := ⟨_, rfl⟩
  rw [hg12] at H12 ⊢
  clear hg12 r1_ r3_
  have HA1 := Lib.hid (fun (W : World) (hW : Below W12.heap.size W12 W) => calls_under (Nat.le_refl _) hW (calls_drawn (P.pyxref01_Same.calls Ax cx X Ay cy X true W (Kd.C_below (H12.out.2.2.2.2.2.2.2.2.2.1) hW) HQ1.out (Kd.C_below (H12.out.2.2.2.2.2.2.2.2.2.2.1) hW) HQ2.out (by unfold P.pyxref01_Same.f; rw [if_pos ⟨HX.out.2.1, HX.out.2.1⟩, beq_self_eq_true]))))
  have HA2 := Lib.hid (fun (W : World) (hW : Below W12.heap.size W12 W) => calls_under (Nat.le_refl _) hW (R.pyxref13_Same.calls 110 0 Ac cc X none 0 [] 0 Ad cd X Ae ce [] true W (Kd.C_below (H12.out.2.2.2.2.2.2.2.2.2.2.2.1) hW) HQ3.out (Kd.C_nil _ _) (Nat.le_refl _) (Kd.C_below (H12.out.2.2.2.2.2.2.2.2.2.2.2.2.2.1) hW) HQ4.out.1 (Kd.C_below (H12.out.2.2.2.2.2.2.2.2.2.2.2.2.2.2.1) hW) HQ4.out.2 (by rw [refSame_some _ _ _ _ _ _ HX.out.2.1 HX.out.2.1 (by intro x hx; simp at hx) (by intro x hx; simp at hx) (by decide) 110 (by decide), sameC_refl])))
  have HA3 := Lib.hid (fun (W : World) (hW : Below W12.heap.size W12 W) => calls_under (Nat.le_refl _) hW (R.ratch_Right.calls 40 Na Aa ca sa Ba da La (rightC Na sa La) W (Kd.C_below (H12.out.2.2.1) hW) HH.out.2.1 (Kd.C_below (H12.out.2.2.2.1) hW) HH.out.2.2.1 (right_some _ _ _ 40 (by decide))))
  have HA4 := Lib.hid (fun (W : World) (hW : Below W12.heap.size W12 W) => calls_under (Nat.le_refl _) hW (R.pyxref13_Right.calls 40 Na Aa ca sa Ba da La (rightC Na sa La) W (Kd.C_below (H12.out.2.2.1) hW) HH.out.2.1 (Kd.C_below (H12.out.2.2.2.1) hW) HH.out.2.2.1 (refRight_some _ _ _ 40 (by decide))))
  have HA5 := Lib.hid (fun (W : World) (hW : Below W12.heap.size W12 W) => calls_under (Nat.le_refl _) hW (same_calls Na Nb Aa Ba Ab Bb ca da cb db sa sb La Lb W HO.out.1 HO.out.2.2.1 HO.out.2.1 HO.out.2.2.2.1 (by have := HO.out.2.2.2.2; omega) (Kd.C_below (H12.out.2.2.1) hW) HH.out.2.1 (Kd.C_below (H12.out.2.2.2.1) hW) (Kd.C_below (H12.out.2.2.2.2.1) hW) HH.out.2.2.2.1 (Kd.C_below (H12.out.2.2.2.2.2.1) hW)))
  have HA6 := Lib.hid (fun (W : World) (hW : Below W12.heap.size W12 W) => calls_under (Nat.le_refl _) hW (R.pyxref13_Same.calls 110 Na Aa ca sa Ba da La Nb Ab cb sb Bb db Lb (sameC Na sa La Nb sb Lb) W (Kd.C_below (H12.out.2.2.1) hW) HH.out.2.1 (Kd.C_below (H12.out.2.2.2.1) hW) HH.out.2.2.1 (Kd.C_below (H12.out.2.2.2.2.1) hW) HH.out.2.2.2.1 (Kd.C_below (H12.out.2.2.2.2.2.1) hW) HH.out.2.2.2.2 (refSame_some _ _ _ _ _ _ HO.out.1 HO.out.2.2.1 HO.out.2.1 HO.out.2.2.2.1 HO.out.2.2.2.2 110 (by decide))))
  generalize rightC Na sa La = r1 at *
  generalize sameC Na sa La Nb sb Lb = r2 at *
  have hr1 : (r1 == r1) = true := beq_self_eq_true r1
  have hr2 : (r2 == r2) = true := beq_self_eq_true r2
  have her : (er == er) = true := beq_self_eq_true er
  have HK := Lib.hid (show ∀ W : World, Below W12.heap.size W12 W → (fun (W : World) => Below W12.heap.size W12 W ∧ W.cell? ⟨g2, 0, none⟩ = some (.int .i64 Na) ∧ W.cell? ⟨g2, 1, none⟩ = some (.slice Aa sa.length ca) ∧ W.cell? ⟨g2, 2, none⟩ = some (.slice Ba La.length da) ∧ W.cell? ⟨g3, 0, none⟩ = some (.int .i64 Nb) ∧ W.cell? ⟨g3, 1, none⟩ = some (.slice Ab sb.length cb) ∧ W.cell? ⟨g3, 2, none⟩ = some (.slice Bb Lb.length db) ∧ W.cell? ⟨g10, 0, none⟩ = some (.int .i64 0) ∧ W.cell? ⟨g10, 1, none⟩ = some (.slice Ac X.length cc) ∧ W.cell? ⟨g10, 2, none⟩ = some (.slice none 0 0) ∧ W.cell? ⟨g12, 0, none⟩ = some (.int .i64 0) ∧ W.cell? ⟨g12, 1, none⟩ = some (.slice Ad X.length cd) ∧ W.cell? ⟨g12, 2, none⟩ = some (.slice Ae ([] : List R.S43).length ce)) W from fun W hW => ⟨hW, ((H12.out.2.2.2.2.2.2.2.1).below hW (H12.out.2.2.2.2.2.2.2.1).lt).cell 0, ((H12.out.2.2.2.2.2.2.2.1).below hW (H12.out.2.2.2.2.2.2.2.1).lt).cell 1, ((H12.out.2.2.2.2.2.2.2.1).below hW (H12.out.2.2.2.2.2.2.2.1).lt).cell 2, ((H12.out.2.2.2.2.2.2.2.2.1).below hW (H12.out.2.2.2.2.2.2.2.2.1).lt).cell 0, ((H12.out.2.2.2.2.2.2.2.2.1).below hW (H12.out.2.2.2.2.2.2.2.2.1).lt).cell 1, ((H12.out.2.2.2.2.2.2.2.2.1).below hW (H12.out.2.2.2.2.2.2.2.2.1).lt).cell 2, ((H12.out.2.2.2.2.2.2.2.2.2.2.2.2.1).below hW (H12.out.2.2.2.2.2.2.2.2.2.2.2.2.1).lt).cell 0, ((H12.out.2.2.2.2.2.2.2.2.2.2.2.2.1).below hW (H12.out.2.2.2.2.2.2.2.2.2.2.2.2.1).lt).cell 1, ((H12.out.2.2.2.2.2.2.2.2.2.2.2.2.1).below hW (H12.out.2.2.2.2.2.2.2.2.2.2.2.2.1).lt).cell 2, ((H12.out.2.2.2.2.2.2.2.2.2.2.2.2.2.2.2.1).below hW (H12.out.2.2.2.2.2.2.2.2.2.2.2.2.2.2.2.1).lt).cell 0, ((H12.out.2.2.2.2.2.2.2.2.2.2.2.2.2.2.2.1).below hW (H12.out.2.2.2.2.2.2.2.2.2.2.2.2.2.2.2.1).lt).cell 1, ((H12.out.2.2.2.2.2.2.2.2.2.2.2.2.2.2.2.1).below hW (H12.out.2.2.2.2.2.2.2.2.2.2.2.2.2.2.2.1).lt).cell 2⟩)
  have HB0 := Lib.hid (show Below W12.heap.size W12 W12.drew from (Below.refl _ _).drew)
  go_region_held3 (fun (W : World) => Below W12.heap.size W12 W ∧ W.cell? ⟨g2, 0, none⟩ = some (.int .i64 Na) ∧ W.cell? ⟨g2, 1, none⟩ = some (.slice Aa sa.length ca) ∧ W.cell? ⟨g2, 2, none⟩ = some (.slice Ba La.length da) ∧ W.cell? ⟨g3, 0, none⟩ = some (.int .i64 Nb) ∧ W.cell? ⟨g3, 1, none⟩ = some (.slice Ab sb.length cb) ∧ W.cell? ⟨g3, 2, none⟩ = some (.slice Bb Lb.length db) ∧ W.cell? ⟨g10, 0, none⟩ = some (.int .i64 0) ∧ W.cell? ⟨g10, 1, none⟩ = some (.slice Ac X.length cc) ∧ W.cell? ⟨g10, 2, none⟩ = some (.slice none 0 0) ∧ W.cell? ⟨g12, 0, none⟩ = some (.int .i64 0) ∧ W.cell? ⟨g12, 1, none⟩ = some (.slice Ad X.length cd) ∧ W.cell? ⟨g12, 2, none⟩ = some (.slice Ae ([] : List R.S43).length ce)) (first | exact HK.out _ HB0.out | exact HK.out _ (by assumption)) ((first | (go_at_call 16; refine (HA1.out _ (And.left (by assumption))).mono ?_; rintro e W_ ⟨rfl, hb_⟩) | (go_at_call 17; (first | with_reducible refine (HA6.out _ (And.left (by assumption))).mono ?_ | refine (HA2.out _ (And.left (by assumption))).mono ?_); rintro e W_ ⟨rfl, hb_⟩) | (go_at_call 18; refine (HA3.out _ (And.left (by assumption))).mono ?_; rintro e W_ ⟨rfl, hb_⟩) | (go_at_call 19; refine (HA4.out _ (And.left (by assumption))).mono ?_; rintro e W_ ⟨rfl, hb_⟩) | (go_at_call 20; refine (HA5.out _ (And.left (by assumption))).mono ?_; rintro e W_ ⟨rfl, hb_⟩)))
  all_goals go_wp2
  go_ret
  exact ⟨rfl, (H12.out.2.2.2.2.2.2.2.2.2.2.2.2.2.2.2.2).trans (hb_.mono (H12.out.2.2.2.2.2.2.2.2.2.2.2.2.2.2.2.2).size)⟩
theorem tells_calls (N I Na Nb : Int) (l sa sb : List Int) (La Lb : List R.S43) (A0 Aa Ba Ab Bb : Option Addr) (c0 ca da cb db : Nat) (w : World) (hT : TabOk w) (hl : Kd.C (Kd.int .u8) w A0 l.length l) (hc0 : l.length ≤ c0) (hsa : Kd.C (Kd.int .u8) w Aa sa.length sa) (hca : sa.length ≤ ca) (hLa : Kd.C R.k43 w Ba La.length La) (hda : La.length ≤ da) (hsb : Kd.C (Kd.int .u8) w Ab sb.length sb) (hcb : sb.length ≤ cb) (hLb : Kd.C R.k43 w Bb Lb.length Lb) (hdb : Lb.length ≤ db) (h1 : -9223372036854775808 ≤ N) (h2 : N < 9223372036854775808) (ol : byteOk l = true) (osa : byteOk sa = true) (oLa : locksOk La) (osb : byteOk sb = true) (oLb : locksOk Lb) :
    Calls Tryd.prog 3 #[.agg #[.slice A0 l.length c0, .int .i64 N, .int .i64 I, .int .i64 Na, .slice Aa sa.length ca, .slice Ba La.length da, .int .i64 Nb, .slice Ab sb.length cb, .slice Bb Lb.length db]] w fun e w' => e = .returned (.bool true) ∧ Below w.heap.size w w' := by
  by_cases h40 : l.length ≤ 40
  · cases hfa : fewC sa La with
    | false => exact tells_fewa N I Na Nb l sa sb La Lb A0 Aa Ba Ab Bb c0 ca da cb db w hT hl hc0 hsa hca hLa hda hsb hcb hLb hdb h40 hfa
    | true =>
      cases hfb : fewC sb Lb with
      | false => exact tells_fewb N I Na Nb l sa sb La Lb A0 Aa Ba Ab Bb c0 ca da cb db w hT hl hc0 hsa hca hLa hda hsb hcb hLb hdb h40 hfa hfb
      | true => exact tells_main N I Na Nb l sa sb La Lb A0 Aa Ba Ab Bb c0 ca da cb db w hT hl hc0 hsa hca hLa hda hsb hcb hLb hdb h40 hfa hfb h1 h2 ol osa oLa osb oLb
  · exact tells_long N I Na Nb l sa sb La Lb A0 Aa Ba Ab Bb c0 ca da cb db w hT hl hc0 hsa hca hLa hda hsb hcb hLb hdb (by omega)
end Go.Proofs.YtdklmafkcbjomaaDoor
