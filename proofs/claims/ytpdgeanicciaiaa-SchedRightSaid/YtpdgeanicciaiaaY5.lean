/-
  The lower layers, walked and in closed forms, part 5: E2, SchedD, SchedE, SchedF, SchedG.
-/
import Derived.Test.YtpdgeanicciaiaaY0
import Derived.Test.YtpdgeanicciaiaaY1
import Derived.Test.YtpdgeanicciaiaaY4
import Derived.Test.YtpdgeanicciaiaaUWords
import Derived.Test.YtpdgeanicciaiaaULast
import Derived.Test.YtpdgeanicciaiaaUMore
import Derived.Test.YtpdgeanicciaiaaURepsOne
import Derived.Test.YtpdgeanicciaiaaUGuard
import Derived.Deep.DeepMust
/-! E2 -/
namespace Go.Proofs.Ytpdgeanicciaiaa.E
open Go.Proofs.Ytpdgeanicciaiaa.P
open Go.RowKit Go.Proofs.YtpdgeanicciaiaaW.PrintWords Go.Proofs.YtpdgeanicciaiaaW.PrintLast Go.Proofs.YtpdgeanicciaiaaW.PrintMore
attribute [local go_sem] max2_int min2_int max_two min_two max_three min_three max_four min_four   -- for this text's walks alone
set_option linter.unusedVariables false
set_option linter.unusedSimpArgs false
/-! ### pyxref12_Epoch: function 36 -/
def pyxref12_Epoch.j0 : Nat → List Int → List Int → List Int → Bool → Option (List Int × List Int × List Int × List Int × List Int × Int)
  | 0, _, _, _, _ => none
  | k + 1, x0, x1, x2, x16 => if x16 = true then (some (([] : List Int), ([] : List Int), ([] : List Int), ([] : List Int), ([] : List Int), 1)) else ((pyxref04_Extract.f x0 x1).bind fun t207 => ((pyxref12_label.f t207 (⟨#[101, 112, 111, 99, 104]⟩ : ByteArray) x2).bind fun t210 => ((pyxref04_Out.f t210 (⟨#[105, 110, 105, 116]⟩ : ByteArray)).bind fun t213 => ((pyxref04_Out.f t210 (⟨#[115, 101, 110, 100]⟩ : ByteArray)).bind fun t216 => ((pyxref04_Out.f t210 (⟨#[101, 120, 112, 111, 114, 116]⟩ : ByteArray)).bind fun t219 => ((pyxref04_Out.f t210 (⟨#[99, 111, 110, 102, 105, 114, 109]⟩ : ByteArray)).bind fun t222 => ((pyxref04_Out.f t210 (⟨#[114, 101, 115, 117, 109, 101]⟩ : ByteArray)).bind fun t225 => (some (t213, t216, t219, t222, t225, 0)))))))))
def pyxref12_Epoch.f (k : Nat) (l0 : List Int) (l1 : List Int) (l2 : List Int) : Option (List Int × List Int × List Int × List Int × List Int × Int) := if (l0.length : Int) = 32 then (pyxref12_Epoch.j0 k l0 l1 l2 ((l1.length : Int) != 32)) else (pyxref12_Epoch.j0 k l0 l1 l2 true)
theorem pyxref12_Epoch.mono_l : ∀ k, (∀ y0 y1 y2 y3, LeO (pyxref12_Epoch.j0 k y0 y1 y2 y3) (pyxref12_Epoch.j0 (k + 1) y0 y1 y2 y3))
  | 0 => fun _ _ _ _ r h => by simp [pyxref12_Epoch.j0] at h
  | k + 1 => by
    have ih0 := pyxref12_Epoch.mono_l k
    · intro y0 y1 y2 y3
      unfold pyxref12_Epoch.j0
      repeat' first
      | (with_reducible exact ih0 _ _ _ _)
      | (with_reducible exact LeO.refl _)
      | (with_reducible exact LeO.none _)
      | (with_reducible refine LeO.ite ?_ ?_)
      | (with_reducible refine LeO.bind ?_ (fun _ => ?_))
      | exact ih0 _ _ _ _
      | exact LeO.none _
      | refine LeO.ite ?_ ?_
      | refine LeO.bind ?_ (fun _ => ?_)
theorem pyxref12_Epoch.mono : ∀ a0 a1 a2 k, LeO (pyxref12_Epoch.f k a0 a1 a2) (pyxref12_Epoch.f (k + 1) a0 a1 a2) := by
  intro a0 a1 a2 k
  have ih0 := pyxref12_Epoch.mono_l k
  unfold pyxref12_Epoch.f
  repeat' first
      | (with_reducible exact ih0 _ _ _ _)
      | (with_reducible exact LeO.refl _)
      | (with_reducible exact LeO.none _)
      | (with_reducible refine LeO.ite ?_ ?_)
      | (with_reducible refine LeO.bind ?_ (fun _ => ?_))
      | exact ih0 _ _ _ _
      | exact LeO.none _
      | refine LeO.ite ?_ ?_
      | refine LeO.bind ?_ (fun _ => ?_)
set_option maxHeartbeats 8000000 in
set_option maxRecDepth 100000 in
theorem pyxref12_Epoch.calls (k : Nat) (A0 : Option Addr) (c0 : Nat) (l0 : List Int) (A1 : Option Addr) (c1 : Nat) (l1 : List Int) (A2 : Option Addr) (c2 : Nat) (l2 : List Int) (r1 : List Int) (r2 : List Int) (r3 : List Int) (r4 : List Int) (r5 : List Int) (r6 : Int) (w : World) (hr0 : Kd.C (Kd.int .u8) w A0 l0.length l0) (hc0 : l0.length ≤ c0) (hr1 : Kd.C (Kd.int .u8) w A1 l1.length l1) (hc1 : l1.length ≤ c1) (hr2 : Kd.C (Kd.int .u8) w A2 l2.length l2) (hc2 : l2.length ≤ c2) (h : pyxref12_Epoch.f k l0 l1 l2 = some (r1, r2, r3, r4, r5, r6)) :
    Calls Try.prog 36 #[.slice A0 l0.length c0, .slice A1 l1.length c1, .slice A2 l2.length c2] w fun e w' => ∃ v0_ v1_ v2_ v3_ v4_ : Value, e = .returned (.tuple #[.agg #[v0_, v1_, v2_, v3_, v4_], .int .i64 r6]) ∧ Kd.R (Kd.int .u8) 5 w' w.heap.size (fun k_ => some k_ ≠ (v1_ : Value).ownBlock ∧ some k_ ≠ (v2_ : Value).ownBlock ∧ some k_ ≠ (v3_ : Value).ownBlock ∧ some k_ ≠ (v4_ : Value).ownBlock) v0_ r1 ∧ Kd.R (Kd.int .u8) 5 w' w.heap.size (fun k_ => some k_ ≠ (v0_ : Value).ownBlock ∧ some k_ ≠ (v2_ : Value).ownBlock ∧ some k_ ≠ (v3_ : Value).ownBlock ∧ some k_ ≠ (v4_ : Value).ownBlock) v1_ r2 ∧ Kd.R (Kd.int .u8) 5 w' w.heap.size (fun k_ => some k_ ≠ (v0_ : Value).ownBlock ∧ some k_ ≠ (v1_ : Value).ownBlock ∧ some k_ ≠ (v3_ : Value).ownBlock ∧ some k_ ≠ (v4_ : Value).ownBlock) v2_ r3 ∧ Kd.R (Kd.int .u8) 5 w' w.heap.size (fun k_ => some k_ ≠ (v0_ : Value).ownBlock ∧ some k_ ≠ (v1_ : Value).ownBlock ∧ some k_ ≠ (v2_ : Value).ownBlock ∧ some k_ ≠ (v4_ : Value).ownBlock) v3_ r4 ∧ Kd.R (Kd.int .u8) 5 w' w.heap.size (fun k_ => some k_ ≠ (v0_ : Value).ownBlock ∧ some k_ ≠ (v1_ : Value).ownBlock ∧ some k_ ≠ (v2_ : Value).ownBlock ∧ some k_ ≠ (v3_ : Value).ownBlock) v4_ r5 ∧ Below w.heap.size w w' := by
  have hu60 := Try.underlying60
  have HR0 := Aside0.mk hr0
  have HC0 := Aside0.mk hc0
  clear hr0 hc0
  have HR1 := Aside0.mk hr1
  have HC1 := Aside0.mk hc1
  clear hr1 hc1
  have HR2 := Aside0.mk hr2
  have HC2 := Aside0.mk hc2
  clear hr2 hc2
  have HB := Aside0.mk (Below.refl w.heap.size w)
  have H : (if (l0.length : Int) = 32 then (pyxref12_Epoch.j0 k l0 l1 l2 ((l1.length : Int) != 32)) else (pyxref12_Epoch.j0 k l0 l1 l2 true)) = some (r1, r2, r3, r4, r5, r6) := h
  clear h
  have HC4 := Aside0.mk H
  clear H
  go_enter Try.func36, Try.ntmps36
  go_upto_region 1 with (first | ((with_reducible refine gate_dst (N := 6) rfl ?_); (try (refine gate_guard (by rfl) ?_; dsimp only)); refine box_event ?hg (N := 6) ?hd (cs := #[.slice none 0 0, .slice none 0 0, .slice none 0 0, .slice none 0 0, .slice none 0 0]) (t := 60) ?hr ?_; (case hd => rfl); (case hg => rfl); (case hr => first | (go_simp; done) | (go_simp; rfl)); intro gb206 hg w5 hbox hb; have n0_ := Aside0.mk (below_step (by repeat (first | (with_reducible first | exact HB.out | apply below_alloc | apply pw_below_drewN | apply below_drew1) | exact HB.out)) hb); have n1_ := Aside0.mk (hbox); have n2_ := Aside0.mk ((by rw [hg]; exact (below_size (by repeat (first | (with_reducible first | exact HB.out | apply below_alloc | apply pw_below_drewN | apply below_drew1) | exact HB.out))) : w.heap.size ≤ gb206)); have n3_ := Aside0.mk ((by rw [hg]; exact (below_size (by repeat (first | (with_reducible first | exact HB.out | apply below_alloc | apply pw_below_drewN | apply below_drew1) | exact HB.out))) : w.heap.size ≤ gb206)); clear HB; have HB := n0_; have BK206 := n1_; have GW206 := n2_; have GE206 := n3_; clear n0_ n1_ n2_ n3_; clear hb hbox hg))
  (try simp only [Act.put, List.setIfInBounds_toArray, List.set_cons_zero, List.set_cons_succ])
  go_cut [16] (fun v16 wc => ∃ (kq : Nat) (x16_3 : Bool), v16 = .bool x16_3 ∧ Aside0 (pyxref12_Epoch.j0 kq l0 l1 l2 x16_3 = some (r1, r2, r3, r4, r5, r6)) ∧ Aside0 (kq ≤ k) ∧ Aside0 (wc.heap[gb206]? = some (.cells #[(.slice none 0 0), (.slice none 0 0), (.slice none 0 0), (.slice none 0 0), (.slice none 0 0)] 60 (0, 0))) ∧ Aside0 (Below w.heap.size w wc))
  case first =>
    have H := HC4.out
    clear HC4
    by_cases c6 : (l0.length : Int) = 32
    · rw [if_pos c6] at H
      have c6b0 : ((l0.length : Int) == 32) = true := beq_iff_eq.mpr c6
      have c6b1 : ((l0.length : Int) != 32) = false := bne_eq_false_iff_eq.mpr c6
      clear c6
      (first | rw [c6b0] | (simp only [i64_w, i32_w]; rw [c6b0]) | skip)
      have H' := Aside0.mk H
      clear H
      go_wp2
      go_meet
      case rel => exact ⟨_, (((l1.length : Int) != 32)), (by first | rfl | (simp; done) | (simp [*]; done)), H', ⟨by first | omega | exact Nat.le_refl _⟩, ⟨by (with_reducible repeat (first | refine blk_drewN ?_ _ | refine blk_drew ?_ | refine blk_alloc ?_ _)); exact BK206.out⟩, ⟨by repeat (first | (with_reducible first | exact HB.out | apply below_alloc | apply pw_below_drewN | apply below_drew1 | refine below_set ?_ GE206.out) | exact HB.out)⟩⟩
    · rw [if_neg c6] at H
      have c6b0 : ((l0.length : Int) == 32) = false := beq_eq_false_iff_ne.mpr c6
      have c6b1 : ((l0.length : Int) != 32) = true := bne_iff_ne.mpr c6
      (first | rw [c6b0] | (simp only [i64_w, i32_w]; rw [c6b0]) | skip)
      have H' := Aside0.mk H
      clear H
      go_wp2
      go_meet
      case rel => exact ⟨_, (true), (by first | rfl | (simp; done) | (simp [*]; done)), H', ⟨by first | omega | exact Nat.le_refl _⟩, ⟨by (with_reducible repeat (first | refine blk_drewN ?_ _ | refine blk_drew ?_ | refine blk_alloc ?_ _)); exact BK206.out⟩, ⟨by repeat (first | (with_reducible first | exact HB.out | apply below_alloc | apply pw_below_drewN | apply below_drew1 | refine below_set ?_ GE206.out) | exact HB.out)⟩⟩
  case rest =>
    clear HC4
    try clear c1
    try clear c2
    try clear p2
    try clear c3
    try clear c6
    try clear c6b0
    try clear c6b1
    obtain ⟨kq, x16_3, rfl, HA, HJ3, BK206, HB⟩ := hcut
    cases kq with
    | zero => exact absurd HA.out (by simp [pyxref12_Epoch.j0])
    | succ kj3 =>
      have H := HA.out
      clear HA
      simp only [pyxref12_Epoch.j0] at H
      by_cases c7 : x16_3 = true
      · subst c7
        have H1 : (some (([] : List Int), ([] : List Int), ([] : List Int), ([] : List Int), ([] : List Int), 1)) = some (r1, r2, r3, r4, r5, r6) := by rw [if_pos rfl] at H; exact H
        clear H
        have H := H1
        clear H1
        simp only [Option.some.injEq, Prod.mk.injEq] at H
        obtain ⟨rfl, rfl, rfl, rfl, rfl, rfl⟩ := H
        have hcz8_0 : wc.cell? ⟨gb206, 0, none⟩ = some (.slice none 0 0) := (blk_cell BK206.out 0).trans rfl
        have hcz8_1 : wc.cell? ⟨gb206, 1, none⟩ = some (.slice none 0 0) := (blk_cell BK206.out 1).trans rfl
        have hcz8_2 : wc.cell? ⟨gb206, 2, none⟩ = some (.slice none 0 0) := (blk_cell BK206.out 2).trans rfl
        have hcz8_3 : wc.cell? ⟨gb206, 3, none⟩ = some (.slice none 0 0) := (blk_cell BK206.out 3).trans rfl
        have hcz8_4 : wc.cell? ⟨gb206, 4, none⟩ = some (.slice none 0 0) := (blk_cell BK206.out 4).trans rfl
        have hfz8_0 := blk_frozen BK206.out 0
        have hfz8_1 := blk_frozen BK206.out 1
        have hfz8_2 := blk_frozen BK206.out 2
        have hfz8_3 := blk_frozen BK206.out 3
        have hfz8_4 := blk_frozen BK206.out 4
        go_wp2
        refine bodyPost_ret (results_ct rfl _ _ gb206 60 #[.slice none 0 0, .slice none 0 0, .slice none 0 0, .slice none 0 0, .slice none 0 0] (0, 0) _ rfl (by (with_reducible repeat (first | refine blk_drewN ?_ _ | refine blk_drew ?_ | refine blk_alloc ?_ _)); refine blk_put (cs := #[.slice none 0 0, .slice none 0 0, .slice none 0 0, .slice none 0 0, .slice none 0 0]) ?_ 4 _ rfl; (with_reducible repeat (first | refine blk_drewN ?_ _ | refine blk_drew ?_ | refine blk_alloc ?_ _)); refine blk_put (cs := #[.slice none 0 0, .slice none 0 0, .slice none 0 0, .slice none 0 0, .slice none 0 0]) ?_ 3 _ rfl; (with_reducible repeat (first | refine blk_drewN ?_ _ | refine blk_drew ?_ | refine blk_alloc ?_ _)); refine blk_put (cs := #[.slice none 0 0, .slice none 0 0, .slice none 0 0, .slice none 0 0, .slice none 0 0]) ?_ 2 _ rfl; (with_reducible repeat (first | refine blk_drewN ?_ _ | refine blk_drew ?_ | refine blk_alloc ?_ _)); refine blk_put (cs := #[.slice none 0 0, .slice none 0 0, .slice none 0 0, .slice none 0 0, .slice none 0 0]) ?_ 1 _ rfl; (with_reducible repeat (first | refine blk_drewN ?_ _ | refine blk_drew ?_ | refine blk_alloc ?_ _)); refine blk_put (cs := #[.slice none 0 0, .slice none 0 0, .slice none 0 0, .slice none 0 0, .slice none 0 0]) ?_ 0 _ rfl; (with_reducible repeat (first | refine blk_drewN ?_ _ | refine blk_drew ?_ | refine blk_alloc ?_ _)); exact BK206.out) Try.underlying60 rfl (by kernel_rfl)) rfl ?_
        exact ⟨_, _, _, _, _, by first | rfl | (simp [errW_none, errW_some] <;> rfl) | (simp [*, errW_none, errW_some] <;> rfl), by first | exact Kd.R_nil _ _ _ _ _ | exact Kd.N_nil _ _ _ _ _ | exact Kd.V_nil _ _ _ _ _ | exact Kd.Q_nil _ _ _ _ _ | exact Kd.S_nil _ _ _ _ _, by first | exact Kd.R_nil _ _ _ _ _ | exact Kd.N_nil _ _ _ _ _ | exact Kd.V_nil _ _ _ _ _ | exact Kd.Q_nil _ _ _ _ _ | exact Kd.S_nil _ _ _ _ _, by first | exact Kd.R_nil _ _ _ _ _ | exact Kd.N_nil _ _ _ _ _ | exact Kd.V_nil _ _ _ _ _ | exact Kd.Q_nil _ _ _ _ _ | exact Kd.S_nil _ _ _ _ _, by first | exact Kd.R_nil _ _ _ _ _ | exact Kd.N_nil _ _ _ _ _ | exact Kd.V_nil _ _ _ _ _ | exact Kd.Q_nil _ _ _ _ _ | exact Kd.S_nil _ _ _ _ _, by first | exact Kd.R_nil _ _ _ _ _ | exact Kd.N_nil _ _ _ _ _ | exact Kd.V_nil _ _ _ _ _ | exact Kd.Q_nil _ _ _ _ _ | exact Kd.S_nil _ _ _ _ _, by repeat (first | (with_reducible first | exact HB.out | apply below_alloc | apply pw_below_drewN | apply below_drew1 | refine below_set ?_ GE206.out) | exact HB.out)⟩
      · replace c7 := Bool.eq_false_iff.mpr c7
        subst c7
        have H1 : ((pyxref04_Extract.f l0 l1).bind fun t207 => ((pyxref12_label.f t207 (⟨#[101, 112, 111, 99, 104]⟩ : ByteArray) l2).bind fun t210 => ((pyxref04_Out.f t210 (⟨#[105, 110, 105, 116]⟩ : ByteArray)).bind fun t213 => ((pyxref04_Out.f t210 (⟨#[115, 101, 110, 100]⟩ : ByteArray)).bind fun t216 => ((pyxref04_Out.f t210 (⟨#[101, 120, 112, 111, 114, 116]⟩ : ByteArray)).bind fun t219 => ((pyxref04_Out.f t210 (⟨#[99, 111, 110, 102, 105, 114, 109]⟩ : ByteArray)).bind fun t222 => ((pyxref04_Out.f t210 (⟨#[114, 101, 115, 117, 109, 101]⟩ : ByteArray)).bind fun t225 => (some (t213, t216, t219, t222, t225, 0))))))))) = some (r1, r2, r3, r4, r5, r6) := by rw [if_neg (show ¬ (false = true) by decide)] at H; exact H
        clear H
        have H := H1
        clear H1
        replace H := Option.bind_eq_some_iff.mp H
        obtain ⟨t207, A90, H⟩ := H
        replace H : ((pyxref12_label.f t207 (⟨#[101, 112, 111, 99, 104]⟩ : ByteArray) l2).bind fun t210 => ((pyxref04_Out.f t210 (⟨#[105, 110, 105, 116]⟩ : ByteArray)).bind fun t213 => ((pyxref04_Out.f t210 (⟨#[115, 101, 110, 100]⟩ : ByteArray)).bind fun t216 => ((pyxref04_Out.f t210 (⟨#[101, 120, 112, 111, 114, 116]⟩ : ByteArray)).bind fun t219 => ((pyxref04_Out.f t210 (⟨#[99, 111, 110, 102, 105, 114, 109]⟩ : ByteArray)).bind fun t222 => ((pyxref04_Out.f t210 (⟨#[114, 101, 115, 117, 109, 101]⟩ : ByteArray)).bind fun t225 => (some (t213, t216, t219, t222, t225, 0)))))))) = some (r1, r2, r3, r4, r5, r6) := H
        have A9 := Aside0.mk A90
        clear A90
        replace H := Option.bind_eq_some_iff.mp H
        obtain ⟨t210, A100, H⟩ := H
        replace H : ((pyxref04_Out.f t210 (⟨#[105, 110, 105, 116]⟩ : ByteArray)).bind fun t213 => ((pyxref04_Out.f t210 (⟨#[115, 101, 110, 100]⟩ : ByteArray)).bind fun t216 => ((pyxref04_Out.f t210 (⟨#[101, 120, 112, 111, 114, 116]⟩ : ByteArray)).bind fun t219 => ((pyxref04_Out.f t210 (⟨#[99, 111, 110, 102, 105, 114, 109]⟩ : ByteArray)).bind fun t222 => ((pyxref04_Out.f t210 (⟨#[114, 101, 115, 117, 109, 101]⟩ : ByteArray)).bind fun t225 => (some (t213, t216, t219, t222, t225, 0))))))) = some (r1, r2, r3, r4, r5, r6) := H
        have A10 := Aside0.mk A100
        clear A100
        replace H := Option.bind_eq_some_iff.mp H
        obtain ⟨t213, A110, H⟩ := H
        replace H : ((pyxref04_Out.f t210 (⟨#[115, 101, 110, 100]⟩ : ByteArray)).bind fun t216 => ((pyxref04_Out.f t210 (⟨#[101, 120, 112, 111, 114, 116]⟩ : ByteArray)).bind fun t219 => ((pyxref04_Out.f t210 (⟨#[99, 111, 110, 102, 105, 114, 109]⟩ : ByteArray)).bind fun t222 => ((pyxref04_Out.f t210 (⟨#[114, 101, 115, 117, 109, 101]⟩ : ByteArray)).bind fun t225 => (some (t213, t216, t219, t222, t225, 0)))))) = some (r1, r2, r3, r4, r5, r6) := H
        have A11 := Aside0.mk A110
        clear A110
        replace H := Option.bind_eq_some_iff.mp H
        obtain ⟨t216, A120, H⟩ := H
        replace H : ((pyxref04_Out.f t210 (⟨#[101, 120, 112, 111, 114, 116]⟩ : ByteArray)).bind fun t219 => ((pyxref04_Out.f t210 (⟨#[99, 111, 110, 102, 105, 114, 109]⟩ : ByteArray)).bind fun t222 => ((pyxref04_Out.f t210 (⟨#[114, 101, 115, 117, 109, 101]⟩ : ByteArray)).bind fun t225 => (some (t213, t216, t219, t222, t225, 0))))) = some (r1, r2, r3, r4, r5, r6) := H
        have A12 := Aside0.mk A120
        clear A120
        replace H := Option.bind_eq_some_iff.mp H
        obtain ⟨t219, A130, H⟩ := H
        replace H : ((pyxref04_Out.f t210 (⟨#[99, 111, 110, 102, 105, 114, 109]⟩ : ByteArray)).bind fun t222 => ((pyxref04_Out.f t210 (⟨#[114, 101, 115, 117, 109, 101]⟩ : ByteArray)).bind fun t225 => (some (t213, t216, t219, t222, t225, 0)))) = some (r1, r2, r3, r4, r5, r6) := H
        have A13 := Aside0.mk A130
        clear A130
        replace H := Option.bind_eq_some_iff.mp H
        obtain ⟨t222, A140, H⟩ := H
        replace H : ((pyxref04_Out.f t210 (⟨#[114, 101, 115, 117, 109, 101]⟩ : ByteArray)).bind fun t225 => (some (t213, t216, t219, t222, t225, 0))) = some (r1, r2, r3, r4, r5, r6) := H
        have A14 := Aside0.mk A140
        clear A140
        replace H := Option.bind_eq_some_iff.mp H
        obtain ⟨t225, A150, H⟩ := H
        replace H : (some (t213, t216, t219, t222, t225, 0)) = some (r1, r2, r3, r4, r5, r6) := H
        have A15 := Aside0.mk A150
        clear A150
        simp only [Option.some.injEq, Prod.mk.injEq] at H
        obtain ⟨rfl, rfl, rfl, rfl, rfl, rfl⟩ := H
        go_wp2_with (first | ((with_reducible refine gate_callee (f := 24) rfl ?_); refine goesL_ (some 20) rfl rfl Try.func24 (by kernel_rfl) rfl #[.slice A0 l0.length c0, .slice A1 l1.length c1] rfl (by (try simp only [List.map_toArray, List.map_cons, List.map_nil]); first | done | rfl | (simp only [List.length_drop, List.length_take]; rfl)) ?_; (with_reducible refine (pyxref04_Extract.calls _ _ l0 _ _ l1 t207 _ ?side1 ?side2 ?side3 ?side4 A9.out).mono ?_); (case side1 => repeat (first | exact (Kd.C_below HR0.out HB.out) | (with_reducible refine Kd.C_alloc ?_ _) | (with_reducible refine Kd.C_drewN ?_ _) | (with_reducible refine Kd.C_drew ?_))); (case side2 => exact HC0.out); (case side3 => repeat (first | exact (Kd.C_below HR1.out HB.out) | (with_reducible refine Kd.C_alloc ?_ _) | (with_reducible refine Kd.C_drewN ?_ _) | (with_reducible refine Kd.C_drew ?_))); (case side4 => exact HC1.out); rintro e w16 ⟨v208, rfl, ho0, hb⟩; refine ⟨_, rfl, ?_⟩; have n0_ := Aside0.mk (Kd.R_lower ho0 (below_size (by repeat (first | (with_reducible first | exact HB.out | apply below_alloc | apply pw_below_drewN | apply below_drew1 | refine below_set ?_ GE206.out) | exact HB.out)))); have n1_ := Aside0.mk (blk_below (g := gb206) (o := .cells #[.slice none 0 0, .slice none 0 0, .slice none 0 0, .slice none 0 0, .slice none 0 0] 60 (0, 0)) (by (with_reducible repeat (first | refine blk_drewN ?_ _ | refine blk_drew ?_ | refine blk_alloc ?_ _)); exact BK206.out) hb); have n2_ := Aside0.mk (below_step (by repeat (first | (with_reducible first | exact HB.out | apply below_alloc | apply pw_below_drewN | apply below_drew1 | refine below_set ?_ GE206.out) | exact HB.out)) hb); clear BK206; clear HB; have HO209 := n0_; have BK206 := n1_; have HB := n2_; clear n0_ n1_ n2_; (try clear hb); (try clear hb2); (try clear hk); (try clear hi); (try clear ho0); obtain ⟨Ao17, co17, eo17⟩ := Kd.R_slice HO209.out; subst eo17) | ((with_reducible refine gate_callee (f := 68) rfl ?_); refine goesL_ (some 22) rfl rfl Try.func68 (by kernel_rfl) rfl #[.slice Ao17 t207.length co17, .string (⟨#[101, 112, 111, 99, 104]⟩ : ByteArray), .slice A2 l2.length c2] rfl (by (try simp only [List.map_toArray, List.map_cons, List.map_nil]); first | done | rfl | (simp only [List.length_drop, List.length_take]; rfl)) ?_; (with_reducible refine (pyxref12_label.calls _ _ t207 (⟨#[101, 112, 111, 99, 104]⟩ : ByteArray) _ _ l2 t210 _ ?side1 ?side2 ?side3 ?side4 A10.out).mono ?_); (case side1 => repeat (first | exact (Kd.R_reads' HO209.out).2.2 | (with_reducible refine Kd.C_alloc ?_ _) | (with_reducible refine Kd.C_drewN ?_ _) | (with_reducible refine Kd.C_drew ?_))); (case side2 => exact (Kd.R_reads' HO209.out).2.1); (case side3 => repeat (first | exact (Kd.C_below HR2.out HB.out) | (with_reducible refine Kd.C_alloc ?_ _) | (with_reducible refine Kd.C_drewN ?_ _) | (with_reducible refine Kd.C_drew ?_))); (case side4 => exact HC2.out); rintro e w18 ⟨v211, rfl, ho0, hb⟩; refine ⟨_, rfl, ?_⟩; have n0_ := Aside0.mk (Kd.R_elder' (by (with_reducible repeat (first | apply Kd.R_alloc | apply Kd.R_drewN | apply Kd.R_drew)); exact HO209.out) (Kd.R_base ho0) hb); have n1_ := Aside0.mk (Kd.R_lower (Kd.R_new' ho0 (Kd.R_lt (by (with_reducible repeat (first | apply Kd.R_alloc | apply Kd.R_drewN | apply Kd.R_drew)); exact HO209.out))) (below_size (by repeat (first | (with_reducible first | exact HB.out | apply below_alloc | apply pw_below_drewN | apply below_drew1 | refine below_set ?_ GE206.out) | exact HB.out)))); have n2_ := Aside0.mk (blk_below (g := gb206) (o := .cells #[.slice none 0 0, .slice none 0 0, .slice none 0 0, .slice none 0 0, .slice none 0 0] 60 (0, 0)) (by (with_reducible repeat (first | refine blk_drewN ?_ _ | refine blk_drew ?_ | refine blk_alloc ?_ _)); exact BK206.out) hb); have n3_ := Aside0.mk (below_step (by repeat (first | (with_reducible first | exact HB.out | apply below_alloc | apply pw_below_drewN | apply below_drew1 | refine below_set ?_ GE206.out) | exact HB.out)) hb); clear HO209; clear BK206; clear HB; have HO209 := n0_; have HO212 := n1_; have BK206 := n2_; have HB := n3_; clear n0_ n1_ n2_ n3_; (try clear hb); (try clear hb2); (try clear hk); (try clear hi); (try clear ho0); obtain ⟨Ao19, co19, eo19⟩ := Kd.R_slice HO212.out; subst eo19) | ((with_reducible refine gate_callee (f := 49) rfl ?_); refine goesL_ (some 24) rfl rfl Try.func49 (by kernel_rfl) rfl #[.slice Ao19 t210.length co19, .string (⟨#[105, 110, 105, 116]⟩ : ByteArray)] rfl (by (try simp only [List.map_toArray, List.map_cons, List.map_nil]); first | done | rfl | (simp only [List.length_drop, List.length_take]; rfl)) ?_; (with_reducible refine (pyxref04_Out.calls _ _ t210 (⟨#[105, 110, 105, 116]⟩ : ByteArray) t213 _ ?side1 ?side2 A11.out).mono ?_); (case side1 => repeat (first | exact (Kd.R_reads' HO212.out).2.2 | (with_reducible refine Kd.C_alloc ?_ _) | (with_reducible refine Kd.C_drewN ?_ _) | (with_reducible refine Kd.C_drew ?_))); (case side2 => exact (Kd.R_reads' HO212.out).2.1); rintro e w20 ⟨v214, rfl, ho0, hb⟩; refine ⟨_, rfl, ?_⟩; have n0_ := Aside0.mk (Kd.R_elder' (by (with_reducible repeat (first | apply Kd.R_alloc | apply Kd.R_drewN | apply Kd.R_drew)); exact HO209.out) (Kd.R_base ho0) hb); have n1_ := Aside0.mk (Kd.R_elder' (by (with_reducible repeat (first | apply Kd.R_alloc | apply Kd.R_drewN | apply Kd.R_drew)); exact HO212.out) (Kd.R_base ho0) hb); have n2_ := Aside0.mk (Kd.R_lower (Kd.R_new' (Kd.R_new' ho0 (Kd.R_lt (by (with_reducible repeat (first | apply Kd.R_alloc | apply Kd.R_drewN | apply Kd.R_drew)); exact HO209.out))) (Kd.R_lt (by (with_reducible repeat (first | apply Kd.R_alloc | apply Kd.R_drewN | apply Kd.R_drew)); exact HO212.out))) (below_size (by repeat (first | (with_reducible first | exact HB.out | apply below_alloc | apply pw_below_drewN | apply below_drew1 | refine below_set ?_ GE206.out) | exact HB.out)))); have n3_ := Aside0.mk (blk_below (g := gb206) (o := .cells #[.slice none 0 0, .slice none 0 0, .slice none 0 0, .slice none 0 0, .slice none 0 0] 60 (0, 0)) (by (with_reducible repeat (first | refine blk_drewN ?_ _ | refine blk_drew ?_ | refine blk_alloc ?_ _)); exact BK206.out) hb); have n4_ := Aside0.mk (below_step (by repeat (first | (with_reducible first | exact HB.out | apply below_alloc | apply pw_below_drewN | apply below_drew1 | refine below_set ?_ GE206.out) | exact HB.out)) hb); clear HO209; clear HO212; clear BK206; clear HB; have HO209 := n0_; have HO212 := n1_; have HO215 := n2_; have BK206 := n3_; have HB := n4_; clear n0_ n1_ n2_ n3_ n4_; (try clear hb); (try clear hb2); (try clear hk); (try clear hi); (try clear ho0)) | ((with_reducible refine gate_callee (f := 49) rfl ?_); refine goesL_ (some 26) rfl rfl Try.func49 (by kernel_rfl) rfl #[.slice Ao19 t210.length co19, .string (⟨#[115, 101, 110, 100]⟩ : ByteArray)] rfl (by (try simp only [List.map_toArray, List.map_cons, List.map_nil]); first | done | rfl | (simp only [List.length_drop, List.length_take]; rfl)) ?_; (with_reducible refine (pyxref04_Out.calls _ _ t210 (⟨#[115, 101, 110, 100]⟩ : ByteArray) t216 _ ?side1 ?side2 A12.out).mono ?_); (case side1 => repeat (first | exact (Kd.R_reads' HO212.out).2.2 | (with_reducible refine Kd.C_alloc ?_ _) | (with_reducible refine Kd.C_drewN ?_ _) | (with_reducible refine Kd.C_drew ?_))); (case side2 => exact (Kd.R_reads' HO212.out).2.1); rintro e w21 ⟨v217, rfl, ho0, hb⟩; refine ⟨_, rfl, ?_⟩; have n0_ := Aside0.mk (Kd.R_elder' (by (with_reducible repeat (first | apply Kd.R_alloc | apply Kd.R_drewN | apply Kd.R_drew)); exact HO209.out) (Kd.R_base ho0) hb); have n1_ := Aside0.mk (Kd.R_elder' (by (with_reducible repeat (first | apply Kd.R_alloc | apply Kd.R_drewN | apply Kd.R_drew)); exact HO212.out) (Kd.R_base ho0) hb); have n2_ := Aside0.mk (Kd.R_elder' (by (with_reducible repeat (first | apply Kd.R_alloc | apply Kd.R_drewN | apply Kd.R_drew)); exact HO215.out) (Kd.R_base ho0) hb); have n3_ := Aside0.mk (Kd.R_lower (Kd.R_new' (Kd.R_new' (Kd.R_new' ho0 (Kd.R_lt (by (with_reducible repeat (first | apply Kd.R_alloc | apply Kd.R_drewN | apply Kd.R_drew)); exact HO209.out))) (Kd.R_lt (by (with_reducible repeat (first | apply Kd.R_alloc | apply Kd.R_drewN | apply Kd.R_drew)); exact HO212.out))) (Kd.R_lt (by (with_reducible repeat (first | apply Kd.R_alloc | apply Kd.R_drewN | apply Kd.R_drew)); exact HO215.out))) (below_size (by repeat (first | (with_reducible first | exact HB.out | apply below_alloc | apply pw_below_drewN | apply below_drew1 | refine below_set ?_ GE206.out) | exact HB.out)))); have n4_ := Aside0.mk (blk_below (g := gb206) (o := .cells #[.slice none 0 0, .slice none 0 0, .slice none 0 0, .slice none 0 0, .slice none 0 0] 60 (0, 0)) (by (with_reducible repeat (first | refine blk_drewN ?_ _ | refine blk_drew ?_ | refine blk_alloc ?_ _)); exact BK206.out) hb); have n5_ := Aside0.mk (below_step (by repeat (first | (with_reducible first | exact HB.out | apply below_alloc | apply pw_below_drewN | apply below_drew1 | refine below_set ?_ GE206.out) | exact HB.out)) hb); clear HO209; clear HO212; clear HO215; clear BK206; clear HB; have HO209 := n0_; have HO212 := n1_; have HO215 := n2_; have HO218 := n3_; have BK206 := n4_; have HB := n5_; clear n0_ n1_ n2_ n3_ n4_ n5_; (try clear hb); (try clear hb2); (try clear hk); (try clear hi); (try clear ho0)) | ((with_reducible refine gate_callee (f := 49) rfl ?_); refine goesL_ (some 28) rfl rfl Try.func49 (by kernel_rfl) rfl #[.slice Ao19 t210.length co19, .string (⟨#[101, 120, 112, 111, 114, 116]⟩ : ByteArray)] rfl (by (try simp only [List.map_toArray, List.map_cons, List.map_nil]); first | done | rfl | (simp only [List.length_drop, List.length_take]; rfl)) ?_; (with_reducible refine (pyxref04_Out.calls _ _ t210 (⟨#[101, 120, 112, 111, 114, 116]⟩ : ByteArray) t219 _ ?side1 ?side2 A13.out).mono ?_); (case side1 => repeat (first | exact (Kd.R_reads' HO212.out).2.2 | (with_reducible refine Kd.C_alloc ?_ _) | (with_reducible refine Kd.C_drewN ?_ _) | (with_reducible refine Kd.C_drew ?_))); (case side2 => exact (Kd.R_reads' HO212.out).2.1); rintro e w22 ⟨v220, rfl, ho0, hb⟩; refine ⟨_, rfl, ?_⟩; have n0_ := Aside0.mk (Kd.R_elder' (by (with_reducible repeat (first | apply Kd.R_alloc | apply Kd.R_drewN | apply Kd.R_drew)); exact HO209.out) (Kd.R_base ho0) hb); have n1_ := Aside0.mk (Kd.R_elder' (by (with_reducible repeat (first | apply Kd.R_alloc | apply Kd.R_drewN | apply Kd.R_drew)); exact HO212.out) (Kd.R_base ho0) hb); have n2_ := Aside0.mk (Kd.R_elder' (by (with_reducible repeat (first | apply Kd.R_alloc | apply Kd.R_drewN | apply Kd.R_drew)); exact HO215.out) (Kd.R_base ho0) hb); have n3_ := Aside0.mk (Kd.R_elder' (by (with_reducible repeat (first | apply Kd.R_alloc | apply Kd.R_drewN | apply Kd.R_drew)); exact HO218.out) (Kd.R_base ho0) hb); have n4_ := Aside0.mk (Kd.R_lower (Kd.R_new' (Kd.R_new' (Kd.R_new' (Kd.R_new' ho0 (Kd.R_lt (by (with_reducible repeat (first | apply Kd.R_alloc | apply Kd.R_drewN | apply Kd.R_drew)); exact HO209.out))) (Kd.R_lt (by (with_reducible repeat (first | apply Kd.R_alloc | apply Kd.R_drewN | apply Kd.R_drew)); exact HO212.out))) (Kd.R_lt (by (with_reducible repeat (first | apply Kd.R_alloc | apply Kd.R_drewN | apply Kd.R_drew)); exact HO215.out))) (Kd.R_lt (by (with_reducible repeat (first | apply Kd.R_alloc | apply Kd.R_drewN | apply Kd.R_drew)); exact HO218.out))) (below_size (by repeat (first | (with_reducible first | exact HB.out | apply below_alloc | apply pw_below_drewN | apply below_drew1 | refine below_set ?_ GE206.out) | exact HB.out)))); have n5_ := Aside0.mk (blk_below (g := gb206) (o := .cells #[.slice none 0 0, .slice none 0 0, .slice none 0 0, .slice none 0 0, .slice none 0 0] 60 (0, 0)) (by (with_reducible repeat (first | refine blk_drewN ?_ _ | refine blk_drew ?_ | refine blk_alloc ?_ _)); exact BK206.out) hb); have n6_ := Aside0.mk (below_step (by repeat (first | (with_reducible first | exact HB.out | apply below_alloc | apply pw_below_drewN | apply below_drew1 | refine below_set ?_ GE206.out) | exact HB.out)) hb); clear HO209; clear HO212; clear HO215; clear HO218; clear BK206; clear HB; have HO209 := n0_; have HO212 := n1_; have HO215 := n2_; have HO218 := n3_; have HO221 := n4_; have BK206 := n5_; have HB := n6_; clear n0_ n1_ n2_ n3_ n4_ n5_ n6_; (try clear hb); (try clear hb2); (try clear hk); (try clear hi); (try clear ho0)) | ((with_reducible refine gate_callee (f := 49) rfl ?_); refine goesL_ (some 30) rfl rfl Try.func49 (by kernel_rfl) rfl #[.slice Ao19 t210.length co19, .string (⟨#[99, 111, 110, 102, 105, 114, 109]⟩ : ByteArray)] rfl (by (try simp only [List.map_toArray, List.map_cons, List.map_nil]); first | done | rfl | (simp only [List.length_drop, List.length_take]; rfl)) ?_; (with_reducible refine (pyxref04_Out.calls _ _ t210 (⟨#[99, 111, 110, 102, 105, 114, 109]⟩ : ByteArray) t222 _ ?side1 ?side2 A14.out).mono ?_); (case side1 => repeat (first | exact (Kd.R_reads' HO212.out).2.2 | (with_reducible refine Kd.C_alloc ?_ _) | (with_reducible refine Kd.C_drewN ?_ _) | (with_reducible refine Kd.C_drew ?_))); (case side2 => exact (Kd.R_reads' HO212.out).2.1); rintro e w23 ⟨v223, rfl, ho0, hb⟩; refine ⟨_, rfl, ?_⟩; have n0_ := Aside0.mk (Kd.R_elder' (by (with_reducible repeat (first | apply Kd.R_alloc | apply Kd.R_drewN | apply Kd.R_drew)); exact HO209.out) (Kd.R_base ho0) hb); have n1_ := Aside0.mk (Kd.R_elder' (by (with_reducible repeat (first | apply Kd.R_alloc | apply Kd.R_drewN | apply Kd.R_drew)); exact HO212.out) (Kd.R_base ho0) hb); have n2_ := Aside0.mk (Kd.R_elder' (by (with_reducible repeat (first | apply Kd.R_alloc | apply Kd.R_drewN | apply Kd.R_drew)); exact HO215.out) (Kd.R_base ho0) hb); have n3_ := Aside0.mk (Kd.R_elder' (by (with_reducible repeat (first | apply Kd.R_alloc | apply Kd.R_drewN | apply Kd.R_drew)); exact HO218.out) (Kd.R_base ho0) hb); have n4_ := Aside0.mk (Kd.R_elder' (by (with_reducible repeat (first | apply Kd.R_alloc | apply Kd.R_drewN | apply Kd.R_drew)); exact HO221.out) (Kd.R_base ho0) hb); have n5_ := Aside0.mk (Kd.R_lower (Kd.R_new' (Kd.R_new' (Kd.R_new' (Kd.R_new' (Kd.R_new' ho0 (Kd.R_lt (by (with_reducible repeat (first | apply Kd.R_alloc | apply Kd.R_drewN | apply Kd.R_drew)); exact HO209.out))) (Kd.R_lt (by (with_reducible repeat (first | apply Kd.R_alloc | apply Kd.R_drewN | apply Kd.R_drew)); exact HO212.out))) (Kd.R_lt (by (with_reducible repeat (first | apply Kd.R_alloc | apply Kd.R_drewN | apply Kd.R_drew)); exact HO215.out))) (Kd.R_lt (by (with_reducible repeat (first | apply Kd.R_alloc | apply Kd.R_drewN | apply Kd.R_drew)); exact HO218.out))) (Kd.R_lt (by (with_reducible repeat (first | apply Kd.R_alloc | apply Kd.R_drewN | apply Kd.R_drew)); exact HO221.out))) (below_size (by repeat (first | (with_reducible first | exact HB.out | apply below_alloc | apply pw_below_drewN | apply below_drew1 | refine below_set ?_ GE206.out) | exact HB.out)))); have n6_ := Aside0.mk (blk_below (g := gb206) (o := .cells #[.slice none 0 0, .slice none 0 0, .slice none 0 0, .slice none 0 0, .slice none 0 0] 60 (0, 0)) (by (with_reducible repeat (first | refine blk_drewN ?_ _ | refine blk_drew ?_ | refine blk_alloc ?_ _)); exact BK206.out) hb); have n7_ := Aside0.mk (below_step (by repeat (first | (with_reducible first | exact HB.out | apply below_alloc | apply pw_below_drewN | apply below_drew1 | refine below_set ?_ GE206.out) | exact HB.out)) hb); clear HO209; clear HO212; clear HO215; clear HO218; clear HO221; clear BK206; clear HB; have HO209 := n0_; have HO212 := n1_; have HO215 := n2_; have HO218 := n3_; have HO221 := n4_; have HO224 := n5_; have BK206 := n6_; have HB := n7_; clear n0_ n1_ n2_ n3_ n4_ n5_ n6_ n7_; (try clear hb); (try clear hb2); (try clear hk); (try clear hi); (try clear ho0)) | ((with_reducible refine gate_callee (f := 49) rfl ?_); refine goesL_ (some 32) rfl rfl Try.func49 (by kernel_rfl) rfl #[.slice Ao19 t210.length co19, .string (⟨#[114, 101, 115, 117, 109, 101]⟩ : ByteArray)] rfl (by (try simp only [List.map_toArray, List.map_cons, List.map_nil]); first | done | rfl | (simp only [List.length_drop, List.length_take]; rfl)) ?_; (with_reducible refine (pyxref04_Out.calls _ _ t210 (⟨#[114, 101, 115, 117, 109, 101]⟩ : ByteArray) t225 _ ?side1 ?side2 A15.out).mono ?_); (case side1 => repeat (first | exact (Kd.R_reads' HO212.out).2.2 | (with_reducible refine Kd.C_alloc ?_ _) | (with_reducible refine Kd.C_drewN ?_ _) | (with_reducible refine Kd.C_drew ?_))); (case side2 => exact (Kd.R_reads' HO212.out).2.1); rintro e w24 ⟨v226, rfl, ho0, hb⟩; refine ⟨_, rfl, ?_⟩; have n0_ := Aside0.mk (Kd.R_elder' (by (with_reducible repeat (first | apply Kd.R_alloc | apply Kd.R_drewN | apply Kd.R_drew)); exact HO209.out) (Kd.R_base ho0) hb); have n1_ := Aside0.mk (Kd.R_elder' (by (with_reducible repeat (first | apply Kd.R_alloc | apply Kd.R_drewN | apply Kd.R_drew)); exact HO212.out) (Kd.R_base ho0) hb); have n2_ := Aside0.mk (Kd.R_elder' (by (with_reducible repeat (first | apply Kd.R_alloc | apply Kd.R_drewN | apply Kd.R_drew)); exact HO215.out) (Kd.R_base ho0) hb); have n3_ := Aside0.mk (Kd.R_elder' (by (with_reducible repeat (first | apply Kd.R_alloc | apply Kd.R_drewN | apply Kd.R_drew)); exact HO218.out) (Kd.R_base ho0) hb); have n4_ := Aside0.mk (Kd.R_elder' (by (with_reducible repeat (first | apply Kd.R_alloc | apply Kd.R_drewN | apply Kd.R_drew)); exact HO221.out) (Kd.R_base ho0) hb); have n5_ := Aside0.mk (Kd.R_elder' (by (with_reducible repeat (first | apply Kd.R_alloc | apply Kd.R_drewN | apply Kd.R_drew)); exact HO224.out) (Kd.R_base ho0) hb); have n6_ := Aside0.mk (Kd.R_lower (Kd.R_new' (Kd.R_new' (Kd.R_new' (Kd.R_new' (Kd.R_new' (Kd.R_new' ho0 (Kd.R_lt (by (with_reducible repeat (first | apply Kd.R_alloc | apply Kd.R_drewN | apply Kd.R_drew)); exact HO209.out))) (Kd.R_lt (by (with_reducible repeat (first | apply Kd.R_alloc | apply Kd.R_drewN | apply Kd.R_drew)); exact HO212.out))) (Kd.R_lt (by (with_reducible repeat (first | apply Kd.R_alloc | apply Kd.R_drewN | apply Kd.R_drew)); exact HO215.out))) (Kd.R_lt (by (with_reducible repeat (first | apply Kd.R_alloc | apply Kd.R_drewN | apply Kd.R_drew)); exact HO218.out))) (Kd.R_lt (by (with_reducible repeat (first | apply Kd.R_alloc | apply Kd.R_drewN | apply Kd.R_drew)); exact HO221.out))) (Kd.R_lt (by (with_reducible repeat (first | apply Kd.R_alloc | apply Kd.R_drewN | apply Kd.R_drew)); exact HO224.out))) (below_size (by repeat (first | (with_reducible first | exact HB.out | apply below_alloc | apply pw_below_drewN | apply below_drew1 | refine below_set ?_ GE206.out) | exact HB.out)))); have n7_ := Aside0.mk (blk_below (g := gb206) (o := .cells #[.slice none 0 0, .slice none 0 0, .slice none 0 0, .slice none 0 0, .slice none 0 0] 60 (0, 0)) (by (with_reducible repeat (first | refine blk_drewN ?_ _ | refine blk_drew ?_ | refine blk_alloc ?_ _)); exact BK206.out) hb); have n8_ := Aside0.mk (below_step (by repeat (first | (with_reducible first | exact HB.out | apply below_alloc | apply pw_below_drewN | apply below_drew1 | refine below_set ?_ GE206.out) | exact HB.out)) hb); clear HO209; clear HO212; clear HO215; clear HO218; clear HO221; clear HO224; clear BK206; clear HB; have HO209 := n0_; have HO212 := n1_; have HO215 := n2_; have HO218 := n3_; have HO221 := n4_; have HO224 := n5_; have HO227 := n6_; have BK206 := n7_; have HB := n8_; clear n0_ n1_ n2_ n3_ n4_ n5_ n6_ n7_ n8_; (try clear hb); (try clear hb2); (try clear hk); (try clear hi); (try clear ho0); obtain ⟨Ao25, co25, eo25⟩ := Kd.R_slice HO227.out; subst eo25; obtain ⟨Ao26, co26, eo26⟩ := Kd.R_slice HO224.out; subst eo26; obtain ⟨Ao27, co27, eo27⟩ := Kd.R_slice HO221.out; subst eo27; obtain ⟨Ao28, co28, eo28⟩ := Kd.R_slice HO218.out; subst eo28; obtain ⟨Ao29, co29, eo29⟩ := Kd.R_slice HO215.out; subst eo29; have hcz30_0 : w24.cell? ⟨gb206, 0, none⟩ = some (.slice none 0 0) := (blk_cell BK206.out 0).trans rfl; have hcz30_1 : w24.cell? ⟨gb206, 1, none⟩ = some (.slice none 0 0) := (blk_cell BK206.out 1).trans rfl; have hcz30_2 : w24.cell? ⟨gb206, 2, none⟩ = some (.slice none 0 0) := (blk_cell BK206.out 2).trans rfl; have hcz30_3 : w24.cell? ⟨gb206, 3, none⟩ = some (.slice none 0 0) := (blk_cell BK206.out 3).trans rfl; have hcz30_4 : w24.cell? ⟨gb206, 4, none⟩ = some (.slice none 0 0) := (blk_cell BK206.out 4).trans rfl; have hfz30_0 := blk_frozen BK206.out 0; have hfz30_1 := blk_frozen BK206.out 1; have hfz30_2 := blk_frozen BK206.out 2; have hfz30_3 := blk_frozen BK206.out 3; have hfz30_4 := blk_frozen BK206.out 4))
        refine bodyPost_ret (results_ct rfl _ _ gb206 60 #[.slice Ao29 t213.length co29, .slice Ao28 t216.length co28, .slice Ao27 t219.length co27, .slice Ao26 t222.length co26, .slice Ao25 t225.length co25] (0, 0) _ rfl (by (with_reducible repeat (first | refine blk_drewN ?_ _ | refine blk_drew ?_ | refine blk_alloc ?_ _)); refine blk_put (cs := #[.slice Ao29 t213.length co29, .slice Ao28 t216.length co28, .slice Ao27 t219.length co27, .slice Ao26 t222.length co26, .slice none 0 0]) ?_ 4 _ rfl; (with_reducible repeat (first | refine blk_drewN ?_ _ | refine blk_drew ?_ | refine blk_alloc ?_ _)); refine blk_put (cs := #[.slice Ao29 t213.length co29, .slice Ao28 t216.length co28, .slice Ao27 t219.length co27, .slice none 0 0, .slice none 0 0]) ?_ 3 _ rfl; (with_reducible repeat (first | refine blk_drewN ?_ _ | refine blk_drew ?_ | refine blk_alloc ?_ _)); refine blk_put (cs := #[.slice Ao29 t213.length co29, .slice Ao28 t216.length co28, .slice none 0 0, .slice none 0 0, .slice none 0 0]) ?_ 2 _ rfl; (with_reducible repeat (first | refine blk_drewN ?_ _ | refine blk_drew ?_ | refine blk_alloc ?_ _)); refine blk_put (cs := #[.slice Ao29 t213.length co29, .slice none 0 0, .slice none 0 0, .slice none 0 0, .slice none 0 0]) ?_ 1 _ rfl; (with_reducible repeat (first | refine blk_drewN ?_ _ | refine blk_drew ?_ | refine blk_alloc ?_ _)); refine blk_put (cs := #[.slice none 0 0, .slice none 0 0, .slice none 0 0, .slice none 0 0, .slice none 0 0]) ?_ 0 _ rfl; (with_reducible repeat (first | refine blk_drewN ?_ _ | refine blk_drew ?_ | refine blk_alloc ?_ _)); exact BK206.out) Try.underlying60 rfl (by kernel_rfl)) rfl ?_
        exact ⟨_, _, _, _, _, by first | rfl | (simp [errW_none, errW_some] <;> rfl) | (simp [*, errW_none, errW_some] <;> rfl), by (with_reducible repeat (first | apply Kd.R_alloc | apply Kd.R_drewN | apply Kd.R_drew)); exact Kd.R_mono (Kd.R_far (p := ⟨gb206, 4, none⟩) (Kd.R_far (p := ⟨gb206, 3, none⟩) (Kd.R_far (p := ⟨gb206, 2, none⟩) (Kd.R_far (p := ⟨gb206, 1, none⟩) (Kd.R_far (p := ⟨gb206, 0, none⟩) (Kd.R_types HO215.out BK206.out (by decide)) (fun _ hk => hk.2) (.slice Ao29 t213.length co29)) (fun _ hk => hk.2) (.slice Ao28 t216.length co28)) (fun _ hk => hk.2) (.slice Ao27 t219.length co27)) (fun _ hk => hk.2) (.slice Ao26 t222.length co26)) (fun _ hk => hk.2) (.slice Ao25 t225.length co25)) (fun _ hk => ⟨hk.1.1.1.1.2, ⟨hk.1.1.1.2, ⟨hk.1.1.2, hk.1.2⟩⟩⟩), by (with_reducible repeat (first | apply Kd.R_alloc | apply Kd.R_drewN | apply Kd.R_drew)); exact Kd.R_mono (Kd.R_far (p := ⟨gb206, 4, none⟩) (Kd.R_far (p := ⟨gb206, 3, none⟩) (Kd.R_far (p := ⟨gb206, 2, none⟩) (Kd.R_far (p := ⟨gb206, 1, none⟩) (Kd.R_far (p := ⟨gb206, 0, none⟩) (Kd.R_types HO218.out BK206.out (by decide)) (fun _ hk => hk.2) (.slice Ao29 t213.length co29)) (fun _ hk => hk.2) (.slice Ao28 t216.length co28)) (fun _ hk => hk.2) (.slice Ao27 t219.length co27)) (fun _ hk => hk.2) (.slice Ao26 t222.length co26)) (fun _ hk => hk.2) (.slice Ao25 t225.length co25)) (fun _ hk => ⟨hk.1.1.1.1.2, ⟨hk.1.1.1.2, ⟨hk.1.1.2, hk.1.2⟩⟩⟩), by (with_reducible repeat (first | apply Kd.R_alloc | apply Kd.R_drewN | apply Kd.R_drew)); exact Kd.R_mono (Kd.R_far (p := ⟨gb206, 4, none⟩) (Kd.R_far (p := ⟨gb206, 3, none⟩) (Kd.R_far (p := ⟨gb206, 2, none⟩) (Kd.R_far (p := ⟨gb206, 1, none⟩) (Kd.R_far (p := ⟨gb206, 0, none⟩) (Kd.R_types HO221.out BK206.out (by decide)) (fun _ hk => hk.2) (.slice Ao29 t213.length co29)) (fun _ hk => hk.2) (.slice Ao28 t216.length co28)) (fun _ hk => hk.2) (.slice Ao27 t219.length co27)) (fun _ hk => hk.2) (.slice Ao26 t222.length co26)) (fun _ hk => hk.2) (.slice Ao25 t225.length co25)) (fun _ hk => ⟨hk.1.1.1.1.2, ⟨hk.1.1.1.2, ⟨hk.1.1.2, hk.1.2⟩⟩⟩), by (with_reducible repeat (first | apply Kd.R_alloc | apply Kd.R_drewN | apply Kd.R_drew)); exact Kd.R_mono (Kd.R_far (p := ⟨gb206, 4, none⟩) (Kd.R_far (p := ⟨gb206, 3, none⟩) (Kd.R_far (p := ⟨gb206, 2, none⟩) (Kd.R_far (p := ⟨gb206, 1, none⟩) (Kd.R_far (p := ⟨gb206, 0, none⟩) (Kd.R_types HO224.out BK206.out (by decide)) (fun _ hk => hk.2) (.slice Ao29 t213.length co29)) (fun _ hk => hk.2) (.slice Ao28 t216.length co28)) (fun _ hk => hk.2) (.slice Ao27 t219.length co27)) (fun _ hk => hk.2) (.slice Ao26 t222.length co26)) (fun _ hk => hk.2) (.slice Ao25 t225.length co25)) (fun _ hk => ⟨hk.1.1.1.1.2, ⟨hk.1.1.1.2, ⟨hk.1.1.2, hk.1.2⟩⟩⟩), by (with_reducible repeat (first | apply Kd.R_alloc | apply Kd.R_drewN | apply Kd.R_drew)); exact Kd.R_mono (Kd.R_far (p := ⟨gb206, 4, none⟩) (Kd.R_far (p := ⟨gb206, 3, none⟩) (Kd.R_far (p := ⟨gb206, 2, none⟩) (Kd.R_far (p := ⟨gb206, 1, none⟩) (Kd.R_far (p := ⟨gb206, 0, none⟩) (Kd.R_types HO227.out BK206.out (by decide)) (fun _ hk => hk.2) (.slice Ao29 t213.length co29)) (fun _ hk => hk.2) (.slice Ao28 t216.length co28)) (fun _ hk => hk.2) (.slice Ao27 t219.length co27)) (fun _ hk => hk.2) (.slice Ao26 t222.length co26)) (fun _ hk => hk.2) (.slice Ao25 t225.length co25)) (fun _ hk => ⟨hk.1.1.1.1.2, ⟨hk.1.1.1.2, ⟨hk.1.1.2, hk.1.2⟩⟩⟩), by repeat (first | (with_reducible first | exact HB.out | apply below_alloc | apply pw_below_drewN | apply below_drew1 | refine below_set ?_ GE206.out) | exact HB.out)⟩
/-! ### pyxref12_Right: function 48 -/
def pyxref12_Right.f (l0_0 : List Int) (l0_1 : List Int) (l0_2 : List Int) (l0_3 : List Int) (l0_4 : List Int) : Option (Bool) := if (l0_0.length : Int) = 32 then (if (l0_1.length : Int) = 32 then (if (l0_2.length : Int) = 32 then (if (l0_3.length : Int) = 32 then (some ((l0_4.length : Int) == 32)) else (some false)) else (some false)) else (some false)) else (some false)
set_option maxHeartbeats 8000000 in
set_option maxRecDepth 100000 in
theorem pyxref12_Right.calls (A0_0 : Option Addr) (c0_0 : Nat) (l0_0 : List Int) (A0_1 : Option Addr) (c0_1 : Nat) (l0_1 : List Int) (A0_2 : Option Addr) (c0_2 : Nat) (l0_2 : List Int) (A0_3 : Option Addr) (c0_3 : Nat) (l0_3 : List Int) (A0_4 : Option Addr) (c0_4 : Nat) (l0_4 : List Int) (r : Bool) (w : World) (hr0_0 : Kd.C (Kd.int .u8) w A0_0 l0_0.length l0_0) (hc0_0 : l0_0.length ≤ c0_0) (hr0_1 : Kd.C (Kd.int .u8) w A0_1 l0_1.length l0_1) (hc0_1 : l0_1.length ≤ c0_1) (hr0_2 : Kd.C (Kd.int .u8) w A0_2 l0_2.length l0_2) (hc0_2 : l0_2.length ≤ c0_2) (hr0_3 : Kd.C (Kd.int .u8) w A0_3 l0_3.length l0_3) (hc0_3 : l0_3.length ≤ c0_3) (hr0_4 : Kd.C (Kd.int .u8) w A0_4 l0_4.length l0_4) (hc0_4 : l0_4.length ≤ c0_4) (h : pyxref12_Right.f l0_0 l0_1 l0_2 l0_3 l0_4 = some r) :
    Calls Try.prog 48 #[.agg #[.slice A0_0 l0_0.length c0_0, .slice A0_1 l0_1.length c0_1, .slice A0_2 l0_2.length c0_2, .slice A0_3 l0_3.length c0_3, .slice A0_4 l0_4.length c0_4]] w fun e w' => e = .returned (.bool r) ∧ Below w.heap.size w w' := by
  have hu60 := Try.underlying60
  have HR0_0 := Aside0.mk hr0_0
  have HC0_0 := Aside0.mk hc0_0
  clear hr0_0 hc0_0
  have HR0_1 := Aside0.mk hr0_1
  have HC0_1 := Aside0.mk hc0_1
  clear hr0_1 hc0_1
  have HR0_2 := Aside0.mk hr0_2
  have HC0_2 := Aside0.mk hc0_2
  clear hr0_2 hc0_2
  have HR0_3 := Aside0.mk hr0_3
  have HC0_3 := Aside0.mk hc0_3
  clear hr0_3 hc0_3
  have HR0_4 := Aside0.mk hr0_4
  have HC0_4 := Aside0.mk hc0_4
  clear hr0_4 hc0_4
  have HB := Aside0.mk (Below.refl w.heap.size w)
  have H : (if (l0_0.length : Int) = 32 then (if (l0_1.length : Int) = 32 then (if (l0_2.length : Int) = 32 then (if (l0_3.length : Int) = 32 then (some ((l0_4.length : Int) == 32)) else (some false)) else (some false)) else (some false)) else (some false)) = some r := h
  clear h
  by_cases c2 : (l0_0.length : Int) = 32
  · rw [if_pos c2] at H
    have c2b0 : ((l0_0.length : Int) == 32) = true := beq_iff_eq.mpr c2
    have c2b1 : ((l0_0.length : Int) != 32) = false := bne_eq_false_iff_eq.mpr c2
    clear c2
    by_cases c3 : (l0_1.length : Int) = 32
    · rw [if_pos c3] at H
      have c3b0 : ((l0_1.length : Int) == 32) = true := beq_iff_eq.mpr c3
      have c3b1 : ((l0_1.length : Int) != 32) = false := bne_eq_false_iff_eq.mpr c3
      clear c3
      by_cases c4 : (l0_2.length : Int) = 32
      · rw [if_pos c4] at H
        have c4b0 : ((l0_2.length : Int) == 32) = true := beq_iff_eq.mpr c4
        have c4b1 : ((l0_2.length : Int) != 32) = false := bne_eq_false_iff_eq.mpr c4
        clear c4
        by_cases c5 : (l0_3.length : Int) = 32
        · rw [if_pos c5] at H
          have c5b0 : ((l0_3.length : Int) == 32) = true := beq_iff_eq.mpr c5
          have c5b1 : ((l0_3.length : Int) != 32) = false := bne_eq_false_iff_eq.mpr c5
          clear c5
          obtain rfl := Option.some.inj H
          go_enter Try.func48, Try.ntmps48
          go_wp2_with (first | ((with_reducible refine gate_dst (N := 1) rfl ?_); (try (refine gate_guard (by rfl) ?_; dsimp only)); refine box_event ?hg (N := 1) ?hd (cs := #[.slice A0_0 l0_0.length c0_0, .slice A0_1 l0_1.length c0_1, .slice A0_2 l0_2.length c0_2, .slice A0_3 l0_3.length c0_3, .slice A0_4 l0_4.length c0_4]) (t := 60) ?hr ?_; (case hd => rfl); (case hg => rfl); (case hr => first | (go_simp; done) | (go_simp; rfl)); intro gb252 hg w6 hbox hb; have n0_ := Aside0.mk (below_step (by repeat (first | (with_reducible first | exact HB.out | apply below_alloc | apply pw_below_drewN | apply below_drew1) | exact HB.out)) hb); have n1_ := Aside0.mk (hbox); have n2_ := Aside0.mk ((by rw [hg]; exact (below_size (by repeat (first | (with_reducible first | exact HB.out | apply below_alloc | apply pw_below_drewN | apply below_drew1) | exact HB.out))) : w.heap.size ≤ gb252)); have n3_ := Aside0.mk ((by rw [hg]; exact (below_size (by repeat (first | (with_reducible first | exact HB.out | apply below_alloc | apply pw_below_drewN | apply below_drew1) | exact HB.out))) : w.heap.size ≤ gb252)); clear HB; have HB := n0_; have BK252 := n1_; have GW252 := n2_; have GE252 := n3_; clear n0_ n1_ n2_ n3_; clear hb hbox hg; have hcz7_0 : w6.cell? ⟨gb252, 0, none⟩ = some (.slice A0_0 l0_0.length c0_0) := (blk_cell BK252.out 0).trans rfl; have hcz7_1 : w6.cell? ⟨gb252, 1, none⟩ = some (.slice A0_1 l0_1.length c0_1) := (blk_cell BK252.out 1).trans rfl; have hcz7_2 : w6.cell? ⟨gb252, 2, none⟩ = some (.slice A0_2 l0_2.length c0_2) := (blk_cell BK252.out 2).trans rfl; have hcz7_3 : w6.cell? ⟨gb252, 3, none⟩ = some (.slice A0_3 l0_3.length c0_3) := (blk_cell BK252.out 3).trans rfl; have hcz7_4 : w6.cell? ⟨gb252, 4, none⟩ = some (.slice A0_4 l0_4.length c0_4) := (blk_cell BK252.out 4).trans rfl; have hfz7_0 := blk_frozen BK252.out 0; have hfz7_1 := blk_frozen BK252.out 1; have hfz7_2 := blk_frozen BK252.out 2; have hfz7_3 := blk_frozen BK252.out 3; have hfz7_4 := blk_frozen BK252.out 4))
          go_ret
          exact ⟨by first | rfl | (simp [errW_none, errW_some] <;> rfl) | (simp [*, errW_none, errW_some] <;> rfl), by repeat (first | (with_reducible first | exact HB.out | apply below_alloc | apply pw_below_drewN | apply below_drew1 | refine below_set ?_ GE252.out) | exact HB.out)⟩
        · rw [if_neg c5] at H
          have c5b0 : ((l0_3.length : Int) == 32) = false := beq_eq_false_iff_ne.mpr c5
          have c5b1 : ((l0_3.length : Int) != 32) = true := bne_iff_ne.mpr c5
          obtain rfl := Option.some.inj H
          go_enter Try.func48, Try.ntmps48
          go_wp2_with (first | ((with_reducible refine gate_dst (N := 1) rfl ?_); (try (refine gate_guard (by rfl) ?_; dsimp only)); refine box_event ?hg (N := 1) ?hd (cs := #[.slice A0_0 l0_0.length c0_0, .slice A0_1 l0_1.length c0_1, .slice A0_2 l0_2.length c0_2, .slice A0_3 l0_3.length c0_3, .slice A0_4 l0_4.length c0_4]) (t := 60) ?hr ?_; (case hd => rfl); (case hg => rfl); (case hr => first | (go_simp; done) | (go_simp; rfl)); intro gb252 hg w8 hbox hb; have n0_ := Aside0.mk (below_step (by repeat (first | (with_reducible first | exact HB.out | apply below_alloc | apply pw_below_drewN | apply below_drew1) | exact HB.out)) hb); have n1_ := Aside0.mk (hbox); have n2_ := Aside0.mk ((by rw [hg]; exact (below_size (by repeat (first | (with_reducible first | exact HB.out | apply below_alloc | apply pw_below_drewN | apply below_drew1) | exact HB.out))) : w.heap.size ≤ gb252)); have n3_ := Aside0.mk ((by rw [hg]; exact (below_size (by repeat (first | (with_reducible first | exact HB.out | apply below_alloc | apply pw_below_drewN | apply below_drew1) | exact HB.out))) : w.heap.size ≤ gb252)); clear HB; have HB := n0_; have BK252 := n1_; have GW252 := n2_; have GE252 := n3_; clear n0_ n1_ n2_ n3_; clear hb hbox hg; have hcz9_0 : w8.cell? ⟨gb252, 0, none⟩ = some (.slice A0_0 l0_0.length c0_0) := (blk_cell BK252.out 0).trans rfl; have hcz9_1 : w8.cell? ⟨gb252, 1, none⟩ = some (.slice A0_1 l0_1.length c0_1) := (blk_cell BK252.out 1).trans rfl; have hcz9_2 : w8.cell? ⟨gb252, 2, none⟩ = some (.slice A0_2 l0_2.length c0_2) := (blk_cell BK252.out 2).trans rfl; have hcz9_3 : w8.cell? ⟨gb252, 3, none⟩ = some (.slice A0_3 l0_3.length c0_3) := (blk_cell BK252.out 3).trans rfl; have hcz9_4 : w8.cell? ⟨gb252, 4, none⟩ = some (.slice A0_4 l0_4.length c0_4) := (blk_cell BK252.out 4).trans rfl; have hfz9_0 := blk_frozen BK252.out 0; have hfz9_1 := blk_frozen BK252.out 1; have hfz9_2 := blk_frozen BK252.out 2; have hfz9_3 := blk_frozen BK252.out 3; have hfz9_4 := blk_frozen BK252.out 4))
          go_ret
          exact ⟨by first | rfl | (simp [errW_none, errW_some] <;> rfl) | (simp [*, errW_none, errW_some] <;> rfl), by repeat (first | (with_reducible first | exact HB.out | apply below_alloc | apply pw_below_drewN | apply below_drew1 | refine below_set ?_ GE252.out) | exact HB.out)⟩
      · rw [if_neg c4] at H
        have c4b0 : ((l0_2.length : Int) == 32) = false := beq_eq_false_iff_ne.mpr c4
        have c4b1 : ((l0_2.length : Int) != 32) = true := bne_iff_ne.mpr c4
        obtain rfl := Option.some.inj H
        go_enter Try.func48, Try.ntmps48
        go_wp2_with (first | ((with_reducible refine gate_dst (N := 1) rfl ?_); (try (refine gate_guard (by rfl) ?_; dsimp only)); refine box_event ?hg (N := 1) ?hd (cs := #[.slice A0_0 l0_0.length c0_0, .slice A0_1 l0_1.length c0_1, .slice A0_2 l0_2.length c0_2, .slice A0_3 l0_3.length c0_3, .slice A0_4 l0_4.length c0_4]) (t := 60) ?hr ?_; (case hd => rfl); (case hg => rfl); (case hr => first | (go_simp; done) | (go_simp; rfl)); intro gb252 hg w10 hbox hb; have n0_ := Aside0.mk (below_step (by repeat (first | (with_reducible first | exact HB.out | apply below_alloc | apply pw_below_drewN | apply below_drew1) | exact HB.out)) hb); have n1_ := Aside0.mk (hbox); have n2_ := Aside0.mk ((by rw [hg]; exact (below_size (by repeat (first | (with_reducible first | exact HB.out | apply below_alloc | apply pw_below_drewN | apply below_drew1) | exact HB.out))) : w.heap.size ≤ gb252)); have n3_ := Aside0.mk ((by rw [hg]; exact (below_size (by repeat (first | (with_reducible first | exact HB.out | apply below_alloc | apply pw_below_drewN | apply below_drew1) | exact HB.out))) : w.heap.size ≤ gb252)); clear HB; have HB := n0_; have BK252 := n1_; have GW252 := n2_; have GE252 := n3_; clear n0_ n1_ n2_ n3_; clear hb hbox hg; have hcz11_0 : w10.cell? ⟨gb252, 0, none⟩ = some (.slice A0_0 l0_0.length c0_0) := (blk_cell BK252.out 0).trans rfl; have hcz11_1 : w10.cell? ⟨gb252, 1, none⟩ = some (.slice A0_1 l0_1.length c0_1) := (blk_cell BK252.out 1).trans rfl; have hcz11_2 : w10.cell? ⟨gb252, 2, none⟩ = some (.slice A0_2 l0_2.length c0_2) := (blk_cell BK252.out 2).trans rfl; have hcz11_3 : w10.cell? ⟨gb252, 3, none⟩ = some (.slice A0_3 l0_3.length c0_3) := (blk_cell BK252.out 3).trans rfl; have hcz11_4 : w10.cell? ⟨gb252, 4, none⟩ = some (.slice A0_4 l0_4.length c0_4) := (blk_cell BK252.out 4).trans rfl; have hfz11_0 := blk_frozen BK252.out 0; have hfz11_1 := blk_frozen BK252.out 1; have hfz11_2 := blk_frozen BK252.out 2; have hfz11_3 := blk_frozen BK252.out 3; have hfz11_4 := blk_frozen BK252.out 4))
        go_ret
        exact ⟨by first | rfl | (simp [errW_none, errW_some] <;> rfl) | (simp [*, errW_none, errW_some] <;> rfl), by repeat (first | (with_reducible first | exact HB.out | apply below_alloc | apply pw_below_drewN | apply below_drew1 | refine below_set ?_ GE252.out) | exact HB.out)⟩
    · rw [if_neg c3] at H
      have c3b0 : ((l0_1.length : Int) == 32) = false := beq_eq_false_iff_ne.mpr c3
      have c3b1 : ((l0_1.length : Int) != 32) = true := bne_iff_ne.mpr c3
      obtain rfl := Option.some.inj H
      go_enter Try.func48, Try.ntmps48
      go_wp2_with (first | ((with_reducible refine gate_dst (N := 1) rfl ?_); (try (refine gate_guard (by rfl) ?_; dsimp only)); refine box_event ?hg (N := 1) ?hd (cs := #[.slice A0_0 l0_0.length c0_0, .slice A0_1 l0_1.length c0_1, .slice A0_2 l0_2.length c0_2, .slice A0_3 l0_3.length c0_3, .slice A0_4 l0_4.length c0_4]) (t := 60) ?hr ?_; (case hd => rfl); (case hg => rfl); (case hr => first | (go_simp; done) | (go_simp; rfl)); intro gb252 hg w12 hbox hb; have n0_ := Aside0.mk (below_step (by repeat (first | (with_reducible first | exact HB.out | apply below_alloc | apply pw_below_drewN | apply below_drew1) | exact HB.out)) hb); have n1_ := Aside0.mk (hbox); have n2_ := Aside0.mk ((by rw [hg]; exact (below_size (by repeat (first | (with_reducible first | exact HB.out | apply below_alloc | apply pw_below_drewN | apply below_drew1) | exact HB.out))) : w.heap.size ≤ gb252)); have n3_ := Aside0.mk ((by rw [hg]; exact (below_size (by repeat (first | (with_reducible first | exact HB.out | apply below_alloc | apply pw_below_drewN | apply below_drew1) | exact HB.out))) : w.heap.size ≤ gb252)); clear HB; have HB := n0_; have BK252 := n1_; have GW252 := n2_; have GE252 := n3_; clear n0_ n1_ n2_ n3_; clear hb hbox hg; have hcz13_0 : w12.cell? ⟨gb252, 0, none⟩ = some (.slice A0_0 l0_0.length c0_0) := (blk_cell BK252.out 0).trans rfl; have hcz13_1 : w12.cell? ⟨gb252, 1, none⟩ = some (.slice A0_1 l0_1.length c0_1) := (blk_cell BK252.out 1).trans rfl; have hcz13_2 : w12.cell? ⟨gb252, 2, none⟩ = some (.slice A0_2 l0_2.length c0_2) := (blk_cell BK252.out 2).trans rfl; have hcz13_3 : w12.cell? ⟨gb252, 3, none⟩ = some (.slice A0_3 l0_3.length c0_3) := (blk_cell BK252.out 3).trans rfl; have hcz13_4 : w12.cell? ⟨gb252, 4, none⟩ = some (.slice A0_4 l0_4.length c0_4) := (blk_cell BK252.out 4).trans rfl; have hfz13_0 := blk_frozen BK252.out 0; have hfz13_1 := blk_frozen BK252.out 1; have hfz13_2 := blk_frozen BK252.out 2; have hfz13_3 := blk_frozen BK252.out 3; have hfz13_4 := blk_frozen BK252.out 4))
      go_ret
      exact ⟨by first | rfl | (simp [errW_none, errW_some] <;> rfl) | (simp [*, errW_none, errW_some] <;> rfl), by repeat (first | (with_reducible first | exact HB.out | apply below_alloc | apply pw_below_drewN | apply below_drew1 | refine below_set ?_ GE252.out) | exact HB.out)⟩
  · rw [if_neg c2] at H
    have c2b0 : ((l0_0.length : Int) == 32) = false := beq_eq_false_iff_ne.mpr c2
    have c2b1 : ((l0_0.length : Int) != 32) = true := bne_iff_ne.mpr c2
    obtain rfl := Option.some.inj H
    go_enter Try.func48, Try.ntmps48
    go_wp2_with (first | ((with_reducible refine gate_dst (N := 1) rfl ?_); (try (refine gate_guard (by rfl) ?_; dsimp only)); refine box_event ?hg (N := 1) ?hd (cs := #[.slice A0_0 l0_0.length c0_0, .slice A0_1 l0_1.length c0_1, .slice A0_2 l0_2.length c0_2, .slice A0_3 l0_3.length c0_3, .slice A0_4 l0_4.length c0_4]) (t := 60) ?hr ?_; (case hd => rfl); (case hg => rfl); (case hr => first | (go_simp; done) | (go_simp; rfl)); intro gb252 hg w14 hbox hb; have n0_ := Aside0.mk (below_step (by repeat (first | (with_reducible first | exact HB.out | apply below_alloc | apply pw_below_drewN | apply below_drew1) | exact HB.out)) hb); have n1_ := Aside0.mk (hbox); have n2_ := Aside0.mk ((by rw [hg]; exact (below_size (by repeat (first | (with_reducible first | exact HB.out | apply below_alloc | apply pw_below_drewN | apply below_drew1) | exact HB.out))) : w.heap.size ≤ gb252)); have n3_ := Aside0.mk ((by rw [hg]; exact (below_size (by repeat (first | (with_reducible first | exact HB.out | apply below_alloc | apply pw_below_drewN | apply below_drew1) | exact HB.out))) : w.heap.size ≤ gb252)); clear HB; have HB := n0_; have BK252 := n1_; have GW252 := n2_; have GE252 := n3_; clear n0_ n1_ n2_ n3_; clear hb hbox hg; have hcz15_0 : w14.cell? ⟨gb252, 0, none⟩ = some (.slice A0_0 l0_0.length c0_0) := (blk_cell BK252.out 0).trans rfl; have hcz15_1 : w14.cell? ⟨gb252, 1, none⟩ = some (.slice A0_1 l0_1.length c0_1) := (blk_cell BK252.out 1).trans rfl; have hcz15_2 : w14.cell? ⟨gb252, 2, none⟩ = some (.slice A0_2 l0_2.length c0_2) := (blk_cell BK252.out 2).trans rfl; have hcz15_3 : w14.cell? ⟨gb252, 3, none⟩ = some (.slice A0_3 l0_3.length c0_3) := (blk_cell BK252.out 3).trans rfl; have hcz15_4 : w14.cell? ⟨gb252, 4, none⟩ = some (.slice A0_4 l0_4.length c0_4) := (blk_cell BK252.out 4).trans rfl; have hfz15_0 := blk_frozen BK252.out 0; have hfz15_1 := blk_frozen BK252.out 1; have hfz15_2 := blk_frozen BK252.out 2; have hfz15_3 := blk_frozen BK252.out 3; have hfz15_4 := blk_frozen BK252.out 4))
    go_ret
    exact ⟨by first | rfl | (simp [errW_none, errW_some] <;> rfl) | (simp [*, errW_none, errW_some] <;> rfl), by repeat (first | (with_reducible first | exact HB.out | apply below_alloc | apply pw_below_drewN | apply below_drew1 | refine below_set ?_ GE252.out) | exact HB.out)⟩
/-! ### pyxref12_Same: function 37 -/
def pyxref12_Same.f (l0_0 : List Int) (l0_1 : List Int) (l0_2 : List Int) (l0_3 : List Int) (l0_4 : List Int) (l1_0 : List Int) (l1_1 : List Int) (l1_2 : List Int) (l1_3 : List Int) (l1_4 : List Int) : Option (Bool) := (pyxref01_Same.f l0_0 l1_0).bind fun t272 => (if t272 = true then ((pyxref01_Same.f l0_1 l1_1).bind fun t273 => (if t273 = true then ((pyxref01_Same.f l0_2 l1_2).bind fun t274 => (if t274 = true then ((pyxref01_Same.f l0_3 l1_3).bind fun t275 => (if t275 = true then ((pyxref01_Same.f l0_4 l1_4).bind fun t276 => (some t276)) else (some false))) else (some false))) else (some false))) else (some false))
set_option maxHeartbeats 8000000 in
set_option maxRecDepth 100000 in
theorem pyxref12_Same.calls (A0_0 : Option Addr) (c0_0 : Nat) (l0_0 : List Int) (A0_1 : Option Addr) (c0_1 : Nat) (l0_1 : List Int) (A0_2 : Option Addr) (c0_2 : Nat) (l0_2 : List Int) (A0_3 : Option Addr) (c0_3 : Nat) (l0_3 : List Int) (A0_4 : Option Addr) (c0_4 : Nat) (l0_4 : List Int) (A1_0 : Option Addr) (c1_0 : Nat) (l1_0 : List Int) (A1_1 : Option Addr) (c1_1 : Nat) (l1_1 : List Int) (A1_2 : Option Addr) (c1_2 : Nat) (l1_2 : List Int) (A1_3 : Option Addr) (c1_3 : Nat) (l1_3 : List Int) (A1_4 : Option Addr) (c1_4 : Nat) (l1_4 : List Int) (r : Bool) (w : World) (hr0_0 : Kd.C (Kd.int .u8) w A0_0 l0_0.length l0_0) (hc0_0 : l0_0.length ≤ c0_0) (hr0_1 : Kd.C (Kd.int .u8) w A0_1 l0_1.length l0_1) (hc0_1 : l0_1.length ≤ c0_1) (hr0_2 : Kd.C (Kd.int .u8) w A0_2 l0_2.length l0_2) (hc0_2 : l0_2.length ≤ c0_2) (hr0_3 : Kd.C (Kd.int .u8) w A0_3 l0_3.length l0_3) (hc0_3 : l0_3.length ≤ c0_3) (hr0_4 : Kd.C (Kd.int .u8) w A0_4 l0_4.length l0_4) (hc0_4 : l0_4.length ≤ c0_4) (hr1_0 : Kd.C (Kd.int .u8) w A1_0 l1_0.length l1_0) (hc1_0 : l1_0.length ≤ c1_0) (hr1_1 : Kd.C (Kd.int .u8) w A1_1 l1_1.length l1_1) (hc1_1 : l1_1.length ≤ c1_1) (hr1_2 : Kd.C (Kd.int .u8) w A1_2 l1_2.length l1_2) (hc1_2 : l1_2.length ≤ c1_2) (hr1_3 : Kd.C (Kd.int .u8) w A1_3 l1_3.length l1_3) (hc1_3 : l1_3.length ≤ c1_3) (hr1_4 : Kd.C (Kd.int .u8) w A1_4 l1_4.length l1_4) (hc1_4 : l1_4.length ≤ c1_4) (h : pyxref12_Same.f l0_0 l0_1 l0_2 l0_3 l0_4 l1_0 l1_1 l1_2 l1_3 l1_4 = some r) :
    Calls Try.prog 37 #[.agg #[.slice A0_0 l0_0.length c0_0, .slice A0_1 l0_1.length c0_1, .slice A0_2 l0_2.length c0_2, .slice A0_3 l0_3.length c0_3, .slice A0_4 l0_4.length c0_4], .agg #[.slice A1_0 l1_0.length c1_0, .slice A1_1 l1_1.length c1_1, .slice A1_2 l1_2.length c1_2, .slice A1_3 l1_3.length c1_3, .slice A1_4 l1_4.length c1_4]] w fun e w' => e = .returned (.bool r) ∧ Below w.heap.size w w' := by
  have hu60 := Try.underlying60
  have HR0_0 := Aside0.mk hr0_0
  have HC0_0 := Aside0.mk hc0_0
  clear hr0_0 hc0_0
  have HR0_1 := Aside0.mk hr0_1
  have HC0_1 := Aside0.mk hc0_1
  clear hr0_1 hc0_1
  have HR0_2 := Aside0.mk hr0_2
  have HC0_2 := Aside0.mk hc0_2
  clear hr0_2 hc0_2
  have HR0_3 := Aside0.mk hr0_3
  have HC0_3 := Aside0.mk hc0_3
  clear hr0_3 hc0_3
  have HR0_4 := Aside0.mk hr0_4
  have HC0_4 := Aside0.mk hc0_4
  clear hr0_4 hc0_4
  have HR1_0 := Aside0.mk hr1_0
  have HC1_0 := Aside0.mk hc1_0
  clear hr1_0 hc1_0
  have HR1_1 := Aside0.mk hr1_1
  have HC1_1 := Aside0.mk hc1_1
  clear hr1_1 hc1_1
  have HR1_2 := Aside0.mk hr1_2
  have HC1_2 := Aside0.mk hc1_2
  clear hr1_2 hc1_2
  have HR1_3 := Aside0.mk hr1_3
  have HC1_3 := Aside0.mk hc1_3
  clear hr1_3 hc1_3
  have HR1_4 := Aside0.mk hr1_4
  have HC1_4 := Aside0.mk hc1_4
  clear hr1_4 hc1_4
  have HB := Aside0.mk (Below.refl w.heap.size w)
  have H : ((pyxref01_Same.f l0_0 l1_0).bind fun t272 => (if t272 = true then ((pyxref01_Same.f l0_1 l1_1).bind fun t273 => (if t273 = true then ((pyxref01_Same.f l0_2 l1_2).bind fun t274 => (if t274 = true then ((pyxref01_Same.f l0_3 l1_3).bind fun t275 => (if t275 = true then ((pyxref01_Same.f l0_4 l1_4).bind fun t276 => (some t276)) else (some false))) else (some false))) else (some false))) else (some false))) = some r := h
  clear h
  replace H := Option.bind_eq_some_iff.mp H
  obtain ⟨t272, A30, H⟩ := H
  replace H : (if t272 = true then ((pyxref01_Same.f l0_1 l1_1).bind fun t273 => (if t273 = true then ((pyxref01_Same.f l0_2 l1_2).bind fun t274 => (if t274 = true then ((pyxref01_Same.f l0_3 l1_3).bind fun t275 => (if t275 = true then ((pyxref01_Same.f l0_4 l1_4).bind fun t276 => (some t276)) else (some false))) else (some false))) else (some false))) else (some false)) = some r := H
  have A3 := Aside0.mk A30
  clear A30
  by_cases c4 : t272 = true
  · subst c4
    have H1 : ((pyxref01_Same.f l0_1 l1_1).bind fun t273 => (if t273 = true then ((pyxref01_Same.f l0_2 l1_2).bind fun t274 => (if t274 = true then ((pyxref01_Same.f l0_3 l1_3).bind fun t275 => (if t275 = true then ((pyxref01_Same.f l0_4 l1_4).bind fun t276 => (some t276)) else (some false))) else (some false))) else (some false))) = some r := by rw [if_pos rfl] at H; exact H
    clear H
    have H := H1
    clear H1
    replace H := Option.bind_eq_some_iff.mp H
    obtain ⟨t273, A50, H⟩ := H
    replace H : (if t273 = true then ((pyxref01_Same.f l0_2 l1_2).bind fun t274 => (if t274 = true then ((pyxref01_Same.f l0_3 l1_3).bind fun t275 => (if t275 = true then ((pyxref01_Same.f l0_4 l1_4).bind fun t276 => (some t276)) else (some false))) else (some false))) else (some false)) = some r := H
    have A5 := Aside0.mk A50
    clear A50
    by_cases c6 : t273 = true
    · subst c6
      have H1 : ((pyxref01_Same.f l0_2 l1_2).bind fun t274 => (if t274 = true then ((pyxref01_Same.f l0_3 l1_3).bind fun t275 => (if t275 = true then ((pyxref01_Same.f l0_4 l1_4).bind fun t276 => (some t276)) else (some false))) else (some false))) = some r := by rw [if_pos rfl] at H; exact H
      clear H
      have H := H1
      clear H1
      replace H := Option.bind_eq_some_iff.mp H
      obtain ⟨t274, A70, H⟩ := H
      replace H : (if t274 = true then ((pyxref01_Same.f l0_3 l1_3).bind fun t275 => (if t275 = true then ((pyxref01_Same.f l0_4 l1_4).bind fun t276 => (some t276)) else (some false))) else (some false)) = some r := H
      have A7 := Aside0.mk A70
      clear A70
      by_cases c8 : t274 = true
      · subst c8
        have H1 : ((pyxref01_Same.f l0_3 l1_3).bind fun t275 => (if t275 = true then ((pyxref01_Same.f l0_4 l1_4).bind fun t276 => (some t276)) else (some false))) = some r := by rw [if_pos rfl] at H; exact H
        clear H
        have H := H1
        clear H1
        replace H := Option.bind_eq_some_iff.mp H
        obtain ⟨t275, A90, H⟩ := H
        replace H : (if t275 = true then ((pyxref01_Same.f l0_4 l1_4).bind fun t276 => (some t276)) else (some false)) = some r := H
        have A9 := Aside0.mk A90
        clear A90
        by_cases c10 : t275 = true
        · subst c10
          have H1 : ((pyxref01_Same.f l0_4 l1_4).bind fun t276 => (some t276)) = some r := by rw [if_pos rfl] at H; exact H
          clear H
          have H := H1
          clear H1
          replace H := Option.bind_eq_some_iff.mp H
          obtain ⟨t276, A110, H⟩ := H
          replace H : (some t276) = some r := H
          have A11 := Aside0.mk A110
          clear A110
          obtain rfl := Option.some.inj H
          go_enter Try.func37, Try.ntmps37
          go_wp2_with (first | ((with_reducible refine gate_dst (N := 2) rfl ?_); refine box_event ?hg (N := 2) ?hd (cs := #[.slice A0_0 l0_0.length c0_0, .slice A0_1 l0_1.length c0_1, .slice A0_2 l0_2.length c0_2, .slice A0_3 l0_3.length c0_3, .slice A0_4 l0_4.length c0_4]) (t := 60) ?hr ?_; (case hd => rfl); (case hg => rfl); (case hr => first | (go_simp; done) | (go_simp; rfl)); intro gb270 hg w12 hbox hb; have n0_ := Aside0.mk (below_step (by repeat (first | (with_reducible first | exact HB.out | apply below_alloc | apply pw_below_drewN | apply below_drew1) | exact HB.out)) hb); have n1_ := Aside0.mk (hbox); have n2_ := Aside0.mk ((by rw [hg]; exact (below_size (by repeat (first | (with_reducible first | exact HB.out | apply below_alloc | apply pw_below_drewN | apply below_drew1) | exact HB.out))) : w.heap.size ≤ gb270)); have n3_ := Aside0.mk ((by rw [hg]; exact (below_size (by repeat (first | (with_reducible first | exact HB.out | apply below_alloc | apply pw_below_drewN | apply below_drew1) | exact HB.out))) : w.heap.size ≤ gb270)); clear HB; have HB := n0_; have BK270 := n1_; have GW270 := n2_; have GE270 := n3_; clear n0_ n1_ n2_ n3_; clear hb hbox hg) | ((with_reducible refine gate_dst (N := 3) rfl ?_); refine box_event ?hg (N := 3) ?hd (cs := #[.slice A1_0 l1_0.length c1_0, .slice A1_1 l1_1.length c1_1, .slice A1_2 l1_2.length c1_2, .slice A1_3 l1_3.length c1_3, .slice A1_4 l1_4.length c1_4]) (t := 60) ?hr ?_; (case hd => rfl); (case hg => rfl); (case hr => first | (go_simp; done) | (go_simp; rfl)); intro gb271 hg w13 hbox hb; have n0_ := Aside0.mk (blk_below (g := gb270) (o := .cells #[.slice A0_0 l0_0.length c0_0, .slice A0_1 l0_1.length c0_1, .slice A0_2 l0_2.length c0_2, .slice A0_3 l0_3.length c0_3, .slice A0_4 l0_4.length c0_4] 60 (0, 0)) (by (with_reducible repeat (first | refine blk_drewN ?_ _ | refine blk_drew ?_ | refine blk_alloc ?_ _)); exact BK270.out) hb); have n1_ := Aside0.mk (below_step (by repeat (first | (with_reducible first | exact HB.out | apply below_alloc | apply pw_below_drewN | apply below_drew1 | refine below_set ?_ GE270.out) | exact HB.out)) hb); have n2_ := Aside0.mk (hbox); have n3_ := Aside0.mk ((by rw [hg]; exact (below_size (by repeat (first | (with_reducible first | exact HB.out | apply below_alloc | apply pw_below_drewN | apply below_drew1 | refine below_set ?_ GE270.out) | exact HB.out))) : w.heap.size ≤ gb271)); have n4_ := Aside0.mk ((by rw [hg]; exact (below_size (by repeat (first | (with_reducible first | exact HB.out | apply below_alloc | apply pw_below_drewN | apply below_drew1 | refine below_set ?_ GE270.out) | exact HB.out))) : w.heap.size ≤ gb271)); have n5_ := Aside0.mk ((by rw [hg]; exact Nat.ne_of_lt (blk_lt (g := gb270) (o := .cells #[.slice A0_0 l0_0.length c0_0, .slice A0_1 l0_1.length c0_1, .slice A0_2 l0_2.length c0_2, .slice A0_3 l0_3.length c0_3, .slice A0_4 l0_4.length c0_4] 60 (0, 0)) (by (with_reducible repeat (first | refine blk_drewN ?_ _ | refine blk_drew ?_ | refine blk_alloc ?_ _)); exact BK270.out)) : gb270 ≠ gb271)); have n6_ := Aside0.mk ((by rw [hg]; exact Nat.ne_of_gt (blk_lt (g := gb270) (o := .cells #[.slice A0_0 l0_0.length c0_0, .slice A0_1 l0_1.length c0_1, .slice A0_2 l0_2.length c0_2, .slice A0_3 l0_3.length c0_3, .slice A0_4 l0_4.length c0_4] 60 (0, 0)) (by (with_reducible repeat (first | refine blk_drewN ?_ _ | refine blk_drew ?_ | refine blk_alloc ?_ _)); exact BK270.out)) : gb271 ≠ gb270)); clear BK270; clear HB; have BK270 := n0_; have HB := n1_; have BK271 := n2_; have GW271 := n3_; have GE271 := n4_; have NB270_271 := n5_; have NB271_270 := n6_; clear n0_ n1_ n2_ n3_ n4_ n5_ n6_; clear hb hbox hg; have hnb14 := NB270_271.out; have hnc14 := NB271_270.out; have hcz15_0 : w13.cell? ⟨gb270, 0, none⟩ = some (.slice A0_0 l0_0.length c0_0) := (blk_cell BK270.out 0).trans rfl; have hcz15_1 : w13.cell? ⟨gb270, 1, none⟩ = some (.slice A0_1 l0_1.length c0_1) := (blk_cell BK270.out 1).trans rfl; have hcz15_2 : w13.cell? ⟨gb270, 2, none⟩ = some (.slice A0_2 l0_2.length c0_2) := (blk_cell BK270.out 2).trans rfl; have hcz15_3 : w13.cell? ⟨gb270, 3, none⟩ = some (.slice A0_3 l0_3.length c0_3) := (blk_cell BK270.out 3).trans rfl; have hcz15_4 : w13.cell? ⟨gb270, 4, none⟩ = some (.slice A0_4 l0_4.length c0_4) := (blk_cell BK270.out 4).trans rfl; have hfz15_0 := blk_frozen BK270.out 0; have hfz15_1 := blk_frozen BK270.out 1; have hfz15_2 := blk_frozen BK270.out 2; have hfz15_3 := blk_frozen BK270.out 3; have hfz15_4 := blk_frozen BK270.out 4; have hcz16_0 : w13.cell? ⟨gb271, 0, none⟩ = some (.slice A1_0 l1_0.length c1_0) := (blk_cell BK271.out 0).trans rfl; have hcz16_1 : w13.cell? ⟨gb271, 1, none⟩ = some (.slice A1_1 l1_1.length c1_1) := (blk_cell BK271.out 1).trans rfl; have hcz16_2 : w13.cell? ⟨gb271, 2, none⟩ = some (.slice A1_2 l1_2.length c1_2) := (blk_cell BK271.out 2).trans rfl; have hcz16_3 : w13.cell? ⟨gb271, 3, none⟩ = some (.slice A1_3 l1_3.length c1_3) := (blk_cell BK271.out 3).trans rfl; have hcz16_4 : w13.cell? ⟨gb271, 4, none⟩ = some (.slice A1_4 l1_4.length c1_4) := (blk_cell BK271.out 4).trans rfl; have hfz16_0 := blk_frozen BK271.out 0; have hfz16_1 := blk_frozen BK271.out 1; have hfz16_2 := blk_frozen BK271.out 2; have hfz16_3 := blk_frozen BK271.out 3; have hfz16_4 := blk_frozen BK271.out 4) | ((with_reducible refine gate_callee (f := 22) rfl ?_); refine goesL_ (some 9) rfl rfl Try.func22 (by kernel_rfl) rfl #[.slice A0_0 l0_0.length c0_0, .slice A1_0 l1_0.length c1_0] rfl (by (try simp only [List.map_toArray, List.map_cons, List.map_nil]); first | done | rfl | (simp only [List.length_drop, List.length_take]; rfl)) ?_; (with_reducible refine (pyxref01_Same.calls _ _ l0_0 _ _ l1_0 true _ ?side1 ?side2 ?side3 ?side4 A3.out).mono ?_); (case side1 => repeat (first | exact (Kd.C_below HR0_0.out HB.out) | (with_reducible refine Kd.C_alloc ?_ _) | (with_reducible refine Kd.C_drewN ?_ _) | (with_reducible refine Kd.C_drew ?_))); (case side2 => exact HC0_0.out); (case side3 => repeat (first | exact (Kd.C_below HR1_0.out HB.out) | (with_reducible refine Kd.C_alloc ?_ _) | (with_reducible refine Kd.C_drewN ?_ _) | (with_reducible refine Kd.C_drew ?_))); (case side4 => exact HC1_0.out); rintro e w' ⟨rfl, ⟨nd, rfl⟩⟩; refine ⟨_, rfl, ?_⟩) | (go_at_call 22; (with_reducible refine (pyxref01_Same.calls _ _ l0_1 _ _ l1_1 true _ ?side1 ?side2 ?side3 ?side4 A5.out).mono ?_); (case side1 => repeat (first | exact (Kd.C_below HR0_1.out (by repeat (first | (with_reducible first | exact HB.out | apply below_alloc | apply pw_below_drewN | apply below_drew1 | refine below_set ?_ GE270.out | refine below_set ?_ GE271.out) | exact HB.out))) | (with_reducible refine Kd.C_alloc ?_ _) | (with_reducible refine Kd.C_drewN ?_ _) | (with_reducible refine Kd.C_drew ?_))); (case side2 => exact HC0_1.out); (case side3 => repeat (first | exact (Kd.C_below HR1_1.out (by repeat (first | (with_reducible first | exact HB.out | apply below_alloc | apply pw_below_drewN | apply below_drew1 | refine below_set ?_ GE270.out | refine below_set ?_ GE271.out) | exact HB.out))) | (with_reducible refine Kd.C_alloc ?_ _) | (with_reducible refine Kd.C_drewN ?_ _) | (with_reducible refine Kd.C_drew ?_))); (case side4 => exact HC1_1.out); rintro e w' ⟨rfl, ⟨nd, rfl⟩⟩) | (go_at_call 22; (with_reducible refine (pyxref01_Same.calls _ _ l0_2 _ _ l1_2 true _ ?side1 ?side2 ?side3 ?side4 A7.out).mono ?_); (case side1 => repeat (first | exact (Kd.C_below HR0_2.out (by repeat (first | (with_reducible first | exact HB.out | apply below_alloc | apply pw_below_drewN | apply below_drew1 | refine below_set ?_ GE270.out | refine below_set ?_ GE271.out) | exact HB.out))) | (with_reducible refine Kd.C_alloc ?_ _) | (with_reducible refine Kd.C_drewN ?_ _) | (with_reducible refine Kd.C_drew ?_))); (case side2 => exact HC0_2.out); (case side3 => repeat (first | exact (Kd.C_below HR1_2.out (by repeat (first | (with_reducible first | exact HB.out | apply below_alloc | apply pw_below_drewN | apply below_drew1 | refine below_set ?_ GE270.out | refine below_set ?_ GE271.out) | exact HB.out))) | (with_reducible refine Kd.C_alloc ?_ _) | (with_reducible refine Kd.C_drewN ?_ _) | (with_reducible refine Kd.C_drew ?_))); (case side4 => exact HC1_2.out); rintro e w' ⟨rfl, ⟨nd, rfl⟩⟩) | (go_at_call 22; (with_reducible refine (pyxref01_Same.calls _ _ l0_3 _ _ l1_3 true _ ?side1 ?side2 ?side3 ?side4 A9.out).mono ?_); (case side1 => repeat (first | exact (Kd.C_below HR0_3.out (by repeat (first | (with_reducible first | exact HB.out | apply below_alloc | apply pw_below_drewN | apply below_drew1 | refine below_set ?_ GE270.out | refine below_set ?_ GE271.out) | exact HB.out))) | (with_reducible refine Kd.C_alloc ?_ _) | (with_reducible refine Kd.C_drewN ?_ _) | (with_reducible refine Kd.C_drew ?_))); (case side2 => exact HC0_3.out); (case side3 => repeat (first | exact (Kd.C_below HR1_3.out (by repeat (first | (with_reducible first | exact HB.out | apply below_alloc | apply pw_below_drewN | apply below_drew1 | refine below_set ?_ GE270.out | refine below_set ?_ GE271.out) | exact HB.out))) | (with_reducible refine Kd.C_alloc ?_ _) | (with_reducible refine Kd.C_drewN ?_ _) | (with_reducible refine Kd.C_drew ?_))); (case side4 => exact HC1_3.out); rintro e w' ⟨rfl, ⟨nd, rfl⟩⟩) | (go_at_call 22; (with_reducible refine (pyxref01_Same.calls _ _ l0_4 _ _ l1_4 t276 _ ?side1 ?side2 ?side3 ?side4 A11.out).mono ?_); (case side1 => repeat (first | exact (Kd.C_below HR0_4.out (by repeat (first | (with_reducible first | exact HB.out | apply below_alloc | apply pw_below_drewN | apply below_drew1 | refine below_set ?_ GE270.out | refine below_set ?_ GE271.out) | exact HB.out))) | (with_reducible refine Kd.C_alloc ?_ _) | (with_reducible refine Kd.C_drewN ?_ _) | (with_reducible refine Kd.C_drew ?_))); (case side2 => exact HC0_4.out); (case side3 => repeat (first | exact (Kd.C_below HR1_4.out (by repeat (first | (with_reducible first | exact HB.out | apply below_alloc | apply pw_below_drewN | apply below_drew1 | refine below_set ?_ GE270.out | refine below_set ?_ GE271.out) | exact HB.out))) | (with_reducible refine Kd.C_alloc ?_ _) | (with_reducible refine Kd.C_drewN ?_ _) | (with_reducible refine Kd.C_drew ?_))); (case side4 => exact HC1_4.out); rintro e w' ⟨rfl, ⟨nd, rfl⟩⟩))
          go_ret
          exact ⟨by first | rfl | (simp [errW_none, errW_some] <;> rfl) | (simp [*, errW_none, errW_some] <;> rfl), by repeat (first | (with_reducible first | exact HB.out | apply below_alloc | apply pw_below_drewN | apply below_drew1 | refine below_set ?_ GE270.out | refine below_set ?_ GE271.out) | exact HB.out)⟩
        · replace c10 := Bool.eq_false_iff.mpr c10
          subst c10
          have H1 : (some false) = some r := by rw [if_neg (show ¬ (false = true) by decide)] at H; exact H
          clear H
          have H := H1
          clear H1
          obtain rfl := Option.some.inj H
          go_enter Try.func37, Try.ntmps37
          go_wp2_with (first | ((with_reducible refine gate_dst (N := 2) rfl ?_); refine box_event ?hg (N := 2) ?hd (cs := #[.slice A0_0 l0_0.length c0_0, .slice A0_1 l0_1.length c0_1, .slice A0_2 l0_2.length c0_2, .slice A0_3 l0_3.length c0_3, .slice A0_4 l0_4.length c0_4]) (t := 60) ?hr ?_; (case hd => rfl); (case hg => rfl); (case hr => first | (go_simp; done) | (go_simp; rfl)); intro gb270 hg w17 hbox hb; have n0_ := Aside0.mk (below_step (by repeat (first | (with_reducible first | exact HB.out | apply below_alloc | apply pw_below_drewN | apply below_drew1) | exact HB.out)) hb); have n1_ := Aside0.mk (hbox); have n2_ := Aside0.mk ((by rw [hg]; exact (below_size (by repeat (first | (with_reducible first | exact HB.out | apply below_alloc | apply pw_below_drewN | apply below_drew1) | exact HB.out))) : w.heap.size ≤ gb270)); have n3_ := Aside0.mk ((by rw [hg]; exact (below_size (by repeat (first | (with_reducible first | exact HB.out | apply below_alloc | apply pw_below_drewN | apply below_drew1) | exact HB.out))) : w.heap.size ≤ gb270)); clear HB; have HB := n0_; have BK270 := n1_; have GW270 := n2_; have GE270 := n3_; clear n0_ n1_ n2_ n3_; clear hb hbox hg) | ((with_reducible refine gate_dst (N := 3) rfl ?_); refine box_event ?hg (N := 3) ?hd (cs := #[.slice A1_0 l1_0.length c1_0, .slice A1_1 l1_1.length c1_1, .slice A1_2 l1_2.length c1_2, .slice A1_3 l1_3.length c1_3, .slice A1_4 l1_4.length c1_4]) (t := 60) ?hr ?_; (case hd => rfl); (case hg => rfl); (case hr => first | (go_simp; done) | (go_simp; rfl)); intro gb271 hg w18 hbox hb; have n0_ := Aside0.mk (blk_below (g := gb270) (o := .cells #[.slice A0_0 l0_0.length c0_0, .slice A0_1 l0_1.length c0_1, .slice A0_2 l0_2.length c0_2, .slice A0_3 l0_3.length c0_3, .slice A0_4 l0_4.length c0_4] 60 (0, 0)) (by (with_reducible repeat (first | refine blk_drewN ?_ _ | refine blk_drew ?_ | refine blk_alloc ?_ _)); exact BK270.out) hb); have n1_ := Aside0.mk (below_step (by repeat (first | (with_reducible first | exact HB.out | apply below_alloc | apply pw_below_drewN | apply below_drew1 | refine below_set ?_ GE270.out) | exact HB.out)) hb); have n2_ := Aside0.mk (hbox); have n3_ := Aside0.mk ((by rw [hg]; exact (below_size (by repeat (first | (with_reducible first | exact HB.out | apply below_alloc | apply pw_below_drewN | apply below_drew1 | refine below_set ?_ GE270.out) | exact HB.out))) : w.heap.size ≤ gb271)); have n4_ := Aside0.mk ((by rw [hg]; exact (below_size (by repeat (first | (with_reducible first | exact HB.out | apply below_alloc | apply pw_below_drewN | apply below_drew1 | refine below_set ?_ GE270.out) | exact HB.out))) : w.heap.size ≤ gb271)); have n5_ := Aside0.mk ((by rw [hg]; exact Nat.ne_of_lt (blk_lt (g := gb270) (o := .cells #[.slice A0_0 l0_0.length c0_0, .slice A0_1 l0_1.length c0_1, .slice A0_2 l0_2.length c0_2, .slice A0_3 l0_3.length c0_3, .slice A0_4 l0_4.length c0_4] 60 (0, 0)) (by (with_reducible repeat (first | refine blk_drewN ?_ _ | refine blk_drew ?_ | refine blk_alloc ?_ _)); exact BK270.out)) : gb270 ≠ gb271)); have n6_ := Aside0.mk ((by rw [hg]; exact Nat.ne_of_gt (blk_lt (g := gb270) (o := .cells #[.slice A0_0 l0_0.length c0_0, .slice A0_1 l0_1.length c0_1, .slice A0_2 l0_2.length c0_2, .slice A0_3 l0_3.length c0_3, .slice A0_4 l0_4.length c0_4] 60 (0, 0)) (by (with_reducible repeat (first | refine blk_drewN ?_ _ | refine blk_drew ?_ | refine blk_alloc ?_ _)); exact BK270.out)) : gb271 ≠ gb270)); clear BK270; clear HB; have BK270 := n0_; have HB := n1_; have BK271 := n2_; have GW271 := n3_; have GE271 := n4_; have NB270_271 := n5_; have NB271_270 := n6_; clear n0_ n1_ n2_ n3_ n4_ n5_ n6_; clear hb hbox hg; have hnb19 := NB270_271.out; have hnc19 := NB271_270.out; have hcz20_0 : w18.cell? ⟨gb270, 0, none⟩ = some (.slice A0_0 l0_0.length c0_0) := (blk_cell BK270.out 0).trans rfl; have hcz20_1 : w18.cell? ⟨gb270, 1, none⟩ = some (.slice A0_1 l0_1.length c0_1) := (blk_cell BK270.out 1).trans rfl; have hcz20_2 : w18.cell? ⟨gb270, 2, none⟩ = some (.slice A0_2 l0_2.length c0_2) := (blk_cell BK270.out 2).trans rfl; have hcz20_3 : w18.cell? ⟨gb270, 3, none⟩ = some (.slice A0_3 l0_3.length c0_3) := (blk_cell BK270.out 3).trans rfl; have hcz20_4 : w18.cell? ⟨gb270, 4, none⟩ = some (.slice A0_4 l0_4.length c0_4) := (blk_cell BK270.out 4).trans rfl; have hfz20_0 := blk_frozen BK270.out 0; have hfz20_1 := blk_frozen BK270.out 1; have hfz20_2 := blk_frozen BK270.out 2; have hfz20_3 := blk_frozen BK270.out 3; have hfz20_4 := blk_frozen BK270.out 4; have hcz21_0 : w18.cell? ⟨gb271, 0, none⟩ = some (.slice A1_0 l1_0.length c1_0) := (blk_cell BK271.out 0).trans rfl; have hcz21_1 : w18.cell? ⟨gb271, 1, none⟩ = some (.slice A1_1 l1_1.length c1_1) := (blk_cell BK271.out 1).trans rfl; have hcz21_2 : w18.cell? ⟨gb271, 2, none⟩ = some (.slice A1_2 l1_2.length c1_2) := (blk_cell BK271.out 2).trans rfl; have hcz21_3 : w18.cell? ⟨gb271, 3, none⟩ = some (.slice A1_3 l1_3.length c1_3) := (blk_cell BK271.out 3).trans rfl; have hcz21_4 : w18.cell? ⟨gb271, 4, none⟩ = some (.slice A1_4 l1_4.length c1_4) := (blk_cell BK271.out 4).trans rfl; have hfz21_0 := blk_frozen BK271.out 0; have hfz21_1 := blk_frozen BK271.out 1; have hfz21_2 := blk_frozen BK271.out 2; have hfz21_3 := blk_frozen BK271.out 3; have hfz21_4 := blk_frozen BK271.out 4) | ((with_reducible refine gate_callee (f := 22) rfl ?_); refine goesL_ (some 9) rfl rfl Try.func22 (by kernel_rfl) rfl #[.slice A0_0 l0_0.length c0_0, .slice A1_0 l1_0.length c1_0] rfl (by (try simp only [List.map_toArray, List.map_cons, List.map_nil]); first | done | rfl | (simp only [List.length_drop, List.length_take]; rfl)) ?_; (with_reducible refine (pyxref01_Same.calls _ _ l0_0 _ _ l1_0 true _ ?side1 ?side2 ?side3 ?side4 A3.out).mono ?_); (case side1 => repeat (first | exact (Kd.C_below HR0_0.out HB.out) | (with_reducible refine Kd.C_alloc ?_ _) | (with_reducible refine Kd.C_drewN ?_ _) | (with_reducible refine Kd.C_drew ?_))); (case side2 => exact HC0_0.out); (case side3 => repeat (first | exact (Kd.C_below HR1_0.out HB.out) | (with_reducible refine Kd.C_alloc ?_ _) | (with_reducible refine Kd.C_drewN ?_ _) | (with_reducible refine Kd.C_drew ?_))); (case side4 => exact HC1_0.out); rintro e w' ⟨rfl, ⟨nd, rfl⟩⟩; refine ⟨_, rfl, ?_⟩) | (go_at_call 22; (with_reducible refine (pyxref01_Same.calls _ _ l0_1 _ _ l1_1 true _ ?side1 ?side2 ?side3 ?side4 A5.out).mono ?_); (case side1 => repeat (first | exact (Kd.C_below HR0_1.out (by repeat (first | (with_reducible first | exact HB.out | apply below_alloc | apply pw_below_drewN | apply below_drew1 | refine below_set ?_ GE270.out | refine below_set ?_ GE271.out) | exact HB.out))) | (with_reducible refine Kd.C_alloc ?_ _) | (with_reducible refine Kd.C_drewN ?_ _) | (with_reducible refine Kd.C_drew ?_))); (case side2 => exact HC0_1.out); (case side3 => repeat (first | exact (Kd.C_below HR1_1.out (by repeat (first | (with_reducible first | exact HB.out | apply below_alloc | apply pw_below_drewN | apply below_drew1 | refine below_set ?_ GE270.out | refine below_set ?_ GE271.out) | exact HB.out))) | (with_reducible refine Kd.C_alloc ?_ _) | (with_reducible refine Kd.C_drewN ?_ _) | (with_reducible refine Kd.C_drew ?_))); (case side4 => exact HC1_1.out); rintro e w' ⟨rfl, ⟨nd, rfl⟩⟩) | (go_at_call 22; (with_reducible refine (pyxref01_Same.calls _ _ l0_2 _ _ l1_2 true _ ?side1 ?side2 ?side3 ?side4 A7.out).mono ?_); (case side1 => repeat (first | exact (Kd.C_below HR0_2.out (by repeat (first | (with_reducible first | exact HB.out | apply below_alloc | apply pw_below_drewN | apply below_drew1 | refine below_set ?_ GE270.out | refine below_set ?_ GE271.out) | exact HB.out))) | (with_reducible refine Kd.C_alloc ?_ _) | (with_reducible refine Kd.C_drewN ?_ _) | (with_reducible refine Kd.C_drew ?_))); (case side2 => exact HC0_2.out); (case side3 => repeat (first | exact (Kd.C_below HR1_2.out (by repeat (first | (with_reducible first | exact HB.out | apply below_alloc | apply pw_below_drewN | apply below_drew1 | refine below_set ?_ GE270.out | refine below_set ?_ GE271.out) | exact HB.out))) | (with_reducible refine Kd.C_alloc ?_ _) | (with_reducible refine Kd.C_drewN ?_ _) | (with_reducible refine Kd.C_drew ?_))); (case side4 => exact HC1_2.out); rintro e w' ⟨rfl, ⟨nd, rfl⟩⟩) | (go_at_call 22; (with_reducible refine (pyxref01_Same.calls _ _ l0_3 _ _ l1_3 false _ ?side1 ?side2 ?side3 ?side4 A9.out).mono ?_); (case side1 => repeat (first | exact (Kd.C_below HR0_3.out (by repeat (first | (with_reducible first | exact HB.out | apply below_alloc | apply pw_below_drewN | apply below_drew1 | refine below_set ?_ GE270.out | refine below_set ?_ GE271.out) | exact HB.out))) | (with_reducible refine Kd.C_alloc ?_ _) | (with_reducible refine Kd.C_drewN ?_ _) | (with_reducible refine Kd.C_drew ?_))); (case side2 => exact HC0_3.out); (case side3 => repeat (first | exact (Kd.C_below HR1_3.out (by repeat (first | (with_reducible first | exact HB.out | apply below_alloc | apply pw_below_drewN | apply below_drew1 | refine below_set ?_ GE270.out | refine below_set ?_ GE271.out) | exact HB.out))) | (with_reducible refine Kd.C_alloc ?_ _) | (with_reducible refine Kd.C_drewN ?_ _) | (with_reducible refine Kd.C_drew ?_))); (case side4 => exact HC1_3.out); rintro e w' ⟨rfl, ⟨nd, rfl⟩⟩))
          go_ret
          exact ⟨by first | rfl | (simp [errW_none, errW_some] <;> rfl) | (simp [*, errW_none, errW_some] <;> rfl), by repeat (first | (with_reducible first | exact HB.out | apply below_alloc | apply pw_below_drewN | apply below_drew1 | refine below_set ?_ GE270.out | refine below_set ?_ GE271.out) | exact HB.out)⟩
      · replace c8 := Bool.eq_false_iff.mpr c8
        subst c8
        have H1 : (some false) = some r := by rw [if_neg (show ¬ (false = true) by decide)] at H; exact H
        clear H
        have H := H1
        clear H1
        obtain rfl := Option.some.inj H
        go_enter Try.func37, Try.ntmps37
        go_wp2_with (first | ((with_reducible refine gate_dst (N := 2) rfl ?_); refine box_event ?hg (N := 2) ?hd (cs := #[.slice A0_0 l0_0.length c0_0, .slice A0_1 l0_1.length c0_1, .slice A0_2 l0_2.length c0_2, .slice A0_3 l0_3.length c0_3, .slice A0_4 l0_4.length c0_4]) (t := 60) ?hr ?_; (case hd => rfl); (case hg => rfl); (case hr => first | (go_simp; done) | (go_simp; rfl)); intro gb270 hg w22 hbox hb; have n0_ := Aside0.mk (below_step (by repeat (first | (with_reducible first | exact HB.out | apply below_alloc | apply pw_below_drewN | apply below_drew1) | exact HB.out)) hb); have n1_ := Aside0.mk (hbox); have n2_ := Aside0.mk ((by rw [hg]; exact (below_size (by repeat (first | (with_reducible first | exact HB.out | apply below_alloc | apply pw_below_drewN | apply below_drew1) | exact HB.out))) : w.heap.size ≤ gb270)); have n3_ := Aside0.mk ((by rw [hg]; exact (below_size (by repeat (first | (with_reducible first | exact HB.out | apply below_alloc | apply pw_below_drewN | apply below_drew1) | exact HB.out))) : w.heap.size ≤ gb270)); clear HB; have HB := n0_; have BK270 := n1_; have GW270 := n2_; have GE270 := n3_; clear n0_ n1_ n2_ n3_; clear hb hbox hg) | ((with_reducible refine gate_dst (N := 3) rfl ?_); refine box_event ?hg (N := 3) ?hd (cs := #[.slice A1_0 l1_0.length c1_0, .slice A1_1 l1_1.length c1_1, .slice A1_2 l1_2.length c1_2, .slice A1_3 l1_3.length c1_3, .slice A1_4 l1_4.length c1_4]) (t := 60) ?hr ?_; (case hd => rfl); (case hg => rfl); (case hr => first | (go_simp; done) | (go_simp; rfl)); intro gb271 hg w23 hbox hb; have n0_ := Aside0.mk (blk_below (g := gb270) (o := .cells #[.slice A0_0 l0_0.length c0_0, .slice A0_1 l0_1.length c0_1, .slice A0_2 l0_2.length c0_2, .slice A0_3 l0_3.length c0_3, .slice A0_4 l0_4.length c0_4] 60 (0, 0)) (by (with_reducible repeat (first | refine blk_drewN ?_ _ | refine blk_drew ?_ | refine blk_alloc ?_ _)); exact BK270.out) hb); have n1_ := Aside0.mk (below_step (by repeat (first | (with_reducible first | exact HB.out | apply below_alloc | apply pw_below_drewN | apply below_drew1 | refine below_set ?_ GE270.out) | exact HB.out)) hb); have n2_ := Aside0.mk (hbox); have n3_ := Aside0.mk ((by rw [hg]; exact (below_size (by repeat (first | (with_reducible first | exact HB.out | apply below_alloc | apply pw_below_drewN | apply below_drew1 | refine below_set ?_ GE270.out) | exact HB.out))) : w.heap.size ≤ gb271)); have n4_ := Aside0.mk ((by rw [hg]; exact (below_size (by repeat (first | (with_reducible first | exact HB.out | apply below_alloc | apply pw_below_drewN | apply below_drew1 | refine below_set ?_ GE270.out) | exact HB.out))) : w.heap.size ≤ gb271)); have n5_ := Aside0.mk ((by rw [hg]; exact Nat.ne_of_lt (blk_lt (g := gb270) (o := .cells #[.slice A0_0 l0_0.length c0_0, .slice A0_1 l0_1.length c0_1, .slice A0_2 l0_2.length c0_2, .slice A0_3 l0_3.length c0_3, .slice A0_4 l0_4.length c0_4] 60 (0, 0)) (by (with_reducible repeat (first | refine blk_drewN ?_ _ | refine blk_drew ?_ | refine blk_alloc ?_ _)); exact BK270.out)) : gb270 ≠ gb271)); have n6_ := Aside0.mk ((by rw [hg]; exact Nat.ne_of_gt (blk_lt (g := gb270) (o := .cells #[.slice A0_0 l0_0.length c0_0, .slice A0_1 l0_1.length c0_1, .slice A0_2 l0_2.length c0_2, .slice A0_3 l0_3.length c0_3, .slice A0_4 l0_4.length c0_4] 60 (0, 0)) (by (with_reducible repeat (first | refine blk_drewN ?_ _ | refine blk_drew ?_ | refine blk_alloc ?_ _)); exact BK270.out)) : gb271 ≠ gb270)); clear BK270; clear HB; have BK270 := n0_; have HB := n1_; have BK271 := n2_; have GW271 := n3_; have GE271 := n4_; have NB270_271 := n5_; have NB271_270 := n6_; clear n0_ n1_ n2_ n3_ n4_ n5_ n6_; clear hb hbox hg; have hnb24 := NB270_271.out; have hnc24 := NB271_270.out; have hcz25_0 : w23.cell? ⟨gb270, 0, none⟩ = some (.slice A0_0 l0_0.length c0_0) := (blk_cell BK270.out 0).trans rfl; have hcz25_1 : w23.cell? ⟨gb270, 1, none⟩ = some (.slice A0_1 l0_1.length c0_1) := (blk_cell BK270.out 1).trans rfl; have hcz25_2 : w23.cell? ⟨gb270, 2, none⟩ = some (.slice A0_2 l0_2.length c0_2) := (blk_cell BK270.out 2).trans rfl; have hcz25_3 : w23.cell? ⟨gb270, 3, none⟩ = some (.slice A0_3 l0_3.length c0_3) := (blk_cell BK270.out 3).trans rfl; have hcz25_4 : w23.cell? ⟨gb270, 4, none⟩ = some (.slice A0_4 l0_4.length c0_4) := (blk_cell BK270.out 4).trans rfl; have hfz25_0 := blk_frozen BK270.out 0; have hfz25_1 := blk_frozen BK270.out 1; have hfz25_2 := blk_frozen BK270.out 2; have hfz25_3 := blk_frozen BK270.out 3; have hfz25_4 := blk_frozen BK270.out 4; have hcz26_0 : w23.cell? ⟨gb271, 0, none⟩ = some (.slice A1_0 l1_0.length c1_0) := (blk_cell BK271.out 0).trans rfl; have hcz26_1 : w23.cell? ⟨gb271, 1, none⟩ = some (.slice A1_1 l1_1.length c1_1) := (blk_cell BK271.out 1).trans rfl; have hcz26_2 : w23.cell? ⟨gb271, 2, none⟩ = some (.slice A1_2 l1_2.length c1_2) := (blk_cell BK271.out 2).trans rfl; have hcz26_3 : w23.cell? ⟨gb271, 3, none⟩ = some (.slice A1_3 l1_3.length c1_3) := (blk_cell BK271.out 3).trans rfl; have hcz26_4 : w23.cell? ⟨gb271, 4, none⟩ = some (.slice A1_4 l1_4.length c1_4) := (blk_cell BK271.out 4).trans rfl; have hfz26_0 := blk_frozen BK271.out 0; have hfz26_1 := blk_frozen BK271.out 1; have hfz26_2 := blk_frozen BK271.out 2; have hfz26_3 := blk_frozen BK271.out 3; have hfz26_4 := blk_frozen BK271.out 4) | ((with_reducible refine gate_callee (f := 22) rfl ?_); refine goesL_ (some 9) rfl rfl Try.func22 (by kernel_rfl) rfl #[.slice A0_0 l0_0.length c0_0, .slice A1_0 l1_0.length c1_0] rfl (by (try simp only [List.map_toArray, List.map_cons, List.map_nil]); first | done | rfl | (simp only [List.length_drop, List.length_take]; rfl)) ?_; (with_reducible refine (pyxref01_Same.calls _ _ l0_0 _ _ l1_0 true _ ?side1 ?side2 ?side3 ?side4 A3.out).mono ?_); (case side1 => repeat (first | exact (Kd.C_below HR0_0.out HB.out) | (with_reducible refine Kd.C_alloc ?_ _) | (with_reducible refine Kd.C_drewN ?_ _) | (with_reducible refine Kd.C_drew ?_))); (case side2 => exact HC0_0.out); (case side3 => repeat (first | exact (Kd.C_below HR1_0.out HB.out) | (with_reducible refine Kd.C_alloc ?_ _) | (with_reducible refine Kd.C_drewN ?_ _) | (with_reducible refine Kd.C_drew ?_))); (case side4 => exact HC1_0.out); rintro e w' ⟨rfl, ⟨nd, rfl⟩⟩; refine ⟨_, rfl, ?_⟩) | (go_at_call 22; (with_reducible refine (pyxref01_Same.calls _ _ l0_1 _ _ l1_1 true _ ?side1 ?side2 ?side3 ?side4 A5.out).mono ?_); (case side1 => repeat (first | exact (Kd.C_below HR0_1.out (by repeat (first | (with_reducible first | exact HB.out | apply below_alloc | apply pw_below_drewN | apply below_drew1 | refine below_set ?_ GE270.out | refine below_set ?_ GE271.out) | exact HB.out))) | (with_reducible refine Kd.C_alloc ?_ _) | (with_reducible refine Kd.C_drewN ?_ _) | (with_reducible refine Kd.C_drew ?_))); (case side2 => exact HC0_1.out); (case side3 => repeat (first | exact (Kd.C_below HR1_1.out (by repeat (first | (with_reducible first | exact HB.out | apply below_alloc | apply pw_below_drewN | apply below_drew1 | refine below_set ?_ GE270.out | refine below_set ?_ GE271.out) | exact HB.out))) | (with_reducible refine Kd.C_alloc ?_ _) | (with_reducible refine Kd.C_drewN ?_ _) | (with_reducible refine Kd.C_drew ?_))); (case side4 => exact HC1_1.out); rintro e w' ⟨rfl, ⟨nd, rfl⟩⟩) | (go_at_call 22; (with_reducible refine (pyxref01_Same.calls _ _ l0_2 _ _ l1_2 false _ ?side1 ?side2 ?side3 ?side4 A7.out).mono ?_); (case side1 => repeat (first | exact (Kd.C_below HR0_2.out (by repeat (first | (with_reducible first | exact HB.out | apply below_alloc | apply pw_below_drewN | apply below_drew1 | refine below_set ?_ GE270.out | refine below_set ?_ GE271.out) | exact HB.out))) | (with_reducible refine Kd.C_alloc ?_ _) | (with_reducible refine Kd.C_drewN ?_ _) | (with_reducible refine Kd.C_drew ?_))); (case side2 => exact HC0_2.out); (case side3 => repeat (first | exact (Kd.C_below HR1_2.out (by repeat (first | (with_reducible first | exact HB.out | apply below_alloc | apply pw_below_drewN | apply below_drew1 | refine below_set ?_ GE270.out | refine below_set ?_ GE271.out) | exact HB.out))) | (with_reducible refine Kd.C_alloc ?_ _) | (with_reducible refine Kd.C_drewN ?_ _) | (with_reducible refine Kd.C_drew ?_))); (case side4 => exact HC1_2.out); rintro e w' ⟨rfl, ⟨nd, rfl⟩⟩))
        go_ret
        exact ⟨by first | rfl | (simp [errW_none, errW_some] <;> rfl) | (simp [*, errW_none, errW_some] <;> rfl), by repeat (first | (with_reducible first | exact HB.out | apply below_alloc | apply pw_below_drewN | apply below_drew1 | refine below_set ?_ GE270.out | refine below_set ?_ GE271.out) | exact HB.out)⟩
    · replace c6 := Bool.eq_false_iff.mpr c6
      subst c6
      have H1 : (some false) = some r := by rw [if_neg (show ¬ (false = true) by decide)] at H; exact H
      clear H
      have H := H1
      clear H1
      obtain rfl := Option.some.inj H
      go_enter Try.func37, Try.ntmps37
      go_wp2_with (first | ((with_reducible refine gate_dst (N := 2) rfl ?_); refine box_event ?hg (N := 2) ?hd (cs := #[.slice A0_0 l0_0.length c0_0, .slice A0_1 l0_1.length c0_1, .slice A0_2 l0_2.length c0_2, .slice A0_3 l0_3.length c0_3, .slice A0_4 l0_4.length c0_4]) (t := 60) ?hr ?_; (case hd => rfl); (case hg => rfl); (case hr => first | (go_simp; done) | (go_simp; rfl)); intro gb270 hg w27 hbox hb; have n0_ := Aside0.mk (below_step (by repeat (first | (with_reducible first | exact HB.out | apply below_alloc | apply pw_below_drewN | apply below_drew1) | exact HB.out)) hb); have n1_ := Aside0.mk (hbox); have n2_ := Aside0.mk ((by rw [hg]; exact (below_size (by repeat (first | (with_reducible first | exact HB.out | apply below_alloc | apply pw_below_drewN | apply below_drew1) | exact HB.out))) : w.heap.size ≤ gb270)); have n3_ := Aside0.mk ((by rw [hg]; exact (below_size (by repeat (first | (with_reducible first | exact HB.out | apply below_alloc | apply pw_below_drewN | apply below_drew1) | exact HB.out))) : w.heap.size ≤ gb270)); clear HB; have HB := n0_; have BK270 := n1_; have GW270 := n2_; have GE270 := n3_; clear n0_ n1_ n2_ n3_; clear hb hbox hg) | ((with_reducible refine gate_dst (N := 3) rfl ?_); refine box_event ?hg (N := 3) ?hd (cs := #[.slice A1_0 l1_0.length c1_0, .slice A1_1 l1_1.length c1_1, .slice A1_2 l1_2.length c1_2, .slice A1_3 l1_3.length c1_3, .slice A1_4 l1_4.length c1_4]) (t := 60) ?hr ?_; (case hd => rfl); (case hg => rfl); (case hr => first | (go_simp; done) | (go_simp; rfl)); intro gb271 hg w28 hbox hb; have n0_ := Aside0.mk (blk_below (g := gb270) (o := .cells #[.slice A0_0 l0_0.length c0_0, .slice A0_1 l0_1.length c0_1, .slice A0_2 l0_2.length c0_2, .slice A0_3 l0_3.length c0_3, .slice A0_4 l0_4.length c0_4] 60 (0, 0)) (by (with_reducible repeat (first | refine blk_drewN ?_ _ | refine blk_drew ?_ | refine blk_alloc ?_ _)); exact BK270.out) hb); have n1_ := Aside0.mk (below_step (by repeat (first | (with_reducible first | exact HB.out | apply below_alloc | apply pw_below_drewN | apply below_drew1 | refine below_set ?_ GE270.out) | exact HB.out)) hb); have n2_ := Aside0.mk (hbox); have n3_ := Aside0.mk ((by rw [hg]; exact (below_size (by repeat (first | (with_reducible first | exact HB.out | apply below_alloc | apply pw_below_drewN | apply below_drew1 | refine below_set ?_ GE270.out) | exact HB.out))) : w.heap.size ≤ gb271)); have n4_ := Aside0.mk ((by rw [hg]; exact (below_size (by repeat (first | (with_reducible first | exact HB.out | apply below_alloc | apply pw_below_drewN | apply below_drew1 | refine below_set ?_ GE270.out) | exact HB.out))) : w.heap.size ≤ gb271)); have n5_ := Aside0.mk ((by rw [hg]; exact Nat.ne_of_lt (blk_lt (g := gb270) (o := .cells #[.slice A0_0 l0_0.length c0_0, .slice A0_1 l0_1.length c0_1, .slice A0_2 l0_2.length c0_2, .slice A0_3 l0_3.length c0_3, .slice A0_4 l0_4.length c0_4] 60 (0, 0)) (by (with_reducible repeat (first | refine blk_drewN ?_ _ | refine blk_drew ?_ | refine blk_alloc ?_ _)); exact BK270.out)) : gb270 ≠ gb271)); have n6_ := Aside0.mk ((by rw [hg]; exact Nat.ne_of_gt (blk_lt (g := gb270) (o := .cells #[.slice A0_0 l0_0.length c0_0, .slice A0_1 l0_1.length c0_1, .slice A0_2 l0_2.length c0_2, .slice A0_3 l0_3.length c0_3, .slice A0_4 l0_4.length c0_4] 60 (0, 0)) (by (with_reducible repeat (first | refine blk_drewN ?_ _ | refine blk_drew ?_ | refine blk_alloc ?_ _)); exact BK270.out)) : gb271 ≠ gb270)); clear BK270; clear HB; have BK270 := n0_; have HB := n1_; have BK271 := n2_; have GW271 := n3_; have GE271 := n4_; have NB270_271 := n5_; have NB271_270 := n6_; clear n0_ n1_ n2_ n3_ n4_ n5_ n6_; clear hb hbox hg; have hnb29 := NB270_271.out; have hnc29 := NB271_270.out; have hcz30_0 : w28.cell? ⟨gb270, 0, none⟩ = some (.slice A0_0 l0_0.length c0_0) := (blk_cell BK270.out 0).trans rfl; have hcz30_1 : w28.cell? ⟨gb270, 1, none⟩ = some (.slice A0_1 l0_1.length c0_1) := (blk_cell BK270.out 1).trans rfl; have hcz30_2 : w28.cell? ⟨gb270, 2, none⟩ = some (.slice A0_2 l0_2.length c0_2) := (blk_cell BK270.out 2).trans rfl; have hcz30_3 : w28.cell? ⟨gb270, 3, none⟩ = some (.slice A0_3 l0_3.length c0_3) := (blk_cell BK270.out 3).trans rfl; have hcz30_4 : w28.cell? ⟨gb270, 4, none⟩ = some (.slice A0_4 l0_4.length c0_4) := (blk_cell BK270.out 4).trans rfl; have hfz30_0 := blk_frozen BK270.out 0; have hfz30_1 := blk_frozen BK270.out 1; have hfz30_2 := blk_frozen BK270.out 2; have hfz30_3 := blk_frozen BK270.out 3; have hfz30_4 := blk_frozen BK270.out 4; have hcz31_0 : w28.cell? ⟨gb271, 0, none⟩ = some (.slice A1_0 l1_0.length c1_0) := (blk_cell BK271.out 0).trans rfl; have hcz31_1 : w28.cell? ⟨gb271, 1, none⟩ = some (.slice A1_1 l1_1.length c1_1) := (blk_cell BK271.out 1).trans rfl; have hcz31_2 : w28.cell? ⟨gb271, 2, none⟩ = some (.slice A1_2 l1_2.length c1_2) := (blk_cell BK271.out 2).trans rfl; have hcz31_3 : w28.cell? ⟨gb271, 3, none⟩ = some (.slice A1_3 l1_3.length c1_3) := (blk_cell BK271.out 3).trans rfl; have hcz31_4 : w28.cell? ⟨gb271, 4, none⟩ = some (.slice A1_4 l1_4.length c1_4) := (blk_cell BK271.out 4).trans rfl; have hfz31_0 := blk_frozen BK271.out 0; have hfz31_1 := blk_frozen BK271.out 1; have hfz31_2 := blk_frozen BK271.out 2; have hfz31_3 := blk_frozen BK271.out 3; have hfz31_4 := blk_frozen BK271.out 4) | ((with_reducible refine gate_callee (f := 22) rfl ?_); refine goesL_ (some 9) rfl rfl Try.func22 (by kernel_rfl) rfl #[.slice A0_0 l0_0.length c0_0, .slice A1_0 l1_0.length c1_0] rfl (by (try simp only [List.map_toArray, List.map_cons, List.map_nil]); first | done | rfl | (simp only [List.length_drop, List.length_take]; rfl)) ?_; (with_reducible refine (pyxref01_Same.calls _ _ l0_0 _ _ l1_0 true _ ?side1 ?side2 ?side3 ?side4 A3.out).mono ?_); (case side1 => repeat (first | exact (Kd.C_below HR0_0.out HB.out) | (with_reducible refine Kd.C_alloc ?_ _) | (with_reducible refine Kd.C_drewN ?_ _) | (with_reducible refine Kd.C_drew ?_))); (case side2 => exact HC0_0.out); (case side3 => repeat (first | exact (Kd.C_below HR1_0.out HB.out) | (with_reducible refine Kd.C_alloc ?_ _) | (with_reducible refine Kd.C_drewN ?_ _) | (with_reducible refine Kd.C_drew ?_))); (case side4 => exact HC1_0.out); rintro e w' ⟨rfl, ⟨nd, rfl⟩⟩; refine ⟨_, rfl, ?_⟩) | (go_at_call 22; (with_reducible refine (pyxref01_Same.calls _ _ l0_1 _ _ l1_1 false _ ?side1 ?side2 ?side3 ?side4 A5.out).mono ?_); (case side1 => repeat (first | exact (Kd.C_below HR0_1.out (by repeat (first | (with_reducible first | exact HB.out | apply below_alloc | apply pw_below_drewN | apply below_drew1 | refine below_set ?_ GE270.out | refine below_set ?_ GE271.out) | exact HB.out))) | (with_reducible refine Kd.C_alloc ?_ _) | (with_reducible refine Kd.C_drewN ?_ _) | (with_reducible refine Kd.C_drew ?_))); (case side2 => exact HC0_1.out); (case side3 => repeat (first | exact (Kd.C_below HR1_1.out (by repeat (first | (with_reducible first | exact HB.out | apply below_alloc | apply pw_below_drewN | apply below_drew1 | refine below_set ?_ GE270.out | refine below_set ?_ GE271.out) | exact HB.out))) | (with_reducible refine Kd.C_alloc ?_ _) | (with_reducible refine Kd.C_drewN ?_ _) | (with_reducible refine Kd.C_drew ?_))); (case side4 => exact HC1_1.out); rintro e w' ⟨rfl, ⟨nd, rfl⟩⟩))
      go_ret
      exact ⟨by first | rfl | (simp [errW_none, errW_some] <;> rfl) | (simp [*, errW_none, errW_some] <;> rfl), by repeat (first | (with_reducible first | exact HB.out | apply below_alloc | apply pw_below_drewN | apply below_drew1 | refine below_set ?_ GE270.out | refine below_set ?_ GE271.out) | exact HB.out)⟩
  · replace c4 := Bool.eq_false_iff.mpr c4
    subst c4
    have H1 : (some false) = some r := by rw [if_neg (show ¬ (false = true) by decide)] at H; exact H
    clear H
    have H := H1
    clear H1
    obtain rfl := Option.some.inj H
    go_enter Try.func37, Try.ntmps37
    go_wp2_with (first | ((with_reducible refine gate_dst (N := 2) rfl ?_); refine box_event ?hg (N := 2) ?hd (cs := #[.slice A0_0 l0_0.length c0_0, .slice A0_1 l0_1.length c0_1, .slice A0_2 l0_2.length c0_2, .slice A0_3 l0_3.length c0_3, .slice A0_4 l0_4.length c0_4]) (t := 60) ?hr ?_; (case hd => rfl); (case hg => rfl); (case hr => first | (go_simp; done) | (go_simp; rfl)); intro gb270 hg w32 hbox hb; have n0_ := Aside0.mk (below_step (by repeat (first | (with_reducible first | exact HB.out | apply below_alloc | apply pw_below_drewN | apply below_drew1) | exact HB.out)) hb); have n1_ := Aside0.mk (hbox); have n2_ := Aside0.mk ((by rw [hg]; exact (below_size (by repeat (first | (with_reducible first | exact HB.out | apply below_alloc | apply pw_below_drewN | apply below_drew1) | exact HB.out))) : w.heap.size ≤ gb270)); have n3_ := Aside0.mk ((by rw [hg]; exact (below_size (by repeat (first | (with_reducible first | exact HB.out | apply below_alloc | apply pw_below_drewN | apply below_drew1) | exact HB.out))) : w.heap.size ≤ gb270)); clear HB; have HB := n0_; have BK270 := n1_; have GW270 := n2_; have GE270 := n3_; clear n0_ n1_ n2_ n3_; clear hb hbox hg) | ((with_reducible refine gate_dst (N := 3) rfl ?_); refine box_event ?hg (N := 3) ?hd (cs := #[.slice A1_0 l1_0.length c1_0, .slice A1_1 l1_1.length c1_1, .slice A1_2 l1_2.length c1_2, .slice A1_3 l1_3.length c1_3, .slice A1_4 l1_4.length c1_4]) (t := 60) ?hr ?_; (case hd => rfl); (case hg => rfl); (case hr => first | (go_simp; done) | (go_simp; rfl)); intro gb271 hg w33 hbox hb; have n0_ := Aside0.mk (blk_below (g := gb270) (o := .cells #[.slice A0_0 l0_0.length c0_0, .slice A0_1 l0_1.length c0_1, .slice A0_2 l0_2.length c0_2, .slice A0_3 l0_3.length c0_3, .slice A0_4 l0_4.length c0_4] 60 (0, 0)) (by (with_reducible repeat (first | refine blk_drewN ?_ _ | refine blk_drew ?_ | refine blk_alloc ?_ _)); exact BK270.out) hb); have n1_ := Aside0.mk (below_step (by repeat (first | (with_reducible first | exact HB.out | apply below_alloc | apply pw_below_drewN | apply below_drew1 | refine below_set ?_ GE270.out) | exact HB.out)) hb); have n2_ := Aside0.mk (hbox); have n3_ := Aside0.mk ((by rw [hg]; exact (below_size (by repeat (first | (with_reducible first | exact HB.out | apply below_alloc | apply pw_below_drewN | apply below_drew1 | refine below_set ?_ GE270.out) | exact HB.out))) : w.heap.size ≤ gb271)); have n4_ := Aside0.mk ((by rw [hg]; exact (below_size (by repeat (first | (with_reducible first | exact HB.out | apply below_alloc | apply pw_below_drewN | apply below_drew1 | refine below_set ?_ GE270.out) | exact HB.out))) : w.heap.size ≤ gb271)); have n5_ := Aside0.mk ((by rw [hg]; exact Nat.ne_of_lt (blk_lt (g := gb270) (o := .cells #[.slice A0_0 l0_0.length c0_0, .slice A0_1 l0_1.length c0_1, .slice A0_2 l0_2.length c0_2, .slice A0_3 l0_3.length c0_3, .slice A0_4 l0_4.length c0_4] 60 (0, 0)) (by (with_reducible repeat (first | refine blk_drewN ?_ _ | refine blk_drew ?_ | refine blk_alloc ?_ _)); exact BK270.out)) : gb270 ≠ gb271)); have n6_ := Aside0.mk ((by rw [hg]; exact Nat.ne_of_gt (blk_lt (g := gb270) (o := .cells #[.slice A0_0 l0_0.length c0_0, .slice A0_1 l0_1.length c0_1, .slice A0_2 l0_2.length c0_2, .slice A0_3 l0_3.length c0_3, .slice A0_4 l0_4.length c0_4] 60 (0, 0)) (by (with_reducible repeat (first | refine blk_drewN ?_ _ | refine blk_drew ?_ | refine blk_alloc ?_ _)); exact BK270.out)) : gb271 ≠ gb270)); clear BK270; clear HB; have BK270 := n0_; have HB := n1_; have BK271 := n2_; have GW271 := n3_; have GE271 := n4_; have NB270_271 := n5_; have NB271_270 := n6_; clear n0_ n1_ n2_ n3_ n4_ n5_ n6_; clear hb hbox hg; have hnb34 := NB270_271.out; have hnc34 := NB271_270.out; have hcz35_0 : w33.cell? ⟨gb270, 0, none⟩ = some (.slice A0_0 l0_0.length c0_0) := (blk_cell BK270.out 0).trans rfl; have hcz35_1 : w33.cell? ⟨gb270, 1, none⟩ = some (.slice A0_1 l0_1.length c0_1) := (blk_cell BK270.out 1).trans rfl; have hcz35_2 : w33.cell? ⟨gb270, 2, none⟩ = some (.slice A0_2 l0_2.length c0_2) := (blk_cell BK270.out 2).trans rfl; have hcz35_3 : w33.cell? ⟨gb270, 3, none⟩ = some (.slice A0_3 l0_3.length c0_3) := (blk_cell BK270.out 3).trans rfl; have hcz35_4 : w33.cell? ⟨gb270, 4, none⟩ = some (.slice A0_4 l0_4.length c0_4) := (blk_cell BK270.out 4).trans rfl; have hfz35_0 := blk_frozen BK270.out 0; have hfz35_1 := blk_frozen BK270.out 1; have hfz35_2 := blk_frozen BK270.out 2; have hfz35_3 := blk_frozen BK270.out 3; have hfz35_4 := blk_frozen BK270.out 4; have hcz36_0 : w33.cell? ⟨gb271, 0, none⟩ = some (.slice A1_0 l1_0.length c1_0) := (blk_cell BK271.out 0).trans rfl; have hcz36_1 : w33.cell? ⟨gb271, 1, none⟩ = some (.slice A1_1 l1_1.length c1_1) := (blk_cell BK271.out 1).trans rfl; have hcz36_2 : w33.cell? ⟨gb271, 2, none⟩ = some (.slice A1_2 l1_2.length c1_2) := (blk_cell BK271.out 2).trans rfl; have hcz36_3 : w33.cell? ⟨gb271, 3, none⟩ = some (.slice A1_3 l1_3.length c1_3) := (blk_cell BK271.out 3).trans rfl; have hcz36_4 : w33.cell? ⟨gb271, 4, none⟩ = some (.slice A1_4 l1_4.length c1_4) := (blk_cell BK271.out 4).trans rfl; have hfz36_0 := blk_frozen BK271.out 0; have hfz36_1 := blk_frozen BK271.out 1; have hfz36_2 := blk_frozen BK271.out 2; have hfz36_3 := blk_frozen BK271.out 3; have hfz36_4 := blk_frozen BK271.out 4) | ((with_reducible refine gate_callee (f := 22) rfl ?_); refine goesL_ (some 9) rfl rfl Try.func22 (by kernel_rfl) rfl #[.slice A0_0 l0_0.length c0_0, .slice A1_0 l1_0.length c1_0] rfl (by (try simp only [List.map_toArray, List.map_cons, List.map_nil]); first | done | rfl | (simp only [List.length_drop, List.length_take]; rfl)) ?_; (with_reducible refine (pyxref01_Same.calls _ _ l0_0 _ _ l1_0 false _ ?side1 ?side2 ?side3 ?side4 A3.out).mono ?_); (case side1 => repeat (first | exact (Kd.C_below HR0_0.out HB.out) | (with_reducible refine Kd.C_alloc ?_ _) | (with_reducible refine Kd.C_drewN ?_ _) | (with_reducible refine Kd.C_drew ?_))); (case side2 => exact HC0_0.out); (case side3 => repeat (first | exact (Kd.C_below HR1_0.out HB.out) | (with_reducible refine Kd.C_alloc ?_ _) | (with_reducible refine Kd.C_drewN ?_ _) | (with_reducible refine Kd.C_drew ?_))); (case side4 => exact HC1_0.out); rintro e w' ⟨rfl, ⟨nd, rfl⟩⟩; refine ⟨_, rfl, ?_⟩))
    go_ret
    exact ⟨by first | rfl | (simp [errW_none, errW_some] <;> rfl) | (simp [*, errW_none, errW_some] <;> rfl), by repeat (first | (with_reducible first | exact HB.out | apply below_alloc | apply pw_below_drewN | apply below_drew1 | refine below_set ?_ GE270.out | refine below_set ?_ GE271.out) | exact HB.out)⟩
-- NOT PRINTED: function 29 (pyxlaw12_shown)
end Go.Proofs.Ytpdgeanicciaiaa.E

/-! SchedD -/
namespace Go.Proofs.Ytpdgeanicciaiaa
set_option linter.unusedVariables false
set_option linter.unusedSimpArgs false
open Go.RowKit Go.Proofs.YtpdgeanicciaiaaW.PrintWords Go.Proofs.YtpdgeanicciaiaaW.PrintLast Go.Proofs.YtpdgeanicciaiaaW.PrintMore Iter
def labInit : ByteArray := ⟨#[105, 110, 105, 116]⟩
def labSend : ByteArray := ⟨#[115, 101, 110, 100]⟩
def labExport : ByteArray := ⟨#[101, 120, 112, 111, 114, 116]⟩
def labConfirm : ByteArray := ⟨#[99, 111, 110, 102, 105, 114, 109]⟩
def labResume : ByteArray := ⟨#[114, 101, 115, 117, 109, 101]⟩
def labs : Nat → ByteArray
  | 0 => labInit
  | 1 => labSend
  | 2 => labExport
  | 3 => labConfirm
  | _ => labResume
theorem labs_size (k : Nat) : (labs k).size ≤ 100000 := by
  rcases k with _ | _ | _ | _ | k
  · decide
  · decide
  · decide
  · decide
  · show labResume.size ≤ _
    decide
def labsV : Array Value := #[.string labInit, .string labSend, .string labExport, .string labConfirm, .string labResume]
theorem labsV_get (k : Nat) (h : k < 5) : labsV[k]? = some (.string (labs k)) := by
  rcases k with _ | _ | _ | _ | _ | k
  · rfl
  · rfl
  · rfl
  · rfl
  · rfl
  · omega
/-- An epoch's cells, the first k of them filled. -/
def epV (V : Nat → Value) (k : Nat) : Array Value := #[if 0 < k then V 0 else .slice none 0 0, if 1 < k then V 1 else .slice none 0 0, if 2 < k then V 2 else .slice none 0 0, if 3 < k then V 3 else .slice none 0 0, if 4 < k then V 4 else .slice none 0 0]
theorem epV_set (V : Nat → Value) (k : Nat) (v : Value) (h : k < 5) : (epV V k).setIfInBounds k v = epV (fun j => if j = k then v else V j) (k + 1) := by
  rcases k with _ | _ | _ | _ | _ | k
  · rfl
  · rfl
  · rfl
  · rfl
  · rfl
  · omega
def epRow (s : List Int) (k : Nat) : List Int := labelOf s (labs k) [] 32
theorem epRow_some (s : List Int) (k : Nat) (h : byteOk s = true) (hl : s.length ≤ 900000) : P.kdf_Derive.f s (labs k) = some (epRow s k, 0) := by
  unfold P.kdf_Derive.f
  rw [if_pos ⟨h, hl, labs_size k⟩]
  rfl
theorem infoEp : (Try.prog.info? 60).map (·.size) = some 5 := by kernel_rfl
theorem heap_setRow_other (w : World) (g : Nat) (cs : Array Value) (b : Nat) (h : b ≠ g) : (w.setRow g cs).heap[b]? = w.heap[b]? := by
  show (w.heap.modify g _)[b]? = _
  rw [Array.getElem?_modify, if_neg (by omega)]
theorem index_p5 (g k : Nat) (hk : k < 5) (W : World) : (Instr.index 107 (.agg (partsV g)) (.int .i64 (k : Int))).run Try.prog W = .ok (.pointer (some ⟨g, k, none⟩)) W := by
  have hv := partsV_get g k hk
  unfold Instr.index
  simp [go_sem, part, hv, Try.isAgg106, Try.sizeOf106, hk]
set_option maxRecDepth 100000 in
set_option maxHeartbeats 2000000 in
theorem fill_walk (A : Option Addr) (c : Nat) (s : List Int) (gl : Nat) (w : World) (hr : Kd.C (Kd.int .u8) w A s.length s) (hc : s.length ≤ c) (ok : byteOk s = true) (hl : s.length ≤ 900000) (bl : Blk w gl 9 labsV) :
    Calls Try.prog 69 #[.slice A s.length c, .slice (some ⟨gl, 0, none⟩) 5 5] w fun e w' => ∃ v0 v1 v2 v3 v4 : Value, e = .returned (.agg #[v0, v1, v2, v3, v4]) ∧
      (∃ M : Nat → Nat, (∀ j, j < 5 → M j ≤ M (j + 1)) ∧ Kd.R (Kd.int .u8) 5 w' w.heap.size (fun b => M 0 ≤ b ∧ b < M 1) v0 (epRow s 0) ∧ Kd.R (Kd.int .u8) 5 w' w.heap.size (fun b => M 1 ≤ b ∧ b < M 2) v1 (epRow s 1) ∧ Kd.R (Kd.int .u8) 5 w' w.heap.size (fun b => M 2 ≤ b ∧ b < M 3) v2 (epRow s 2) ∧ Kd.R (Kd.int .u8) 5 w' w.heap.size (fun b => M 3 ≤ b ∧ b < M 4) v3 (epRow s 3) ∧ Kd.R (Kd.int .u8) 5 w' w.heap.size (fun b => M 4 ≤ b ∧ b < M 5) v4 (epRow s 4)) ∧ Below w.heap.size w w' := by
  have b4 := (Blk.new w 60 nil5).alloc (Obj.cells nil5 60)
  have b5 := Blk.new (w.alloc (Obj.cells nil5 60)) 60 nil5
  rw [World.size_alloc] at b5
  have hb := ((Below.refl w.heap.size w).alloc (Nat.le_refl _) (Obj.cells nil5 60)).alloc (by rw [World.size_alloc]; omega) (Obj.cells nil5 60)
  have hsz : ((w.alloc (Obj.cells nil5 60)).alloc (Obj.cells nil5 60)).heap.size = w.heap.size + 2 := by simp
  have H0 := Lib.hid (And.intro b4 (And.intro b5 (And.intro hb hsz)))
  have HA := Lib.hid (And.intro hr (And.intro hc (And.intro ok (And.intro hl bl))))
  clear b4 b5 hb hsz hr hc ok hl bl
  go_enter Try.func69, Try.ntmps69
  go_wp2_with fail
  change Calls Try.prog 72 _ ((w.alloc (Obj.cells nil5 60)).alloc (Obj.cells nil5 60)) _
  generalize (w.alloc (Obj.cells nil5 60)).alloc (Obj.cells nil5 60) = W0 at *
  refine (parts_calls (w.heap.size + 1) W0).mono ?_
  rintro e W1 ⟨rfl, hb1⟩
  have c4 := H0.out.1.below hb1 H0.out.1.lt
  have c5 := H0.out.2.1.below hb1 H0.out.2.1.lt
  have hw1 := H0.out.2.2.1.trans (hb1.mono H0.out.2.2.1.size)
  have hs1 : w.heap.size + 2 ≤ W1.heap.size := by have := hb1.size; have := H0.out.2.2.2; omega
  have H1 := Lib.hid (And.intro c4 (And.intro c5 hw1))
  clear c4 c5 hw1 hb1 H0
  have hgl : gl < w.heap.size := HA.out.2.2.2.2.lt
  go_wp2_with fail
  go_loopw [9] (fun i wr => ∃ (k : Nat) (V : Nat → Value) (M : Nat → Nat), k ≤ 5 ∧ i = .int .i64 (k : Int) ∧ Aside0 (Blk wr w.heap.size 60 nil5) ∧ Aside0 (Blk wr (w.heap.size + 1) 60 (epV V k)) ∧ Aside0 (∀ j, j < k → Kd.R (Kd.int .u8) 5 wr w.heap.size (fun b => M j ≤ b ∧ b < M (j + 1)) (V j) (epRow s j)) ∧ Aside0 (∀ j, j < k → M j ≤ M (j + 1)) ∧ Aside0 (∀ j, j ≤ k → w.heap.size + 2 ≤ M j) ∧ M k ≤ wr.heap.size ∧ Below w.heap.size w wr) (fun i _ => 5 - (intOf i).toNat)
  case atStart => exact ⟨0, fun _ => .slice none 0 0, fun _ => W1.heap.size, by omega, rfl, ⟨H1.out.1⟩, ⟨H1.out.2.1⟩, ⟨fun j hj => by omega⟩, ⟨fun j hj => by omega⟩, ⟨fun j hj => hs1⟩, Nat.le_refl _, H1.out.2.2⟩
  case round =>
    clear H1
    obtain ⟨k, V, M, hk, rfl, h4, h5, hR, hM, hM0, hMk, hb⟩ := hrel
    by_cases hlt : k < 5
    · have hD := P.kdf_Derive.calls A c s (labs k) (epRow s k) 0 wr (Kd.C_below HA.out.1 hb) HA.out.2.1 (epRow_some s k HA.out.2.2.1 HA.out.2.2.2.1)
      have hcell : wr.cell? ⟨gl, k, none⟩ = some (.string (labs k)) := ((HA.out.2.2.2.2.below hb hgl).cell k).trans (labsV_get k hlt)
      have hp := index_p5 (w.heap.size + 1) k hlt wr
      have HD := Lib.hid hD
      have i1 : (k : Int) < 5 := by omega
      clear hD
      go_wp2_with fail
      refine HD.out.mono ?_
      rintro e W' ⟨v, rfl, hRv, hbv⟩
      obtain ⟨g6, c6, rfl, -, -⟩ := Kd.R_form hRv (by rw [show (epRow s k).length = 32 from labelOf_length _ _ _ _]; omega)
      obtain ⟨v, hv⟩ : ∃ v, Value.slice (some ⟨g6, 0, none⟩) (epRow s k).length c6 = v := ⟨_, rfl⟩
      rw [hv] at hRv
      have HV := Lib.hid hv
      clear hv
      have q4 := h4.out.below hbv h4.out.lt
      have q5 := h5.out.below hbv h5.out.lt
      have hfz := q5.frozen k
      obtain ⟨old, hold⟩ : ∃ u, W'.cell? ⟨w.heap.size + 1, k, none⟩ = some u := by
        rw [q5.cell]
        rcases k with _ | _ | _ | _ | _ | k
        · exact ⟨_, rfl⟩
        · exact ⟨_, rfl⟩
        · exact ⟨_, rfl⟩
        · exact ⟨_, rfl⟩
        · exact ⟨_, rfl⟩
        · omega
      have z4 := q4.far (p := ⟨w.heap.size + 1, k, none⟩) (by show w.heap.size ≠ w.heap.size + 1; omega) v
      have z5 := q5.set_ k v
      rw [epV_set V k v hlt] at z5
      have zb := (hb.trans (hbv.mono hb.size)).setCell (p := ⟨w.heap.size + 1, k, none⟩) (show w.heap.size ≤ w.heap.size + 1 by omega) v
      have hsv := hbv.size
      have zR : ∀ j, j < k + 1 → Kd.R (Kd.int .u8) 5 (W'.setCell ⟨w.heap.size + 1, k, none⟩ v) w.heap.size (fun b => (if j = k + 1 then W'.heap.size else M j) ≤ b ∧ b < (if j + 1 = k + 1 then W'.heap.size else M (j + 1))) (if j = k then v else V j) (epRow s j) := fun j hj => by
        by_cases hjk : j = k
        · subst hjk
          rw [if_pos rfl, if_neg (by omega), if_pos rfl]
          refine Kd.R_far (p := ⟨w.heap.size + 1, j, none⟩) (Kd.R_lower (Kd.R_mono (Kd.R_bound hRv) (fun b hb => ⟨by have := hb.2.1; omega, hb.2.2.1⟩)) hb.size) (fun b hb => ?_) v
          have := hM0.out j (Nat.le_refl _)
          show b ≠ w.heap.size + 1
          omega
        · rw [if_neg hjk, if_neg (by omega), if_neg (by omega)]
          refine Kd.R_far (p := ⟨w.heap.size + 1, k, none⟩) (Kd.R_below (hR.out j (by omega)) hbv) (fun b hb => ?_) v
          have := hM0.out j (by omega)
          show b ≠ w.heap.size + 1
          omega
      have zM : ∀ j, j < k + 1 → (if j = k + 1 then W'.heap.size else M j) ≤ (if j + 1 = k + 1 then W'.heap.size else M (j + 1)) := fun j hj => by
        rw [if_neg (by omega)]
        by_cases hjk : j = k
        · rw [if_pos (by omega), hjk]
          omega
        · rw [if_neg (by omega)]
          exact hM.out j (by omega)
      have zM0 : ∀ j, j ≤ k + 1 → w.heap.size + 2 ≤ (if j = k + 1 then W'.heap.size else M j) := fun j hj => by
        by_cases hjk : j = k + 1
        · rw [if_pos hjk]
          have := hM0.out k (Nat.le_refl _)
          omega
        · rw [if_neg hjk]
          exact hM0.out j (by omega)
      have zMk : (if k + 1 = k + 1 then W'.heap.size else M (k + 1)) ≤ W'.heap.size := by rw [if_pos rfl]; exact Nat.le_refl _
      have HZ := Lib.hid (And.intro z4 (And.intro z5 (And.intro zR (And.intro zM (And.intro zM0 (And.intro zMk zb))))))
      rw [← HV.out] at HZ
      clear HV
      clear q4 q5 z4 z5 zR zM zM0 zMk zb hRv hbv h4 h5 hR hM hM0 hcell hp HD
      go_wp2
      go_roundw
      case rel => exact ⟨k + 1, fun j => if j = k then Value.slice (some ⟨g6, 0, none⟩) (epRow s k).length c6 else V j, fun j => if j = k + 1 then W'.heap.size else M j, by omega, by go_num, ⟨HZ.out.1⟩, ⟨HZ.out.2.1⟩, ⟨HZ.out.2.2.1⟩, ⟨HZ.out.2.2.2.1⟩, ⟨HZ.out.2.2.2.2.1⟩, (by simp only [World.size_setCell]; exact HZ.out.2.2.2.2.2.1), HZ.out.2.2.2.2.2.2⟩
      case measure => simp [intOf]; omega
    · obtain rfl : k = 5 := by omega
      have r0 := hR.out 0 (by omega)
      have r1 := hR.out 1 (by omega)
      have r2 := hR.out 2 (by omega)
      have r3 := hR.out 3 (by omega)
      have r4 := hR.out 4 (by omega)
      have he : epV V 5 = #[V 0, V 1, V 2, V 3, V 4] := rfl
      have hB5 : Blk wr (w.heap.size + 1) 60 #[V 0, V 1, V 2, V 3, V 4] := by rw [← he]; exact h5.out
      have hkeep : ∀ j, j < 5 → ∀ cs, Kd.R (Kd.int .u8) 5 (wr.setRow w.heap.size cs) w.heap.size (fun b => M j ≤ b ∧ b < M (j + 1)) (V j) (epRow s j) := fun j hj cs =>
        Kd.R_step (hR.out j hj) (fun b hb _ => heap_setRow_other wr w.heap.size cs b (by have := hM0.out j (by omega); omega))
      have hone : ∀ j, j < 5 → (V j).oneCell' = true := fun j hj => by
        obtain ⟨g, c, e, -, -⟩ := Kd.R_form (hR.out j hj) (by rw [show (epRow s j).length = 32 from labelOf_length _ _ _ _]; omega)
        rw [e]
        rfl
      have hall : (#[V 0, V 1, V 2, V 3, V 4] : Array Value).all (·.oneCell') = true := by
        simp [hone 0 (by omega), hone 1 (by omega), hone 2 (by omega), hone 3 (by omega), hone 4 (by omega)]
      clear hone
      have HF := Lib.hid (And.intro h4.out (And.intro hB5 (And.intro hkeep (And.intro hM.out (And.intro hb hall)))))
      clear h4 h5 hR hM hM0 r0 r1 r2 r3 r4 he hB5 hkeep hb hall
      go_wp2_with (first
        | (refine wpList_load_row rfl 60 (.tmp 5) rfl (w.heap.size + 1) rfl 60 _ (0, 0) _ HF.out.2.1 Try.underlying60 rfl infoEp ?_)
        | (refine wpList_store_row rfl 60 (.tmp 4) (.tmp 25) rfl w.heap.size _ rfl rfl 60 nil5 HF.out.1 infoEp rfl HF.out.2.2.2.2.2 ?_))
      refine bodyPost_ret (results_cell_row rfl _ _ w.heap.size 60 #[V 0, V 1, V 2, V 3, V 4] (0, 0) _ rfl (setRow_heap wr w.heap.size _ _ _ _ HF.out.1) Try.underlying60 rfl infoEp) rfl ?_
      exact ⟨V 0, V 1, V 2, V 3, V 4, rfl, ⟨M, HF.out.2.2.2.1, HF.out.2.2.1 0 (by omega) _, HF.out.2.2.1 1 (by omega) _, HF.out.2.2.1 2 (by omega) _, HF.out.2.2.1 3 (by omega) _, HF.out.2.2.1 4 (by omega) _⟩, HF.out.2.2.2.2.1.trans (Iter.below_setRow _ (Nat.le_refl _))⟩
end Go.Proofs.Ytpdgeanicciaiaa

/-! SchedE -/
namespace Go.Proofs.Ytpdgeanicciaiaa
set_option linter.unusedVariables false
set_option linter.unusedSimpArgs false
open Go.RowKit Go.Proofs.YtpdgeanicciaiaaW.PrintWords Go.Proofs.YtpdgeanicciaiaaW.PrintLast Go.Proofs.YtpdgeanicciaiaaW.PrintMore Iter
theorem wrap_up (i : Nat) (h : i ≤ 1000000) : wrap64 ((i : Int) + 1) = ((i + 1 : Nat) : Int) := by unfold wrap64; omega
/-- Rows, each with its length ahead. -/
def rowsB : List (List Int) → List Int
  | [] => []
  | x :: l => rowB x ++ rowsB l
theorem rowsB_append : ∀ (l m : List (List Int)), rowsB (l ++ m) = rowsB l ++ rowsB m
  | [], m => rfl
  | x :: l, m => by rw [List.cons_append, rowsB, rowsB, rowsB_append l m, List.append_assoc]
theorem rowsB_length (l : List (List Int)) (h : ∀ x ∈ l, x.length ≤ 100000) : (rowsB l).length ≤ l.length * 100004 := by
  induction l with
  | nil => simp [rowsB]
  | cons x l ih =>
    have h1 := rowB_length x
    have h2 := h x (by simp)
    have h3 := ih (fun y hy => h y (by simp [hy]))
    rw [rowsB, List.length_append, List.length_cons]
    omega
def smallRows (l : List (List Int)) : Prop := l.length ≤ 1000 ∧ ∀ x ∈ l, x.length ≤ 100000
theorem rows_l0 (l : List (List Int)) (hs : smallRows l) : ∀ (d i : Nat), i + d = l.length → EvS (fun k => E.sched_rows.l0 k (rowsB (l.take i)) l (l.length : Int) (i : Int)) (rowsB l)
  | 0, i, h => EvS.now fun k => by
    rw [E.sched_rows.l0, if_neg (by omega), List.take_of_length_le (by omega)]
  | d + 1, i, h => EvS.step (fun k => by
    have hlt : i < l.length := by omega
    have e : E.rd_L1 l (i : Int) = l[i] := by unfold E.rd_L1; rw [Int.toNat_natCast]; simp [hlt]
    have hx := hs.2 l[i] (List.getElem_mem hlt)
    have hr : P.byt_Row.f l[i] = some (rowB l[i], 0) := congrArg some (rowOf_small l[i] (by omega))
    have hl1 := rowsB_length (l.take i) (fun x hx => hs.2 x (List.mem_of_mem_take hx))
    have hl2 := rowB_length l[i]
    have hl3 : (l.take i).length ≤ 1000 := by rw [List.length_take]; have := hs.1; omega
    have hle : (l.take i).length * 100004 ≤ 1000 * 100004 := Nat.mul_le_mul_right _ hl3
    have hn : rowsB (l.take i) ++ rowB l[i] = rowsB (l.take (i + 1)) := by
      rw [List.take_succ_eq_append_getElem hlt, rowsB_append]
      simp [rowsB]
    have hw := wrap_up i (by have := hs.1; omega)
    rw [E.sched_rows.l0, if_pos (by omega), if_pos (by omega), if_pos (by omega), e, hr, Option.bind_some]
    dsimp only
    rw [if_pos (by omega), hn, hw]) (rows_l0 l hs d (i + 1) (by omega))
theorem rows_eq (l : List (List Int)) (hs : smallRows l) : EvS (fun k => E.sched_rows.f k l) (rowsB l) := rows_l0 l hs l.length 0 (by omega)
def labShared : ByteArray := ⟨#[115, 104, 97, 114, 101, 100]⟩
/-- One secret of the first k that are shared. -/
def sharedTo (l : List (List Int)) : Nat → List Int
  | 0 => List.replicate 32 0
  | k + 1 => macSum (sharedTo l k) (labelOf (l.getD k []) labShared (numB k 2) 32)
theorem sharedTo_ok (l : List (List Int)) : ∀ k, byteOk (sharedTo l k) = true ∧ (sharedTo l k).length = 32
  | 0 => by
    rw [sharedTo]
    exact ⟨by decide, rfl⟩
  | k + 1 => by
    rw [sharedTo]
    exact ⟨byteOk_macSum _ _, macSum_length _ _⟩
theorem mac_some (key b : List Int) (hk : byteOk key = true) (hb : byteOk b = true) (lk : key.length ≤ 900000) (lb : b.length ≤ 800000) : P.mac_Sum.f key b = some (macSum key b) := by
  unfold P.mac_Sum.f
  rw [if_pos ⟨hk, hb, lk, lb⟩]
theorem e_label (s : List Int) (a : ByteArray) (c : List Int) (o1 : byteOk s = true) (o2 : byteOk c = true) (l1 : s.length ≤ 900000) (l2 : a.size ≤ 100000) (l3 : c.length ≤ 100000) : E.sched_label.f s a c = some (labelOf s a c 32) := by
  unfold E.sched_label.f
  rw [show (32 : Int) = ((32 : Nat) : Int) from rfl, label_some s a c 32 (by omega) o1 o2 l1 l2 l3, Option.bind_some]
theorem e_reflabel (s : List Int) (a : ByteArray) (c : List Int) (o1 : byteOk s = true) (o2 : byteOk c = true) (l1 : s.length ≤ 900000) (l2 : a.size ≤ 100000) (l3 : c.length ≤ 100000) : E.pyxref12_label.f s a c = some (labelOf s a c 32) := by
  unfold E.pyxref12_label.f P.pyxref04_Label.f
  rw [show (32 : Int) = ((32 : Nat) : Int) from rfl, label_some s a c 32 (by omega) o1 o2 l1 l2 l3, Option.bind_some]
theorem num2_some (i : Nat) (h : i ≤ 1000) : numOf (i : Int) 2 = (numB i 2, 0) := numOf_small i 2 (by omega) (by omega) (by omega)
section
variable (l : List (List Int)) (hs : smallRows l) (hok : ∀ x ∈ l, byteOk x = true)
include hs hok
theorem shared_l0 : ∀ (d i : Nat), i + d = l.length → EvS (fun k => E.sched_Shared.l0 k (sharedTo l i) l (l.length : Int) (i : Int)) (sharedTo l l.length)
  | 0, i, h => EvS.now fun k => by
    rw [E.sched_Shared.l0, if_neg (by omega), show i = l.length by omega]
  | d + 1, i, h => EvS.step (fun k => by
    have hlt : i < l.length := by omega
    have e : E.rd_L1 l (i : Int) = l[i] := by unfold E.rd_L1; rw [Int.toNat_natCast]; simp [hlt]
    have hx := hs.2 l[i] (List.getElem_mem hlt)
    have hl := hs.1
    have hn : P.byt_Num.f (i : Int) 2 = some (numB i 2, 0) := congrArg some (num2_some i (by omega))
    have hlab := e_label l[i] labShared (numB i 2) (hok _ (List.getElem_mem hlt)) (byteOk_numB _ _) (by omega) (by decide) (by rw [numB_length]; omega)
    have hss := sharedTo_ok l i
    have hm : P.kdf_Extract.f (sharedTo l i) (labelOf l[i] labShared (numB i 2) 32) = some (sharedTo l (i + 1)) := by
      unfold P.kdf_Extract.f
      rw [mac_some _ _ hss.1 (byteOk_labelOf _ _ _ _) (by omega) (by rw [labelOf_length]; omega), sharedTo]
      simp [hlt]
    have hw := wrap_up i (by omega)
    rw [E.sched_Shared.l0, if_pos (by omega), if_pos (by omega), if_pos (by omega), hn, Option.bind_some, e]
    dsimp only
    rw [show (⟨#[115, 104, 97, 114, 101, 100]⟩ : ByteArray) = labShared from rfl, hlab, Option.bind_some, hm, Option.bind_some, hw]) (shared_l0 d (i + 1) (by omega))
theorem refshared_l0 : ∀ (d i : Nat), i + d = l.length → EvS (fun k => E.pyxref12_Shared.l0 k l (sharedTo l i) (i : Int)) (sharedTo l l.length)
  | 0, i, h => EvS.now fun k => by
    rw [E.pyxref12_Shared.l0, if_neg (by omega), show i = l.length by omega]
  | d + 1, i, h => EvS.step (fun k => by
    have hlt : i < l.length := by omega
    have e : E.rd_L1 l (i : Int) = l[i] := by unfold E.rd_L1; rw [Int.toNat_natCast]; simp [hlt]
    have hx := hs.2 l[i] (List.getElem_mem hlt)
    have hl := hs.1
    have hn : P.pyxref01_Num.f (i : Int) 2 = some (numB i 2, 0) := congrArg some (num2_some i (by omega))
    have hlab := e_reflabel l[i] labShared (numB i 2) (hok _ (List.getElem_mem hlt)) (byteOk_numB _ _) (by omega) (by decide) (by rw [numB_length]; omega)
    have hss := sharedTo_ok l i
    have hm : P.pyxref04_Extract.f (sharedTo l i) (labelOf l[i] labShared (numB i 2) 32) = some (sharedTo l (i + 1)) := by
      unfold P.pyxref04_Extract.f
      rw [refSum_some _ _ hss.1 (byteOk_labelOf _ _ _ _) (by omega) (by rw [labelOf_length]; omega), sharedTo]
      simp [hlt]
    have hw := wrap_up i (by omega)
    rw [E.pyxref12_Shared.l0, if_pos (by omega), hn, Option.bind_some, if_pos (by omega), e]
    dsimp only
    rw [show (⟨#[115, 104, 97, 114, 101, 100]⟩ : ByteArray) = labShared from rfl, hlab, Option.bind_some, hm, Option.bind_some, hw]) (refshared_l0 d (i + 1) (by omega))
end
instance (l : List (List Int)) : Decidable (smallRows l) := by unfold smallRows; infer_instance
namespace P
def sched_rows.f (l : List (List Int)) : Option (List Int) := if smallRows l then some (rowsB l) else none
theorem sched_rows.calls (A0 : Option Addr) (c0 : Nat) (l0 : List (List Int)) (r : List Int) (w : World) (hr0 : Kd.C (Kd.slice 5 (Kd.int .u8)) w A0 l0.length l0) (hc0 : l0.length ≤ c0) (h : sched_rows.f l0 = some r) :
    Calls Try.prog 65 #[.slice A0 l0.length c0] w fun e w' => ∃ v0_ : Value, e = .returned (v0_) ∧ Kd.R (Kd.int .u8) 5 w' w.heap.size (fun _ => True) v0_ r ∧ Below w.heap.size w w' := by
  unfold sched_rows.f at h
  split at h
  case isFalse => cases h
  case isTrue hok =>
  obtain ⟨k0, hk⟩ := rows_eq l0 hok
  exact E.sched_rows.calls k0 A0 c0 l0 r w hr0 hc0 ((hk k0 (Nat.le_refl _)).trans h)
def labelOk (s : List Int) (a : ByteArray) (c : List Int) : Prop := byteOk s = true ∧ byteOk c = true ∧ s.length ≤ 900000 ∧ a.size ≤ 100000 ∧ c.length ≤ 100000
instance (s : List Int) (a : ByteArray) (c : List Int) : Decidable (labelOk s a c) := by unfold labelOk; infer_instance
def sched_label.f (s : List Int) (a : ByteArray) (c : List Int) : Option (List Int) := if labelOk s a c then some (labelOf s a c 32) else none
theorem sched_label.calls (A0 : Option Addr) (c0 : Nat) (l0 : List Int) (a1 : ByteArray) (A2 : Option Addr) (c2 : Nat) (l2 : List Int) (r : List Int) (w : World) (hr0 : Kd.C (Kd.int .u8) w A0 l0.length l0) (hc0 : l0.length ≤ c0) (hr2 : Kd.C (Kd.int .u8) w A2 l2.length l2) (hc2 : l2.length ≤ c2) (h : sched_label.f l0 a1 l2 = some r) :
    Calls Try.prog 67 #[.slice A0 l0.length c0, .string a1, .slice A2 l2.length c2] w fun e w' => ∃ v0_ : Value, e = .returned (v0_) ∧ Kd.R (Kd.int .u8) 5 w' w.heap.size (fun _ => True) v0_ r ∧ Below w.heap.size w w' := by
  unfold sched_label.f at h
  split at h
  case isFalse => cases h
  case isTrue hok =>
  exact E.sched_label.calls A0 c0 l0 a1 A2 c2 l2 r w hr0 hc0 hr2 hc2 ((e_label l0 a1 l2 hok.1 hok.2.1 hok.2.2.1 hok.2.2.2.1 hok.2.2.2.2).trans h)
def sched_Shared.f (l : List (List Int)) : Option (List Int) := if smallRows l ∧ l.all byteOk = true then some (sharedTo l l.length) else none
theorem sched_Shared.calls (A0 : Option Addr) (c0 : Nat) (l0 : List (List Int)) (r : List Int) (w : World) (hr0 : Kd.C (Kd.slice 5 (Kd.int .u8)) w A0 l0.length l0) (hc0 : l0.length ≤ c0) (h : sched_Shared.f l0 = some r) :
    Calls Try.prog 38 #[.slice A0 l0.length c0] w fun e w' => ∃ v0_ : Value, e = .returned (v0_) ∧ Kd.R (Kd.int .u8) 5 w' w.heap.size (fun _ => True) v0_ r ∧ Below w.heap.size w w' := by
  unfold sched_Shared.f at h
  split at h
  case isFalse => cases h
  case isTrue hok =>
  obtain ⟨k0, hk⟩ := shared_l0 l0 hok.1 (fun x hx => List.all_eq_true.1 hok.2 x hx) l0.length 0 (by omega)
  refine E.sched_Shared.calls k0 A0 c0 l0 r w hr0 hc0 ?_
  unfold E.sched_Shared.f
  rw [if_pos (by omega)]
  exact (hk k0 (Nat.le_refl _)).trans h
def pyxref12_Shared.f (l : List (List Int)) : Option (List Int) := sched_Shared.f l
theorem pyxref12_Shared.calls (A0 : Option Addr) (c0 : Nat) (l0 : List (List Int)) (r : List Int) (w : World) (hr0 : Kd.C (Kd.slice 5 (Kd.int .u8)) w A0 l0.length l0) (hc0 : l0.length ≤ c0) (h : pyxref12_Shared.f l0 = some r) :
    Calls Try.prog 39 #[.slice A0 l0.length c0] w fun e w' => ∃ v0_ : Value, e = .returned (v0_) ∧ Kd.R (Kd.int .u8) 5 w' w.heap.size (fun _ => True) v0_ r ∧ Below w.heap.size w w' := by
  unfold pyxref12_Shared.f sched_Shared.f at h
  split at h
  case isFalse => cases h
  case isTrue hok =>
  obtain ⟨k0, hk⟩ := refshared_l0 l0 hok.1 (fun x hx => List.all_eq_true.1 hok.2 x hx) l0.length 0 (by omega)
  refine E.pyxref12_Shared.calls k0 A0 c0 l0 r w hr0 hc0 ?_
  unfold E.pyxref12_Shared.f
  rw [if_pos (by omega)]
  exact (hk k0 (Nat.le_refl _)).trans h
end P
end Go.Proofs.Ytpdgeanicciaiaa

/-! SchedF -/
namespace Go.Proofs.Ytpdgeanicciaiaa
set_option linter.unusedVariables false
set_option linter.unusedSimpArgs false
open Go.RowKit Go.Proofs.YtpdgeanicciaiaaW.PrintWords Go.Proofs.YtpdgeanicciaiaaW.PrintLast Go.Proofs.YtpdgeanicciaiaaW.PrintMore Iter
theorem results_struct_tmp {P : Program} {fn : Func} {p u : Tmp} {ty : TypeId} (h : fn.results = #[.cell p ty, .tmp u]) (tmps : Array Value) (w : World) (g : Nat) (t : TypeId) (cs : Array Value) (fr : Nat × Nat) (d : TypeDesc)
    (hp : tmps.getD p undef = .pointer (some ⟨g, 0, none⟩)) (hg : w.heap[g]? = some (.cells cs t fr))
    (hu : P.underlying ty = some d) (hd : (match d with | .struct _ | .array _ _ => true | _ => false) = true) (hi : (P.info? ty).map (·.size) = some cs.size) :
    (results fn tmps).run P w = .ok (.tuple #[.agg cs, tmps.getD u undef]) w := by
  rw [results_cell_tmp h, hp]
  simp [asAddr, run_loadVar_row w g t ty cs fr d hg hu hd hi, Result.andThen]
def labEpoch : ByteArray := ⟨#[101, 112, 111, 99, 104]⟩
/-- What an epoch's secrets are made of. -/
def ownOf (joiner shared context : List Int) : List Int := labelOf (macSum joiner shared) labEpoch context 32
namespace P
def epochOk (a b c : List Int) : Prop := byteOk a = true ∧ byteOk b = true ∧ byteOk c = true ∧ a.length ≤ 100000 ∧ b.length ≤ 100000 ∧ c.length ≤ 100000
instance (a b c : List Int) : Decidable (epochOk a b c) := by unfold epochOk; infer_instance
def epochRows (a b c : List Int) : List Int × List Int × List Int × List Int × List Int × Int :=
  if a.length = 32 ∧ b.length = 32 then (epRow (ownOf a b c) 0, epRow (ownOf a b c) 1, epRow (ownOf a b c) 2, epRow (ownOf a b c) 3, epRow (ownOf a b c) 4, 0) else ([], [], [], [], [], 1)
def sched_Epoch.f (a b c : List Int) : Option (List Int × List Int × List Int × List Int × List Int × Int) := if epochOk a b c then some (epochRows a b c) else none
set_option maxRecDepth 100000 in
set_option maxHeartbeats 2000000 in
theorem sched_Epoch.calls (A0 : Option Addr) (c0 : Nat) (l0 : List Int) (A1 : Option Addr) (c1 : Nat) (l1 : List Int) (A2 : Option Addr) (c2 : Nat) (l2 : List Int) (r1 : List Int) (r2 : List Int) (r3 : List Int) (r4 : List Int) (r5 : List Int) (r6 : Int) (w : World) (hr0 : Kd.C (Kd.int .u8) w A0 l0.length l0) (hc0 : l0.length ≤ c0) (hr1 : Kd.C (Kd.int .u8) w A1 l1.length l1) (hc1 : l1.length ≤ c1) (hr2 : Kd.C (Kd.int .u8) w A2 l2.length l2) (hc2 : l2.length ≤ c2) (h : sched_Epoch.f l0 l1 l2 = some (r1, r2, r3, r4, r5, r6)) :
    Calls Try.prog 35 #[.slice A0 l0.length c0, .slice A1 l1.length c1, .slice A2 l2.length c2] w fun e w' => ∃ v0_ v1_ v2_ v3_ v4_ : Value, e = .returned (.tuple #[.agg #[v0_, v1_, v2_, v3_, v4_], .int .i64 r6]) ∧ Kd.R (Kd.int .u8) 5 w' w.heap.size (fun k_ => some k_ ≠ (v1_ : Value).ownBlock ∧ some k_ ≠ (v2_ : Value).ownBlock ∧ some k_ ≠ (v3_ : Value).ownBlock ∧ some k_ ≠ (v4_ : Value).ownBlock) v0_ r1 ∧ Kd.R (Kd.int .u8) 5 w' w.heap.size (fun k_ => some k_ ≠ (v0_ : Value).ownBlock ∧ some k_ ≠ (v2_ : Value).ownBlock ∧ some k_ ≠ (v3_ : Value).ownBlock ∧ some k_ ≠ (v4_ : Value).ownBlock) v1_ r2 ∧ Kd.R (Kd.int .u8) 5 w' w.heap.size (fun k_ => some k_ ≠ (v0_ : Value).ownBlock ∧ some k_ ≠ (v1_ : Value).ownBlock ∧ some k_ ≠ (v3_ : Value).ownBlock ∧ some k_ ≠ (v4_ : Value).ownBlock) v2_ r3 ∧ Kd.R (Kd.int .u8) 5 w' w.heap.size (fun k_ => some k_ ≠ (v0_ : Value).ownBlock ∧ some k_ ≠ (v1_ : Value).ownBlock ∧ some k_ ≠ (v2_ : Value).ownBlock ∧ some k_ ≠ (v4_ : Value).ownBlock) v3_ r4 ∧ Kd.R (Kd.int .u8) 5 w' w.heap.size (fun k_ => some k_ ≠ (v0_ : Value).ownBlock ∧ some k_ ≠ (v1_ : Value).ownBlock ∧ some k_ ≠ (v2_ : Value).ownBlock ∧ some k_ ≠ (v3_ : Value).ownBlock) v4_ r5 ∧ Below w.heap.size w w' := by
  unfold sched_Epoch.f at h
  split at h
  case isFalse => cases h
  case isTrue hok =>
  injection h with h
  obtain ⟨o0, o1, o2, n0, n1, n2⟩ := hok
  have b6 := (Blk.new w 60 nil5).alloc (Obj.cells #[.slice A0 l0.length c0, .slice A1 l1.length c1] 22)
  have hcw := c_two (w.alloc (Obj.cells nil5 60)) 22 A0 A1 c0 c1 l0 l1 (Kd.C_alloc hr0 _) hc0 (Kd.C_alloc hr1 _) hc1
  rw [World.size_alloc] at hcw
  have hb := ((Below.refl w.heap.size w).alloc (Nat.le_refl _) (Obj.cells nil5 60)).alloc (by rw [World.size_alloc]; omega) (Obj.cells #[.slice A0 l0.length c0, .slice A1 l1.length c1] 22)
  have hwh : sched_whole.f [l0, l1] = some (row32 l0 && row32 l1) := by
    unfold sched_whole.f
    rw [if_pos (by simp)]
    simp
  have hsz : ((w.alloc (Obj.cells nil5 60)).alloc (Obj.cells #[.slice A0 l0.length c0, .slice A1 l1.length c1] 22)).heap.size = w.heap.size + 2 := by simp
  have H0 := Lib.hid (And.intro b6 (And.intro hcw (And.intro hb (And.intro hwh hsz))))
  have HR := Lib.hid (And.intro hr0 (And.intro hr1 hr2))
  clear b6 hcw hb hwh hsz hr0 hr1 hr2
  by_cases h32 : l0.length = 32 ∧ l1.length = 32
  · have hbool : (row32 l0 && row32 l1) = true := by unfold row32; simp [h32.1, h32.2]
    have hres : epochRows l0 l1 l2 = (epRow (ownOf l0 l1 l2) 0, epRow (ownOf l0 l1 l2) 1, epRow (ownOf l0 l1 l2) 2, epRow (ownOf l0 l1 l2) 3, epRow (ownOf l0 l1 l2) 4, 0) := if_pos h32
    rw [hres] at h
    simp only [Prod.mk.injEq] at h
    obtain ⟨rfl, rfl, rfl, rfl, rfl, rfl⟩ := h
    have hm : kdf_Extract.f l0 l1 = some (macSum l0 l1) := mac_some l0 l1 o0 o1 (by omega) (by omega)
    have hml := macSum_length l0 l1
    have hmo := byteOk_macSum l0 l1
    have hown : ownOf l0 l1 l2 = labelOf (macSum l0 l1) labEpoch l2 32 := rfl
    generalize macSum l0 l1 = q at *
    have hlab : sched_label.f q labEpoch l2 = some (labelOf q labEpoch l2 32) := by
      unfold sched_label.f
      rw [if_pos ⟨hmo, o2, by omega, by decide, n2⟩]
    rw [← hown] at hlab
    have hol : (ownOf l0 l1 l2).length = 32 := labelOf_length _ _ _ _
    have hoo : byteOk (ownOf l0 l1 l2) = true := byteOk_labelOf _ _ _ _
    clear hown hres
    generalize ownOf l0 l1 l2 = own at *
    have HQ := Lib.hid (And.intro hm (And.intro hlab (And.intro hol (And.intro hoo hml))))
    have hw1 := H0.out.2.2.2.1
    rw [hbool] at hw1
    have HW := Lib.hid hw1
    clear hm hlab hol hoo hml hmo hw1 hbool h32 o0 o1 o2 n0 n1 n2
    go_enter Try.func35, Try.ntmps35
    go_wp2_with fail
    change Calls Try.prog 63 _ ((w.alloc (Obj.cells nil5 60)).alloc (Obj.cells #[.slice A0 l0.length c0, .slice A1 l1.length c1] 22)) _
    generalize (w.alloc (Obj.cells nil5 60)).alloc (Obj.cells #[.slice A0 l0.length c0, .slice A1 l1.length c1] 22) = W0 at *
    refine (sched_whole.calls _ 2 [l0, l1] true W0 H0.out.2.1 (Nat.le_refl _) HW.out).mono ?_
    rintro e w' ⟨rfl, ⟨nd, rfl⟩⟩
    go_wp2_with fail
    refine (kdf_Extract.calls A0 c0 l0 A1 c1 l1 q _ (Kd.C_drewN (Kd.C_below HR.out.1 H0.out.2.2.1) nd) hc0 (Kd.C_drewN (Kd.C_below HR.out.2.1 H0.out.2.2.1) nd) hc1 HQ.out.1).mono ?_
    rintro e W2 ⟨v2, rfl, hR2, hb2⟩
    have hbw2 := (pw_below_drewN H0.out.2.2.1 nd).trans (hb2.mono (by have := H0.out.2.2.2.2; show w.heap.size ≤ W0.heap.size; omega))
    have hB2 : Blk W2 w.heap.size 60 nil5 := Blk.below (w := W0.drewN nd) H0.out.1 hb2 H0.out.1.lt
    obtain ⟨A3, c3, rfl, hl3, hC3⟩ := Kd.R_reads hR2
    have H2 := Lib.hid (And.intro hbw2 (And.intro hB2 hC3))
    clear hbw2 hB2 hC3 hR2 hb2 HW H0
    go_wp2_with fail
    refine (sched_label.calls A3 c3 q labEpoch A2 c2 l2 own _ H2.out.2.2 hl3 (Kd.C_below HR.out.2.2 H2.out.1) hc2 HQ.out.2.1).mono ?_
    rintro e W4 ⟨v4, rfl, hR4, hb4⟩
    have hbw4 := H2.out.1.trans (hb4.mono H2.out.1.size)
    have hB4 := (H2.out.2.1.below hb4 H2.out.2.1.lt).alloc (Obj.cells labsV 9)
    obtain ⟨A5, c5, rfl, hl5, hC5⟩ := Kd.R_reads hR4
    have hC5' := Kd.C_alloc hC5 (Obj.cells labsV 9)
    have hbl := Blk.new W4 9 labsV
    have hbw5 := hbw4.alloc hbw4.size (Obj.cells labsV 9)
    have hF := fill_walk A5 c5 own W4.heap.size (W4.alloc (Obj.cells labsV 9)) hC5' hl5 HQ.out.2.2.2.1 (by rw [HQ.out.2.2.1]; omega) hbl
    have H4 := Lib.hid (And.intro hF (And.intro hB4 hbw5))
    clear hbw4 hB4 hC5 hC5' hbl hbw5 hF hR4 hb4 H2
    go_wp2_with fail
    change Calls Try.prog 69 _ (W4.alloc (Obj.cells labsV 9)) _
    generalize W4.alloc (Obj.cells labsV 9) = W5 at *
    refine H4.out.1.mono ?_
    rintro e W6 ⟨v0, v1, v2, v3, v4, rfl, ⟨M, hM, r0, r1, r2, r3, r4⟩, hb6⟩
    have hB6 := H4.out.2.1.below hb6 H4.out.2.1.lt
    have hbw6 := H4.out.2.2.trans (hb6.mono H4.out.2.2.size)
    have m0 : M 0 ≤ M 1 := hM 0 (by omega)
    have m1 : M 1 ≤ M 2 := hM 1 (by omega)
    have m2 : M 2 ≤ M 3 := hM 2 (by omega)
    have m3 : M 3 ≤ M 4 := hM 3 (by omega)
    have m4 : M 4 ≤ M 5 := hM 4 (by omega)
    have hlt := H4.out.2.1.lt
    have low : ∀ {i j : Nat} {v : Value} {x : List Int}, Kd.R (Kd.int .u8) 5 W6 W5.heap.size (fun b => M i ≤ b ∧ b < M j) v x → ∀ cs, Kd.R (Kd.int .u8) 5 (W6.setRow w.heap.size cs) w.heap.size (fun b => M i ≤ b ∧ b < M j) v x := fun hr cs =>
      Kd.R_lower (Kd.R_mono (Kd.R_step (Kd.R_bound hr) (fun b hb _ => heap_setRow_other W6 w.heap.size cs b (by have := hb.2.1; omega))) (fun b hb => hb.1)) (by omega)
    have hone : ∀ {i j : Nat} {v : Value} {n : Nat}, Kd.R (Kd.int .u8) 5 W6 W5.heap.size (fun b => M i ≤ b ∧ b < M j) v (epRow own n) → v.oneCell' = true := fun hr => by
      obtain ⟨g, c, e, -, -⟩ := Kd.R_form hr (by rw [show (epRow own _).length = 32 from labelOf_length _ _ _ _]; omega)
      rw [e]
      rfl
    have hall : (#[v0, v1, v2, v3, v4] : Array Value).all (·.oneCell') = true := by
      simp [hone r0, hone r1, hone r2, hone r3, hone r4]
    have HZ := Lib.hid (And.intro hB6 (And.intro hbw6 hall))
    have q0 := low r0
    have q1 := low r1
    have q2 := low r2
    have q3 := low r3
    have q4 := low r4
    have HL := Lib.hid (And.intro q0 (And.intro q1 (And.intro q2 (And.intro q3 q4))))
    have HO := Lib.hid (And.intro r0.1 (And.intro r1.1 (And.intro r2.1 (And.intro r3.1 r4.1))))
    clear hB6 hbw6 hall q0 q1 q2 q3 q4 r0 r1 r2 r3 r4 low hone hM hb6
    go_wp2_with (refine wpList_store_row rfl 60 (.tmp 6) (.tmp 22) rfl w.heap.size _ rfl rfl 60 nil5 HZ.out.1 infoEp rfl HZ.out.2.2 ?_)
    refine bodyPost_ret (results_struct_tmp rfl _ _ w.heap.size 60 #[v0, v1, v2, v3, v4] (0, 0) _ rfl (setRow_heap W6 w.heap.size _ _ _ _ HZ.out.1) Try.underlying60 rfl infoEp) rfl ?_
    obtain ⟨w0, w1, w2, w3, w4⟩ := HO.out
    refine ⟨v0, v1, v2, v3, v4, rfl, Kd.R_mono (HL.out.1 _) ?_, Kd.R_mono (HL.out.2.1 _) ?_, Kd.R_mono (HL.out.2.2.1 _) ?_, Kd.R_mono (HL.out.2.2.2.1 _) ?_, Kd.R_mono (HL.out.2.2.2.2 _) ?_, HZ.out.2.1.trans (Iter.below_setRow _ (Nat.le_refl _))⟩
    · exact fun b hb => ⟨fun e => by have := w1 b e.symm; omega, fun e => by have := w2 b e.symm; omega, fun e => by have := w3 b e.symm; omega, fun e => by have := w4 b e.symm; omega⟩
    · exact fun b hb => ⟨fun e => by have := w0 b e.symm; omega, fun e => by have := w2 b e.symm; omega, fun e => by have := w3 b e.symm; omega, fun e => by have := w4 b e.symm; omega⟩
    · exact fun b hb => ⟨fun e => by have := w0 b e.symm; omega, fun e => by have := w1 b e.symm; omega, fun e => by have := w3 b e.symm; omega, fun e => by have := w4 b e.symm; omega⟩
    · exact fun b hb => ⟨fun e => by have := w0 b e.symm; omega, fun e => by have := w1 b e.symm; omega, fun e => by have := w2 b e.symm; omega, fun e => by have := w4 b e.symm; omega⟩
    · exact fun b hb => ⟨fun e => by have := w0 b e.symm; omega, fun e => by have := w1 b e.symm; omega, fun e => by have := w2 b e.symm; omega, fun e => by have := w3 b e.symm; omega⟩
  · have hbool : (row32 l0 && row32 l1) = false := by
      unfold row32
      rw [Bool.and_eq_false_iff]
      by_cases h1 : l0.length = 32
      · exact .inr (by simpa using fun h2 => h32 ⟨h1, h2⟩)
      · exact .inl (by simpa using h1)
    have hres : epochRows l0 l1 l2 = ([], [], [], [], [], 1) := if_neg h32
    rw [hres] at h
    simp only [Prod.mk.injEq] at h
    obtain ⟨rfl, rfl, rfl, rfl, rfl, rfl⟩ := h
    have hw1 := H0.out.2.2.2.1
    rw [hbool] at hw1
    have HW := Lib.hid hw1
    clear hw1 hbool h32 o0 o1 o2 n0 n1 n2 hres HR
    go_enter Try.func35, Try.ntmps35
    go_wp2_with fail
    change Calls Try.prog 63 _ ((w.alloc (Obj.cells nil5 60)).alloc (Obj.cells #[.slice A0 l0.length c0, .slice A1 l1.length c1] 22)) _
    generalize (w.alloc (Obj.cells nil5 60)).alloc (Obj.cells #[.slice A0 l0.length c0, .slice A1 l1.length c1] 22) = W0 at *
    refine (sched_whole.calls _ 2 [l0, l1] false W0 H0.out.2.1 (Nat.le_refl _) HW.out).mono ?_
    rintro e w' ⟨rfl, ⟨nd, rfl⟩⟩
    have hB : Blk (W0.drewN nd) w.heap.size 60 nil5 := H0.out.1
    have hbw := pw_below_drewN H0.out.2.2.1 nd
    have HZ := Lib.hid (And.intro hB hbw)
    clear hB hbw
    go_wp2_with (refine wpList_store_row rfl 60 (.tmp 6) (.tmp 14) rfl w.heap.size nil5 rfl rfl 60 nil5 HZ.out.1 infoEp rfl (by simp [nil5, Value.oneCell']) ?_)
    refine bodyPost_ret (results_struct_tmp rfl _ _ w.heap.size 60 nil5 (0, 0) _ rfl (setRow_heap _ w.heap.size _ _ _ _ HZ.out.1) Try.underlying60 rfl infoEp) rfl ?_
    exact ⟨_, _, _, _, _, rfl, Kd.R_nil _ _ _ _ _, Kd.R_nil _ _ _ _ _, Kd.R_nil _ _ _ _ _, Kd.R_nil _ _ _ _ _, Kd.R_nil _ _ _ _ _, HZ.out.2.trans (Iter.below_setRow _ (Nat.le_refl _))⟩
end P
end Go.Proofs.Ytpdgeanicciaiaa

/-! SchedG -/
namespace Go.Proofs.Ytpdgeanicciaiaa
set_option linter.unusedVariables false
set_option linter.unusedSimpArgs false
open Go.RowKit Go.Proofs.YtpdgeanicciaiaaW.PrintWords Go.Proofs.YtpdgeanicciaiaaW.PrintLast Go.Proofs.YtpdgeanicciaiaaW.PrintMore Iter
theorem c_one (W : World) (T : Nat) (A : Option Addr) (c : Nat) (x : List Int) (hx : Kd.C (Kd.int .u8) W A x.length x) (hcx : x.length ≤ c) :
    Kd.C (Kd.slice 5 (Kd.int .u8)) (W.alloc (.cells #[.slice A x.length c] T)) (some ⟨W.heap.size, 0, none⟩) 1 [x] := by
  refine ⟨rfl, by omega, fun _ => ⟨_, rfl, fun j p hj => ?_⟩⟩
  have hcell : ∀ j, (W.alloc (.cells #[.slice A x.length c] T)).cell? ((⟨W.heap.size, 0, none⟩ : Addr).add j) = (#[Value.slice A x.length c] : Array Value)[j]? := fun j => by
    rw [add_plain]
    exact cell_of_row _ _ _ _ _ _ (heap_alloc_new W _)
  rcases j with _ | j
  · injection hj with hj
    subst hj
    refine ⟨[.slice A x.length c], rfl, ⟨A, c, rfl, hcx, Kd.C_alloc hx _⟩, fun i u hu => ?_⟩
    rcases i with _ | i
    · exact (hcell 0).trans hu
    · cases hu
  · cases hj
/-- A log with something more. -/
def logOf (log confirm b : List Int) : List Int := dig (rowB log ++ rowB confirm ++ rowB b)
theorem logOf_length (log confirm b : List Int) : (logOf log confirm b).length = 32 := dig_length _
theorem byteOk_logOf (log confirm b : List Int) : byteOk (logOf log confirm b) = true := byteOk_dig _
theorem row32_true {x : List Int} (h : x.length = 32) : row32 x = true := by unfold row32; simpa using h
theorem row32_false {x : List Int} (h : ¬ x.length = 32) : row32 x = false := by unfold row32; simpa using h
theorem whole_some (l : List (List Int)) (h : l.length ≤ 1000000) : P.sched_whole.f l = some (l.all row32) := by
  unfold P.sched_whole.f
  rw [if_pos h]
theorem three_ok (a b c : List Int) (oa : byteOk a = true) (ob : byteOk b = true) (oc : byteOk c = true) (la : a.length ≤ 100000) (lb : b.length ≤ 100000) (lc : c.length ≤ 100000) :
    byteOk (rowB a ++ rowB b ++ rowB c) = true ∧ (rowB a ++ rowB b ++ rowB c).length ≤ 300012 := by
  refine ⟨?_, ?_⟩
  · rw [byteOk_append, byteOk_append]
    exact ⟨⟨byteOk_rowB _ oa, byteOk_rowB _ ob⟩, byteOk_rowB _ oc⟩
  · have h1 := rowB_length a
    have h2 := rowB_length b
    have h3 := rowB_length c
    rw [List.length_append, List.length_append]
    omega
namespace P
def okThree (a b c : List Int) : Prop := byteOk a = true ∧ byteOk b = true ∧ byteOk c = true ∧ a.length ≤ 100000 ∧ b.length ≤ 100000 ∧ c.length ≤ 100000
instance (a b c : List Int) : Decidable (okThree a b c) := by unfold okThree; infer_instance
def sched_Log.f (a b c : List Int) : Option (List Int × Int) := if okThree a b c then some (if a.length = 32 then (logOf a b c, 0) else ([], 1)) else none
set_option maxRecDepth 100000 in
set_option maxHeartbeats 2000000 in
theorem sched_Log.calls (A0 : Option Addr) (c0 : Nat) (l0 : List Int) (A1 : Option Addr) (c1 : Nat) (l1 : List Int) (A2 : Option Addr) (c2 : Nat) (l2 : List Int) (r1 : List Int) (r2 : Int) (w : World) (hr0 : Kd.C (Kd.int .u8) w A0 l0.length l0) (hc0 : l0.length ≤ c0) (hr1 : Kd.C (Kd.int .u8) w A1 l1.length l1) (hc1 : l1.length ≤ c1) (hr2 : Kd.C (Kd.int .u8) w A2 l2.length l2) (hc2 : l2.length ≤ c2) (h : sched_Log.f l0 l1 l2 = some (r1, r2)) :
    Calls Try.prog 41 #[.slice A0 l0.length c0, .slice A1 l1.length c1, .slice A2 l2.length c2] w fun e w' => ∃ v0_ : Value, e = .returned (.tuple #[v0_, .int .i64 r2]) ∧ Kd.R (Kd.int .u8) 5 w' w.heap.size (fun _ => True) v0_ r1 ∧ Below w.heap.size w w' := by
  unfold sched_Log.f at h
  split at h
  case isFalse => cases h
  case isTrue hok =>
  injection h with h
  obtain ⟨o0, o1, o2, n0, n1, n2⟩ := hok
  have hcw := c_one w 22 A0 c0 l0 hr0 hc0
  have hb := (Below.refl w.heap.size w).alloc (Nat.le_refl _) (Obj.cells #[.slice A0 l0.length c0] 22)
  have hwh := whole_some [l0] (by simp)
  by_cases h32 : l0.length = 32
  · rw [if_pos h32] at h
    injection h with h1 h2
    subst h1 h2
    rw [show [l0].all row32 = true by simp [row32_true h32]] at hwh
    have hrs : sched_rows.f [l0, l1, l2] = some (rowB l0 ++ rowB l1 ++ rowB l2) := by
      unfold sched_rows.f
      rw [if_pos ⟨by simp, by simp; omega⟩]
      simp [rowsB]
    obtain ⟨t1, t2⟩ := three_ok l0 l1 l2 o0 o1 o2 n0 n1 n2
    have hsm : sha_Sum.f (rowB l0 ++ rowB l1 ++ rowB l2) = some (logOf l0 l1 l2) := by
      unfold sha_Sum.f
      rw [if_pos ⟨t1, by omega⟩]
      rfl
    generalize rowB l0 ++ rowB l1 ++ rowB l2 = x at *
    have H0 := Lib.hid (And.intro hcw (And.intro hb (And.intro hwh (And.intro hrs hsm))))
    have HR := Lib.hid (And.intro hr0 (And.intro hr1 hr2))
    clear hcw hb hwh hrs hsm hr0 hr1 hr2 h32 o0 o1 o2 n0 n1 n2 t1 t2
    go_enter Try.func41, Try.ntmps41
    go_wp2_with fail
    refine (sched_whole.calls _ 1 [l0] true _ H0.out.1 (Nat.le_refl _) H0.out.2.2.1).mono ?_
    rintro e w' ⟨rfl, ⟨nd, rfl⟩⟩
    have hb1 := pw_below_drewN H0.out.2.1 nd
    generalize (w.alloc (Obj.cells #[.slice A0 l0.length c0] 22)).drewN nd = W1 at *
    have hcw2 := c_three W1 22 A0 A1 A2 c0 c1 c2 l0 l1 l2 (Kd.C_below HR.out.1 hb1) hc0 (Kd.C_below HR.out.2.1 hb1) hc1 (Kd.C_below HR.out.2.2 hb1) hc2
    have hb2 := hb1.alloc hb1.size (Obj.cells #[.slice A0 l0.length c0, .slice A1 l1.length c1, .slice A2 l2.length c2] 22)
    have H1 := Lib.hid (And.intro hcw2 hb2)
    clear hcw2 hb2 hb1
    go_wp2_with fail
    refine (sched_rows.calls _ 3 [l0, l1, l2] x _ H1.out.1 (Nat.le_refl _) H0.out.2.2.2.1).mono ?_
    rintro e W3 ⟨v3, rfl, hR3, hb3⟩
    have hb4 := H1.out.2.trans (hb3.mono H1.out.2.size)
    obtain ⟨A3, c3, rfl, hl3, hC3⟩ := Kd.R_reads hR3
    have H3 := Lib.hid (And.intro hC3 hb4)
    clear hC3 hb4 hR3 hb3 H1
    go_wp2_with fail
    refine (sha_Sum.calls A3 c3 x (logOf l0 l1 l2) _ H3.out.1 hl3 H0.out.2.2.2.2).mono ?_
    rintro e W5 ⟨v5, rfl, hR5, hb5⟩
    go_wp2
    go_ret2
    exact ⟨_, rfl, Kd.R_lower hR5 H3.out.2.size, H3.out.2.trans (hb5.mono H3.out.2.size)⟩
  · rw [if_neg h32] at h
    injection h with h1 h2
    subst h1 h2
    rw [show [l0].all row32 = false by simp [row32_false h32]] at hwh
    have H0 := Lib.hid (And.intro hcw (And.intro hb hwh))
    clear hcw hb hwh hr0 hr1 hr2 h32 o0 o1 o2 n0 n1 n2
    go_enter Try.func41, Try.ntmps41
    go_wp2_with fail
    refine (sched_whole.calls _ 1 [l0] false _ H0.out.1 (Nat.le_refl _) H0.out.2.2).mono ?_
    rintro e w' ⟨rfl, ⟨nd, rfl⟩⟩
    have hb1 := pw_below_drewN H0.out.2.1 nd
    have HB := Lib.hid hb1
    clear hb1
    go_wp2
    go_ret2
    exact ⟨_, rfl, Kd.R_nil _ _ _ _ _, HB.out⟩
end P
end Go.Proofs.Ytpdgeanicciaiaa
