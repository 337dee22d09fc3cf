/-
  The lower layers, walked and in closed forms, part 5: R4, R, RatN, RatO, RatP, RatR, RowsIn, StructIn, OpenK, RatQ, RatV, RatW, RatX, RatSa, RatSd.
-/
import Derived.Test.YtdklmafkcbjomaaDoorG0
import Derived.Test.YtdklmafkcbjomaaDoorG1
import Derived.Test.YtdklmafkcbjomaaDoorG4
import Derived.Test.YtdklmafkcbjomaaDoorHWords
import Derived.Test.YtdklmafkcbjomaaDoorHLast
import Derived.Test.YtdklmafkcbjomaaDoorHMore
import Derived.Test.YtdklmafkcbjomaaDoorHRepsOne
import Derived.Test.YtdklmafkcbjomaaDoorHGuard
import Derived.Test.YtdklmafkcbjomaaDoorHSized
import Derived.Test.YtdklmafkcbjomaaDoorRows
import Derived.Deep.Matrix
import Derived.SizedLaws
import Derived.ChangeArms
import Derived.LaidMore
import Derived.Lib.LaidTab
import Derived.Stop.LaidErr
/-! R4 -/
namespace Go.Proofs.YtdklmafkcbjomaaDoor.R
open Go.Proofs.YtdklmafkcbjomaaDoor.P
open Go.RowKit Go.Proofs.YtdklmafkcbjomaaDoorW.PrintWords Go.Proofs.YtdklmafkcbjomaaDoorW.PrintLast Go.Proofs.YtdklmafkcbjomaaDoorW.PrintMore
attribute [local go_sem] max2_int min2_int max_two min_two max_three min_three max_four min_four   -- for this text's walks alone
set_option linter.unusedVariables false
set_option linter.unusedSimpArgs false
/-! ### ratch_Right: function 18 -/
mutual
def ratch_Right.j0 : Nat → Bool → Int → List Int → List (S43) → Option (Bool)
  | 0, _, _, _, _ => none
  | k + 1, x25, x179000, x179001, x179002 => if x25 = true then (some false) else (ratch_Right.l0 k (-1) x179002 (x179002.length : Int) 0 x179000 x179001 x179002)
def ratch_Right.l0 : Nat → Int → List (S43) → Int → Int → Int → List Int → List (S43) → Option (Bool)
  | 0, _, _, _, _, _, _, _ => none
  | k + 1, x3, x27, x28, x29, x179000, x179001, x179002 => if x29 < x28 then (if 0 ≤ x29 then (if x29 < (x27.length : Int) then (if ((rd_T43 x27 x29).f0) ≤ x3 then (some false) else (if ((rd_T43 x27 x29).f0) ≥ x179000 then (some false) else (if (((rd_T43 x27 x29).f1).length : Int) = 32 then (if (((rd_T43 x27 x29).f2).length : Int) = 12 then (ratch_Right.l0 k ((rd_T43 x27 x29).f0) x27 x28 (wrap64 (x29 + 1)) x179000 x179001 x179002) else (some false)) else (some false)))) else (none)) else (none)) else (some true)
end
def ratch_Right.f (k : Nat) (a0_0 : Int) (l0_1 : List Int) (l0_2 : List (S43)) : Option (Bool) := if a0_0 < 0 then (ratch_Right.j0 k true a0_0 l0_1 l0_2) else (if a0_0 > 4294967294 then (ratch_Right.j0 k true a0_0 l0_1 l0_2) else (if (l0_1.length : Int) = 32 then (ratch_Right.j0 k (decide ((l0_2.length : Int) > 32)) a0_0 l0_1 l0_2) else (ratch_Right.j0 k true a0_0 l0_1 l0_2)))
set_option maxHeartbeats 8000000 in
set_option maxRecDepth 100000 in
theorem ratch_Right.calls (k : Nat) (a0_0 : Int) (A0_1 : Option Addr) (c0_1 : Nat) (l0_1 : List Int) (A0_2 : Option Addr) (c0_2 : Nat) (l0_2 : List (S43)) (r : Bool) (w : World) (hr0_1 : Kd.C (Kd.int .u8) w A0_1 l0_1.length l0_1) (hc0_1 : l0_1.length ≤ c0_1) (hr0_2 : Kd.C k43 w A0_2 l0_2.length l0_2) (hc0_2 : l0_2.length ≤ c0_2) (h : ratch_Right.f k a0_0 l0_1 l0_2 = some r) :
    Calls Tryd.prog 18 #[.agg #[.int .i64 a0_0, .slice A0_1 l0_1.length c0_1, .slice A0_2 l0_2.length c0_2]] w fun e w' => e = .returned (.bool r) ∧ Below w.heap.size w w' := by
  have hu25 := Tryd.underlying25
  have hu43 := Tryd.underlying43
  have HR0_1 := Aside0.mk hr0_1
  have HC0_1 := Aside0.mk hc0_1
  clear hr0_1 hc0_1
  have HR0_2 := Aside0.mk hr0_2
  have HC0_2 := Aside0.mk hc0_2
  clear hr0_2 hc0_2
  have HB := Aside0.mk (Below.refl w.heap.size w)
  have H : (if a0_0 < 0 then (ratch_Right.j0 k true a0_0 l0_1 l0_2) else (if a0_0 > 4294967294 then (ratch_Right.j0 k true a0_0 l0_1 l0_2) else (if (l0_1.length : Int) = 32 then (ratch_Right.j0 k (decide ((l0_2.length : Int) > 32)) a0_0 l0_1 l0_2) else (ratch_Right.j0 k true a0_0 l0_1 l0_2)))) = some r := h
  clear h
  have HC2 := Aside0.mk H
  clear H
  go_enter Tryd.func18, Tryd.ntmps18
  go_upto_region 1 with (first | ((with_reducible refine gate_dst (N := 1) rfl ?_); (try (refine gate_guard (by rfl) ?_; dsimp only)); refine box_event ?hg (N := 1) ?hd (cs := #[.int .i64 a0_0, .slice A0_1 l0_1.length c0_1, .slice A0_2 l0_2.length c0_2]) (t := 25) ?hr ?_; (case hd => rfl); (case hg => rfl); (case hr => first | (go_simp; done) | (go_simp; rfl)); intro gb178 hg w3 hbox hb; have n0_ := Aside0.mk (below_step (by repeat (first | (with_reducible first | exact HB.out | apply below_alloc | apply pw_below_drewN | apply below_drew1) | exact HB.out)) hb); have n1_ := Aside0.mk (hbox); have n2_ := Aside0.mk ((by rw [hg]; exact (below_size (by repeat (first | (with_reducible first | exact HB.out | apply below_alloc | apply pw_below_drewN | apply below_drew1) | exact HB.out))) : w.heap.size ≤ gb178)); have n3_ := Aside0.mk ((by rw [hg]; exact (below_size (by repeat (first | (with_reducible first | exact HB.out | apply below_alloc | apply pw_below_drewN | apply below_drew1) | exact HB.out))) : w.heap.size ≤ gb178)); clear HB; have HB := n0_; have BK178 := n1_; have GW178 := n2_; have GE178 := n3_; clear n0_ n1_ n2_ n3_; clear hb hbox hg))
  (try simp only [Act.put, List.setIfInBounds_toArray, List.set_cons_zero, List.set_cons_succ])
  go_cut [25] (fun v25 wc => ∃ (kq : Nat) (x25_1 : Bool), v25 = .bool x25_1 ∧ Aside0 (ratch_Right.j0 kq x25_1 a0_0 l0_1 l0_2 = some r) ∧ Aside0 (kq ≤ k) ∧ Aside0 (wc.heap[gb178]? = some (.cells #[.int .i64 a0_0, (.slice A0_1 l0_1.length c0_1), (.slice A0_2 l0_2.length c0_2)] 25 (0, 0))) ∧ Aside0 (Below w.heap.size w wc))
  case first =>
    have H := HC2.out
    clear HC2
    by_cases c4 : a0_0 < 0
    · rw [if_pos c4] at H
      have c4b0 : decide (a0_0 < 0) = true := decide_eq_true c4
      clear c4
      (first | rw [c4b0] | (simp only [i64_w, i32_w]; rw [c4b0]) | skip)
      have H' := Aside0.mk H
      clear H
      have hcz5_0 : w3.cell? ⟨gb178, 0, none⟩ = some (.int .i64 a0_0) := (blk_cell BK178.out 0).trans rfl
      have hcz5_1 : w3.cell? ⟨gb178, 1, none⟩ = some (.slice A0_1 l0_1.length c0_1) := (blk_cell BK178.out 1).trans rfl
      have hcz5_2 : w3.cell? ⟨gb178, 2, none⟩ = some (.slice A0_2 l0_2.length c0_2) := (blk_cell BK178.out 2).trans rfl
      have hfz5_0 := blk_frozen BK178.out 0
      have hfz5_1 := blk_frozen BK178.out 1
      have hfz5_2 := blk_frozen BK178.out 2
      go_wp2
      go_meet
      case rel => exact ⟨_, (true), (by first | rfl | (simp; done) | (simp [*]; done)), H', ⟨by first | omega | exact Nat.le_refl _⟩, ⟨by (with_reducible repeat (first | refine blk_drewN ?_ _ | refine blk_drew ?_ | refine blk_alloc ?_ _)); exact BK178.out⟩, ⟨by repeat (first | (with_reducible first | exact HB.out | apply below_alloc | apply pw_below_drewN | apply below_drew1 | refine below_set ?_ GE178.out) | exact HB.out)⟩⟩
    · rw [if_neg c4] at H
      have c4b0 : decide (a0_0 < 0) = false := decide_eq_false c4
      clear c4
      (first | rw [c4b0] | (simp only [i64_w, i32_w]; rw [c4b0]) | skip)
      by_cases c6 : a0_0 > 4294967294
      · rw [if_pos c6] at H
        have c6b0 : decide (4294967294 < a0_0) = true := decide_eq_true c6
        clear c6
        have H' := Aside0.mk H
        clear H
        have hcz7_0 : w3.cell? ⟨gb178, 0, none⟩ = some (.int .i64 a0_0) := (blk_cell BK178.out 0).trans rfl
        have hcz7_1 : w3.cell? ⟨gb178, 1, none⟩ = some (.slice A0_1 l0_1.length c0_1) := (blk_cell BK178.out 1).trans rfl
        have hcz7_2 : w3.cell? ⟨gb178, 2, none⟩ = some (.slice A0_2 l0_2.length c0_2) := (blk_cell BK178.out 2).trans rfl
        have hfz7_0 := blk_frozen BK178.out 0
        have hfz7_1 := blk_frozen BK178.out 1
        have hfz7_2 := blk_frozen BK178.out 2
        go_wp2
        go_meet
        case rel => exact ⟨_, (true), (by first | rfl | (simp; done) | (simp [*]; done)), H', ⟨by first | omega | exact Nat.le_refl _⟩, ⟨by (with_reducible repeat (first | refine blk_drewN ?_ _ | refine blk_drew ?_ | refine blk_alloc ?_ _)); exact BK178.out⟩, ⟨by repeat (first | (with_reducible first | exact HB.out | apply below_alloc | apply pw_below_drewN | apply below_drew1 | refine below_set ?_ GE178.out) | exact HB.out)⟩⟩
      · rw [if_neg c6] at H
        have c6b0 : decide (4294967294 < a0_0) = false := decide_eq_false c6
        clear c6
        by_cases c8 : (l0_1.length : Int) = 32
        · rw [if_pos c8] at H
          have c8b0 : ((l0_1.length : Int) == 32) = true := beq_iff_eq.mpr c8
          have c8b1 : ((l0_1.length : Int) != 32) = false := bne_eq_false_iff_eq.mpr c8
          clear c8
          have H' := Aside0.mk H
          clear H
          have hcz9_0 : w3.cell? ⟨gb178, 0, none⟩ = some (.int .i64 a0_0) := (blk_cell BK178.out 0).trans rfl
          have hcz9_1 : w3.cell? ⟨gb178, 1, none⟩ = some (.slice A0_1 l0_1.length c0_1) := (blk_cell BK178.out 1).trans rfl
          have hcz9_2 : w3.cell? ⟨gb178, 2, none⟩ = some (.slice A0_2 l0_2.length c0_2) := (blk_cell BK178.out 2).trans rfl
          have hfz9_0 := blk_frozen BK178.out 0
          have hfz9_1 := blk_frozen BK178.out 1
          have hfz9_2 := blk_frozen BK178.out 2
          go_wp2
          go_meet
          case rel => exact ⟨_, (decide ((l0_2.length : Int) > 32)), (by first | rfl | (simp; done) | (simp [*]; done)), H', ⟨by first | omega | exact Nat.le_refl _⟩, ⟨by (with_reducible repeat (first | refine blk_drewN ?_ _ | refine blk_drew ?_ | refine blk_alloc ?_ _)); exact BK178.out⟩, ⟨by repeat (first | (with_reducible first | exact HB.out | apply below_alloc | apply pw_below_drewN | apply below_drew1 | refine below_set ?_ GE178.out) | exact HB.out)⟩⟩
        · rw [if_neg c8] at H
          have c8b0 : ((l0_1.length : Int) == 32) = false := beq_eq_false_iff_ne.mpr c8
          have c8b1 : ((l0_1.length : Int) != 32) = true := bne_iff_ne.mpr c8
          have H' := Aside0.mk H
          clear H
          have hcz10_0 : w3.cell? ⟨gb178, 0, none⟩ = some (.int .i64 a0_0) := (blk_cell BK178.out 0).trans rfl
          have hcz10_1 : w3.cell? ⟨gb178, 1, none⟩ = some (.slice A0_1 l0_1.length c0_1) := (blk_cell BK178.out 1).trans rfl
          have hcz10_2 : w3.cell? ⟨gb178, 2, none⟩ = some (.slice A0_2 l0_2.length c0_2) := (blk_cell BK178.out 2).trans rfl
          have hfz10_0 := blk_frozen BK178.out 0
          have hfz10_1 := blk_frozen BK178.out 1
          have hfz10_2 := blk_frozen BK178.out 2
          go_wp2
          go_meet
          case rel => exact ⟨_, (true), (by first | rfl | (simp; done) | (simp [*]; done)), H', ⟨by first | omega | exact Nat.le_refl _⟩, ⟨by (with_reducible repeat (first | refine blk_drewN ?_ _ | refine blk_drew ?_ | refine blk_alloc ?_ _)); exact BK178.out⟩, ⟨by repeat (first | (with_reducible first | exact HB.out | apply below_alloc | apply pw_below_drewN | apply below_drew1 | refine below_set ?_ GE178.out) | exact HB.out)⟩⟩
  case rest =>
    clear HC2
    try clear c1
    try clear p2
    try clear c4
    try clear c4b0
    try clear c6
    try clear c6b0
    try clear c8
    try clear c8b0
    try clear c8b1
    try clear hcz10_0
    try clear hcz10_1
    try clear hcz10_2
    try clear hcz5_0
    try clear hcz5_1
    try clear hcz5_2
    try clear hcz7_0
    try clear hcz7_1
    try clear hcz7_2
    try clear hcz9_0
    try clear hcz9_1
    try clear hcz9_2
    try clear hfz10_0
    try clear hfz10_1
    try clear hfz10_2
    try clear hfz5_0
    try clear hfz5_1
    try clear hfz5_2
    try clear hfz7_0
    try clear hfz7_1
    try clear hfz7_2
    try clear hfz9_0
    try clear hfz9_1
    try clear hfz9_2
    obtain ⟨kq, x25_1, rfl, HA, HJ1, BK178, HB⟩ := hcut
    cases kq with
    | zero => exact absurd HA.out (by simp [ratch_Right.j0])
    | succ kj1 =>
      have H := HA.out
      clear HA
      simp only [ratch_Right.j0] at H
      by_cases c11 : x25_1 = true
      · subst c11
        have H1 : (some false) = some r := by rw [if_pos rfl] at H; exact H
        clear H
        have H := H1
        clear H1
        obtain rfl := Option.some.inj H
        go_wp2
        go_ret
        exact ⟨by first | rfl | (simp [errW_none, errW_some] <;> rfl) | (simp [*, errW_none, errW_some] <;> rfl), by repeat (first | (with_reducible first | exact HB.out | apply below_alloc | apply pw_below_drewN | apply below_drew1 | refine below_set ?_ GE178.out) | exact HB.out)⟩
      · replace c11 := Bool.eq_false_iff.mpr c11
        subst c11
        have H1 : (ratch_Right.l0 kj1 (-1) l0_2 (l0_2.length : Int) 0 a0_0 l0_1 l0_2) = some r := by rw [if_neg (show ¬ (false = true) by decide)] at H; exact H
        clear H
        have H := H1
        clear H1
        have H' := Aside0.mk H
        clear H
        have hcz12_0 : wc.cell? ⟨gb178, 0, none⟩ = some (.int .i64 a0_0) := (blk_cell BK178.out 0).trans rfl
        have hcz12_1 : wc.cell? ⟨gb178, 1, none⟩ = some (.slice A0_1 l0_1.length c0_1) := (blk_cell BK178.out 1).trans rfl
        have hcz12_2 : wc.cell? ⟨gb178, 2, none⟩ = some (.slice A0_2 l0_2.length c0_2) := (blk_cell BK178.out 2).trans rfl
        have hfz12_0 := blk_frozen BK178.out 0
        have hfz12_1 := blk_frozen BK178.out 1
        have hfz12_2 := blk_frozen BK178.out 2
        go_wp2
        go_loopg [3, 29] kj1 (fun kq v3 v29 w' => ∃ (x3_2 : Int) (x29_2 : Int), v3 = .int .i64 x3_2 ∧ v29 = .int .i64 x29_2 ∧ Aside0 (ratch_Right.l0 kq x3_2 l0_2 (l0_2.length : Int) x29_2 a0_0 l0_1 l0_2 = some r) ∧ Aside0 (kq ≤ kj1) ∧ Aside0 (w'.heap[gb178]? = some (.cells #[.int .i64 a0_0, (.slice A0_1 l0_1.length c0_1), (.slice A0_2 l0_2.length c0_2)] 25 (0, 0))) ∧ Aside0 (Below w.heap.size w w'))
        case atStart => exact ⟨((-1)), (0), (by first | rfl | (simp; done) | (simp [*]; done)), (by first | rfl | (simp; done) | (simp [*]; done)), H', ⟨Nat.le_refl _⟩, ⟨by (with_reducible repeat (first | refine blk_drewN ?_ _ | refine blk_drew ?_ | refine blk_alloc ?_ _)); exact BK178.out⟩, ⟨by repeat (first | (with_reducible first | exact HB.out | apply below_alloc | apply pw_below_drewN | apply below_drew1 | refine below_set ?_ GE178.out) | exact HB.out)⟩⟩
        case round =>
          clear H'
          try clear c1
          try clear p2
          try clear c4
          try clear c4b0
          try clear c6
          try clear c6b0
          try clear c8
          try clear c8b0
          try clear c8b1
          try clear c11
          try clear hcz10_0
          try clear hcz10_1
          try clear hcz10_2
          try clear hcz12_0
          try clear hcz12_1
          try clear hcz12_2
          try clear hcz5_0
          try clear hcz5_1
          try clear hcz5_2
          try clear hcz7_0
          try clear hcz7_1
          try clear hcz7_2
          try clear hcz9_0
          try clear hcz9_1
          try clear hcz9_2
          try clear hfz10_0
          try clear hfz10_1
          try clear hfz10_2
          try clear hfz12_0
          try clear hfz12_1
          try clear hfz12_2
          try clear hfz5_0
          try clear hfz5_1
          try clear hfz5_2
          try clear hfz7_0
          try clear hfz7_1
          try clear hfz7_2
          try clear hfz9_0
          try clear hfz9_1
          try clear hfz9_2
          try clear p2
          obtain ⟨x3_2, x29_2, rfl, rfl, HA, HK2, BK178, HB⟩ := hrel
          cases gk with
          | zero => exact absurd HA.out (by simp [ratch_Right.l0])
          | succ k2 =>
            have H := HA.out
            clear HA
            simp only [ratch_Right.l0] at H
            by_cases c13 : x29_2 < (l0_2.length : Int)
            · rw [if_pos c13] at H
              have c13b0 : decide (x29_2 < (l0_2.length : Int)) = true := decide_eq_true c13
              clear c13
              by_cases c14 : 0 ≤ x29_2
              · rw [if_pos c14] at H
                have c14b0 : decide (0 ≤ x29_2) = true := decide_eq_true c14
                clear c14
                by_cases c15 : x29_2 < (l0_2.length : Int)
                · rw [if_pos c15] at H
                  have c15b0 : decide (x29_2 < (l0_2.length : Int)) = true := decide_eq_true c15
                  clear c15
                  by_cases c16 : ((rd_T43 l0_2 x29_2).f0) ≤ x3_2
                  · rw [if_pos c16] at H
                    have c16b0 : decide (((rd_T43 l0_2 x29_2).f0) ≤ x3_2) = true := decide_eq_true c16
                    clear c16
                    obtain rfl := Option.some.inj H
                    have p179 : 0 ≤ (x29_2 : Int) := of_decide_eq_true (by first | (with_reducible assumption) | assumption)
                    have q179 : x29_2 < (l0_2.length : Int) := of_decide_eq_true (by first | (with_reducible assumption) | assumption)
                    obtain ⟨ad179, A179_1, c179_1, A179_2, c179_2, e179, hx179_0, hx179_1, hx179_2, hl179_1, hi179_1, hl179_2, hi179_2⟩ := at_T43 HR0_2.out x29_2 p179 q179
                    cases e179
                    replace hx179_0 := (HB.out.cell (World.block_lt_of_cell? w _ hx179_0)).trans hx179_0
                    replace hx179_1 := (HB.out.cell (World.block_lt_of_cell? w _ hx179_1)).trans hx179_1
                    replace hx179_2 := (HB.out.cell (World.block_lt_of_cell? w _ hx179_2)).trans hx179_2
                    have HR179_1 := Aside0.mk hi179_1
                    have HC179_1 := Aside0.mk hl179_1
                    clear hi179_1 hl179_1
                    have HR179_2 := Aside0.mk hi179_2
                    have HC179_2 := Aside0.mk hl179_2
                    clear hi179_2 hl179_2
                    replace p179 := eq_true p179
                    replace q179 := eq_true q179
                    go_wp2_with (first | ((with_reducible refine gate_dst (N := 5) rfl ?_); (try (refine gate_guard (by rfl) ?_; dsimp only)); refine box_event ?hg (N := 5) ?hd (cs := #[.int .i64 0, .slice none 0 0, .slice none 0 0]) (t := 43) ?hr ?_; (case hd => rfl); (case hg => rfl); (case hr => first | (go_simp; done) | (go_simp; rfl)); intro gb180 hg w17 hbox hb; have n0_ := Aside0.mk (blk_below (g := gb178) (o := .cells #[.int .i64 a0_0, .slice A0_1 l0_1.length c0_1, .slice (some ad179) l0_2.length c0_2] 25 (0, 0)) (by (with_reducible repeat (first | refine blk_drewN ?_ _ | refine blk_drew ?_ | refine blk_alloc ?_ _)); exact BK178.out) hb); have n1_ := Aside0.mk (below_step (by repeat (first | (with_reducible first | exact HB.out | apply below_alloc | apply pw_below_drewN | apply below_drew1 | refine below_set ?_ GE178.out) | exact HB.out)) hb); have n2_ := Aside0.mk (hbox); have n3_ := Aside0.mk ((by rw [hg]; exact (below_size (by repeat (first | (with_reducible first | exact HB.out | apply below_alloc | apply pw_below_drewN | apply below_drew1 | refine below_set ?_ GE178.out) | exact HB.out))) : w.heap.size ≤ gb180)); have n4_ := Aside0.mk ((by rw [hg]; exact (below_size (by repeat (first | (with_reducible first | exact HB.out | apply below_alloc | apply pw_below_drewN | apply below_drew1 | refine below_set ?_ GE178.out) | exact HB.out))) : w.heap.size ≤ gb180)); have n5_ := Aside0.mk ((by rw [hg]; exact Nat.ne_of_lt (blk_lt (g := gb178) (o := .cells #[.int .i64 a0_0, .slice A0_1 l0_1.length c0_1, .slice (some ad179) l0_2.length c0_2] 25 (0, 0)) (by (with_reducible repeat (first | refine blk_drewN ?_ _ | refine blk_drew ?_ | refine blk_alloc ?_ _)); exact BK178.out)) : gb178 ≠ gb180)); have n6_ := Aside0.mk ((by rw [hg]; exact Nat.ne_of_gt (blk_lt (g := gb178) (o := .cells #[.int .i64 a0_0, .slice A0_1 l0_1.length c0_1, .slice (some ad179) l0_2.length c0_2] 25 (0, 0)) (by (with_reducible repeat (first | refine blk_drewN ?_ _ | refine blk_drew ?_ | refine blk_alloc ?_ _)); exact BK178.out)) : gb180 ≠ gb178)); clear BK178; clear HB; have BK178 := n0_; have HB := n1_; have BK180 := n2_; have GW180 := n3_; have GE180 := n4_; have NB178_180 := n5_; have NB180_178 := n6_; clear n0_ n1_ n2_ n3_ n4_ n5_ n6_; clear hb hbox hg; have hnb18 := NB180_178.out; have hnc18 := NB178_180.out; have hcz19_0 : w17.cell? ⟨gb180, 0, none⟩ = some (.int .i64 0) := (blk_cell BK180.out 0).trans rfl; have hcz19_1 : w17.cell? ⟨gb180, 1, none⟩ = some (.slice none 0 0) := (blk_cell BK180.out 1).trans rfl; have hcz19_2 : w17.cell? ⟨gb180, 2, none⟩ = some (.slice none 0 0) := (blk_cell BK180.out 2).trans rfl; have hfz19_0 := blk_frozen BK180.out 0; have hfz19_1 := blk_frozen BK180.out 1; have hfz19_2 := blk_frozen BK180.out 2))
                    go_ret
                    exact ⟨by first | rfl | (simp [errW_none, errW_some] <;> rfl) | (simp [*, errW_none, errW_some] <;> rfl), by repeat (first | (with_reducible first | exact HB.out | apply below_alloc | apply pw_below_drewN | apply below_drew1 | refine below_set ?_ GE178.out | refine below_set ?_ GE180.out) | exact HB.out)⟩
                  · rw [if_neg c16] at H
                    have c16b0 : decide (((rd_T43 l0_2 x29_2).f0) ≤ x3_2) = false := decide_eq_false c16
                    clear c16
                    by_cases c20 : ((rd_T43 l0_2 x29_2).f0) ≥ a0_0
                    · rw [if_pos c20] at H
                      have c20b0 : decide (a0_0 ≤ ((rd_T43 l0_2 x29_2).f0)) = true := decide_eq_true c20
                      clear c20
                      obtain rfl := Option.some.inj H
                      have p179 : 0 ≤ (x29_2 : Int) := of_decide_eq_true (by first | (with_reducible assumption) | assumption)
                      have q179 : x29_2 < (l0_2.length : Int) := of_decide_eq_true (by first | (with_reducible assumption) | assumption)
                      obtain ⟨ad179, A179_1, c179_1, A179_2, c179_2, e179, hx179_0, hx179_1, hx179_2, hl179_1, hi179_1, hl179_2, hi179_2⟩ := at_T43 HR0_2.out x29_2 p179 q179
                      cases e179
                      replace hx179_0 := (HB.out.cell (World.block_lt_of_cell? w _ hx179_0)).trans hx179_0
                      replace hx179_1 := (HB.out.cell (World.block_lt_of_cell? w _ hx179_1)).trans hx179_1
                      replace hx179_2 := (HB.out.cell (World.block_lt_of_cell? w _ hx179_2)).trans hx179_2
                      have HR179_1 := Aside0.mk hi179_1
                      have HC179_1 := Aside0.mk hl179_1
                      clear hi179_1 hl179_1
                      have HR179_2 := Aside0.mk hi179_2
                      have HC179_2 := Aside0.mk hl179_2
                      clear hi179_2 hl179_2
                      replace p179 := eq_true p179
                      replace q179 := eq_true q179
                      go_wp2_with (first | ((with_reducible refine gate_dst (N := 5) rfl ?_); (try (refine gate_guard (by rfl) ?_; dsimp only)); refine box_event ?hg (N := 5) ?hd (cs := #[.int .i64 0, .slice none 0 0, .slice none 0 0]) (t := 43) ?hr ?_; (case hd => rfl); (case hg => rfl); (case hr => first | (go_simp; done) | (go_simp; rfl)); intro gb180 hg w21 hbox hb; have n0_ := Aside0.mk (blk_below (g := gb178) (o := .cells #[.int .i64 a0_0, .slice A0_1 l0_1.length c0_1, .slice (some ad179) l0_2.length c0_2] 25 (0, 0)) (by (with_reducible repeat (first | refine blk_drewN ?_ _ | refine blk_drew ?_ | refine blk_alloc ?_ _)); exact BK178.out) hb); have n1_ := Aside0.mk (below_step (by repeat (first | (with_reducible first | exact HB.out | apply below_alloc | apply pw_below_drewN | apply below_drew1 | refine below_set ?_ GE178.out) | exact HB.out)) hb); have n2_ := Aside0.mk (hbox); have n3_ := Aside0.mk ((by rw [hg]; exact (below_size (by repeat (first | (with_reducible first | exact HB.out | apply below_alloc | apply pw_below_drewN | apply below_drew1 | refine below_set ?_ GE178.out) | exact HB.out))) : w.heap.size ≤ gb180)); have n4_ := Aside0.mk ((by rw [hg]; exact (below_size (by repeat (first | (with_reducible first | exact HB.out | apply below_alloc | apply pw_below_drewN | apply below_drew1 | refine below_set ?_ GE178.out) | exact HB.out))) : w.heap.size ≤ gb180)); have n5_ := Aside0.mk ((by rw [hg]; exact Nat.ne_of_lt (blk_lt (g := gb178) (o := .cells #[.int .i64 a0_0, .slice A0_1 l0_1.length c0_1, .slice (some ad179) l0_2.length c0_2] 25 (0, 0)) (by (with_reducible repeat (first | refine blk_drewN ?_ _ | refine blk_drew ?_ | refine blk_alloc ?_ _)); exact BK178.out)) : gb178 ≠ gb180)); have n6_ := Aside0.mk ((by rw [hg]; exact Nat.ne_of_gt (blk_lt (g := gb178) (o := .cells #[.int .i64 a0_0, .slice A0_1 l0_1.length c0_1, .slice (some ad179) l0_2.length c0_2] 25 (0, 0)) (by (with_reducible repeat (first | refine blk_drewN ?_ _ | refine blk_drew ?_ | refine blk_alloc ?_ _)); exact BK178.out)) : gb180 ≠ gb178)); clear BK178; clear HB; have BK178 := n0_; have HB := n1_; have BK180 := n2_; have GW180 := n3_; have GE180 := n4_; have NB178_180 := n5_; have NB180_178 := n6_; clear n0_ n1_ n2_ n3_ n4_ n5_ n6_; clear hb hbox hg; have hnb22 := NB180_178.out; have hnc22 := NB178_180.out; have hcz23_0 : w21.cell? ⟨gb180, 0, none⟩ = some (.int .i64 0) := (blk_cell BK180.out 0).trans rfl; have hcz23_1 : w21.cell? ⟨gb180, 1, none⟩ = some (.slice none 0 0) := (blk_cell BK180.out 1).trans rfl; have hcz23_2 : w21.cell? ⟨gb180, 2, none⟩ = some (.slice none 0 0) := (blk_cell BK180.out 2).trans rfl; have hfz23_0 := blk_frozen BK180.out 0; have hfz23_1 := blk_frozen BK180.out 1; have hfz23_2 := blk_frozen BK180.out 2; have hcz24_0 : w21.cell? ⟨gb178, 0, none⟩ = some (.int .i64 a0_0) := (blk_cell BK178.out 0).trans rfl; have hcz24_1 : w21.cell? ⟨gb178, 1, none⟩ = some (.slice A0_1 l0_1.length c0_1) := (blk_cell BK178.out 1).trans rfl; have hcz24_2 : w21.cell? ⟨gb178, 2, none⟩ = some (.slice (some ad179) l0_2.length c0_2) := (blk_cell BK178.out 2).trans rfl; have hfz24_0 := blk_frozen BK178.out 0; have hfz24_1 := blk_frozen BK178.out 1; have hfz24_2 := blk_frozen BK178.out 2))
                      go_ret
                      exact ⟨by first | rfl | (simp [errW_none, errW_some] <;> rfl) | (simp [*, errW_none, errW_some] <;> rfl), by repeat (first | (with_reducible first | exact HB.out | apply below_alloc | apply pw_below_drewN | apply below_drew1 | refine below_set ?_ GE178.out | refine below_set ?_ GE180.out) | exact HB.out)⟩
                    · rw [if_neg c20] at H
                      have c20b0 : decide (a0_0 ≤ ((rd_T43 l0_2 x29_2).f0)) = false := decide_eq_false c20
                      clear c20
                      by_cases c25 : (((rd_T43 l0_2 x29_2).f1).length : Int) = 32
                      · rw [if_pos c25] at H
                        have c25b0 : ((((rd_T43 l0_2 x29_2).f1).length : Int) == 32) = true := beq_iff_eq.mpr c25
                        have c25b1 : ((((rd_T43 l0_2 x29_2).f1).length : Int) != 32) = false := bne_eq_false_iff_eq.mpr c25
                        clear c25
                        by_cases c26 : (((rd_T43 l0_2 x29_2).f2).length : Int) = 12
                        · rw [if_pos c26] at H
                          have c26b0 : ((((rd_T43 l0_2 x29_2).f2).length : Int) == 12) = true := beq_iff_eq.mpr c26
                          have c26b1 : ((((rd_T43 l0_2 x29_2).f2).length : Int) != 12) = false := bne_eq_false_iff_eq.mpr c26
                          clear c26
                          have H' := Aside0.mk H
                          clear H
                          have p179 : 0 ≤ (x29_2 : Int) := of_decide_eq_true (by first | (with_reducible assumption) | assumption)
                          have q179 : x29_2 < (l0_2.length : Int) := of_decide_eq_true (by first | (with_reducible assumption) | assumption)
                          obtain ⟨ad179, A179_1, c179_1, A179_2, c179_2, e179, hx179_0, hx179_1, hx179_2, hl179_1, hi179_1, hl179_2, hi179_2⟩ := at_T43 HR0_2.out x29_2 p179 q179
                          cases e179
                          replace hx179_0 := (HB.out.cell (World.block_lt_of_cell? w _ hx179_0)).trans hx179_0
                          replace hx179_1 := (HB.out.cell (World.block_lt_of_cell? w _ hx179_1)).trans hx179_1
                          replace hx179_2 := (HB.out.cell (World.block_lt_of_cell? w _ hx179_2)).trans hx179_2
                          have HR179_1 := Aside0.mk hi179_1
                          have HC179_1 := Aside0.mk hl179_1
                          clear hi179_1 hl179_1
                          have HR179_2 := Aside0.mk hi179_2
                          have HC179_2 := Aside0.mk hl179_2
                          clear hi179_2 hl179_2
                          replace p179 := eq_true p179
                          replace q179 := eq_true q179
                          go_wp2_with (first | ((with_reducible refine gate_dst (N := 5) rfl ?_); (try (refine gate_guard (by rfl) ?_; dsimp only)); refine box_event ?hg (N := 5) ?hd (cs := #[.int .i64 0, .slice none 0 0, .slice none 0 0]) (t := 43) ?hr ?_; (case hd => rfl); (case hg => rfl); (case hr => first | (go_simp; done) | (go_simp; rfl)); intro gb180 hg w27 hbox hb; have n0_ := Aside0.mk (blk_below (g := gb178) (o := .cells #[.int .i64 a0_0, .slice A0_1 l0_1.length c0_1, .slice (some ad179) l0_2.length c0_2] 25 (0, 0)) (by (with_reducible repeat (first | refine blk_drewN ?_ _ | refine blk_drew ?_ | refine blk_alloc ?_ _)); exact BK178.out) hb); have n1_ := Aside0.mk (below_step (by repeat (first | (with_reducible first | exact HB.out | apply below_alloc | apply pw_below_drewN | apply below_drew1 | refine below_set ?_ GE178.out) | exact HB.out)) hb); have n2_ := Aside0.mk (hbox); have n3_ := Aside0.mk ((by rw [hg]; exact (below_size (by repeat (first | (with_reducible first | exact HB.out | apply below_alloc | apply pw_below_drewN | apply below_drew1 | refine below_set ?_ GE178.out) | exact HB.out))) : w.heap.size ≤ gb180)); have n4_ := Aside0.mk ((by rw [hg]; exact (below_size (by repeat (first | (with_reducible first | exact HB.out | apply below_alloc | apply pw_below_drewN | apply below_drew1 | refine below_set ?_ GE178.out) | exact HB.out))) : w.heap.size ≤ gb180)); have n5_ := Aside0.mk ((by rw [hg]; exact Nat.ne_of_lt (blk_lt (g := gb178) (o := .cells #[.int .i64 a0_0, .slice A0_1 l0_1.length c0_1, .slice (some ad179) l0_2.length c0_2] 25 (0, 0)) (by (with_reducible repeat (first | refine blk_drewN ?_ _ | refine blk_drew ?_ | refine blk_alloc ?_ _)); exact BK178.out)) : gb178 ≠ gb180)); have n6_ := Aside0.mk ((by rw [hg]; exact Nat.ne_of_gt (blk_lt (g := gb178) (o := .cells #[.int .i64 a0_0, .slice A0_1 l0_1.length c0_1, .slice (some ad179) l0_2.length c0_2] 25 (0, 0)) (by (with_reducible repeat (first | refine blk_drewN ?_ _ | refine blk_drew ?_ | refine blk_alloc ?_ _)); exact BK178.out)) : gb180 ≠ gb178)); clear BK178; clear HB; have BK178 := n0_; have HB := n1_; have BK180 := n2_; have GW180 := n3_; have GE180 := n4_; have NB178_180 := n5_; have NB180_178 := n6_; clear n0_ n1_ n2_ n3_ n4_ n5_ n6_; clear hb hbox hg; have hnb28 := NB180_178.out; have hnc28 := NB178_180.out; have hcz29_0 : w27.cell? ⟨gb180, 0, none⟩ = some (.int .i64 0) := (blk_cell BK180.out 0).trans rfl; have hcz29_1 : w27.cell? ⟨gb180, 1, none⟩ = some (.slice none 0 0) := (blk_cell BK180.out 1).trans rfl; have hcz29_2 : w27.cell? ⟨gb180, 2, none⟩ = some (.slice none 0 0) := (blk_cell BK180.out 2).trans rfl; have hfz29_0 := blk_frozen BK180.out 0; have hfz29_1 := blk_frozen BK180.out 1; have hfz29_2 := blk_frozen BK180.out 2; have hcz30_0 : w27.cell? ⟨gb178, 0, none⟩ = some (.int .i64 a0_0) := (blk_cell BK178.out 0).trans rfl; have hcz30_1 : w27.cell? ⟨gb178, 1, none⟩ = some (.slice A0_1 l0_1.length c0_1) := (blk_cell BK178.out 1).trans rfl; have hcz30_2 : w27.cell? ⟨gb178, 2, none⟩ = some (.slice (some ad179) l0_2.length c0_2) := (blk_cell BK178.out 2).trans rfl; have hfz30_0 := blk_frozen BK178.out 0; have hfz30_1 := blk_frozen BK178.out 1; have hfz30_2 := blk_frozen BK178.out 2))
                          go_roundg k2
                          case measure => have := HJ1.out; have := HK2.out; omega
                          case rel => exact ⟨((rd_T43 l0_2 x29_2).f0), (wrap64 (x29_2 + 1)), (by first | rfl | (simp; done) | (simp [*]; done)), (by first | rfl | (simp; done) | (simp [*]; done)), H', ⟨by have := HJ1.out; have := HK2.out; omega⟩, ⟨by (with_reducible repeat (first | refine blk_drewN ?_ _ | refine blk_drew ?_ | refine blk_alloc ?_ _)); refine blk_far ?_ NB178_180.out _; (with_reducible repeat (first | refine blk_drewN ?_ _ | refine blk_drew ?_ | refine blk_alloc ?_ _)); refine blk_far ?_ NB178_180.out _; (with_reducible repeat (first | refine blk_drewN ?_ _ | refine blk_drew ?_ | refine blk_alloc ?_ _)); refine blk_far ?_ NB178_180.out _; (with_reducible repeat (first | refine blk_drewN ?_ _ | refine blk_drew ?_ | refine blk_alloc ?_ _)); exact BK178.out⟩, ⟨by repeat (first | (with_reducible first | exact HB.out | apply below_alloc | apply pw_below_drewN | apply below_drew1 | refine below_set ?_ GE178.out | refine below_set ?_ GE180.out) | exact HB.out)⟩⟩
                        · rw [if_neg c26] at H
                          have c26b0 : ((((rd_T43 l0_2 x29_2).f2).length : Int) == 12) = false := beq_eq_false_iff_ne.mpr c26
                          have c26b1 : ((((rd_T43 l0_2 x29_2).f2).length : Int) != 12) = true := bne_iff_ne.mpr c26
                          obtain rfl := Option.some.inj H
                          have p179 : 0 ≤ (x29_2 : Int) := of_decide_eq_true (by first | (with_reducible assumption) | assumption)
                          have q179 : x29_2 < (l0_2.length : Int) := of_decide_eq_true (by first | (with_reducible assumption) | assumption)
                          obtain ⟨ad179, A179_1, c179_1, A179_2, c179_2, e179, hx179_0, hx179_1, hx179_2, hl179_1, hi179_1, hl179_2, hi179_2⟩ := at_T43 HR0_2.out x29_2 p179 q179
                          cases e179
                          replace hx179_0 := (HB.out.cell (World.block_lt_of_cell? w _ hx179_0)).trans hx179_0
                          replace hx179_1 := (HB.out.cell (World.block_lt_of_cell? w _ hx179_1)).trans hx179_1
                          replace hx179_2 := (HB.out.cell (World.block_lt_of_cell? w _ hx179_2)).trans hx179_2
                          have HR179_1 := Aside0.mk hi179_1
                          have HC179_1 := Aside0.mk hl179_1
                          clear hi179_1 hl179_1
                          have HR179_2 := Aside0.mk hi179_2
                          have HC179_2 := Aside0.mk hl179_2
                          clear hi179_2 hl179_2
                          replace p179 := eq_true p179
                          replace q179 := eq_true q179
                          go_wp2_with (first | ((with_reducible refine gate_dst (N := 5) rfl ?_); (try (refine gate_guard (by rfl) ?_; dsimp only)); refine box_event ?hg (N := 5) ?hd (cs := #[.int .i64 0, .slice none 0 0, .slice none 0 0]) (t := 43) ?hr ?_; (case hd => rfl); (case hg => rfl); (case hr => first | (go_simp; done) | (go_simp; rfl)); intro gb180 hg w31 hbox hb; have n0_ := Aside0.mk (blk_below (g := gb178) (o := .cells #[.int .i64 a0_0, .slice A0_1 l0_1.length c0_1, .slice (some ad179) l0_2.length c0_2] 25 (0, 0)) (by (with_reducible repeat (first | refine blk_drewN ?_ _ | refine blk_drew ?_ | refine blk_alloc ?_ _)); exact BK178.out) hb); have n1_ := Aside0.mk (below_step (by repeat (first | (with_reducible first | exact HB.out | apply below_alloc | apply pw_below_drewN | apply below_drew1 | refine below_set ?_ GE178.out) | exact HB.out)) hb); have n2_ := Aside0.mk (hbox); have n3_ := Aside0.mk ((by rw [hg]; exact (below_size (by repeat (first | (with_reducible first | exact HB.out | apply below_alloc | apply pw_below_drewN | apply below_drew1 | refine below_set ?_ GE178.out) | exact HB.out))) : w.heap.size ≤ gb180)); have n4_ := Aside0.mk ((by rw [hg]; exact (below_size (by repeat (first | (with_reducible first | exact HB.out | apply below_alloc | apply pw_below_drewN | apply below_drew1 | refine below_set ?_ GE178.out) | exact HB.out))) : w.heap.size ≤ gb180)); have n5_ := Aside0.mk ((by rw [hg]; exact Nat.ne_of_lt (blk_lt (g := gb178) (o := .cells #[.int .i64 a0_0, .slice A0_1 l0_1.length c0_1, .slice (some ad179) l0_2.length c0_2] 25 (0, 0)) (by (with_reducible repeat (first | refine blk_drewN ?_ _ | refine blk_drew ?_ | refine blk_alloc ?_ _)); exact BK178.out)) : gb178 ≠ gb180)); have n6_ := Aside0.mk ((by rw [hg]; exact Nat.ne_of_gt (blk_lt (g := gb178) (o := .cells #[.int .i64 a0_0, .slice A0_1 l0_1.length c0_1, .slice (some ad179) l0_2.length c0_2] 25 (0, 0)) (by (with_reducible repeat (first | refine blk_drewN ?_ _ | refine blk_drew ?_ | refine blk_alloc ?_ _)); exact BK178.out)) : gb180 ≠ gb178)); clear BK178; clear HB; have BK178 := n0_; have HB := n1_; have BK180 := n2_; have GW180 := n3_; have GE180 := n4_; have NB178_180 := n5_; have NB180_178 := n6_; clear n0_ n1_ n2_ n3_ n4_ n5_ n6_; clear hb hbox hg; have hnb32 := NB180_178.out; have hnc32 := NB178_180.out; have hcz33_0 : w31.cell? ⟨gb180, 0, none⟩ = some (.int .i64 0) := (blk_cell BK180.out 0).trans rfl; have hcz33_1 : w31.cell? ⟨gb180, 1, none⟩ = some (.slice none 0 0) := (blk_cell BK180.out 1).trans rfl; have hcz33_2 : w31.cell? ⟨gb180, 2, none⟩ = some (.slice none 0 0) := (blk_cell BK180.out 2).trans rfl; have hfz33_0 := blk_frozen BK180.out 0; have hfz33_1 := blk_frozen BK180.out 1; have hfz33_2 := blk_frozen BK180.out 2; have hcz34_0 : w31.cell? ⟨gb178, 0, none⟩ = some (.int .i64 a0_0) := (blk_cell BK178.out 0).trans rfl; have hcz34_1 : w31.cell? ⟨gb178, 1, none⟩ = some (.slice A0_1 l0_1.length c0_1) := (blk_cell BK178.out 1).trans rfl; have hcz34_2 : w31.cell? ⟨gb178, 2, none⟩ = some (.slice (some ad179) l0_2.length c0_2) := (blk_cell BK178.out 2).trans rfl; have hfz34_0 := blk_frozen BK178.out 0; have hfz34_1 := blk_frozen BK178.out 1; have hfz34_2 := blk_frozen BK178.out 2))
                          go_ret
                          exact ⟨by first | rfl | (simp [errW_none, errW_some] <;> rfl) | (simp [*, errW_none, errW_some] <;> rfl), by repeat (first | (with_reducible first | exact HB.out | apply below_alloc | apply pw_below_drewN | apply below_drew1 | refine below_set ?_ GE178.out | refine below_set ?_ GE180.out) | exact HB.out)⟩
                      · rw [if_neg c25] at H
                        have c25b0 : ((((rd_T43 l0_2 x29_2).f1).length : Int) == 32) = false := beq_eq_false_iff_ne.mpr c25
                        have c25b1 : ((((rd_T43 l0_2 x29_2).f1).length : Int) != 32) = true := bne_iff_ne.mpr c25
                        obtain rfl := Option.some.inj H
                        have p179 : 0 ≤ (x29_2 : Int) := of_decide_eq_true (by first | (with_reducible assumption) | assumption)
                        have q179 : x29_2 < (l0_2.length : Int) := of_decide_eq_true (by first | (with_reducible assumption) | assumption)
                        obtain ⟨ad179, A179_1, c179_1, A179_2, c179_2, e179, hx179_0, hx179_1, hx179_2, hl179_1, hi179_1, hl179_2, hi179_2⟩ := at_T43 HR0_2.out x29_2 p179 q179
                        cases e179
                        replace hx179_0 := (HB.out.cell (World.block_lt_of_cell? w _ hx179_0)).trans hx179_0
                        replace hx179_1 := (HB.out.cell (World.block_lt_of_cell? w _ hx179_1)).trans hx179_1
                        replace hx179_2 := (HB.out.cell (World.block_lt_of_cell? w _ hx179_2)).trans hx179_2
                        have HR179_1 := Aside0.mk hi179_1
                        have HC179_1 := Aside0.mk hl179_1
                        clear hi179_1 hl179_1
                        have HR179_2 := Aside0.mk hi179_2
                        have HC179_2 := Aside0.mk hl179_2
                        clear hi179_2 hl179_2
                        replace p179 := eq_true p179
                        replace q179 := eq_true q179
                        go_wp2_with (first | ((with_reducible refine gate_dst (N := 5) rfl ?_); (try (refine gate_guard (by rfl) ?_; dsimp only)); refine box_event ?hg (N := 5) ?hd (cs := #[.int .i64 0, .slice none 0 0, .slice none 0 0]) (t := 43) ?hr ?_; (case hd => rfl); (case hg => rfl); (case hr => first | (go_simp; done) | (go_simp; rfl)); intro gb180 hg w35 hbox hb; have n0_ := Aside0.mk (blk_below (g := gb178) (o := .cells #[.int .i64 a0_0, .slice A0_1 l0_1.length c0_1, .slice (some ad179) l0_2.length c0_2] 25 (0, 0)) (by (with_reducible repeat (first | refine blk_drewN ?_ _ | refine blk_drew ?_ | refine blk_alloc ?_ _)); exact BK178.out) hb); have n1_ := Aside0.mk (below_step (by repeat (first | (with_reducible first | exact HB.out | apply below_alloc | apply pw_below_drewN | apply below_drew1 | refine below_set ?_ GE178.out) | exact HB.out)) hb); have n2_ := Aside0.mk (hbox); have n3_ := Aside0.mk ((by rw [hg]; exact (below_size (by repeat (first | (with_reducible first | exact HB.out | apply below_alloc | apply pw_below_drewN | apply below_drew1 | refine below_set ?_ GE178.out) | exact HB.out))) : w.heap.size ≤ gb180)); have n4_ := Aside0.mk ((by rw [hg]; exact (below_size (by repeat (first | (with_reducible first | exact HB.out | apply below_alloc | apply pw_below_drewN | apply below_drew1 | refine below_set ?_ GE178.out) | exact HB.out))) : w.heap.size ≤ gb180)); have n5_ := Aside0.mk ((by rw [hg]; exact Nat.ne_of_lt (blk_lt (g := gb178) (o := .cells #[.int .i64 a0_0, .slice A0_1 l0_1.length c0_1, .slice (some ad179) l0_2.length c0_2] 25 (0, 0)) (by (with_reducible repeat (first | refine blk_drewN ?_ _ | refine blk_drew ?_ | refine blk_alloc ?_ _)); exact BK178.out)) : gb178 ≠ gb180)); have n6_ := Aside0.mk ((by rw [hg]; exact Nat.ne_of_gt (blk_lt (g := gb178) (o := .cells #[.int .i64 a0_0, .slice A0_1 l0_1.length c0_1, .slice (some ad179) l0_2.length c0_2] 25 (0, 0)) (by (with_reducible repeat (first | refine blk_drewN ?_ _ | refine blk_drew ?_ | refine blk_alloc ?_ _)); exact BK178.out)) : gb180 ≠ gb178)); clear BK178; clear HB; have BK178 := n0_; have HB := n1_; have BK180 := n2_; have GW180 := n3_; have GE180 := n4_; have NB178_180 := n5_; have NB180_178 := n6_; clear n0_ n1_ n2_ n3_ n4_ n5_ n6_; clear hb hbox hg; have hnb36 := NB180_178.out; have hnc36 := NB178_180.out; have hcz37_0 : w35.cell? ⟨gb180, 0, none⟩ = some (.int .i64 0) := (blk_cell BK180.out 0).trans rfl; have hcz37_1 : w35.cell? ⟨gb180, 1, none⟩ = some (.slice none 0 0) := (blk_cell BK180.out 1).trans rfl; have hcz37_2 : w35.cell? ⟨gb180, 2, none⟩ = some (.slice none 0 0) := (blk_cell BK180.out 2).trans rfl; have hfz37_0 := blk_frozen BK180.out 0; have hfz37_1 := blk_frozen BK180.out 1; have hfz37_2 := blk_frozen BK180.out 2; have hcz38_0 : w35.cell? ⟨gb178, 0, none⟩ = some (.int .i64 a0_0) := (blk_cell BK178.out 0).trans rfl; have hcz38_1 : w35.cell? ⟨gb178, 1, none⟩ = some (.slice A0_1 l0_1.length c0_1) := (blk_cell BK178.out 1).trans rfl; have hcz38_2 : w35.cell? ⟨gb178, 2, none⟩ = some (.slice (some ad179) l0_2.length c0_2) := (blk_cell BK178.out 2).trans rfl; have hfz38_0 := blk_frozen BK178.out 0; have hfz38_1 := blk_frozen BK178.out 1; have hfz38_2 := blk_frozen BK178.out 2))
                        go_ret
                        exact ⟨by first | rfl | (simp [errW_none, errW_some] <;> rfl) | (simp [*, errW_none, errW_some] <;> rfl), by repeat (first | (with_reducible first | exact HB.out | apply below_alloc | apply pw_below_drewN | apply below_drew1 | refine below_set ?_ GE178.out | refine below_set ?_ GE180.out) | exact HB.out)⟩
                · rw [if_neg c15] at H
                  exact absurd H (by simp)
              · rw [if_neg c14] at H
                exact absurd H (by simp)
            · rw [if_neg c13] at H
              have c13b0 : decide (x29_2 < (l0_2.length : Int)) = false := decide_eq_false c13
              clear c13
              obtain rfl := Option.some.inj H
              go_wp2
              go_ret
              exact ⟨by first | rfl | (simp [errW_none, errW_some] <;> rfl) | (simp [*, errW_none, errW_some] <;> rfl), by repeat (first | (with_reducible first | exact HB.out | apply below_alloc | apply pw_below_drewN | apply below_drew1 | refine below_set ?_ GE178.out) | exact HB.out)⟩
/-! ### bytes_Equal: function 34 -/
def bytes_Equal.f (l0 : List Int) (l1 : List Int) : Option (Bool) := some ((strOfNums l0).toList == (strOfNums l1).toList)
set_option maxHeartbeats 8000000 in
set_option maxRecDepth 100000 in
theorem bytes_Equal.calls (A0 : Option Addr) (c0 : Nat) (l0 : List Int) (A1 : Option Addr) (c1 : Nat) (l1 : List Int) (r : Bool) (w : World) (hr0 : Kd.C (Kd.int .u8) w A0 l0.length l0) (hc0 : l0.length ≤ c0) (hr1 : Kd.C (Kd.int .u8) w A1 l1.length l1) (hc1 : l1.length ≤ c1) (h : bytes_Equal.f l0 l1 = some r) :
    Calls Tryd.prog 34 #[.slice A0 l0.length c0, .slice A1 l1.length c1] w fun e w' => e = .returned (.bool r) ∧ Drawn0 w w' := by
  have HR0 := Aside0.mk hr0
  have HC0 := Aside0.mk hc0
  clear hr0 hc0
  have HR1 := Aside0.mk hr1
  have HC1 := Aside0.mk hc1
  clear hr1 hc1
  have H : (some ((strOfNums l0).toList == (strOfNums l1).toList)) = some r := h
  clear h
  obtain rfl := Option.some.inj H
  have hcv3 := Kd.C_string (P := Tryd.prog) (A := A0) (c := c0) Tryd.underlying22 Tryd.underlying5 Tryd.underlying9 HR0.out
  have hcv4 := Kd.C_string (P := Tryd.prog) (A := A1) (c := c1) Tryd.underlying22 Tryd.underlying5 Tryd.underlying9 HR1.out
  go_enter Tryd.func34, Tryd.ntmps34
  go_wp2
  go_ret
  exact ⟨by first | rfl | (simp; done) | (simp [*]; done), by repeat (first | exact Drawn0.refl _ | apply Drawn0.step)⟩
/-! ### ratch_sameLock: function 36 -/
def ratch_sameLock.f (a0_0 : Int) (l0_1 : List Int) (l0_2 : List Int) (a1_0 : Int) (l1_1 : List Int) (l1_2 : List Int) : Option (Bool) := if a0_0 = a1_0 then ((bytes_Equal.f l0_1 l1_1).bind fun t183 => (if t183 = true then ((bytes_Equal.f l0_2 l1_2).bind fun t184 => (some t184)) else (some false))) else (some false)
set_option maxHeartbeats 8000000 in
set_option maxRecDepth 100000 in
theorem ratch_sameLock.calls (a0_0 : Int) (A0_1 : Option Addr) (c0_1 : Nat) (l0_1 : List Int) (A0_2 : Option Addr) (c0_2 : Nat) (l0_2 : List Int) (a1_0 : Int) (A1_1 : Option Addr) (c1_1 : Nat) (l1_1 : List Int) (A1_2 : Option Addr) (c1_2 : Nat) (l1_2 : List Int) (r : Bool) (w : World) (hr0_1 : Kd.C (Kd.int .u8) w A0_1 l0_1.length l0_1) (hc0_1 : l0_1.length ≤ c0_1) (hr0_2 : Kd.C (Kd.int .u8) w A0_2 l0_2.length l0_2) (hc0_2 : l0_2.length ≤ c0_2) (hr1_1 : Kd.C (Kd.int .u8) w A1_1 l1_1.length l1_1) (hc1_1 : l1_1.length ≤ c1_1) (hr1_2 : Kd.C (Kd.int .u8) w A1_2 l1_2.length l1_2) (hc1_2 : l1_2.length ≤ c1_2) (h : ratch_sameLock.f a0_0 l0_1 l0_2 a1_0 l1_1 l1_2 = some r) :
    Calls Tryd.prog 36 #[.agg #[.int .i64 a0_0, .slice A0_1 l0_1.length c0_1, .slice A0_2 l0_2.length c0_2], .agg #[.int .i64 a1_0, .slice A1_1 l1_1.length c1_1, .slice A1_2 l1_2.length c1_2]] w fun e w' => e = .returned (.bool r) ∧ Below w.heap.size w w' := by
  have hu43 := Tryd.underlying43
  have HR0_1 := Aside0.mk hr0_1
  have HC0_1 := Aside0.mk hc0_1
  clear hr0_1 hc0_1
  have HR0_2 := Aside0.mk hr0_2
  have HC0_2 := Aside0.mk hc0_2
  clear hr0_2 hc0_2
  have HR1_1 := Aside0.mk hr1_1
  have HC1_1 := Aside0.mk hc1_1
  clear hr1_1 hc1_1
  have HR1_2 := Aside0.mk hr1_2
  have HC1_2 := Aside0.mk hc1_2
  clear hr1_2 hc1_2
  have HB := Aside0.mk (Below.refl w.heap.size w)
  have H : (if a0_0 = a1_0 then ((bytes_Equal.f l0_1 l1_1).bind fun t183 => (if t183 = true then ((bytes_Equal.f l0_2 l1_2).bind fun t184 => (some t184)) else (some false))) else (some false)) = some r := h
  clear h
  by_cases c3 : a0_0 = a1_0
  · rw [if_pos c3] at H
    have c3b0 : (a0_0 == a1_0) = true := beq_iff_eq.mpr c3
    have c3b1 : (a0_0 != a1_0) = false := bne_eq_false_iff_eq.mpr c3
    clear c3
    replace H := Option.bind_eq_some_iff.mp H
    obtain ⟨t183, A40, H⟩ := H
    replace H : (if t183 = true then ((bytes_Equal.f l0_2 l1_2).bind fun t184 => (some t184)) else (some false)) = some r := H
    have A4 := Aside0.mk A40
    clear A40
    by_cases c5 : t183 = true
    · subst c5
      have H1 : ((bytes_Equal.f l0_2 l1_2).bind fun t184 => (some t184)) = some r := by rw [if_pos rfl] at H; exact H
      clear H
      have H := H1
      clear H1
      replace H := Option.bind_eq_some_iff.mp H
      obtain ⟨t184, A60, H⟩ := H
      replace H : (some t184) = some r := H
      have A6 := Aside0.mk A60
      clear A60
      obtain rfl := Option.some.inj H
      go_enter Tryd.func36, Tryd.ntmps36
      go_wp2_with (first | ((with_reducible refine gate_dst (N := 2) rfl ?_); refine box_event ?hg (N := 2) ?hd (cs := #[.int .i64 a0_0, .slice A0_1 l0_1.length c0_1, .slice A0_2 l0_2.length c0_2]) (t := 43) ?hr ?_; (case hd => rfl); (case hg => rfl); (case hr => first | (go_simp; done) | (go_simp; rfl)); intro gb181 hg w7 hbox hb; have n0_ := Aside0.mk (below_step (by repeat (first | (with_reducible first | exact HB.out | apply below_alloc | apply pw_below_drewN | apply below_drew1) | exact HB.out)) hb); have n1_ := Aside0.mk (hbox); have n2_ := Aside0.mk ((by rw [hg]; exact (below_size (by repeat (first | (with_reducible first | exact HB.out | apply below_alloc | apply pw_below_drewN | apply below_drew1) | exact HB.out))) : w.heap.size ≤ gb181)); have n3_ := Aside0.mk ((by rw [hg]; exact (below_size (by repeat (first | (with_reducible first | exact HB.out | apply below_alloc | apply pw_below_drewN | apply below_drew1) | exact HB.out))) : w.heap.size ≤ gb181)); clear HB; have HB := n0_; have BK181 := n1_; have GW181 := n2_; have GE181 := n3_; clear n0_ n1_ n2_ n3_; clear hb hbox hg) | ((with_reducible refine gate_dst (N := 3) rfl ?_); refine box_event ?hg (N := 3) ?hd (cs := #[.int .i64 a1_0, .slice A1_1 l1_1.length c1_1, .slice A1_2 l1_2.length c1_2]) (t := 43) ?hr ?_; (case hd => rfl); (case hg => rfl); (case hr => first | (go_simp; done) | (go_simp; rfl)); intro gb182 hg w8 hbox hb; have n0_ := Aside0.mk (blk_below (g := gb181) (o := .cells #[.int .i64 a0_0, .slice A0_1 l0_1.length c0_1, .slice A0_2 l0_2.length c0_2] 43 (0, 0)) (by (with_reducible repeat (first | refine blk_drewN ?_ _ | refine blk_drew ?_ | refine blk_alloc ?_ _)); exact BK181.out) hb); have n1_ := Aside0.mk (below_step (by repeat (first | (with_reducible first | exact HB.out | apply below_alloc | apply pw_below_drewN | apply below_drew1 | refine below_set ?_ GE181.out) | exact HB.out)) hb); have n2_ := Aside0.mk (hbox); have n3_ := Aside0.mk ((by rw [hg]; exact (below_size (by repeat (first | (with_reducible first | exact HB.out | apply below_alloc | apply pw_below_drewN | apply below_drew1 | refine below_set ?_ GE181.out) | exact HB.out))) : w.heap.size ≤ gb182)); have n4_ := Aside0.mk ((by rw [hg]; exact (below_size (by repeat (first | (with_reducible first | exact HB.out | apply below_alloc | apply pw_below_drewN | apply below_drew1 | refine below_set ?_ GE181.out) | exact HB.out))) : w.heap.size ≤ gb182)); have n5_ := Aside0.mk ((by rw [hg]; exact Nat.ne_of_lt (blk_lt (g := gb181) (o := .cells #[.int .i64 a0_0, .slice A0_1 l0_1.length c0_1, .slice A0_2 l0_2.length c0_2] 43 (0, 0)) (by (with_reducible repeat (first | refine blk_drewN ?_ _ | refine blk_drew ?_ | refine blk_alloc ?_ _)); exact BK181.out)) : gb181 ≠ gb182)); have n6_ := Aside0.mk ((by rw [hg]; exact Nat.ne_of_gt (blk_lt (g := gb181) (o := .cells #[.int .i64 a0_0, .slice A0_1 l0_1.length c0_1, .slice A0_2 l0_2.length c0_2] 43 (0, 0)) (by (with_reducible repeat (first | refine blk_drewN ?_ _ | refine blk_drew ?_ | refine blk_alloc ?_ _)); exact BK181.out)) : gb182 ≠ gb181)); clear BK181; clear HB; have BK181 := n0_; have HB := n1_; have BK182 := n2_; have GW182 := n3_; have GE182 := n4_; have NB181_182 := n5_; have NB182_181 := n6_; clear n0_ n1_ n2_ n3_ n4_ n5_ n6_; clear hb hbox hg; have hnb9 := NB181_182.out; have hnc9 := NB182_181.out; have hcz10_0 : w8.cell? ⟨gb181, 0, none⟩ = some (.int .i64 a0_0) := (blk_cell BK181.out 0).trans rfl; have hcz10_1 : w8.cell? ⟨gb181, 1, none⟩ = some (.slice A0_1 l0_1.length c0_1) := (blk_cell BK181.out 1).trans rfl; have hcz10_2 : w8.cell? ⟨gb181, 2, none⟩ = some (.slice A0_2 l0_2.length c0_2) := (blk_cell BK181.out 2).trans rfl; have hfz10_0 := blk_frozen BK181.out 0; have hfz10_1 := blk_frozen BK181.out 1; have hfz10_2 := blk_frozen BK181.out 2; have hcz11_0 : w8.cell? ⟨gb182, 0, none⟩ = some (.int .i64 a1_0) := (blk_cell BK182.out 0).trans rfl; have hcz11_1 : w8.cell? ⟨gb182, 1, none⟩ = some (.slice A1_1 l1_1.length c1_1) := (blk_cell BK182.out 1).trans rfl; have hcz11_2 : w8.cell? ⟨gb182, 2, none⟩ = some (.slice A1_2 l1_2.length c1_2) := (blk_cell BK182.out 2).trans rfl; have hfz11_0 := blk_frozen BK182.out 0; have hfz11_1 := blk_frozen BK182.out 1; have hfz11_2 := blk_frozen BK182.out 2) | (go_at_call 34; (with_reducible refine (bytes_Equal.calls _ _ l0_1 _ _ l1_1 true _ ?side1 ?side2 ?side3 ?side4 A4.out).mono ?_); (case side1 => repeat (first | exact (Kd.C_below HR0_1.out HB.out) | (with_reducible refine Kd.C_alloc ?_ _) | (with_reducible refine Kd.C_drewN ?_ _) | (with_reducible refine Kd.C_drew ?_))); (case side2 => exact HC0_1.out); (case side3 => repeat (first | exact (Kd.C_below HR1_1.out HB.out) | (with_reducible refine Kd.C_alloc ?_ _) | (with_reducible refine Kd.C_drewN ?_ _) | (with_reducible refine Kd.C_drew ?_))); (case side4 => exact HC1_1.out); rintro e w' ⟨rfl, ⟨nd, rfl⟩⟩) | (go_at_call 34; (with_reducible refine (bytes_Equal.calls _ _ l0_2 _ _ l1_2 t184 _ ?side1 ?side2 ?side3 ?side4 A6.out).mono ?_); (case side1 => repeat (first | exact (Kd.C_below HR0_2.out (by repeat (first | (with_reducible first | exact HB.out | apply below_alloc | apply pw_below_drewN | apply below_drew1 | refine below_set ?_ GE181.out | refine below_set ?_ GE182.out) | exact HB.out))) | (with_reducible refine Kd.C_alloc ?_ _) | (with_reducible refine Kd.C_drewN ?_ _) | (with_reducible refine Kd.C_drew ?_))); (case side2 => exact HC0_2.out); (case side3 => repeat (first | exact (Kd.C_below HR1_2.out (by repeat (first | (with_reducible first | exact HB.out | apply below_alloc | apply pw_below_drewN | apply below_drew1 | refine below_set ?_ GE181.out | refine below_set ?_ GE182.out) | exact HB.out))) | (with_reducible refine Kd.C_alloc ?_ _) | (with_reducible refine Kd.C_drewN ?_ _) | (with_reducible refine Kd.C_drew ?_))); (case side4 => exact HC1_2.out); rintro e w' ⟨rfl, ⟨nd, rfl⟩⟩))
      go_ret
      exact ⟨by first | rfl | (simp [errW_none, errW_some] <;> rfl) | (simp [*, errW_none, errW_some] <;> rfl), by repeat (first | (with_reducible first | exact HB.out | apply below_alloc | apply pw_below_drewN | apply below_drew1 | refine below_set ?_ GE181.out | refine below_set ?_ GE182.out) | exact HB.out)⟩
    · replace c5 := Bool.eq_false_iff.mpr c5
      subst c5
      have H1 : (some false) = some r := by rw [if_neg (show ¬ (false = true) by decide)] at H; exact H
      clear H
      have H := H1
      clear H1
      obtain rfl := Option.some.inj H
      go_enter Tryd.func36, Tryd.ntmps36
      go_wp2_with (first | ((with_reducible refine gate_dst (N := 2) rfl ?_); refine box_event ?hg (N := 2) ?hd (cs := #[.int .i64 a0_0, .slice A0_1 l0_1.length c0_1, .slice A0_2 l0_2.length c0_2]) (t := 43) ?hr ?_; (case hd => rfl); (case hg => rfl); (case hr => first | (go_simp; done) | (go_simp; rfl)); intro gb181 hg w12 hbox hb; have n0_ := Aside0.mk (below_step (by repeat (first | (with_reducible first | exact HB.out | apply below_alloc | apply pw_below_drewN | apply below_drew1) | exact HB.out)) hb); have n1_ := Aside0.mk (hbox); have n2_ := Aside0.mk ((by rw [hg]; exact (below_size (by repeat (first | (with_reducible first | exact HB.out | apply below_alloc | apply pw_below_drewN | apply below_drew1) | exact HB.out))) : w.heap.size ≤ gb181)); have n3_ := Aside0.mk ((by rw [hg]; exact (below_size (by repeat (first | (with_reducible first | exact HB.out | apply below_alloc | apply pw_below_drewN | apply below_drew1) | exact HB.out))) : w.heap.size ≤ gb181)); clear HB; have HB := n0_; have BK181 := n1_; have GW181 := n2_; have GE181 := n3_; clear n0_ n1_ n2_ n3_; clear hb hbox hg) | ((with_reducible refine gate_dst (N := 3) rfl ?_); refine box_event ?hg (N := 3) ?hd (cs := #[.int .i64 a1_0, .slice A1_1 l1_1.length c1_1, .slice A1_2 l1_2.length c1_2]) (t := 43) ?hr ?_; (case hd => rfl); (case hg => rfl); (case hr => first | (go_simp; done) | (go_simp; rfl)); intro gb182 hg w13 hbox hb; have n0_ := Aside0.mk (blk_below (g := gb181) (o := .cells #[.int .i64 a0_0, .slice A0_1 l0_1.length c0_1, .slice A0_2 l0_2.length c0_2] 43 (0, 0)) (by (with_reducible repeat (first | refine blk_drewN ?_ _ | refine blk_drew ?_ | refine blk_alloc ?_ _)); exact BK181.out) hb); have n1_ := Aside0.mk (below_step (by repeat (first | (with_reducible first | exact HB.out | apply below_alloc | apply pw_below_drewN | apply below_drew1 | refine below_set ?_ GE181.out) | exact HB.out)) hb); have n2_ := Aside0.mk (hbox); have n3_ := Aside0.mk ((by rw [hg]; exact (below_size (by repeat (first | (with_reducible first | exact HB.out | apply below_alloc | apply pw_below_drewN | apply below_drew1 | refine below_set ?_ GE181.out) | exact HB.out))) : w.heap.size ≤ gb182)); have n4_ := Aside0.mk ((by rw [hg]; exact (below_size (by repeat (first | (with_reducible first | exact HB.out | apply below_alloc | apply pw_below_drewN | apply below_drew1 | refine below_set ?_ GE181.out) | exact HB.out))) : w.heap.size ≤ gb182)); have n5_ := Aside0.mk ((by rw [hg]; exact Nat.ne_of_lt (blk_lt (g := gb181) (o := .cells #[.int .i64 a0_0, .slice A0_1 l0_1.length c0_1, .slice A0_2 l0_2.length c0_2] 43 (0, 0)) (by (with_reducible repeat (first | refine blk_drewN ?_ _ | refine blk_drew ?_ | refine blk_alloc ?_ _)); exact BK181.out)) : gb181 ≠ gb182)); have n6_ := Aside0.mk ((by rw [hg]; exact Nat.ne_of_gt (blk_lt (g := gb181) (o := .cells #[.int .i64 a0_0, .slice A0_1 l0_1.length c0_1, .slice A0_2 l0_2.length c0_2] 43 (0, 0)) (by (with_reducible repeat (first | refine blk_drewN ?_ _ | refine blk_drew ?_ | refine blk_alloc ?_ _)); exact BK181.out)) : gb182 ≠ gb181)); clear BK181; clear HB; have BK181 := n0_; have HB := n1_; have BK182 := n2_; have GW182 := n3_; have GE182 := n4_; have NB181_182 := n5_; have NB182_181 := n6_; clear n0_ n1_ n2_ n3_ n4_ n5_ n6_; clear hb hbox hg; have hnb14 := NB181_182.out; have hnc14 := NB182_181.out; have hcz15_0 : w13.cell? ⟨gb181, 0, none⟩ = some (.int .i64 a0_0) := (blk_cell BK181.out 0).trans rfl; have hcz15_1 : w13.cell? ⟨gb181, 1, none⟩ = some (.slice A0_1 l0_1.length c0_1) := (blk_cell BK181.out 1).trans rfl; have hcz15_2 : w13.cell? ⟨gb181, 2, none⟩ = some (.slice A0_2 l0_2.length c0_2) := (blk_cell BK181.out 2).trans rfl; have hfz15_0 := blk_frozen BK181.out 0; have hfz15_1 := blk_frozen BK181.out 1; have hfz15_2 := blk_frozen BK181.out 2; have hcz16_0 : w13.cell? ⟨gb182, 0, none⟩ = some (.int .i64 a1_0) := (blk_cell BK182.out 0).trans rfl; have hcz16_1 : w13.cell? ⟨gb182, 1, none⟩ = some (.slice A1_1 l1_1.length c1_1) := (blk_cell BK182.out 1).trans rfl; have hcz16_2 : w13.cell? ⟨gb182, 2, none⟩ = some (.slice A1_2 l1_2.length c1_2) := (blk_cell BK182.out 2).trans rfl; have hfz16_0 := blk_frozen BK182.out 0; have hfz16_1 := blk_frozen BK182.out 1; have hfz16_2 := blk_frozen BK182.out 2) | (go_at_call 34; (with_reducible refine (bytes_Equal.calls _ _ l0_1 _ _ l1_1 false _ ?side1 ?side2 ?side3 ?side4 A4.out).mono ?_); (case side1 => repeat (first | exact (Kd.C_below HR0_1.out HB.out) | (with_reducible refine Kd.C_alloc ?_ _) | (with_reducible refine Kd.C_drewN ?_ _) | (with_reducible refine Kd.C_drew ?_))); (case side2 => exact HC0_1.out); (case side3 => repeat (first | exact (Kd.C_below HR1_1.out HB.out) | (with_reducible refine Kd.C_alloc ?_ _) | (with_reducible refine Kd.C_drewN ?_ _) | (with_reducible refine Kd.C_drew ?_))); (case side4 => exact HC1_1.out); rintro e w' ⟨rfl, ⟨nd, rfl⟩⟩))
      go_ret
      exact ⟨by first | rfl | (simp [errW_none, errW_some] <;> rfl) | (simp [*, errW_none, errW_some] <;> rfl), by repeat (first | (with_reducible first | exact HB.out | apply below_alloc | apply pw_below_drewN | apply below_drew1 | refine below_set ?_ GE181.out | refine below_set ?_ GE182.out) | exact HB.out)⟩
  · rw [if_neg c3] at H
    have c3b0 : (a0_0 == a1_0) = false := beq_eq_false_iff_ne.mpr c3
    have c3b1 : (a0_0 != a1_0) = true := bne_iff_ne.mpr c3
    obtain rfl := Option.some.inj H
    go_enter Tryd.func36, Tryd.ntmps36
    go_wp2_with (first | ((with_reducible refine gate_dst (N := 2) rfl ?_); refine box_event ?hg (N := 2) ?hd (cs := #[.int .i64 a0_0, .slice A0_1 l0_1.length c0_1, .slice A0_2 l0_2.length c0_2]) (t := 43) ?hr ?_; (case hd => rfl); (case hg => rfl); (case hr => first | (go_simp; done) | (go_simp; rfl)); intro gb181 hg w17 hbox hb; have n0_ := Aside0.mk (below_step (by repeat (first | (with_reducible first | exact HB.out | apply below_alloc | apply pw_below_drewN | apply below_drew1) | exact HB.out)) hb); have n1_ := Aside0.mk (hbox); have n2_ := Aside0.mk ((by rw [hg]; exact (below_size (by repeat (first | (with_reducible first | exact HB.out | apply below_alloc | apply pw_below_drewN | apply below_drew1) | exact HB.out))) : w.heap.size ≤ gb181)); have n3_ := Aside0.mk ((by rw [hg]; exact (below_size (by repeat (first | (with_reducible first | exact HB.out | apply below_alloc | apply pw_below_drewN | apply below_drew1) | exact HB.out))) : w.heap.size ≤ gb181)); clear HB; have HB := n0_; have BK181 := n1_; have GW181 := n2_; have GE181 := n3_; clear n0_ n1_ n2_ n3_; clear hb hbox hg) | ((with_reducible refine gate_dst (N := 3) rfl ?_); refine box_event ?hg (N := 3) ?hd (cs := #[.int .i64 a1_0, .slice A1_1 l1_1.length c1_1, .slice A1_2 l1_2.length c1_2]) (t := 43) ?hr ?_; (case hd => rfl); (case hg => rfl); (case hr => first | (go_simp; done) | (go_simp; rfl)); intro gb182 hg w18 hbox hb; have n0_ := Aside0.mk (blk_below (g := gb181) (o := .cells #[.int .i64 a0_0, .slice A0_1 l0_1.length c0_1, .slice A0_2 l0_2.length c0_2] 43 (0, 0)) (by (with_reducible repeat (first | refine blk_drewN ?_ _ | refine blk_drew ?_ | refine blk_alloc ?_ _)); exact BK181.out) hb); have n1_ := Aside0.mk (below_step (by repeat (first | (with_reducible first | exact HB.out | apply below_alloc | apply pw_below_drewN | apply below_drew1 | refine below_set ?_ GE181.out) | exact HB.out)) hb); have n2_ := Aside0.mk (hbox); have n3_ := Aside0.mk ((by rw [hg]; exact (below_size (by repeat (first | (with_reducible first | exact HB.out | apply below_alloc | apply pw_below_drewN | apply below_drew1 | refine below_set ?_ GE181.out) | exact HB.out))) : w.heap.size ≤ gb182)); have n4_ := Aside0.mk ((by rw [hg]; exact (below_size (by repeat (first | (with_reducible first | exact HB.out | apply below_alloc | apply pw_below_drewN | apply below_drew1 | refine below_set ?_ GE181.out) | exact HB.out))) : w.heap.size ≤ gb182)); have n5_ := Aside0.mk ((by rw [hg]; exact Nat.ne_of_lt (blk_lt (g := gb181) (o := .cells #[.int .i64 a0_0, .slice A0_1 l0_1.length c0_1, .slice A0_2 l0_2.length c0_2] 43 (0, 0)) (by (with_reducible repeat (first | refine blk_drewN ?_ _ | refine blk_drew ?_ | refine blk_alloc ?_ _)); exact BK181.out)) : gb181 ≠ gb182)); have n6_ := Aside0.mk ((by rw [hg]; exact Nat.ne_of_gt (blk_lt (g := gb181) (o := .cells #[.int .i64 a0_0, .slice A0_1 l0_1.length c0_1, .slice A0_2 l0_2.length c0_2] 43 (0, 0)) (by (with_reducible repeat (first | refine blk_drewN ?_ _ | refine blk_drew ?_ | refine blk_alloc ?_ _)); exact BK181.out)) : gb182 ≠ gb181)); clear BK181; clear HB; have BK181 := n0_; have HB := n1_; have BK182 := n2_; have GW182 := n3_; have GE182 := n4_; have NB181_182 := n5_; have NB182_181 := n6_; clear n0_ n1_ n2_ n3_ n4_ n5_ n6_; clear hb hbox hg; have hnb19 := NB181_182.out; have hnc19 := NB182_181.out; have hcz20_0 : w18.cell? ⟨gb181, 0, none⟩ = some (.int .i64 a0_0) := (blk_cell BK181.out 0).trans rfl; have hcz20_1 : w18.cell? ⟨gb181, 1, none⟩ = some (.slice A0_1 l0_1.length c0_1) := (blk_cell BK181.out 1).trans rfl; have hcz20_2 : w18.cell? ⟨gb181, 2, none⟩ = some (.slice A0_2 l0_2.length c0_2) := (blk_cell BK181.out 2).trans rfl; have hfz20_0 := blk_frozen BK181.out 0; have hfz20_1 := blk_frozen BK181.out 1; have hfz20_2 := blk_frozen BK181.out 2; have hcz21_0 : w18.cell? ⟨gb182, 0, none⟩ = some (.int .i64 a1_0) := (blk_cell BK182.out 0).trans rfl; have hcz21_1 : w18.cell? ⟨gb182, 1, none⟩ = some (.slice A1_1 l1_1.length c1_1) := (blk_cell BK182.out 1).trans rfl; have hcz21_2 : w18.cell? ⟨gb182, 2, none⟩ = some (.slice A1_2 l1_2.length c1_2) := (blk_cell BK182.out 2).trans rfl; have hfz21_0 := blk_frozen BK182.out 0; have hfz21_1 := blk_frozen BK182.out 1; have hfz21_2 := blk_frozen BK182.out 2))
    go_ret
    exact ⟨by first | rfl | (simp [errW_none, errW_some] <;> rfl) | (simp [*, errW_none, errW_some] <;> rfl), by repeat (first | (with_reducible first | exact HB.out | apply below_alloc | apply pw_below_drewN | apply below_drew1 | refine below_set ?_ GE181.out | refine below_set ?_ GE182.out) | exact HB.out)⟩
end Go.Proofs.YtdklmafkcbjomaaDoor.R

/-! RatN -/
namespace Go.Proofs.YtdklmafkcbjomaaDoor
set_option linter.unusedVariables false
set_option linter.unusedSimpArgs false
open Go.RowKit Go.Shelf Go.Proofs.YtdklmafkcbjomaaDoorW.PrintWords Go.Proofs.YtdklmafkcbjomaaDoorW.PrintLast Go.Proofs.YtdklmafkcbjomaaDoorW.PrintMore
def lockOk (x : R.S43) : Prop := byteOk x.f1 = true ∧ byteOk x.f2 = true
def locksOk (L : List R.S43) : Prop := ∀ x, x ∈ L → lockOk x
def rises (n : Int) : Int → List R.S43 → Bool
  | _, [] => true
  | last, x :: xs => decide (last < x.f0) && (decide (x.f0 < n) && (decide (x.f1.length = 32) && (decide (x.f2.length = 12) && rises n x.f0 xs)))
def rightC (n : Int) (s : List Int) (L : List R.S43) : Bool := decide (0 ≤ n) && (decide (n ≤ 4294967294) && (decide (s.length = 32) && (decide (L.length ≤ 32) && rises n (-1) L)))
def sameK (a b : R.S43) : Bool := decide (a.f0 = b.f0) && ((a.f1 == b.f1) && (a.f2 == b.f2))
def sameLs : List R.S43 → List R.S43 → Bool
  | [], [] => true
  | x :: xs, y :: ys => sameK x y && sameLs xs ys
  | _, _ => false
def sameC (n : Int) (s : List Int) (L : List R.S43) (n' : Int) (s' : List Int) (L' : List R.S43) : Bool := decide (n = n') && ((s == s') && sameLs L L')
def fewL (L : List R.S43) : Bool := L.all (fun x => decide (x.f1.length ≤ 40) && decide (x.f2.length ≤ 40))
def fewC (s : List Int) (L : List R.S43) : Bool := decide (s.length ≤ 40) && (decide (L.length ≤ 40) && fewL L)
theorem sameK_eq (a b : R.S43) : sameK a b = true ↔ a = b := by
  unfold sameK
  simp only [Bool.and_eq_true, decide_eq_true_eq, beq_iff_eq]
  constructor
  · rintro ⟨h1, h2, h3⟩
    cases a; cases b
    simp_all
  · rintro rfl
    exact ⟨rfl, rfl, rfl⟩
theorem sameLs_eq : ∀ (L M : List R.S43), sameLs L M = true ↔ L = M
  | [], [] => by simp [sameLs]
  | [], _ :: _ => by simp [sameLs]
  | _ :: _, [] => by simp [sameLs]
  | x :: xs, y :: ys => by
    simp only [sameLs, Bool.and_eq_true, sameK_eq, sameLs_eq xs ys, List.cons.injEq]
theorem sameLs_refl (L : List R.S43) : sameLs L L = true := (sameLs_eq L L).2 rfl
theorem sameC_refl (n : Int) (s : List Int) (L : List R.S43) : sameC n s L n s L = true := by unfold sameC; simp [sameLs_refl]
theorem sameLs_len : ∀ (L M : List R.S43), L.length ≠ M.length → sameLs L M = false
  | [], [], h => absurd rfl h
  | [], _ :: _, _ => rfl
  | _ :: _, [], _ => rfl
  | x :: xs, y :: ys, h => by
    rw [sameLs, sameLs_len xs ys (by simpa using h), Bool.and_false]
theorem rd43 (L : List R.S43) (i : Nat) (h : i < L.length) : R.rd_T43 L (i : Int) = L[i] := by
  unfold R.rd_T43
  rw [Int.toNat_natCast, List.getD_eq_getElem?_getD, List.getElem?_eq_getElem h]
  rfl
theorem wrap_up (i : Nat) (h : i ≤ 1000) : wrap64 ((i : Int) + 1) = ((i + 1 : Nat) : Int) := by unfold wrap64; omega
theorem wrap_down (i : Nat) (h : i ≤ 1000) : wrap64 (((i + 1 : Nat) : Int) - 1) = (i : Int) := by unfold wrap64; omega
/-- ratch.Right's loop. -/
theorem right_l0 (n : Int) (s : List Int) (L : List R.S43) (hL : L.length ≤ 100) : ∀ (d k i : Nat) (last : Int), i + d = L.length → d < k → R.ratch_Right.l0 k last L (L.length : Int) (i : Int) n s L = some (rises n last (L.drop i)) := by
  intro d
  induction d with
  | zero =>
    intro k i last hd hk
    obtain ⟨k, rfl⟩ : ∃ m, k = m + 1 := ⟨k - 1, by omega⟩
    simp only [R.ratch_Right.l0]
    rw [if_neg (by omega), List.drop_of_length_le (by omega)]
    rfl
  | succ d ih =>
    intro k i last hd hk
    obtain ⟨k, rfl⟩ : ∃ m, k = m + 1 := ⟨k - 1, by omega⟩
    have hi : i < L.length := by omega
    simp only [R.ratch_Right.l0]
    rw [if_pos (by omega), if_pos (by omega), if_pos (by omega), rd43 L i hi, List.drop_eq_getElem_cons hi, rises, wrap_up i (by omega), ih k (i + 1) _ (by omega) (by omega)]
    by_cases h1 : L[i].f0 ≤ last
    · rw [if_pos h1, decide_eq_false (by omega)]; rfl
    · rw [if_neg h1, decide_eq_true (by omega)]
      by_cases h2 : L[i].f0 ≥ n
      · rw [if_pos h2, decide_eq_false (p := L[i].f0 < n) (by omega)]; rfl
      · rw [if_neg h2, decide_eq_true (p := L[i].f0 < n) (by omega)]
        by_cases h3 : L[i].f1.length = 32
        · rw [if_pos (by omega), decide_eq_true h3]
          by_cases h4 : L[i].f2.length = 12
          · rw [if_pos (by omega), decide_eq_true h4]; rfl
          · rw [if_neg (by omega), decide_eq_false h4]; rfl
        · rw [if_neg (by omega), decide_eq_false h3]; rfl
theorem right_some (n : Int) (s : List Int) (L : List R.S43) (k : Nat) (hk : 40 ≤ k) : R.ratch_Right.f k n s L = some (rightC n s L) := by
  obtain ⟨k, rfl⟩ : ∃ m, k = m + 1 := ⟨k - 1, by omega⟩
  unfold R.ratch_Right.f rightC
  simp only [R.ratch_Right.j0]
  by_cases h1 : n < 0
  · rw [if_pos h1, decide_eq_false (p := 0 ≤ n) (by omega)]; rfl
  rw [if_neg h1, decide_eq_true (p := 0 ≤ n) (by omega)]
  by_cases h2 : n > 4294967294
  · rw [if_pos h2, decide_eq_false (p := n ≤ 4294967294) (by omega)]; rfl
  rw [if_neg h2, decide_eq_true (p := n ≤ 4294967294) (by omega)]
  by_cases h3 : s.length = 32
  · rw [if_pos (by omega), decide_eq_true h3]
    by_cases h4 : L.length ≤ 32
    · rw [decide_eq_false (p := (L.length : Int) > 32) (by omega), decide_eq_true h4, if_neg (by decide)]
      have := right_l0 n s L (by omega) L.length k 0 (-1) (by omega) (by omega)
      rw [show ((0 : Nat) : Int) = 0 from rfl] at this
      rw [this, List.drop_zero]
      rfl
    · rw [decide_eq_true (p := (L.length : Int) > 32) (by omega), decide_eq_false h4, if_pos rfl]; rfl
  · rw [if_neg (by omega), decide_eq_false h3]; rfl
/-- pyxref13.Right's loop. -/
theorem refRight_l0 (n : Int) (s : List Int) (L : List R.S43) (hL : L.length ≤ 100) : ∀ (d k i : Nat) (last : Int), i + d = L.length → d < k → (i = 0 → last = -1) → (∀ j (hj : j < L.length), i = j + 1 → last = L[j].f0 ∧ 0 ≤ last) → R.pyxref13_Right.l0 k (i : Int) n s L = some (rises n last (L.drop i)) := by
  intro d
  induction d with
  | zero =>
    intro k i last hd hk h0 h1
    obtain ⟨k, rfl⟩ : ∃ m, k = m + 1 := ⟨k - 1, by omega⟩
    simp only [R.pyxref13_Right.l0]
    rw [if_neg (by omega), List.drop_of_length_le (by omega)]
    rfl
  | succ d ih =>
    intro k i last hd hk h0 h1
    obtain ⟨k, rfl⟩ : ∃ m, k = m + 1 := ⟨k - 1, by omega⟩
    have hi : i < L.length := by omega
    simp only [R.pyxref13_Right.l0]
    rw [if_pos (by omega), if_pos (by omega), rd43 L i hi, List.drop_eq_getElem_cons hi, rises, wrap_up i (by omega)]
    have hlast : -1 ≤ last := by
      cases i with
      | zero => have := h0 rfl; omega
      | succ j => have := h1 j (by omega) rfl; omega
    by_cases g1 : L[i].f0 < 0
    · rw [if_pos g1, decide_eq_false (p := last < L[i].f0) (by omega)]; rfl
    rw [if_neg g1]
    have hih : L[i].f0 < n → L[i].f1.length = 32 → L[i].f2.length = 12 → last < L[i].f0 → R.pyxref13_Right.l0 k ((i + 1 : Nat) : Int) n s L = some (rises n L[i].f0 (L.drop (i + 1))) := fun _ _ _ _ =>
      ih k (i + 1) _ (by omega) (by omega) (by omega) (fun j hj e => by obtain rfl : i = j := (by omega); exact ⟨rfl, by omega⟩)
    by_cases h2 : L[i].f0 ≥ n
    · rw [if_pos h2, decide_eq_false (p := L[i].f0 < n) (by omega), Bool.false_and, Bool.and_false]
    rw [if_neg h2, decide_eq_true (p := L[i].f0 < n) (by omega)]
    by_cases h3 : L[i].f1.length = 32
    case neg => rw [if_neg (by omega), decide_eq_false h3, Bool.false_and, Bool.and_false, Bool.and_false]
    rw [if_pos (by omega), decide_eq_true h3]
    by_cases h4 : L[i].f2.length = 12
    case neg => rw [if_neg (by omega), decide_eq_false h4, Bool.false_and, Bool.and_false, Bool.and_false, Bool.and_false]
    rw [if_pos (by omega), decide_eq_true h4]
    cases i with
    | zero =>
      have := h0 rfl
      rw [if_neg (by omega), decide_eq_true (p := last < L[0].f0) (by omega), hih (by omega) h3 h4 (by omega)]
      rfl
    | succ j =>
      have hj : j < L.length := by omega
      have e := (h1 j hj rfl).1
      rw [if_pos (by omega), wrap_down j (by omega), if_pos (by omega), if_pos (by omega), rd43 L j hj, ← e]
      by_cases h5 : last ≥ L[j + 1].f0
      · rw [if_pos h5, decide_eq_false (p := last < L[j + 1].f0) (by omega)]; rfl
      · rw [if_neg h5, decide_eq_true (p := last < L[j + 1].f0) (by omega), hih (by omega) h3 h4 (by omega)]; rfl
theorem refRight_some (n : Int) (s : List Int) (L : List R.S43) (k : Nat) (hk : 40 ≤ k) : R.pyxref13_Right.f k n s L = some (rightC n s L) := by
  obtain ⟨k, rfl⟩ : ∃ m, k = m + 1 := ⟨k - 1, by omega⟩
  unfold R.pyxref13_Right.f rightC
  simp only [R.pyxref13_Right.j0]
  by_cases h1 : n < 0
  · rw [if_pos h1, decide_eq_false (p := 0 ≤ n) (by omega)]; rfl
  rw [if_neg h1, decide_eq_true (p := 0 ≤ n) (by omega)]
  by_cases h2 : n > 4294967294
  · rw [if_pos h2, decide_eq_false (p := n ≤ 4294967294) (by omega)]; rfl
  rw [if_neg h2, decide_eq_true (p := n ≤ 4294967294) (by omega)]
  by_cases h3 : s.length = 32
  · rw [if_pos (by omega), decide_eq_true h3]
    by_cases h4 : L.length ≤ 32
    · rw [decide_eq_false (p := (L.length : Int) > 32) (by omega), decide_eq_true h4, if_neg (by decide)]
      have := refRight_l0 n s L (by omega) L.length k 0 (-1) (by omega) (by omega) (fun _ => rfl) (fun j hj e => by omega)
      rw [show ((0 : Nat) : Int) = 0 from rfl] at this
      rw [this, List.drop_zero]
      rfl
    · rw [decide_eq_true (p := (L.length : Int) > 32) (by omega), decide_eq_false h4, if_pos rfl]; rfl
  · rw [if_neg (by omega), decide_eq_false h3]; rfl
/-- pyxref13.Few's loop. -/
theorem few_l0 (n : Int) (s : List Int) (L : List R.S43) (hL : L.length ≤ 100) : ∀ (d k i : Nat), i + d = L.length → d < k → R.pyxref13_Few.l0 k (i : Int) n s L = some (fewL (L.drop i)) := by
  intro d
  induction d with
  | zero =>
    intro k i hd hk
    obtain ⟨k, rfl⟩ : ∃ m, k = m + 1 := ⟨k - 1, by omega⟩
    simp only [R.pyxref13_Few.l0]
    rw [if_neg (by omega), List.drop_of_length_le (by omega)]
    rfl
  | succ d ih =>
    intro k i hd hk
    obtain ⟨k, rfl⟩ : ∃ m, k = m + 1 := ⟨k - 1, by omega⟩
    have hi : i < L.length := by omega
    simp only [R.pyxref13_Few.l0]
    rw [if_pos (by omega), if_pos (by omega), rd43 L i hi, List.drop_eq_getElem_cons hi, wrap_up i (by omega), ih k (i + 1) (by omega) (by omega)]
    unfold fewL
    rw [List.all_cons]
    by_cases h1 : L[i].f1.length ≤ 40
    · rw [if_neg (by omega), decide_eq_true h1]
      by_cases h2 : L[i].f2.length ≤ 40
      · rw [if_neg (by omega), decide_eq_true h2]; rfl
      · rw [if_pos (by omega), decide_eq_false h2]; rfl
    · rw [if_pos (by omega), decide_eq_false h1]; rfl
theorem few_some (n : Int) (s : List Int) (L : List R.S43) (k : Nat) (hk : 50 ≤ k) : R.pyxref13_Few.f k n s L = some (fewC s L) := by
  obtain ⟨k, rfl⟩ : ∃ m, k = m + 1 := ⟨k - 1, by omega⟩
  unfold R.pyxref13_Few.f fewC
  simp only [R.pyxref13_Few.j0]
  by_cases h1 : s.length ≤ 40
  · rw [if_neg (by omega), decide_eq_true h1]
    by_cases h2 : L.length ≤ 40
    · rw [decide_eq_false (p := (L.length : Int) > 40) (by omega), decide_eq_true h2, if_neg (by decide)]
      have := few_l0 n s L (by omega) L.length k 0 (by omega) (by omega)
      rw [show ((0 : Nat) : Int) = 0 from rfl] at this
      rw [this, List.drop_zero]
      rfl
    · rw [decide_eq_true (p := (L.length : Int) > 40) (by omega), decide_eq_false h2, if_pos rfl]; rfl
  · rw [if_pos (by omega), decide_eq_false h1]; rfl
theorem sameL_ref (a b : R.S43) (ha : lockOk a) (hb : lockOk b) : R.pyxref13_SameLock.f a.f0 a.f1 a.f2 b.f0 b.f1 b.f2 = some (sameK a b) := by
  unfold R.pyxref13_SameLock.f sameK
  rw [show P.pyxref01_Same.f a.f1 b.f1 = some (a.f1 == b.f1) from if_pos ⟨ha.1, hb.1⟩, show P.pyxref01_Same.f a.f2 b.f2 = some (a.f2 == b.f2) from if_pos ⟨ha.2, hb.2⟩]
  by_cases h1 : a.f0 = b.f0
  · rw [if_pos h1, decide_eq_true h1]
    cases a.f1 == b.f1 <;> rfl
  · rw [if_neg h1, decide_eq_false h1]; rfl
theorem sameL_own (a b : R.S43) (ha : lockOk a) (hb : lockOk b) : R.ratch_sameLock.f a.f0 a.f1 a.f2 b.f0 b.f1 b.f2 = some (sameK a b) := by
  unfold R.ratch_sameLock.f sameK R.bytes_Equal.f
  rw [strOfNums_inj _ _ ha.1 hb.1, strOfNums_inj _ _ ha.2 hb.2]
  by_cases h1 : a.f0 = b.f0
  · rw [if_pos h1, decide_eq_true h1]
    cases a.f1 == b.f1 <;> rfl
  · rw [if_neg h1, decide_eq_false h1]; rfl
end Go.Proofs.YtdklmafkcbjomaaDoor

/-! RatO -/
namespace Go.Proofs.YtdklmafkcbjomaaDoor
set_option linter.unusedVariables false
set_option linter.unusedSimpArgs false
open Go.RowKit Go.Shelf Go.Proofs.YtdklmafkcbjomaaDoorW.PrintWords Go.Proofs.YtdklmafkcbjomaaDoorW.PrintLast Go.Proofs.YtdklmafkcbjomaaDoorW.PrintMore Iter
attribute [local go_sem] Oper.semAt_some
theorem getD43 (L : List R.S43) (i : Nat) (h : i < L.length) : L.getD i R.z43 = L[i] := by
  rw [List.getD_eq_getElem?_getD, List.getElem?_eq_getElem h]
  rfl
theorem sameLs_drop (L M : List R.S43) (k : Nat) (hk : k < L.length) (hk' : k < M.length) : sameLs (L.drop k) (M.drop k) = (sameK (L.getD k R.z43) (M.getD k R.z43) && sameLs (L.drop (k + 1)) (M.drop (k + 1))) := by
  rw [List.drop_eq_getElem_cons hk, List.drop_eq_getElem_cons hk', sameLs, getD43 L k hk, getD43 M k hk']
set_option maxRecDepth 100000 in
set_option maxHeartbeats 2000000 in
theorem equal_calls (A B : Option Addr) (c d : Nat) (L M : List R.S43) (w : World) (hl : L.length ≤ 1000) (hC : Kd.C R.k43 w A L.length L) (hD : Kd.C R.k43 w B M.length M) (oL : locksOk L) (oM : locksOk M) :
    Calls Tryd.prog 35 #[.slice A L.length c, .slice B M.length d, .func (.func 36) #[] #[]] w fun e w' => e = .returned (.bool (sameLs L M)) ∧ Below w.heap.size w w' := by
  by_cases hne : L.length = M.length
  case neg =>
    have d0 : ((L.length : Int) != (M.length : Int)) = true := by simp only [bne_iff_ne, ne_eq, Int.natCast_inj]; exact hne
    rw [sameLs_len L M hne]
    clear hC hD hne oL oM
    go_enter Tryd.func35, Tryd.ntmps35
    go_wp2
    go_ret
    exact ⟨rfl, Below.refl _ _⟩
  have d0 : ((L.length : Int) != (M.length : Int)) = false := by rw [hne]; exact bne_self_eq_false _
  have HK := Lib.hid (And.intro hC (And.intro hD (And.intro oL (And.intro oM (And.intro hne hl)))))
  obtain ⟨z, hz⟩ : ∃ z, M.length = z := ⟨_, rfl⟩
  have HZ := Lib.hid hz
  rw [hz] at d0 ⊢
  clear hC hD oL oM hne hl hz
  go_enter Tryd.func35, Tryd.ntmps35
  go_wp2
  go_loopw [17] (fun i wr => ∃ k : Nat, k ≤ L.length ∧ i = .int .i64 (k : Int) ∧ Hid (sameLs L M = sameLs (L.drop k) (M.drop k)) ∧ Hid (Below w.heap.size w wr)) (fun i _ => L.length - (intOf i).toNat)
  case atStart => exact ⟨0, Nat.zero_le _, rfl, Lib.hid rfl, Lib.hid (Below.refl _ _)⟩
  case round =>
    obtain ⟨k, hk, rfl, HN, HB⟩ := hrel
    by_cases hlt : k < L.length
    · have d0 : decide ((k : Int) < (L.length : Int)) = true := by simp; exact hlt
      have p0 : (0 : Int) ≤ (k : Int) := Int.natCast_nonneg _
      have p1 : (k : Int) < (L.length : Int) := by omega
      have hlt' : k < M.length := by have := HK.out.2.2.2.2.1; omega
      have p2 : (k : Int) < (z : Int) := by have := HZ.out; omega
      have p3 : (k : Int) < (M.length : Int) := by omega
      obtain ⟨ad, A1, c1, A2, c2, rfl, x0, x1, x2, lx1, gx1, lx2, gx2⟩ := R.at_T43 (Kd.C_below HK.out.1 HB.out) (k : Int) p0 p1
      obtain ⟨bd, B1, e1, B2, e2, rfl, y0, y1, y2, ly1, gy1, ly2, gy2⟩ := R.at_T43 (Kd.C_alloc (Kd.C_below HK.out.2.1 HB.out) (Obj.cells #[.int .i64 (R.rd_T43 L (k : Int)).f0, .slice A1 (R.rd_T43 L (k : Int)).f1.length c1, .slice A2 (R.rd_T43 L (k : Int)).f2.length c2] 43)) (k : Int) p0 p3
      have hf : R.rd_T43 L (k : Int) = L.getD k R.z43 := by unfold R.rd_T43; rw [Int.toNat_natCast]
      have hf' : R.rd_T43 M (k : Int) = M.getD k R.z43 := by unfold R.rd_T43; rw [Int.toNat_natCast]
      rw [hf] at x0 x1 x2 lx1 gx1 lx2 gx2 y0 y1 y2 gy1 gy2
      rw [hf'] at y0 y1 y2 ly1 gy1 ly2 gy2
      rw [Int.toNat_natCast] at x0 x1 x2 y0 y1 y2
      have hsm := sameL_own (L.getD k R.z43) (M.getD k R.z43) (by rw [getD43 L k hlt]; exact HK.out.2.2.1 _ (List.getElem_mem hlt)) (by rw [getD43 M k hlt']; exact HK.out.2.2.2.1 _ (List.getElem_mem hlt'))
      have hst := sameLs_drop L M k hlt hlt'
      have HW := Lib.hid (show wrap64 ((k : Int) + 1) = ((k + 1 : Nat) : Int) from by have := HK.out.2.2.2.2.2; unfold wrap64; omega)
      have HM := Lib.hid (show L.length - (intOf (.int .i64 ((k + 1 : Nat) : Int))).toNat < L.length - (intOf (.int .i64 (k : Int))).toNat by simp [intOf]; omega)
      have HS := Lib.hid (And.intro hsm (And.intro hst (And.intro gx1 (And.intro lx1 (And.intro gx2 (And.intro lx2 (And.intro gy1 (And.intro ly1 (And.intro gy2 ly2)))))))))
      clear hf hf' hsm hst gx1 lx1 gx2 lx2 gy1 ly1 gy2 ly2 hlt'
      generalize (L.getD k R.z43).f0 = F0 at *
      generalize (L.getD k R.z43).f1 = F1 at *
      generalize (L.getD k R.z43).f2 = F2 at *
      generalize (M.getD k R.z43).f0 = G0 at *
      generalize (M.getD k R.z43).f1 = G1 at *
      generalize (M.getD k R.z43).f2 = G2 at *
      go_wp2_with fail
      have hb2 : Below wr.heap.size wr ((wr.alloc (Obj.cells #[.int .i64 F0, .slice A1 F1.length c1, .slice A2 F2.length c2] 43)).alloc (Obj.cells #[.int .i64 G0, .slice B1 G1.length e1, .slice B2 G2.length e2] 43)) := ((Below.refl _ wr).alloc (Nat.le_refl _) _).alloc (by simp) _
      refine (R.ratch_sameLock.calls F0 A1 c1 F1 A2 c2 F2 G0 B1 e1 G1 B2 e2 G2 _ _ (Kd.C_below HS.out.2.2.1 hb2) HS.out.2.2.2.1 (Kd.C_below HS.out.2.2.2.2.1 hb2) HS.out.2.2.2.2.2.1 (Kd.C_alloc HS.out.2.2.2.2.2.2.1 _) HS.out.2.2.2.2.2.2.2.1 (Kd.C_alloc HS.out.2.2.2.2.2.2.2.2.1 _) HS.out.2.2.2.2.2.2.2.2.2 HS.out.1).mono ?_
      rintro e W1 ⟨rfl, hb1⟩
      have HB1 := Lib.hid ((HB.out.trans (hb2.mono HB.out.size)).trans (hb1.mono (Nat.le_trans HB.out.size hb2.size)))
      clear hb1 hb2 x0 x1 x2 y0 y1 y2
      obtain ⟨b, hb⟩ : ∃ b, sameK (L.getD k R.z43) (M.getD k R.z43) = b := ⟨_, rfl⟩
      rw [hb] at HS ⊢
      have HT := Lib.hid HS.out.2.1
      clear HS hb
      cases b with
      | false =>
        go_wp2
        go_ret
        exact ⟨by rw [HN.out, HT.out]; rfl, HB1.out⟩
      | true =>
        go_wp2
        refine ⟨⟨k + 1, hlt, by rw [HW.out], Lib.hid (by rw [HN.out, HT.out]; rfl), HB1⟩, by rw [HW.out]; exact HM.out⟩
    · obtain rfl : k = L.length := by omega
      have d0 : decide ((L.length : Int) < (L.length : Int)) = false := by simp
      have hx : sameLs L M = true := by
        have h1 := HK.out.2.2.2.2.1
        rw [HN.out, List.drop_length, h1, List.drop_length]
        rfl
      go_wp2
      go_ret
      exact ⟨by rw [hx]; rfl, HB.out⟩
theorem drawn_below {w w' : World} (h : Drawn0 w w') : Below w.heap.size w w' := by
  obtain ⟨n, rfl⟩ := h.out
  exact pw_below_drewN (Below.refl _ _) n
theorem bytesEqual_some (a b : List Int) (ha : byteOk a = true) (hb : byteOk b = true) : R.bytes_Equal.f a b = some (a == b) := by
  unfold R.bytes_Equal.f
  rw [strOfNums_inj _ _ ha hb]
set_option maxRecDepth 100000 in
set_option maxHeartbeats 2000000 in
theorem same_calls (n n' : Int) (A0 A1 B0 B1 : Option Addr) (c0 c1 d0 d1 : Nat) (s s' : List Int) (L M : List R.S43) (w : World) (os : byteOk s = true) (os' : byteOk s' = true) (oL : locksOk L) (oM : locksOk M) (hl : L.length ≤ 1000)
    (hs : Kd.C (Kd.int .u8) w A0 s.length s) (hc0 : s.length ≤ c0) (hL : Kd.C R.k43 w A1 L.length L) (hs' : Kd.C (Kd.int .u8) w B0 s'.length s') (hd0 : s'.length ≤ d0) (hM : Kd.C R.k43 w B1 M.length M) :
    Calls Tryd.prog 20 #[.agg #[.int .i64 n, .slice A0 s.length c0, .slice A1 L.length c1], .agg #[.int .i64 n', .slice B0 s'.length d0, .slice B1 M.length d1]] w fun e w' => e = .returned (.bool (sameC n s L n' s' M)) ∧ Below w.heap.size w w' := by
  have hb : Below w.heap.size w ((w.alloc (Obj.cells #[.int .i64 n, .slice A0 s.length c0, .slice A1 L.length c1] 25)).alloc (Obj.cells #[.int .i64 n', .slice B0 s'.length d0, .slice B1 M.length d1] 25)) := ((Below.refl _ w).alloc (Nat.le_refl _) _).alloc (by simp) _
  have HB := Lib.hid hb
  have HE := Lib.hid (fun W (hW : Below w.heap.size w W) => equal_calls A1 B1 c1 d1 L M W hl (Kd.C_below hL hW) (Kd.C_below hM hW) oL oM)
  have HQ := Lib.hid (R.bytes_Equal.calls A0 c0 s B0 d0 s' _ _ (Kd.C_below hs hb) hc0 (Kd.C_below hs' hb) hd0 (bytesEqual_some s s' os os'))
  clear hs hs' hL hM hc0 hd0 oL oM hl os os' hb
  by_cases hn : n = n'
  case neg =>
    have e : (n == n') = false := beq_eq_false_iff_ne.mpr hn
    have ec : sameC n s L n' s' M = false := by unfold sameC; rw [decide_eq_false hn]; rfl
    rw [ec]
    clear hn HE HQ ec
    go_enter Tryd.func20, Tryd.ntmps20
    go_wp2
    go_ret
    exact ⟨rfl, HB.out⟩
  have ec : sameC n s L n' s' M = ((s == s') && sameLs L M) := by unfold sameC; rw [decide_eq_true hn]; rfl
  rw [ec]
  subst hn
  have e : (n == n) = true := beq_self_eq_true _
  clear ec
  obtain ⟨b, hbb⟩ : ∃ b, (s == s') = b := ⟨_, rfl⟩
  obtain ⟨b2, hb2⟩ : ∃ b, sameLs L M = b := ⟨_, rfl⟩
  rw [hbb] at HQ ⊢
  rw [hb2] at HE ⊢
  clear hbb hb2
  cases b with
  | false =>
    go_enter Tryd.func20, Tryd.ntmps20
    go_wp2_with fail
    refine HQ.out.mono ?_
    rintro e W1 ⟨rfl, hq0⟩
    have hq := drawn_below hq0
    clear hq0
    go_wp2
    go_ret
    exact ⟨rfl, HB.out.trans (hq.mono HB.out.size)⟩
  | true =>
    go_enter Tryd.func20, Tryd.ntmps20
    go_wp2_with fail
    refine HQ.out.mono ?_
    rintro e W1 ⟨rfl, hq0⟩
    have hq := drawn_below hq0
    clear hq0
    have HB1 := Lib.hid (HB.out.trans (hq.mono HB.out.size))
    have x0 : W1.cell? ⟨w.heap.size, 2, none⟩ = some (.slice A1 L.length c1) := by
      have := ((Blk.new w 25 #[.int .i64 n, .slice A0 s.length c0, .slice A1 L.length c1]).alloc (Obj.cells #[.int .i64 n, .slice B0 s'.length d0, .slice B1 M.length d1] 25))
      exact (this.below hq this.lt).cell 2
    have x1 : W1.cell? ⟨w.heap.size + 1, 2, none⟩ = some (.slice B1 M.length d1) := by
      have := Blk.new (w.alloc (Obj.cells #[.int .i64 n, .slice A0 s.length c0, .slice A1 L.length c1] 25)) 25 #[.int .i64 n, .slice B0 s'.length d0, .slice B1 M.length d1]
      rw [World.size_alloc] at this
      exact (this.below hq this.lt).cell 2
    clear hq
    go_wp2_with fail
    refine (HE.out W1 HB1.out).mono ?_
    rintro e W2 ⟨rfl, hq2⟩
    have HB2 := Lib.hid (HB1.out.trans (hq2.mono HB1.out.size))
    clear hq2
    go_wp2
    go_ret
    exact ⟨rfl, HB2.out⟩
end Go.Proofs.YtdklmafkcbjomaaDoor

/-! RatP -/
namespace Go.Proofs.YtdklmafkcbjomaaDoor
set_option linter.unusedVariables false
set_option linter.unusedSimpArgs false
open Go.RowKit Go.Shelf Go.Proofs.YtdklmafkcbjomaaDoorW.PrintWords Go.Proofs.YtdklmafkcbjomaaDoorW.PrintLast Go.Proofs.YtdklmafkcbjomaaDoorW.PrintMore Iter
attribute [local go_sem] Oper.semAt_some
theorem madeB_eq13 (n : Nat) : madeCells (Value.int IntKind.u8 0).cells (n * 1) = (nums .u8 (List.replicate n 0)).toArray := by
  apply Array.ext
  · simp [madeCells, nums]
  · intro i h1 h2
    simp [madeCells, nums, Value.cells, Nat.mod_one]
theorem madeN13 (n : Nat) (m : Int) (hm : m = (n : Int)) (hn : n ≤ 140737488355328) (W : World) : (Instr.makeSlice 22 (.int .i64 m) (.int .i64 m)).run Tryd.prog W = .ok (.slice (some ⟨W.heap.size, 0, none⟩) n n) (W.alloc (.cells (nums .u8 (List.replicate n 0)).toArray 5)) := by
  subst hm
  obtain ⟨i, hi, hz⟩ := Option.map_eq_some_iff.1 (show (Tryd.prog.info? 5).map (fun i => (i.zero, i.size, i.bytes)) = some (some (.int .u8 0), 1, 1) by kernel_rfl)
  simp only [Prod.mk.injEq] at hz
  obtain ⟨h0, h1, h2⟩ := hz
  have h := run_make (P := Tryd.prog) (w := W) 22 5 i (.int .u8 0) Tryd.underlying22 hi h0 .i64 .i64 (n : Int) (n : Int) (by omega) (by omega) (by rw [h2]; omega) (by omega)
  rw [h1, Int.toNat_natCast, madeB_eq13] at h
  exact h
/-- Two boxes are made. -/
theorem two_boxes (W : World) (cs ds : Array Value) (t t' : TypeId) : Blk ((W.alloc (.cells cs t)).alloc (.cells ds t')) W.heap.size t cs ∧ Blk ((W.alloc (.cells cs t)).alloc (.cells ds t')) (W.heap.size + 1) t' ds ∧ Below W.heap.size W ((W.alloc (.cells cs t)).alloc (.cells ds t')) ∧ ((W.alloc (.cells cs t)).alloc (.cells ds t')).heap.size = W.heap.size + 2 := by
  have b := Blk.new (W.alloc (.cells cs t)) t' ds
  rw [World.size_alloc] at b
  exact ⟨(Blk.new W t cs).alloc _, b, ((Below.refl _ W).alloc (Nat.le_refl _) _).alloc (by simp) _, by simp⟩
theorem takeF_adv (n d : Nat) (s : List Int) (L : List R.S43) (hx : idxL L ((n + d : Nat) : Int) = none) (hd : d ≤ 100) (hm : n + d < 4294967294) : takeF n s L ((n + d : Nat) : Int) = (n + (d + 1), secS s n (d + 1), (L ++ passed s n d).drop (L.length + d - 32), lockN s n d, 0) := by
  have hdd : (((n + d : Nat) : Int) - (n : Int)).toNat = d := by omega
  unfold takeF
  rw [if_neg (by omega), hx]
  dsimp only
  rw [if_neg (by omega), if_neg (by omega), hdd]
theorem lockN_f0 (s : List Int) (n k : Nat) : (lockN s n k).f0 = ((n + k : Nat) : Int) := rfl
theorem lockN_l1 (s : List Int) (n k : Nat) : (lockN s n k).f1.length = 32 := labelOf_length _ _ _ _
theorem lockN_l2 (s : List Int) (n k : Nat) : (lockN s n k).f2.length = 12 := labelOf_length _ _ _ _
theorem lockN_ok (s : List Int) (n k : Nat) : lockOk (lockN s n k) := ⟨byteOk_labelOf _ _ _ _, byteOk_labelOf _ _ _ _⟩
theorem passed_ok (s : List Int) (n k : Nat) : locksOk (passed s n k) := by
  intro x hx
  obtain ⟨j, -, rfl⟩ := List.mem_map.1 hx
  exact lockN_ok s n j
theorem sh_take1 (s : List Int) : takeF 0 s [] 2 = (3, secS s 0 3, [lockN s 0 0, lockN s 0 1], lockN s 0 2, 0) := takeF_adv 0 2 s [] rfl (by decide) (by decide)
theorem sh_take2 (s t : List Int) : takeF 3 t [lockN s 0 0, lockN s 0 1] 0 = (3, t, [lockN s 0 1], lockN s 0 0, 0) := by
  unfold takeF
  rw [if_neg (by decide)]
  have : idxL [lockN s 0 0, lockN s 0 1] 0 = some 0 := by rw [idxL, if_pos (show (lockN s 0 0).f0 = 0 from rfl)]
  rw [this]
  rfl
theorem sh_take3 (s t : List Int) : takeF 3 t [lockN s 0 1] 0 = (3, t, [lockN s 0 1], R.z43, 9) := by
  unfold takeF
  rw [if_neg (by decide)]
  have : idxL [lockN s 0 1] 0 = none := by rw [idxL, if_neg (by rw [lockN_f0]; decide)]; rfl
  rw [this]
  rfl
theorem sh_right (s t : List Int) (h : t.length = 32) : rightC 3 t [lockN s 0 0, lockN s 0 1] = true := by
  unfold rightC
  rw [decide_eq_true h]
  simp only [rises, lockN_f0, lockN_l1, lockN_l2]
  simp
/-- Names for the example's rows. -/
structure ShV where
  s : List Int
  t : List Int
  k0 : R.S43
  k1 : R.S43
  k2 : R.S43
def ShP (v : ShV) : Prop := v.s.length = 32 ∧ byteOk v.s = true ∧ v.t.length = 32 ∧ byteOk v.t = true ∧ takeF 0 v.s [] 2 = (3, v.t, [v.k0, v.k1], v.k2, 0) ∧ takeF 3 v.t [v.k0, v.k1] 0 = (3, v.t, [v.k1], v.k0, 0) ∧ takeF 3 v.t [v.k1] 0 = (3, v.t, [v.k1], R.z43, 9) ∧
  rightC 3 v.t [v.k0, v.k1] = true ∧ v.k0.f0 = 0 ∧ v.k1.f0 = 1 ∧ v.k2.f0 = 2 ∧ v.k2.f1.length = 32 ∧ lockOk v.k0 ∧ lockOk v.k1
theorem shP_of (s : List Int) (h : s.length = 32) (o : byteOk s = true) : ShP ⟨s, secS s 0 3, lockN s 0 0, lockN s 0 1, lockN s 0 2⟩ :=
  ⟨h, o, secS_length s 0 h 3, byteOk_secS s 0 o 3, sh_take1 s, sh_take2 s _, sh_take3 s _, sh_right s _ (secS_length s 0 h 3), lockN_f0 s 0 0, lockN_f0 s 0 1, lockN_f0 s 0 2, lockN_l1 s 0 2, lockN_ok s 0 0, lockN_ok s 0 1⟩
def Z32r : List Int := List.replicate 32 0
set_option maxRecDepth 100000 in
set_option maxHeartbeats 4000000 in
theorem shown13_calls (w : World) (hT : TabOk w) : Calls Tryd.prog 10 #[] w fun e w' => e = .returned (.bool true) ∧ Below w.heap.size w w' := by
  obtain ⟨V, hV⟩ : ∃ V : ShV, ShP V ∧ leafS Z32r 2 1 = V.s := ⟨_, shP_of _ (leafS_length Z32r 2 1) (byteOk_leafS Z32r 2 1), rfl⟩
  have HV := Lib.hid hV
  have HT := Lib.hid hT
  have m32 : Hid (∀ W : World, (Instr.makeSlice 22 (.int .i64 32) (.int .i64 32)).run Tryd.prog W = .ok (.slice (some ⟨W.heap.size, 0, none⟩) 32 32) (W.alloc (.cells (nums .u8 Z32r).toArray 5))) := Lib.hid (madeN13 32 32 rfl (by decide))
  clear hV hT
  go_enter Tryd.func10, Tryd.ntmps10
  go_wp2_with fail
  rw [m32.out]
  have H0 := Lib.hid (And.intro (show Kd.C (Kd.int .u8) (w.alloc (Obj.cells (nums .u8 Z32r).toArray 5)) (some ⟨w.heap.size, 0, none⟩) 32 Z32r from c_lit w 5 Z32r (by decide)) ((Below.refl w.heap.size w).alloc (Nat.le_refl _) (Obj.cells (nums .u8 Z32r).toArray 5)))
  generalize (w.alloc (Obj.cells (nums .u8 Z32r).toArray 5)) = W1 at *
  go_wp2_with fail
  refine (start_calls (some ⟨w.heap.size, 0, none⟩) 32 Z32r 2 1 4 1 rfl rfl W1 (HT.out.below H0.out.2 HT.out.1) (by decide) (by decide) rfl (by decide) H0.out.1 (Nat.le_refl _)).mono ?_
  rw [HV.out.2]
  rintro e W2 ⟨A, c, rfl, hl, hC, hb⟩
  have H1 := Lib.hid (And.intro hl (And.intro hC (And.intro (Kd.C_below H0.out.1 hb) (H0.out.2.trans (hb.mono H0.out.2.size)))))
  clear hl hC hb H0
  go_wp2_with fail
  have b1 := Blk.new W2 25 #[.int .i64 0, .slice A V.s.length c, .slice none 0 0]
  have hb1 : Below W2.heap.size W2 (W2.alloc (Obj.cells #[.int .i64 0, .slice A V.s.length c, .slice none 0 0] 25)) := (Below.refl _ W2).alloc (Nat.le_refl _) _
  have H2 := Lib.hid (And.intro H1.out.1 (And.intro (Kd.C_below H1.out.2.1 hb1) (And.intro (Kd.C_below H1.out.2.2.1 hb1) (And.intro (H1.out.2.2.2.trans (hb1.mono H1.out.2.2.2.size)) b1))))
  generalize W2.alloc (Obj.cells #[.int .i64 0, .slice A V.s.length c, .slice none 0 0] 25) = W3 at *
  obtain ⟨gc, hgc⟩ : ∃ g, W2.heap.size = g := ⟨_, rfl⟩
  rw [hgc] at H2 ⊢
  clear hgc b1 hb1 H1
  refine (take_calls 0 2 A V.s c none [] 0 W3 H2.out.2.1 H2.out.1 (Kd.C_nil _ _) (Nat.le_refl _) HV.out.1.1 HV.out.1.2.1 (by decide) (by decide)).mono ?_
  rw [HV.out.1.2.2.2.2.1]
  rintro e W4 ⟨As, cs, Ap, cp, Ak, ck, An, cn, rfl, q1, q2, q3, q4, q5, q6, q7, q8, hb⟩
  have H3 := Lib.hid (And.intro q1 (And.intro q2 (And.intro q3 (And.intro q4 (And.intro (H2.out.2.2.2.1.trans (hb.mono H2.out.2.2.2.1.size)) (And.intro (H2.out.2.2.2.2.below hb H2.out.2.2.2.2.lt) (And.intro (Kd.C_below H2.out.2.1 hb) (And.intro (Kd.C_below H2.out.2.2.1 hb) H2.out.1))))))))
  clear q1 q2 q3 q4 q5 q6 q7 q8 hb H2
  dsimp only
  generalize hzk : V.k2.f1.length = zk at *
  generalize hzn : V.k2.f2.length = zn at *
  have HZ := Lib.hid hzk
  clear hzk hzn
  rw [show V.k2.f0 = 2 from HV.out.1.2.2.2.2.2.2.2.2.2.2.1]
  go_wp2_with fail
  obtain ⟨r1, r2, r3, r4⟩ := two_boxes W4 #[.int .i64 3, .slice As V.t.length cs, .slice Ap 2 cp] #[.int .i64 2, .slice Ak zk ck, .slice An zn cn] 25 43
  -- s: the rows of c and send; t: those of d
  have G0 := Lib.hid (And.intro H3.out.1 (And.intro (Kd.C_below H3.out.2.1 r3) (And.intro H3.out.2.2.1 (And.intro (Kd.C_below H3.out.2.2.2.1 r3) (And.intro (H3.out.2.2.2.2.1.trans (r3.mono H3.out.2.2.2.2.1.size)) (And.intro (H3.out.2.2.2.2.2.1.below r3 H3.out.2.2.2.2.2.1.lt) (And.intro (Kd.C_below H3.out.2.2.2.2.2.2.1 r3) (And.intro (Kd.C_below H3.out.2.2.2.2.2.2.2.1 r3) (And.intro H3.out.2.2.2.2.2.2.2.2 (And.intro r1 r2))))))))))
  generalize ((W4.alloc (.cells #[.int .i64 3, .slice As V.t.length cs, .slice Ap 2 cp] 25)).alloc (.cells #[.int .i64 2, .slice Ak zk ck, .slice An zn cn] 43)) = W5 at *
  obtain ⟨gd, hgd⟩ : ∃ g, W4.heap.size = g := ⟨_, rfl⟩
  rw [hgd] at G0 ⊢
  clear hgd r1 r2 r3 r4 H3
  refine (take_calls 3 0 As V.t cs Ap [V.k0, V.k1] cp W5 G0.out.2.1 G0.out.1 G0.out.2.2.2.1 G0.out.2.2.1 HV.out.1.2.2.1 HV.out.1.2.2.2.1 (by simp) (by decide)).mono ?_
  rw [HV.out.1.2.2.2.2.2.1]
  rintro e W6 ⟨Bs, es, Bp, ep, Bk, ek, Bn, en, rfl, q1, q2, q3, q4, -, -, -, -, hb⟩
  have G1 := Lib.hid (And.intro q1 (And.intro q2 (And.intro q3 (And.intro q4 (And.intro (G0.out.2.2.2.2.1.trans (hb.mono G0.out.2.2.2.2.1.size)) (And.intro (G0.out.2.2.2.2.2.1.below hb G0.out.2.2.2.2.2.1.lt) (And.intro (Kd.C_below G0.out.2.2.2.2.2.2.1 hb) (And.intro (Kd.C_below G0.out.2.2.2.2.2.2.2.1 hb) (And.intro G0.out.2.2.2.2.2.2.2.2.1 (And.intro (G0.out.2.2.2.2.2.2.2.2.2.1.below hb G0.out.2.2.2.2.2.2.2.2.2.1.lt) (And.intro (G0.out.2.2.2.2.2.2.2.2.2.2.below hb G0.out.2.2.2.2.2.2.2.2.2.2.lt) (And.intro G0.out.1 (And.intro (Kd.C_below G0.out.2.1 hb) (And.intro G0.out.2.2.1 (Kd.C_below G0.out.2.2.2.1 hb)))))))))))))))
  clear q1 q2 q3 q4 hb G0
  dsimp only
  generalize V.k0.f1.length = xk at *
  generalize V.k0.f2.length = xn at *
  rw [show V.k0.f0 = 0 from HV.out.1.2.2.2.2.2.2.2.2.1]
  go_wp2_with fail
  obtain ⟨r1, r2, r3, r4⟩ := two_boxes W6 #[.int .i64 3, .slice Bs V.t.length es, .slice Bp 1 ep] #[.int .i64 0, .slice Bk xk ek, .slice Bn xn en] 25 43
  obtain ⟨p1, p2, p3, p4, p5, p6, p7, p8, p9, p10, p11, p12, p13, p14, p15⟩ := G1.out
  have G2 := Lib.hid (And.intro p1 (And.intro (Kd.C_below p2 r3) (And.intro p3 (And.intro (Kd.C_below p4 r3) (And.intro (p5.trans (r3.mono p5.size)) (And.intro (p6.below r3 p6.lt) (And.intro (Kd.C_below p7 r3) (And.intro (Kd.C_below p8 r3) (And.intro p9 (And.intro (p10.below r3 p10.lt) (And.intro (p11.below r3 p11.lt) (And.intro p12 (And.intro (Kd.C_below p13 r3) (And.intro p14 (And.intro (Kd.C_below p15 r3) (And.intro r1 r2))))))))))))))))
  clear p1 p2 p3 p4 p5 p6 p7 p8 p9 p10 p11 p12 p13 p14 p15 G1
  generalize ((W6.alloc (.cells #[.int .i64 3, .slice Bs V.t.length es, .slice Bp 1 ep] 25)).alloc (.cells #[.int .i64 0, .slice Bk xk ek, .slice Bn xn en] 43)) = W7 at *
  obtain ⟨gx, hgx⟩ : ∃ g, W6.heap.size = g := ⟨_, rfl⟩
  rw [hgx] at G2 ⊢
  clear hgx r1 r2 r3 r4
  refine (take_calls 3 0 Bs V.t es Bp [V.k1] ep W7 G2.out.2.1 G2.out.1 G2.out.2.2.2.1 G2.out.2.2.1 HV.out.1.2.2.1 HV.out.1.2.2.2.1 (by simp) (by decide)).mono ?_
  rw [HV.out.1.2.2.2.2.2.2.1]
  rintro e W8 ⟨Ds, fs, Dp, fp, Dk, fk, Dn, fn, rfl, -, -, -, -, -, -, -, -, hb⟩
  obtain ⟨p1, p2, p3, p4, p5, p6, p7, p8, p9, p10, p11, p12, p13, p14, p15, p16, p17⟩ := G2.out
  have G3 := Lib.hid (And.intro (p5.trans (hb.mono p5.size)) (And.intro (p6.below hb p6.lt) (And.intro (Kd.C_below p7 hb) (And.intro (Kd.C_below p8 hb) (And.intro p9 (And.intro (p10.below hb p10.lt) (And.intro (p11.below hb p11.lt) (And.intro p12 (And.intro (Kd.C_below p13 hb) (And.intro p14 (And.intro (Kd.C_below p15 hb) (And.intro (p16.below hb p16.lt) (p17.below hb p17.lt)))))))))))))
  clear p1 p2 p3 p4 p5 p6 p7 p8 p9 p10 p11 p12 p13 p14 p15 p16 p17 G2 hb
  dsimp only
  rw [show R.z43.f0 = 0 from rfl, show R.z43.f1.length = 0 from rfl, show R.z43.f2.length = 0 from rfl]
  go_wp2_with fail
  obtain ⟨r1, r2, r3, r4⟩ := two_boxes W8 #[.int .i64 3, .slice Ds V.t.length fs, .slice Dp 1 fp] #[.int .i64 0, .slice Dk 0 fk, .slice Dn 0 fn] 25 43
  obtain ⟨p5, p6, p7, p8, p9, p10, p11, p12, p13, p14, p15, p16, p17⟩ := G3.out
  have G4 := Lib.hid (And.intro (p5.trans (r3.mono p5.size)) (And.intro (p6.below r3 p6.lt) (And.intro (Kd.C_below p7 r3) (And.intro (Kd.C_below p8 r3) (And.intro p9 (And.intro (p10.below r3 p10.lt) (And.intro (p11.below r3 p11.lt) (And.intro p12 (And.intro (Kd.C_below p13 r3) (And.intro p14 (And.intro (Kd.C_below p15 r3) (And.intro (p16.below r3 p16.lt) (p17.below r3 p17.lt)))))))))))))
  clear p5 p6 p7 p8 p9 p10 p11 p12 p13 p14 p15 p16 p17 G3
  generalize ((W8.alloc (.cells #[.int .i64 3, .slice Ds V.t.length fs, .slice Dp 1 fp] 25)).alloc (.cells #[.int .i64 0, .slice Dk 0 fk, .slice Dn 0 fn] 43)) = W9 at *
  obtain ⟨gy, hgy⟩ : ∃ g, W8.heap.size = g := ⟨_, rfl⟩
  rw [hgy]
  clear hgy r1 r2 r3 r4
  refine (leaf_calls (some ⟨w.heap.size, 0, none⟩) 32 Z32r 2 1 W9 (HT.out.below G4.out.1 HT.out.1) (by decide) (by decide) rfl (by decide) G4.out.2.2.2.1 (Nat.le_refl _)).mono ?_
  rw [HV.out.2]
  rintro e W10 ⟨v, rfl, hR, hb⟩
  obtain ⟨As', cs', rfl, hls, hCs⟩ := Kd.R_reads hR
  obtain ⟨p5, p6, p7, p8, p9, p10, p11, p12, p13, p14, p15, p16, p17⟩ := G4.out
  have G5 := Lib.hid (And.intro (p5.trans (hb.mono p5.size)) (And.intro (p6.below hb p6.lt) (And.intro (Kd.C_below p7 hb) (And.intro hls (And.intro hCs (And.intro p9 (And.intro (p10.below hb p10.lt) (And.intro (p11.below hb p11.lt) (And.intro p12 (And.intro (Kd.C_below p13 hb) (And.intro p14 (And.intro (Kd.C_below p15 hb) (And.intro (p16.below hb p16.lt) (p17.below hb p17.lt))))))))))))))
  clear p5 p6 p7 p8 p9 p10 p11 p12 p13 p14 p15 p16 p17 G4 hb hR hls hCs
  obtain rfl : 32 = zk := by rw [← HZ.out]; exact HV.out.1.2.2.2.2.2.2.2.2.2.2.2.1.symm
  obtain ⟨hb, bc, hCc, hls, hCs, hlc, bd, bl, hlt, hCt, hlp, hCp, bx, bm⟩ := G5.out
  have c1 : W10.cell? ⟨gc, 1, none⟩ = some (.slice A V.s.length c) := bc.cell 1
  have d0 : W10.cell? ⟨gd, 0, none⟩ = some (.int .i64 3) := bd.cell 0
  have d2 : W10.cell? ⟨gd, 2, none⟩ = some (.slice Ap 2 cp) := bd.cell 2
  have l0 : W10.cell? ⟨gd + 1, 0, none⟩ = some (.int .i64 2) := bl.cell 0
  have l1 : W10.cell? ⟨gd + 1, 1, none⟩ = some (.slice Ak 32 ck) := bl.cell 1
  have x2 : W10.cell? ⟨gx, 2, none⟩ = some (.slice Bp 1 ep) := bx.cell 2
  have m0 : W10.cell? ⟨gx + 1, 0, none⟩ = some (.int .i64 0) := bm.cell 0
  obtain ⟨ad, A1, c1', A2, c2', rfl, y0, -, -, -, -, -, -⟩ := R.at_T43 hCp (0 : Int) (by decide) (by simp)
  obtain ⟨ad', A3, c3', A4, c4', ead, z0, -, -, -, -, -, -⟩ := R.at_T43 hCp (1 : Int) (by decide) (by simp)
  cases ead
  have y0' : W10.cell? (ad.add 0) = some (.int .i64 0) := by
    have := y0
    rw [show (R.rd_T43 [V.k0, V.k1] 0).f0 = 0 from HV.out.1.2.2.2.2.2.2.2.2.1] at this
    exact this
  have z0' : W10.cell? (ad.add 3) = some (.int .i64 1) := by
    have := z0
    rw [show (R.rd_T43 [V.k0, V.k1] 1).f0 = 1 from HV.out.1.2.2.2.2.2.2.2.2.2.1] at this
    exact this
  have y0'' : W10.cell? ad = some (.int .i64 0) := by
    rw [Addr.add_zero'] at y0'
    exact y0'
  have z0'' : W10.cell? ⟨ad.block, ad.off + 3, none⟩ = some (.int .i64 1) := z0'
  clear y0 z0 hb bc hCc hls hCs hlc bd bl hlt hCt hlp hCp bx bm HZ
  go_wp2_with fail
  clear c1 d0 d2 l0 l1 x2 m0 y0' z0' y0'' z0''
  refine (P.pyxref01_Same.calls As' cs' V.s A c V.s true W10 G5.out.2.2.2.2.1 G5.out.2.2.2.1 G5.out.2.2.1 G5.out.2.2.2.2.2.1 (by unfold P.pyxref01_Same.f; rw [if_pos ⟨HV.out.1.2.1, HV.out.1.2.1⟩, beq_self_eq_true])).mono ?_
  rintro e W11 ⟨rfl, hq⟩
  have hb := drawn_below hq
  clear hq
  obtain ⟨q0, bc, hCc, hls, hCs, hlc, bd, bl, hlt, hCt, hlp, hCp, bx, bm⟩ := G5.out
  have G6 := Lib.hid (And.intro (q0.trans (hb.mono q0.size)) (And.intro (bc.below hb bc.lt) (And.intro (Kd.C_below hCc hb) (And.intro hlc (And.intro (bd.below hb bd.lt) (And.intro hlt (And.intro (Kd.C_below hCt hb) (And.intro hlp (Kd.C_below hCp hb)))))))))
  clear q0 bc hCc hls hCs hlc bd bl hlt hCt hlp hCp bx bm hb G5
  have d0 : W11.cell? ⟨gd, 0, none⟩ = some (.int .i64 3) := G6.out.2.2.2.2.1.cell 0
  have d1 : W11.cell? ⟨gd, 1, none⟩ = some (.slice As V.t.length cs) := G6.out.2.2.2.2.1.cell 1
  have d2 : W11.cell? ⟨gd, 2, none⟩ = some (.slice (some ad) 2 cp) := G6.out.2.2.2.2.1.cell 2
  go_wp2_with fail
  clear d0 d1 d2
  refine (R.ratch_Right.calls 40 3 As cs V.t (some ad) cp [V.k0, V.k1] true W11 G6.out.2.2.2.2.2.2.1 G6.out.2.2.2.2.2.1 G6.out.2.2.2.2.2.2.2.2 G6.out.2.2.2.2.2.2.2.1 (by rw [right_some _ _ _ 40 (by decide), HV.out.1.2.2.2.2.2.2.2.1])).mono ?_
  rintro e W12 ⟨rfl, hb⟩
  obtain ⟨q0, bc, hCc, hlc, bd, hlt, hCt, hlp, hCp⟩ := G6.out
  have G7 := Lib.hid (And.intro (q0.trans (hb.mono q0.size)) (And.intro (bc.below hb bc.lt) (And.intro (Kd.C_below hCc hb) (And.intro hlc (And.intro (bd.below hb bd.lt) (And.intro hlt (And.intro (Kd.C_below hCt hb) (And.intro hlp (Kd.C_below hCp hb)))))))))
  clear q0 bc hCc hlc bd hlt hCt hlp hCp hb G6
  have c0 : W12.cell? ⟨gc, 0, none⟩ = some (.int .i64 0) := G7.out.2.1.cell 0
  have c1 : W12.cell? ⟨gc, 1, none⟩ = some (.slice A V.s.length c) := G7.out.2.1.cell 1
  have c2 : W12.cell? ⟨gc, 2, none⟩ = some (.slice none 0 0) := G7.out.2.1.cell 2
  go_wp2_with fail
  clear c0 c1 c2
  refine (same_calls 0 0 A none A none c 0 c 0 V.s V.s [] [] W12 HV.out.1.2.1 HV.out.1.2.1 (fun x hx => by simp at hx) (fun x hx => by simp at hx) (by decide) G7.out.2.2.1 G7.out.2.2.2.1 (Kd.C_nil _ _) G7.out.2.2.1 G7.out.2.2.2.1 (Kd.C_nil _ _)).mono ?_
  rw [sameC_refl]
  rintro e W13 ⟨rfl, hb⟩
  obtain ⟨q0, bc, hCc, hlc, bd, hlt, hCt, hlp, hCp⟩ := G7.out
  have G8 := Lib.hid (And.intro (q0.trans (hb.mono q0.size)) (And.intro (bc.below hb bc.lt) (And.intro (Kd.C_below hCc hb) (And.intro hlc (And.intro (bd.below hb bd.lt) (And.intro hlt (And.intro (Kd.C_below hCt hb) (And.intro hlp (Kd.C_below hCp hb)))))))))
  clear q0 bc hCc hlc bd hlt hCt hlp hCp hb G7
  have c0 : W13.cell? ⟨gc, 0, none⟩ = some (.int .i64 0) := G8.out.2.1.cell 0
  have c1 : W13.cell? ⟨gc, 1, none⟩ = some (.slice A V.s.length c) := G8.out.2.1.cell 1
  have c2 : W13.cell? ⟨gc, 2, none⟩ = some (.slice none 0 0) := G8.out.2.1.cell 2
  have d0 : W13.cell? ⟨gd, 0, none⟩ = some (.int .i64 3) := G8.out.2.2.2.2.1.cell 0
  have d1 : W13.cell? ⟨gd, 1, none⟩ = some (.slice As V.t.length cs) := G8.out.2.2.2.2.1.cell 1
  have d2 : W13.cell? ⟨gd, 2, none⟩ = some (.slice (some ad) 2 cp) := G8.out.2.2.2.2.1.cell 2
  go_wp2_with fail
  clear c0 c1 c2 d0 d1 d2
  refine (same_calls 0 3 A none As (some ad) c 0 cs cp V.s V.t [] [V.k0, V.k1] W13 HV.out.1.2.1 HV.out.1.2.2.2.1 (fun x hx => by simp at hx) (fun x hx => by simp at hx; rcases hx with rfl | rfl; exact HV.out.1.2.2.2.2.2.2.2.2.2.2.2.2.1; exact HV.out.1.2.2.2.2.2.2.2.2.2.2.2.2.2) (by decide) G8.out.2.2.1 G8.out.2.2.2.1 (Kd.C_nil _ _) G8.out.2.2.2.2.2.2.1 G8.out.2.2.2.2.2.1 G8.out.2.2.2.2.2.2.2.2).mono ?_
  rw [show sameC 0 V.s [] 3 V.t [V.k0, V.k1] = false from rfl]
  rintro e W14 ⟨rfl, hb⟩
  go_wp2
  go_ret
  exact ⟨rfl, G8.out.1.trans (hb.mono G8.out.1.size)⟩
end Go.Proofs.YtdklmafkcbjomaaDoor

/-! RatR -/
namespace Go.Proofs.YtdklmafkcbjomaaDoor
set_option linter.unusedVariables false
set_option linter.unusedSimpArgs false
open Go.RowKit Go.Shelf Go.Proofs.YtdklmafkcbjomaaDoorW.PrintWords Go.Proofs.YtdklmafkcbjomaaDoorW.PrintLast Go.Proofs.YtdklmafkcbjomaaDoorW.PrintMore Iter
/-- Locks that rise, each in bounds. -/
def RiseP (n last : Int) (L : List R.S43) : Prop := (∀ x, x ∈ L → last < x.f0 ∧ x.f0 < n ∧ x.f1.length = 32 ∧ x.f2.length = 12) ∧ L.Pairwise (fun a b => a.f0 < b.f0)
theorem rises_iff (n : Int) : ∀ (L : List R.S43) (last : Int), rises n last L = true ↔ RiseP n last L
  | [], last => by simp [rises, RiseP]
  | x :: xs, last => by
    rw [rises]
    simp only [Bool.and_eq_true, decide_eq_true_eq]
    rw [rises_iff n xs x.f0]
    unfold RiseP
    rw [List.pairwise_cons]
    constructor
    · rintro ⟨h1, h2, h3, h4, h5, h6⟩
      refine ⟨fun y hy => ?_, fun y hy => (h5 y hy).1, h6⟩
      rcases List.mem_cons.1 hy with rfl | hy
      · exact ⟨h1, h2, h3, h4⟩
      · have := h5 y hy
        exact ⟨by omega, this.2⟩
    · rintro ⟨h1, h2, h3⟩
      have h0 := h1 x (List.mem_cons_self ..)
      exact ⟨h0.1, h0.2.1, h0.2.2.1, h0.2.2.2, fun y hy => ⟨h2 y hy, (h1 y (List.mem_cons_of_mem _ hy)).2⟩, h3⟩
/-- A right chain. -/
def Good (n : Nat) (s : List Int) (L : List R.S43) : Prop := n ≤ 4294967294 ∧ s.length = 32 ∧ byteOk s = true ∧ L.length ≤ 32 ∧ locksOk L ∧ RiseP (n : Int) (-1) L
theorem good_right {n : Nat} {s : List Int} {L : List R.S43} (h : Good n s L) : rightC (n : Int) s L = true := by
  unfold rightC
  rw [decide_eq_true (p := (0 : Int) ≤ n) (by omega), decide_eq_true (p := (n : Int) ≤ 4294967294) (by have := h.1; omega), decide_eq_true h.2.1, decide_eq_true h.2.2.2.1, (rises_iff _ _ _).2 h.2.2.2.2.2]
  rfl
theorem good_of_right {n : Int} {s : List Int} {L : List R.S43} (h : rightC n s L = true) (os : byteOk s = true) (oL : locksOk L) : ∃ m : Nat, n = (m : Int) ∧ Good m s L := by
  unfold rightC at h
  simp only [Bool.and_eq_true, decide_eq_true_eq] at h
  obtain ⟨h1, h2, h3, h4, h5⟩ := h
  obtain ⟨m, rfl⟩ := Int.eq_ofNat_of_zero_le h1
  exact ⟨m, rfl, by omega, h3, os, h4, oL, (rises_iff _ _ _).1 h5⟩
theorem idxL_none_of (L : List R.S43) (X : Int) (h : ∀ x, x ∈ L → x.f0 ≠ X) : idxL L X = none := by
  refine idxL_none L X (fun j hj => ?_)
  rw [getD43 L j hj]
  exact h _ (List.getElem_mem hj)
theorem good_idx {n : Nat} {s : List Int} {L : List R.S43} (h : Good n s L) (X : Int) (hX : (n : Int) ≤ X ∨ X < 0) : idxL L X = none :=
  idxL_none_of L X (fun x hx e => by have := h.2.2.2.2.2.1 x hx; omega)
/-- Places behind the chain's next one. -/
theorem takeF_next {n : Nat} {s : List Int} {L : List R.S43} (h : Good n s L) (d : Nat) (hd : d ≤ 100) (hm : n + d < 4294967294) : takeF n s L ((n + d : Nat) : Int) = (n + (d + 1), secS s n (d + 1), (L ++ passed s n d).drop (L.length + d - 32), lockN s n d, 0) :=
  takeF_adv n d s L (good_idx h _ (by omega)) hd hm
theorem takeF_stale (n : Nat) (s : List Int) (L : List R.S43) (X : Int) (h0 : 0 ≤ X) (h1 : X < (n : Int)) (hn : n ≤ 4294967294) (hi : idxL L X = none) : takeF n s L X = (n, s, L, R.z43, 9) := by
  unfold takeF
  rw [if_neg (by omega), hi]
  dsimp only
  rw [if_pos h1]
theorem takeF_spare (n : Nat) (s : List Int) (L : List R.S43) (X : Int) (k : Nat) (h0 : 0 ≤ X) (h1 : X ≤ 4294967294) (hi : idxL L X = some k) : takeF n s L X = (n, s, L.take k ++ L.drop (k + 1), L.getD k R.z43, 0) := by
  unfold takeF
  rw [if_neg (by omega), hi]
theorem passed_rise (s : List Int) (n d : Nat) : ∀ x, x ∈ passed s n d → ∃ k, k < d ∧ x = lockN s n k := by
  intro x hx
  obtain ⟨k, hk, rfl⟩ := List.mem_map.1 hx
  exact ⟨k, List.mem_range.1 hk, rfl⟩
theorem passed_pair (s : List Int) (n d : Nat) : (passed s n d).Pairwise (fun a b => a.f0 < b.f0) := by
  unfold passed
  rw [List.pairwise_map]
  refine (List.pairwise_lt_range (n := d)).imp (fun {a b} hab => ?_)
  rw [lockN_f0, lockN_f0]
  omega
theorem riseP_sub {n last : Int} {L M : List R.S43} (h : RiseP n last L) (hs : M.Sublist L) : RiseP n last M := ⟨fun x hx => h.1 x (hs.subset hx), h.2.sublist hs⟩
theorem riseP_passed {n d : Nat} {s : List Int} {L : List R.S43} (h : RiseP (n : Int) (-1) L) : RiseP ((n + (d + 1) : Nat) : Int) (-1) (L ++ passed s n d) := by
  refine ⟨fun x hx => ?_, ?_⟩
  · rcases List.mem_append.1 hx with hx | hx
    · have := h.1 x hx
      exact ⟨this.1, by omega, this.2.2⟩
    · obtain ⟨k, hk, rfl⟩ := passed_rise s n d x hx
      rw [lockN_f0, lockN_l1, lockN_l2]
      exact ⟨by omega, by omega, rfl, rfl⟩
  · rw [List.pairwise_append]
    refine ⟨h.2, passed_pair s n d, fun a ha b hb => ?_⟩
    obtain ⟨k, hk, rfl⟩ := passed_rise s n d b hb
    have := h.1 a ha
    rw [lockN_f0]
    omega
theorem locksOk_sub {L M : List R.S43} (h : locksOk L) (hs : M.Sublist L) : locksOk M := fun x hx => h x (hs.subset hx)
theorem locksOk_app {L M : List R.S43} (h : locksOk L) (h' : locksOk M) : locksOk (L ++ M) := fun x hx => by
  rcases List.mem_append.1 hx with hx | hx
  · exact h x hx
  · exact h' x hx
theorem good_next {n : Nat} {s : List Int} {L : List R.S43} (h : Good n s L) (d : Nat) (hm : n + d < 4294967294) : Good (n + (d + 1)) (secS s n (d + 1)) ((L ++ passed s n d).drop (L.length + d - 32)) := by
  refine ⟨by omega, secS_length s n h.2.1 _, byteOk_secS s n h.2.2.1 _, ?_, ?_, ?_⟩
  · rw [List.length_drop, List.length_append, passed_length]
    omega
  · exact locksOk_sub (locksOk_app h.2.2.2.2.1 (passed_ok s n d)) (List.drop_sublist _ _)
  · exact riseP_sub (riseP_passed h.2.2.2.2.2) (List.drop_sublist _ _)
theorem take_drop_sub (L : List R.S43) (k : Nat) : (L.take k ++ L.drop (k + 1)).Sublist L := by
  have : (L.take k ++ L.drop (k + 1)).Sublist (L.take k ++ L.drop k) := by
    refine List.Sublist.append_left ?_ _
    rw [← List.drop_drop]
    exact List.drop_sublist _ _
  rwa [List.take_append_drop] at this
theorem good_spare {n : Nat} {s : List Int} {L : List R.S43} (h : Good n s L) (k : Nat) : Good n s (L.take k ++ L.drop (k + 1)) :=
  ⟨h.1, h.2.1, h.2.2.1, Nat.le_trans (take_drop_sub L k).length_le h.2.2.2.1, locksOk_sub h.2.2.2.2.1 (take_drop_sub L k), riseP_sub h.2.2.2.2.2 (take_drop_sub L k)⟩
/-- Take, its numbers spelled as they stand. -/
theorem take_any (n : Nat) (N X : Int) (hN : (n : Int) = N) (As : Option Addr) (s : List Int) (cs : Nat) (Ap : Option Addr) (L : List R.S43) (cp : Nat) (w : World) (n' : Nat) (N' : Int) (s' : List Int) (L' : List R.S43) (x : R.S43) (er : Int)
    (hr : takeF n s L X = (n', s', L', x, er)) (hN' : (n' : Int) = N') (h : Good n s L) (hrs : Kd.C (Kd.int .u8) w As s.length s) (hcs : s.length ≤ cs) (hrp : Kd.C R.k43 w Ap L.length L) (hcp : L.length ≤ cp) :
    Calls Tryd.prog 21 #[.agg #[.int .i64 N, .slice As s.length cs, .slice Ap L.length cp], .int .i64 X] w (TakePost w N' s' L' x er) := by
  subst hN hN'
  have := take_calls n X As s cs Ap L cp w hrs hcs hrp hcp h.2.1 h.2.2.1 h.2.2.2.1 (by have := h.1; omega)
  rw [hr] at this
  exact this
end Go.Proofs.YtdklmafkcbjomaaDoor

/-! StructIn -/
namespace Go.Proofs.YtdklmafkcbjomaaDoor
set_option linter.unusedVariables false
open Go.Deep Go.RowKit Go.ChangeShapes Go.WideShapes Go.Proofs.YtdklmafkcbjomaaDoorW.PrintWords
theorem mapM_each {α β : Type} {f : α → Option β} : ∀ {l : List α} {xs : List β}, l.mapM f = some xs → ∀ (i : Nat) (a : α), l[i]? = some a → ∃ y, xs[i]? = some y ∧ f a = some y
  | [], _, _, i, a, ha => by simp at ha
  | b :: l, xs, h, i, a, ha => by
    rw [List.mapM_cons] at h
    cases hb : f b with
    | none => simp [hb] at h
    | some y =>
      rw [hb] at h
      cases hl : l.mapM f with
      | none => simp [hl] at h
      | some ys =>
        rw [hl] at h
        simp at h
        subst h
        cases i with
        | zero =>
          simp at ha
          subst ha
          exact ⟨y, rfl, hb⟩
        | succ i =>
          obtain ⟨z, hz, hfz⟩ := mapM_each hl i a (by simpa using ha)
          exact ⟨z, by simpa using hz, hfz⟩
end Go.Proofs.YtdklmafkcbjomaaDoor

/-! OpenK -/
namespace Go.Proofs.YtdklmafkcbjomaaDoor
set_option linter.unusedVariables false
open Go.Deep Go.RowKit Go.ChangeShapes Go.WideShapes Go.Proofs.YtdklmafkcbjomaaDoorW.PrintWords
/-- Cells that read as data of the type e are those of a value of the kind d, of which ok holds. -/
def Opens {α : Type} (P : Program) (e : TypeId) (d : Kd α) (ok : α → Prop) : Prop :=
  P.cellsOf e = d.sz ∧ ∀ (H : Type) (enc : TypeId × Value → H) (W : World) (base : Nat) (held : Bool) (fuel : Nat) (cs : List Value) (y : DataW H × List MemPlace),
    DataW.trod enc P W base (fun _ => true) held fuel e cs = some y → ∃ x, d.K W x cs ∧ ok x
theorem opens_int {P : Program} {e : TypeId} {k : IntKind} (he : P.underlying e = some (.int k)) (hc : P.cellsOf e = 1) : Opens P e (Kd.int k) (fun n => (Lit.int k n).wf = true) :=
  ⟨hc, fun H enc W base held fuel cs y h => by
    obtain ⟨n, rfl, -, hw⟩ := DataW.trod_int he h
    exact ⟨n, rfl, hw⟩⟩
theorem mapM_range {β : Type} {f : Nat → Option β} : ∀ (n : Nat) {xs : List β}, (List.range n).mapM f = some xs → ∀ i, i < n → ∃ y, f i = some y := by
  intro n xs h i hi
  obtain ⟨y, -, hy⟩ := mapM_each h i i (by rw [List.getElem?_range hi])
  exact ⟨y, hy⟩
theorem addr_add_add (a : Addr) (m n : Nat) : (a.add m).add n = a.add (m + n) := by
  unfold Addr.add
  by_cases hm : m = 0
  · subst hm; simp
  · by_cases hn : n = 0
    · subst hn; simp
    · rw [if_neg hn, if_neg hm, if_neg (by omega)]
      simp [Nat.add_assoc]
theorem opens_slice {α : Type} {P : Program} {t e : TypeId} {d : Kd α} {ok : α → Prop} (ht : P.underlying t = some (.slice e)) (hc : P.cellsOf t = 1) (hd : Opens P e d ok) : Opens P t (Kd.slice e d) (fun l => l.length ≤ maxLen ∧ ∀ x ∈ l, ok x) :=
  ⟨hc, fun H enc W base held fuel cs y h => by
    cases fuel with
    | zero => simp [DataW.trod] at h
    | succ m =>
      unfold DataW.trod at h
      simp only [ht] at h
      split at h <;> simp_all only [reduceCtorEq, Option.some.injEq, TypeDesc.slice.injEq]
      · exact ⟨[], ⟨none, 0, rfl, Nat.le_refl _, rfl, by simp, fun h => absurd h (by simp)⟩, by simp, fun x hx => by simp at hx⟩
      · rename_i e' a len cap he
        subst he
        split at h
        case isFalse => cases h
        rename_i hb
        obtain ⟨elems, hel, -⟩ := Option.bind_eq_some_iff.1 h
        have each : ∀ i : Fin len, ∃ x, ∃ c, c.length = d.sz ∧ d.K W x c ∧ (∀ j u, c[j]? = some u → W.cell? (a.add (i.1 * d.sz + j)) = some u) ∧ ok x := fun ⟨i, hi⟩ => by
          obtain ⟨y, hy⟩ := mapM_range len hel i hi
          obtain ⟨c, hcs, hy⟩ := Option.bind_eq_some_iff.1 hy
          obtain ⟨x, hK, hok⟩ := hd.2 H enc W base held m c y hy
          rw [hd.1] at hcs
          obtain ⟨h1, h2, h3⟩ := World.cells?_some hcs
          refine ⟨x, c, d.K_len hK, hK, fun j u hj => ?_, hok⟩
          have hlt := (List.getElem?_eq_some_iff.1 hj).1
          rw [← addr_add_add, h3 j (by omega)]
          exact hj
        obtain ⟨f, hf⟩ := Classical.axiomOfChoice each
        refine ⟨List.ofFn f, ⟨some a, cap, by rw [List.length_ofFn], by rw [List.length_ofFn]; exact hb.2.1, rfl, by rw [List.length_ofFn]; have := hb.2; unfold maxLen at this; omega, fun h0 => ⟨a, rfl, fun j p hj => ?_⟩⟩, by rw [List.length_ofFn]; omega, fun x hx => ?_⟩
        · rw [List.getElem?_ofFn] at hj
          split at hj
          case isFalse => cases hj
          rename_i hlt
          obtain rfl := Option.some.inj hj
          obtain ⟨c, h1, h2, h3, -⟩ := hf ⟨j, hlt⟩
          exact ⟨c, h1, h2, h3⟩
        · obtain ⟨i, rfl⟩ := (List.mem_ofFn ..).1 hx
          obtain ⟨c, -, -, -, h4⟩ := hf i
          exact h4⟩
/-- A struct's fields from a place on. -/
def OpensF {α : Type} (P : Program) (fs : List Field) (off : Nat) (d : Kd α) (ok : α → Prop) : Prop :=
  ∀ (H : Type) (enc : TypeId × Value → H) (W : World) (base : Nat) (held : Bool) (fuel : Nat) (cs : List Value), cs.length = off + d.sz →
    (∀ f ∈ fs, ∃ y, DataW.trod enc P W base (fun _ => true) held fuel f.type ((cs.drop f.offset).take (P.cellsOf f.type)) = some y) → ∃ x, d.K W x (cs.drop off) ∧ ok x
theorem opensF_one {α : Type} {P : Program} {f : Field} {off : Nat} {d : Kd α} {ok : α → Prop} (hd : Opens P f.type d ok) (ho : f.offset = off) : OpensF P [f] off d ok := by
  intro H enc W base held fuel cs hl h
  obtain ⟨y, hy⟩ := h f (List.mem_singleton.2 rfl)
  obtain ⟨x, hK, hok⟩ := hd.2 H enc W base held fuel _ y hy
  rw [ho, hd.1, List.take_of_length_le (by rw [List.length_drop]; omega)] at hK
  exact ⟨x, hK, hok⟩
theorem opensF_cons {α β : Type} {P : Program} {f : Field} {fs : List Field} {off n : Nat} {a : Kd α} {b : Kd β} {oka : α → Prop} {okb : β → Prop} (ha : Opens P f.type a oka) (ho : f.offset = off) (hn : off + a.sz = n) (hb : OpensF P fs n b okb) : OpensF P (f :: fs) off (Kd.pair a b) (fun x => oka x.1 ∧ okb x.2) := by
  intro H enc W base held fuel cs hl h
  have hl' : cs.length = off + (a.sz + b.sz) := hl
  obtain ⟨y, hy⟩ := h f (List.mem_cons_self ..)
  obtain ⟨x, hK, hok⟩ := ha.2 H enc W base held fuel _ y hy
  obtain ⟨x', hK', hok'⟩ := hb H enc W base held fuel cs (by omega) (fun g hg => h g (List.mem_cons_of_mem _ hg))
  rw [ho, ha.1] at hK
  refine ⟨(x, x'), ⟨_, _, ?_, hK, hK'⟩, hok, hok'⟩
  rw [← hn, ← List.drop_drop, List.take_append_drop]
theorem opens_struct {α β : Type} {P : Program} {t : TypeId} {fs : Array Field} {d : Kd α} {ok : α → Prop} (ht : P.underlying t = some (.struct fs)) (hc : P.cellsOf t = d.sz) (hd : OpensF P fs.toList 0 d ok) (f : β → α) (g : α → β) (hfg : ∀ x, f (g x) = x) : Opens P t (Kd.iso d f) (fun x => ok (f x)) :=
  ⟨hc, fun H enc W base held fuel cs y h => by
    cases fuel with
    | zero => simp [DataW.trod] at h
    | succ m =>
      unfold DataW.trod at h
      simp only [ht] at h
      by_cases hl : cs.length = P.cellsOf t
      case neg => rw [if_neg hl] at h; cases h
      rw [if_pos hl] at h
      obtain ⟨xs, hxs, -⟩ := Option.map_eq_some_iff.1 h
      obtain ⟨x, hK, hok⟩ := hd H enc W base held m cs (by rw [hl, hc, Nat.zero_add]) (fun f hf => mapM_all hxs f hf)
      rw [List.drop_zero] at hK
      exact ⟨g x, show d.K W (f (g x)) cs by rw [hfg]; exact hK, show ok (f (g x)) by rw [hfg]; exact hok⟩⟩
/-- An argument. -/
theorem Opens.arg {α : Type} {P : Program} {t : TypeId} {d : Kd α} {ok : α → Prop} (h : Opens P t d ok) {H : Type} {enc : TypeId × Value → H} {W : World} {base : Nat} {held : Bool} {v : Value} {x : DataW H} {ps : List MemPlace} (hv : DataW.Trod enc P W base (fun _ => true) held t v x ps) : ∃ z, d.K W z v.cells.toList ∧ ok z := by
  obtain ⟨fuel, hf⟩ := hv
  exact h.2 H enc W base held fuel _ _ hf
end Go.Proofs.YtdklmafkcbjomaaDoor

/-! RatQ -/
namespace Go.Proofs.YtdklmafkcbjomaaDoor
set_option linter.unusedVariables false
set_option linter.unusedSimpArgs false
open Go.RowKit Go.ChangeShapes Go.WideShapes Go.Proofs.YtdklmafkcbjomaaDoorW.PrintWords Go.Proofs.YtdklmafkcbjomaaDoorW.PrintLast Go.Proofs.YtdklmafkcbjomaaDoorW.PrintMore
theorem Opens.imp {α : Type} {P : Program} {e : TypeId} {d : Kd α} {ok ok' : α → Prop} (h : Opens P e d ok) (hi : ∀ x, ok x → ok' x) : Opens P e d ok' :=
  ⟨h.1, fun H enc W base held fuel cs y hy => by
    obtain ⟨x, hK, hok⟩ := h.2 H enc W base held fuel cs y hy
    exact ⟨x, hK, hi x hok⟩⟩
theorem i64_wf (n : Int) (h : (Lit.int .i64 n).wf = true) : -9223372036854775808 ≤ n ∧ n < 9223372036854775808 := by
  simp [Lit.wf, show IntKind.i64.min = -9223372036854775808 from rfl, show IntKind.i64.max = 9223372036854775807 from rfl] at h
  omega
theorem u8_wf (n : Int) (h : (Lit.int .u8 n).wf = true) : 0 ≤ n ∧ n < 256 := by
  simp [Lit.wf, show IntKind.u8.min = 0 from rfl, show IntKind.u8.max = 255 from rfl] at h
  omega
theorem open_int64 : Opens Tryd.prog 3 (Kd.int .i64) (fun n => -9223372036854775808 ≤ n ∧ n < 9223372036854775808) := (opens_int Tryd.underlying3 (by kernel_rfl)).imp i64_wf
theorem open_bytes : Opens Tryd.prog 22 (Kd.slice 5 (Kd.int .u8)) (fun l => byteOk l = true) :=
  (opens_slice Tryd.underlying22 (by kernel_rfl) (opens_int Tryd.underlying5 (by kernel_rfl))).imp (fun l h => byteOk_of_wf l h.2)
theorem open_lock : Opens Tryd.prog 43 R.k43 lockOk :=
  (opens_struct Tryd.underlying43 (by kernel_rfl) (opensF_cons open_int64 rfl rfl (opensF_cons open_bytes rfl rfl (opensF_one open_bytes rfl))) (fun x : R.S43 => (x.f0, x.f1, x.f2)) (fun p => ⟨p.1, p.2.1, p.2.2⟩) (fun x => rfl)).imp (fun x h => ⟨h.2.1, h.2.2⟩)
theorem open_locks : Opens Tryd.prog 23 (Kd.slice 43 R.k43) (fun L => L.length ≤ 9223372036854775807 ∧ locksOk L) :=
  (opens_slice Tryd.underlying23 (by kernel_rfl) open_lock).imp (fun L h => ⟨by have := h.1; unfold maxLen at this; omega, h.2⟩)
structure ChainK where
  n : Int
  s : List Int
  L : List R.S43
def chainK : Kd ChainK := Kd.iso (Kd.pair (Kd.int .i64) (Kd.pair (Kd.slice 5 (Kd.int .u8)) (Kd.slice 43 R.k43))) (fun x : ChainK => (x.n, x.s, x.L))
def chainOk (c : ChainK) : Prop := (-9223372036854775808 ≤ c.n ∧ c.n < 9223372036854775808) ∧ byteOk c.s = true ∧ locksOk c.L
theorem open_chain : Opens Tryd.prog 25 chainK chainOk :=
  (opens_struct Tryd.underlying25 (by kernel_rfl) (opensF_cons open_int64 rfl rfl (opensF_cons open_bytes rfl rfl (opensF_one open_locks rfl))) (fun x : ChainK => (x.n, x.s, x.L)) (fun p => ⟨p.1, p.2.1, p.2.2⟩) (fun x => rfl)).imp (fun x h => ⟨h.1, h.2.1, h.2.2.2⟩)
theorem chain_open {w : World} {x : ChainK} {cs : List Value} (h : chainK.K w x cs) : ∃ A c B d, cs = [.int .i64 x.n, .slice A x.s.length c, .slice B x.L.length d] ∧ x.s.length ≤ c ∧ Kd.C (Kd.int .u8) w A x.s.length x.s ∧ x.L.length ≤ d ∧ Kd.C R.k43 w B x.L.length x.L := by
  obtain ⟨_, _, rfl, rfl, ⟨_, _, rfl, ⟨A, c, rfl, l1, g1⟩, ⟨B, d, rfl, l2, g2⟩⟩⟩ := h
  exact ⟨A, c, B, d, rfl, l1, g1, l2, g2⟩
def laid2 : List (String × DataW Unit) := [("math/bits.deBruijn32tab", Rows.laid_math_bits_deBruijn32tab), ("math/bits.deBruijn64tab", Rows.laid_math_bits_deBruijn64tab)]
theorem g64 : Tryd.prog.globalNamed "math/bits.deBruijn64tab" = some 1 := by kernel_rfl
theorem t64 : (Tryd.prog.globals[1]?).map (·.type) = some 117 := by kernel_rfl
theorem laid64_eq : (Rows.laid_math_bits_deBruijn64tab : DataW Unit) = Lib.tabData .u8 deB := by rfl
theorem tabOk_of_laid {W : World} (h : laidMetH Tryd.prog laid2 W) : TabOk W := by
  rw [MakeChecks.laidMetH_plain _ _ _ (by kernel_rfl)] at h
  have h1 := laidMet.tail h
  rw [laid64_eq] at h1
  have ht := Lib.tabIs_of_head g64 t64 Tryd.underlying117 Tryd.underlying5 (by kernel_rfl) (by kernel_rfl) h1
  have hc : ∀ i, i < 64 → W.cell? ⟨1, i, none⟩ = some (.int .u8 (deB.getD i 0)) := fun i hi => ht.cell g64 i hi
  refine ⟨?_, hc⟩
  have := hc 0 (by decide)
  unfold World.cell? at this
  by_cases hlt : 1 < W.heap.size
  · omega
  · rw [Array.getElem?_eq_none (by show W.heap.size ≤ 1; omega)] at this
    simp at this
/-- The door's own heap meets the condition. -/
theorem door_met (os : Os) (args : Array Value) : laidMetH Tryd.prog laid2 ((World.doorLaid Tryd.prog 400 os).forCall (fun _ _ => 0) ⟨#[], args, []⟩).memory :=
  laidMetH_of_parts3 (fuel := 8) (laidMet_of_run' 8 (by kernel_rfl) (by kernel_rfl)) (by kernel_rfl) (by kernel_rfl)
end Go.Proofs.YtdklmafkcbjomaaDoor

/-! RatV -/
namespace Go.Proofs.YtdklmafkcbjomaaDoor
set_option linter.unusedVariables false
set_option linter.unusedSimpArgs false
open Go.RowKit Go.Shelf Go.Proofs.YtdklmafkcbjomaaDoorW.PrintWords Go.Proofs.YtdklmafkcbjomaaDoorW.PrintLast Go.Proofs.YtdklmafkcbjomaaDoorW.PrintMore Iter
attribute [local go_sem] Oper.semAt_some
/-- What pyxref13.Take holds in its boxes. -/
def RefB (w : World) (C : Array Value) (W : World) : Prop :=
  Blk W w.heap.size 25 C ∧ Blk W (w.heap.size + 1) 25 chain0 ∧ Blk W (w.heap.size + 2) 43 chain0 ∧ Below w.heap.size w W
theorem RefB.below {w : World} {C : Array Value} {W W' : World} (h : RefB w C W) (hb : Below W.heap.size W W') : RefB w C W' :=
  ⟨h.1.below hb h.1.lt, h.2.1.below hb h.2.1.lt, h.2.2.1.below hb h.2.2.1.lt, h.2.2.2.trans (hb.mono h.2.2.2.size)⟩
end Go.Proofs.YtdklmafkcbjomaaDoor

/-! RatX -/
namespace Go.Proofs.YtdklmafkcbjomaaDoor
set_option linter.unusedVariables false
set_option linter.unusedSimpArgs false
open Go.RowKit Go.Shelf Go.Proofs.YtdklmafkcbjomaaDoorW.PrintWords Go.Proofs.YtdklmafkcbjomaaDoorW.PrintLast Go.Proofs.YtdklmafkcbjomaaDoorW.PrintMore Iter
attribute [local go_sem] Oper.semAt_some
theorem cell_lt {W : World} {a : Addr} {v : Value} (h : W.cell? a = some v) : a.block < W.heap.size := by
  unfold World.cell? at h
  by_cases hlt : a.block < W.heap.size
  · exact hlt
  · rw [Array.getElem?_eq_none (by omega)] at h
    simp at h
end Go.Proofs.YtdklmafkcbjomaaDoor

/-! RatSa -/
namespace Go.Proofs.YtdklmafkcbjomaaDoor
set_option linter.unusedVariables false
set_option linter.unusedSimpArgs false
open Go.RowKit Go.Shelf Go.Proofs.YtdklmafkcbjomaaDoorW.PrintWords Go.Proofs.YtdklmafkcbjomaaDoorW.PrintLast Go.Proofs.YtdklmafkcbjomaaDoorW.PrintMore Iter
theorem idxL_first : ∀ (L : List R.S43) (X : Int) (i : Nat), i < L.length → (L.getD i R.z43).f0 = X → (∀ j, j < i → (L.getD j R.z43).f0 ≠ X) → idxL L X = some i
  | [], X, i, h, _, _ => by simp at h
  | x :: xs, X, 0, h, he, hj => by
    unfold idxL
    rw [if_pos (by simpa using he)]
  | x :: xs, X, i + 1, h, he, hj => by
    unfold idxL
    have h0 := hj 0 (Nat.succ_pos _)
    rw [if_neg (by simpa using h0), idxL_first xs X i (by simpa using h) (by simpa using he) (fun j hji => by have := hj (j + 1) (by omega); simpa using this)]
    rfl
theorem rise_lt {n last : Int} {L : List R.S43} (h : RiseP n last L) {i j : Nat} (hij : i < j) (hj : j < L.length) : (L.getD i R.z43).f0 < (L.getD j R.z43).f0 := by
  rw [getD43 L i (by omega), getD43 L j hj]
  exact List.pairwise_iff_getElem.1 h.2 i j (by omega) hj hij
theorem rise_at {n last : Int} {L : List R.S43} (h : RiseP n last L) {i : Nat} (hi : i < L.length) : last < (L.getD i R.z43).f0 ∧ (L.getD i R.z43).f0 < n := by
  rw [getD43 L i hi]
  have := h.1 _ (List.getElem_mem hi)
  exact ⟨this.1, this.2.1⟩
theorem idxL_rise {n last : Int} {L : List R.S43} (h : RiseP n last L) {i : Nat} (hi : i < L.length) : idxL L (L.getD i R.z43).f0 = some i :=
  idxL_first L _ i hi rfl (fun j hj => by have := rise_lt h hj hi; omega)
/-- Which spare stands at place j behind i's leaving. -/
def fromJ (i j : Nat) : Nat := if i ≤ j then j + 1 else j
theorem getD_leave (L : List R.S43) (i j : Nat) (hi : i < L.length) (hj : j < L.length - 1) : (L.take i ++ L.drop (i + 1)).getD j R.z43 = L.getD (fromJ i j) R.z43 := by
  unfold fromJ
  rw [List.getD_eq_getElem?_getD, List.getD_eq_getElem?_getD, List.getElem?_append]
  have hl : (L.take i).length = i := by rw [List.length_take]; omega
  rw [hl]
  by_cases h : i ≤ j
  · rw [if_neg (by omega), if_pos h, List.getElem?_drop]
    congr 2
    omega
  · rw [if_pos (by omega), if_neg h, List.getElem?_take, if_pos (by omega)]
theorem leave_length (L : List R.S43) (i : Nat) (hi : i < L.length) : (L.take i ++ L.drop (i + 1)).length = L.length - 1 := by
  rw [List.length_append, List.length_take, List.length_drop]
  omega
theorem idxL_left {n last : Int} {L : List R.S43} (h : RiseP n last L) {i : Nat} (hi : i < L.length) : idxL (L.take i ++ L.drop (i + 1)) (L.getD i R.z43).f0 = none := by
  refine idxL_none _ _ (fun j hj => ?_)
  rw [leave_length L i hi] at hj
  rw [getD_leave L i j hi hj]
  unfold fromJ
  by_cases hij : i ≤ j
  · rw [if_pos hij]
    have := rise_lt h (show i < j + 1 by omega) (by omega)
    omega
  · rw [if_neg hij]
    have := rise_lt h (show j < i by omega) hi
    omega
theorem takeF_at {n : Nat} {s : List Int} {L : List R.S43} (h : Good n s L) (i : Nat) (hi : i < L.length) : takeF n s L (L.getD i R.z43).f0 = (n, s, L.take i ++ L.drop (i + 1), L.getD i R.z43, 0) := by
  have := rise_at h.2.2.2.2.2 hi
  have := h.1
  exact takeF_spare n s L _ i (by omega) (by omega) (idxL_rise h.2.2.2.2.2 hi)
theorem takeF_left {n : Nat} {s : List Int} {L : List R.S43} (h : Good n s L) (i : Nat) (hi : i < L.length) : takeF n s (L.take i ++ L.drop (i + 1)) (L.getD i R.z43).f0 = (n, s, L.take i ++ L.drop (i + 1), R.z43, 9) := by
  have := rise_at h.2.2.2.2.2 hi
  exact takeF_stale n s _ _ (by omega) (by omega) h.1 (idxL_left h.2.2.2.2.2 hi)
theorem cut_length {s : List Int} {n d : Nat} (L : List R.S43) : ((L ++ passed s n d).drop (L.length + d - 32)).length = min (L.length + d) 32 := by
  rw [List.length_drop, List.length_append, passed_length]
  omega
end Go.Proofs.YtdklmafkcbjomaaDoor

/-! RatSd -/
namespace Go.Proofs.YtdklmafkcbjomaaDoor
set_option linter.unusedVariables false
set_option linter.unusedSimpArgs false
open Go.RowKit Go.Shelf Go.Proofs.YtdklmafkcbjomaaDoorW.PrintWords Go.Proofs.YtdklmafkcbjomaaDoorW.PrintLast Go.Proofs.YtdklmafkcbjomaaDoorW.PrintMore Iter
theorem locks_apart {W : World} {a : Addr} {n : Nat} {L : List R.S43} (h : Kd.C R.k43 W (some a) n L) (h0 : 0 < n) (hk : ∀ x, x ∈ L → x.f1.length ≠ 0) {g : Nat} {t : TypeId} (hb : Blk W g t #[.int .i64 0, .slice none 0 0, .slice none 0 0]) : a.block ≠ g := by
  intro e
  obtain ⟨ad, e1, hc⟩ := h.2.2 h0
  have e1 : a = ad := Option.some.inj e1
  subst e1
  have hx : 0 < L.length := by rw [h.1]; exact h0
  obtain ⟨c, hl, hr, hcell⟩ := hc 0 _ (List.getElem?_eq_getElem hx)
  obtain ⟨A1, c1, A2, c2, rfl, -, -, -, -⟩ := R.k43_open hr
  have h2 := hcell 1 _ rfl
  have hbl : ∀ k, (a.add k).block = a.block := fun k => by unfold Addr.add; split <;> rfl
  unfold World.cell? at h2
  rw [hbl, e, show W.heap[g]? = _ from hb] at h2
  dsimp only at h2
  have hk0 := hk _ (List.getElem_mem hx)
  split at h2
  · exact absurd h2 (by simp)
  · have h3 := Array.mem_of_getElem? h2
    simp only [List.mem_toArray, List.mem_cons, List.not_mem_nil, or_false, reduceCtorEq, false_or, Value.slice.injEq] at h3
    rcases h3 with h3 | h3 <;> exact hk0 h3.2.1
/-- Such a row is as it was where boxes were changed that it lies apart from. -/
theorem locks_keep {W W' : World} {A : Option Addr} {n : Nat} {L : List R.S43} (h : Kd.C R.k43 W A n L) {g g' : Nat} {t t' : TypeId} {cs cs' : Array Value} (hs : ∀ b, b ≠ g → b ≠ g' → W'.heap[b]? = W.heap[b]?) (hA : 0 < n → ∀ a, A = some a → a.block ≠ g ∧ a.block ≠ g') (hb : Blk W g t cs) (hb' : Blk W g' t' cs') (hu : ∀ x, Value.int .u8 x ∉ cs) (hu' : ∀ x, Value.int .u8 x ∉ cs') : Kd.C R.k43 W' A n L := by
  refine ⟨h.1, h.2.1, fun h0 => ?_⟩
  obtain ⟨ad, e, hc⟩ := h.2.2 h0
  have ha := hA h0 ad e
  refine ⟨ad, e, fun j p hj => ?_⟩
  obtain ⟨c, hl, hr, hcell⟩ := hc j p hj
  have hB : ∀ {B : Option Addr} {m : Nat} {xs : List Int}, Kd.C (Kd.int .u8) W B m xs → Kd.C (Kd.int .u8) W' B m xs := fun hC => C_sub hC (fun h0 a ha => by subst ha; exact hs _ (C_apart hC h0 hb hu) (C_apart hC h0 hb' hu'))
  obtain ⟨A1, c1, A2, c2, rfl, l1, h1, l2, h2⟩ := R.k43_open hr
  exact ⟨_, hl, R.k43_mk W' p l1 (hB h1) l2 (hB h2), fun i u hi => (World.cell?_of_block (by unfold Addr.add; split <;> exact hs _ ha.1 ha.2)).trans (hcell i u hi)⟩
theorem bytes_keep {W W' : World} {A : Option Addr} {n : Nat} {xs : List Int} (h : Kd.C (Kd.int .u8) W A n xs) {g g' : Nat} {t t' : TypeId} {cs cs' : Array Value} (hs : ∀ b, b ≠ g → b ≠ g' → W'.heap[b]? = W.heap[b]?) (hb : Blk W g t cs) (hb' : Blk W g' t' cs') (hu : ∀ x, Value.int .u8 x ∉ cs) (hu' : ∀ x, Value.int .u8 x ∉ cs') : Kd.C (Kd.int .u8) W' A n xs :=
  C_sub h (fun h0 a ha => by subst ha; exact hs _ (C_apart h h0 hb hu) (C_apart h h0 hb' hu'))
/-- What is apart of two boxes at once: a good chain's row. -/
theorem good_keys {n : Nat} {s : List Int} {L : List R.S43} (h : Good n s L) : ∀ x, x ∈ L → x.f1.length ≠ 0 := fun x hx => by have := h.2.2.2.2.2.1 x hx; omega
/-- Two boxes of three cells, stored anew. -/
theorem heap_six (W : World) (g g' : Nat) (u v t u' v' t' : Value) (b : Nat) (h : b ≠ g) (h' : b ≠ g') : ((((((W.setCell ⟨g, 0, none⟩ u).setCell ⟨g, 1, none⟩ v).setCell ⟨g, 2, none⟩ t).setCell ⟨g', 0, none⟩ u').setCell ⟨g', 1, none⟩ v').setCell ⟨g', 2, none⟩ t').heap[b]? = W.heap[b]? := by
  rw [heap_set3 _ g' u' v' t' b h', heap_set3 W g u v t b h]
/-- Behind Take: its chain and its lock lie in two boxes. -/
def Taken (W : World) (N : Int) (s : List Int) (L : List R.S43) (x : R.S43) (gy gm : Nat) (wc : World) : Prop :=
  ∃ As cs Ap cp Ak ck An cn, (s.length ≤ cs ∧ L.length ≤ cp ∧ x.f1.length ≤ ck ∧ x.f2.length ≤ cn) ∧ Kd.C (Kd.int .u8) wc As s.length s ∧ Kd.C R.k43 wc Ap L.length L ∧ Kd.C (Kd.int .u8) wc Ak x.f1.length x.f1 ∧ Kd.C (Kd.int .u8) wc An x.f2.length x.f2 ∧
    Blk wc gy 25 #[.int .i64 N, .slice As s.length cs, .slice Ap L.length cp] ∧ Blk wc gm 43 #[.int .i64 x.f0, .slice Ak x.f1.length ck, .slice An x.f2.length cn] ∧ Below W.heap.size W wc ∧ W.heap.size ≤ gy ∧ W.heap.size ≤ gm ∧ gy ≠ gm
theorem no_u8_3 (n : Int) (A B : Option Addr) (a b c d : Nat) : ∀ x, Value.int .u8 x ∉ #[Value.int .i64 n, .slice A a b, .slice B c d] := by
  intro x h
  simp at h
theorem taken_six {W V : World} {N : Int} {s : List Int} {L : List R.S43} {x : R.S43} {As Ap Ak An : Option Addr} {cs cp ck cn : Nat} (hk : ∀ x, x ∈ L → x.f1.length ≠ 0) (q1 : s.length ≤ cs) (q2 : Kd.C (Kd.int .u8) V As s.length s) (q3 : L.length ≤ cp) (q4 : Kd.C R.k43 V Ap L.length L) (q5 : x.f1.length ≤ ck) (q6 : Kd.C (Kd.int .u8) V Ak x.f1.length x.f1) (q7 : x.f2.length ≤ cn) (q8 : Kd.C (Kd.int .u8) V An x.f2.length x.f2) (hb : Below W.heap.size W V)
    {gy gm : Nat} (hy : Blk V gy 25 #[.int .i64 0, .slice none 0 0, .slice none 0 0]) (hm : Blk V gm 43 #[.int .i64 0, .slice none 0 0, .slice none 0 0]) (hne : gy ≠ gm) (h1 : W.heap.size ≤ gy) (h2 : W.heap.size ≤ gm) :
    Taken W N s L x gy gm ((((((V.setCell ⟨gy, 0, none⟩ (.int .i64 N)).setCell ⟨gy, 1, none⟩ (.slice As s.length cs)).setCell ⟨gy, 2, none⟩ (.slice Ap L.length cp)).setCell ⟨gm, 0, none⟩ (.int .i64 x.f0)).setCell ⟨gm, 1, none⟩ (.slice Ak x.f1.length ck)).setCell ⟨gm, 2, none⟩ (.slice An x.f2.length cn)) := by
  have hs := fun b h h' => heap_six V gy gm (.int .i64 N) (.slice As s.length cs) (.slice Ap L.length cp) (.int .i64 x.f0) (.slice Ak x.f1.length ck) (.slice An x.f2.length cn) b h h'
  have hB : ∀ {B : Option Addr} {m : Nat} {xs : List Int}, Kd.C (Kd.int .u8) V B m xs → Kd.C (Kd.int .u8) _ B m xs := fun hC => bytes_keep hC hs hy hm (no_u8_3 _ _ _ _ _ _ _) (no_u8_3 _ _ _ _ _ _ _)
  refine ⟨As, cs, Ap, cp, Ak, ck, An, cn, ⟨q1, q3, q5, q7⟩, hB q2, locks_keep q4 hs (fun h0 a ha => by subst ha; exact ⟨locks_apart q4 h0 hk hy, locks_apart q4 h0 hk hm⟩) hy hm (no_u8_3 _ _ _ _ _ _ _) (no_u8_3 _ _ _ _ _ _ _), hB q6, hB q8, ?_, ?_, ?_, h1, h2, hne⟩
  · exact ((((((hy.set_ 0 _).set_ 1 _).set_ 2 _).far (p := ⟨gm, 0, none⟩) hne _).far (p := ⟨gm, 1, none⟩) hne _).far (p := ⟨gm, 2, none⟩) hne _)
  · exact ((((((hm.far (p := ⟨gy, 0, none⟩) hne.symm _).far (p := ⟨gy, 1, none⟩) hne.symm _).far (p := ⟨gy, 2, none⟩) hne.symm _).set_ 0 _).set_ 1 _).set_ 2 _)
  · exact (((((hb.setCell (p := ⟨gy, 0, none⟩) h1 _).setCell (p := ⟨gy, 1, none⟩) h1 _).setCell (p := ⟨gy, 2, none⟩) h1 _).setCell (p := ⟨gm, 0, none⟩) h2 _).setCell (p := ⟨gm, 1, none⟩) h2 _).setCell (p := ⟨gm, 2, none⟩) h2 _
theorem taken_y {W V : World} {N : Int} {s : List Int} {L : List R.S43} {x : R.S43} {As Ap Ak An : Option Addr} {cs cp ck cn : Nat} (hk : ∀ x, x ∈ L → x.f1.length ≠ 0) (q1 : s.length ≤ cs) (q2 : Kd.C (Kd.int .u8) V As s.length s) (q3 : L.length ≤ cp) (q4 : Kd.C R.k43 V Ap L.length L) (q5 : x.f1.length ≤ ck) (q6 : Kd.C (Kd.int .u8) V Ak x.f1.length x.f1) (q7 : x.f2.length ≤ cn) (q8 : Kd.C (Kd.int .u8) V An x.f2.length x.f2) (hb : Below W.heap.size W V)
    {gy : Nat} (hy : Blk V gy 25 #[.int .i64 0, .slice none 0 0, .slice none 0 0]) (h1 : W.heap.size ≤ gy) :
    Taken W N s L x gy V.heap.size ((((V.setCell ⟨gy, 0, none⟩ (.int .i64 N)).setCell ⟨gy, 1, none⟩ (.slice As s.length cs)).setCell ⟨gy, 2, none⟩ (.slice Ap L.length cp)).alloc (.cells #[.int .i64 x.f0, .slice Ak x.f1.length ck, .slice An x.f2.length cn] 43)) := by
  have hs := fun b (h : b ≠ gy) (_ : b ≠ gy) => heap_set3 V gy (.int .i64 N) (.slice As s.length cs) (.slice Ap L.length cp) b h
  have hB : ∀ {B : Option Addr} {m : Nat} {xs : List Int}, Kd.C (Kd.int .u8) V B m xs → Kd.C (Kd.int .u8) _ B m xs := fun hC => bytes_keep hC hs hy hy (no_u8_3 _ _ _ _ _ _ _) (no_u8_3 _ _ _ _ _ _ _)
  have hsz : (((V.setCell ⟨gy, 0, none⟩ (.int .i64 N)).setCell ⟨gy, 1, none⟩ (.slice As s.length cs)).setCell ⟨gy, 2, none⟩ (.slice Ap L.length cp)).heap.size = V.heap.size := by simp
  have hn := Blk.new (((V.setCell ⟨gy, 0, none⟩ (.int .i64 N)).setCell ⟨gy, 1, none⟩ (.slice As s.length cs)).setCell ⟨gy, 2, none⟩ (.slice Ap L.length cp)) 43 #[.int .i64 x.f0, .slice Ak x.f1.length ck, .slice An x.f2.length cn]
  rw [hsz] at hn
  have hbs := ((hb.setCell (p := ⟨gy, 0, none⟩) h1 (.int .i64 N)).setCell (p := ⟨gy, 1, none⟩) h1 (.slice As s.length cs)).setCell (p := ⟨gy, 2, none⟩) h1 (.slice Ap L.length cp)
  exact ⟨As, cs, Ap, cp, Ak, ck, An, cn, ⟨q1, q3, q5, q7⟩, Kd.C_alloc (hB q2) _, Kd.C_alloc (locks_keep q4 hs (fun h0 a ha => by subst ha; exact ⟨locks_apart q4 h0 hk hy, locks_apart q4 h0 hk hy⟩) hy hy (no_u8_3 _ _ _ _ _ _ _) (no_u8_3 _ _ _ _ _ _ _)) _, Kd.C_alloc (hB q6) _, Kd.C_alloc (hB q8) _, (((hy.set_ 0 _).set_ 1 _).set_ 2 _).alloc _, hn, hbs.alloc (by rw [hsz]; exact hb.size) _, h1, hb.size, Nat.ne_of_lt hy.lt⟩
theorem taken_m {W V : World} {N : Int} {s : List Int} {L : List R.S43} {x : R.S43} {As Ap Ak An : Option Addr} {cs cp ck cn : Nat} (hk : ∀ x, x ∈ L → x.f1.length ≠ 0) (q1 : s.length ≤ cs) (q2 : Kd.C (Kd.int .u8) V As s.length s) (q3 : L.length ≤ cp) (q4 : Kd.C R.k43 V Ap L.length L) (q5 : x.f1.length ≤ ck) (q6 : Kd.C (Kd.int .u8) V Ak x.f1.length x.f1) (q7 : x.f2.length ≤ cn) (q8 : Kd.C (Kd.int .u8) V An x.f2.length x.f2) (hb : Below W.heap.size W V)
    {gm : Nat} (hm : Blk V gm 43 #[.int .i64 0, .slice none 0 0, .slice none 0 0]) (h2 : W.heap.size ≤ gm) :
    Taken W N s L x V.heap.size gm ((((V.setCell ⟨gm, 0, none⟩ (.int .i64 x.f0)).setCell ⟨gm, 1, none⟩ (.slice Ak x.f1.length ck)).setCell ⟨gm, 2, none⟩ (.slice An x.f2.length cn)).alloc (.cells #[.int .i64 N, .slice As s.length cs, .slice Ap L.length cp] 25)) := by
  have hs := fun b (h : b ≠ gm) (_ : b ≠ gm) => heap_set3 V gm (.int .i64 x.f0) (.slice Ak x.f1.length ck) (.slice An x.f2.length cn) b h
  have hB : ∀ {B : Option Addr} {m : Nat} {xs : List Int}, Kd.C (Kd.int .u8) V B m xs → Kd.C (Kd.int .u8) _ B m xs := fun hC => bytes_keep hC hs hm hm (no_u8_3 _ _ _ _ _ _ _) (no_u8_3 _ _ _ _ _ _ _)
  have hsz : (((V.setCell ⟨gm, 0, none⟩ (.int .i64 x.f0)).setCell ⟨gm, 1, none⟩ (.slice Ak x.f1.length ck)).setCell ⟨gm, 2, none⟩ (.slice An x.f2.length cn)).heap.size = V.heap.size := by simp
  have hn := Blk.new (((V.setCell ⟨gm, 0, none⟩ (.int .i64 x.f0)).setCell ⟨gm, 1, none⟩ (.slice Ak x.f1.length ck)).setCell ⟨gm, 2, none⟩ (.slice An x.f2.length cn)) 25 #[.int .i64 N, .slice As s.length cs, .slice Ap L.length cp]
  rw [hsz] at hn
  have hbs := ((hb.setCell (p := ⟨gm, 0, none⟩) h2 (.int .i64 x.f0)).setCell (p := ⟨gm, 1, none⟩) h2 (.slice Ak x.f1.length ck)).setCell (p := ⟨gm, 2, none⟩) h2 (.slice An x.f2.length cn)
  exact ⟨As, cs, Ap, cp, Ak, ck, An, cn, ⟨q1, q3, q5, q7⟩, Kd.C_alloc (hB q2) _, Kd.C_alloc (locks_keep q4 hs (fun h0 a ha => by subst ha; exact ⟨locks_apart q4 h0 hk hm, locks_apart q4 h0 hk hm⟩) hm hm (no_u8_3 _ _ _ _ _ _ _) (no_u8_3 _ _ _ _ _ _ _)) _, Kd.C_alloc (hB q6) _, Kd.C_alloc (hB q8) _, hn, (((hm.set_ 0 _).set_ 1 _).set_ 2 _).alloc _, hbs.alloc (by rw [hsz]; exact hb.size) _, hb.size, h2, (Nat.ne_of_lt hm.lt).symm⟩
theorem taken_new_t {W V : World} {N : Int} {s : List Int} {L : List R.S43} {x : R.S43} {As Ap Ak An : Option Addr} {cs cp ck cn : Nat} (q1 : s.length ≤ cs) (q2 : Kd.C (Kd.int .u8) V As s.length s) (q3 : L.length ≤ cp) (q4 : Kd.C R.k43 V Ap L.length L) (q5 : x.f1.length ≤ ck) (q6 : Kd.C (Kd.int .u8) V Ak x.f1.length x.f1) (q7 : x.f2.length ≤ cn) (q8 : Kd.C (Kd.int .u8) V An x.f2.length x.f2) (hb : Below W.heap.size W V)
    :
    Taken W N s L x V.heap.size (V.heap.size + 1) ((V.alloc (.cells #[.int .i64 N, .slice As s.length cs, .slice Ap L.length cp] 25)).alloc (.cells #[.int .i64 x.f0, .slice Ak x.f1.length ck, .slice An x.f2.length cn] 43)) := by
  have hz : W.heap.size ≤ V.heap.size := hb.size
  obtain ⟨r1, r2, r3, r4⟩ := two_boxes V #[.int .i64 N, .slice As s.length cs, .slice Ap L.length cp] #[.int .i64 x.f0, .slice Ak x.f1.length ck, .slice An x.f2.length cn] 25 43
  exact ⟨As, cs, Ap, cp, Ak, ck, An, cn, ⟨q1, q3, q5, q7⟩, Kd.C_below q2 r3, Kd.C_below q4 r3, Kd.C_below q6 r3, Kd.C_below q8 r3, r1, r2, hb.trans (r3.mono hz), hz, Nat.le_succ_of_le hz, Nat.ne_of_lt (Nat.lt_succ_self _)⟩
theorem taken_new_f {W V : World} {N : Int} {s : List Int} {L : List R.S43} {x : R.S43} {As Ap Ak An : Option Addr} {cs cp ck cn : Nat} (q1 : s.length ≤ cs) (q2 : Kd.C (Kd.int .u8) V As s.length s) (q3 : L.length ≤ cp) (q4 : Kd.C R.k43 V Ap L.length L) (q5 : x.f1.length ≤ ck) (q6 : Kd.C (Kd.int .u8) V Ak x.f1.length x.f1) (q7 : x.f2.length ≤ cn) (q8 : Kd.C (Kd.int .u8) V An x.f2.length x.f2) (hb : Below W.heap.size W V)
    :
    Taken W N s L x (V.heap.size + 1) V.heap.size ((V.alloc (.cells #[.int .i64 x.f0, .slice Ak x.f1.length ck, .slice An x.f2.length cn] 43)).alloc (.cells #[.int .i64 N, .slice As s.length cs, .slice Ap L.length cp] 25)) := by
  have hz : W.heap.size ≤ V.heap.size := hb.size
  obtain ⟨r1, r2, r3, r4⟩ := two_boxes V #[.int .i64 x.f0, .slice Ak x.f1.length ck, .slice An x.f2.length cn] #[.int .i64 N, .slice As s.length cs, .slice Ap L.length cp] 43 25
  exact ⟨As, cs, Ap, cp, Ak, ck, An, cn, ⟨q1, q3, q5, q7⟩, Kd.C_below q2 r3, Kd.C_below q4 r3, Kd.C_below q6 r3, Kd.C_below q8 r3, r2, r1, hb.trans (r3.mono hz), Nat.le_succ_of_le hz, hz, (Nat.ne_of_lt (Nat.lt_succ_self _)).symm⟩
end Go.Proofs.YtdklmafkcbjomaaDoor
