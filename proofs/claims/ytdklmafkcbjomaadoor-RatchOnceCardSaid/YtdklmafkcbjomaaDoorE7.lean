/-
 The lower layers, walked and in closed forms, part 7: R4, R, RatN, RatO, RatP, RatR, RowsIn, StructIn, OpenK, RatQ, RatV, RatW, RatX, Ref8, RatY, RatSa.
-/
import Derived.Test.YtdklmafkcbjomaaDoorE0
import Derived.Test.YtdklmafkcbjomaaDoorE1
import Derived.Test.YtdklmafkcbjomaaDoorE6
import Derived.Test.YtdklmafkcbjomaaDoorFWords
import Derived.Test.YtdklmafkcbjomaaDoorFLast
import Derived.Test.YtdklmafkcbjomaaDoorFMore
import Derived.Test.YtdklmafkcbjomaaDoorFRepsOne
import Derived.Test.YtdklmafkcbjomaaDoorFGuard
import Derived.Test.YtdklmafkcbjomaaDoorFSized
import Derived.Test.YtdklmafkcbjomaaDoorRows
import Derived.Deep.Matrix
import Derived.SizedLaws
import Derived.ChangeArms
import Derived.LaidMore
import Derived.Lib.LaidTab
import Derived.Stop.LaidErr
/-! R4 -/
namespace Go.Proofs.YtdklmafkcbjomaaDoor.R
open Go.Proofs.YtdklmafkcbjomaaDoor.P
open Go.RowKit Go.Proofs.YtdklmafkcbjomaaDoorW.PrintWords Go.Proofs.YtdklmafkcbjomaaDoorW.PrintLast Go.Proofs.YtdklmafkcbjomaaDoorW.PrintMore
attribute [local go_sem] max2_int min2_int max_two min_two max_three min_three max_four min_four   -- for this text's walks alone
set_option linter.unusedVariables false
set_option linter.unusedSimpArgs false
/-! ### ratch_Right: function 18 -/
mutual
def ratch_Right.j0 : Nat → Bool → Int → List Int → List (S43) → Option (Bool)
 | 0, _, _, _, _ => none
 | k + 1, x25, x179000, x179001, x179002 => if x25 = true then (some false) else (ratch_Right.l0 k (-1) x179002 (x179002.length : Int) 0 x179000 x179001 x179002)
def ratch_Right.l0 : Nat → Int → List (S43) → Int → Int → Int → List Int → List (S43) → Option (Bool)
 | 0, _, _, _, _, _, _, _ => none
 | k + 1, x3, x27, x28, x29, x179000, x179001, x179002 => if x29 < x28 then (if 0 ≤ x29 then (if x29 < (x27.length : Int) then (if ((rd_T43 x27 x29).f0) ≤ x3 then (some false) else (if ((rd_T43 x27 x29).f0) ≥ x179000 then (some false) else (if (((rd_T43 x27 x29).f1).length : Int) = 32 then (if (((rd_T43 x27 x29).f2).length : Int) = 12 then (ratch_Right.l0 k ((rd_T43 x27 x29).f0) x27 x28 (wrap64 (x29 + 1)) x179000 x179001 x179002) else (some false)) else (some false)))) else (none)) else (none)) else (some true)
end
def ratch_Right.f (k : Nat) (a0_0 : Int) (l0_1 : List Int) (l0_2 : List (S43)) : Option (Bool) := if a0_0 < 0 then (ratch_Right.j0 k true a0_0 l0_1 l0_2) else (if a0_0 > 4294967294 then (ratch_Right.j0 k true a0_0 l0_1 l0_2) else (if (l0_1.length : Int) = 32 then (ratch_Right.j0 k (decide ((l0_2.length : Int) > 32)) a0_0 l0_1 l0_2) else (ratch_Right.j0 k true a0_0 l0_1 l0_2)))
set_option maxHeartbeats 8000000 in
set_option maxRecDepth 100000 in
theorem ratch_Right.calls (k : Nat) (a0_0 : Int) (A0_1 : Option Addr) (c0_1 : Nat) (l0_1 : List Int) (A0_2 : Option Addr) (c0_2 : Nat) (l0_2 : List (S43)) (r : Bool) (w : World) (hr0_1 : Kd.C (Kd.int .u8) w A0_1 l0_1.length l0_1) (hc0_1 : l0_1.length ≤ c0_1) (hr0_2 : Kd.C k43 w A0_2 l0_2.length l0_2) (hc0_2 : l0_2.length ≤ c0_2) (h : ratch_Right.f k a0_0 l0_1 l0_2 = some r) :
  Calls Tryd.prog 18 #[.agg #[.int .i64 a0_0, .slice A0_1 l0_1.length c0_1, .slice A0_2 l0_2.length c0_2]] w fun e w' => e = .returned (.bool r) ∧ Below w.heap.size w w' := by
 have hu25 := Tryd.underlying25
 have hu43 := Tryd.underlying43
 have HR0_1 := Aside0.mk hr0_1
 have HC0_1 := Aside0.mk hc0_1
 clear hr0_1 hc0_1
 have HR0_2 := Aside0.mk hr0_2
 have HC0_2 := Aside0.mk hc0_2
 clear hr0_2 hc0_2
 have HB := Aside0.mk (Below.refl w.heap.size w)
 have H : (if a0_0 < 0 then (ratch_Right.j0 k true a0_0 l0_1 l0_2) else (if a0_0 > 4294967294 then (ratch_Right.j0 k true a0_0 l0_1 l0_2) else (if (l0_1.length : Int) = 32 then (ratch_Right.j0 k (decide ((l0_2.length : Int) > 32)) a0_0 l0_1 l0_2) else (ratch_Right.j0 k true a0_0 l0_1 l0_2)))) = some r := h
 clear h
 have HC2 := Aside0.mk H
 clear H
 go_enter Tryd.func18, Tryd.ntmps18
 go_upto_region 1 with (first | ((with_reducible refine gate_dst (N := 1) rfl ?_); (try (refine gate_guard (by rfl) ?_; dsimp only)); refine box_event ?hg (N := 1) ?hd (cs := #[.int .i64 a0_0, .slice A0_1 l0_1.length c0_1, .slice A0_2 l0_2.length c0_2]) (t := 25) ?hr ?_; (case hd => rfl); (case hg => rfl); (case hr => first | (go_simp; done) | (go_simp; rfl)); intro gb178 hg w3 hbox hb; have n0_ := Aside0.mk (below_step (by repeat (first | (with_reducible first | exact HB.out | apply below_alloc | apply pw_below_drewN | apply below_drew1) | exact HB.out)) hb); have n1_ := Aside0.mk (hbox); have n2_ := Aside0.mk ((by rw [hg]; exact (below_size (by repeat (first | (with_reducible first | exact HB.out | apply below_alloc | apply pw_below_drewN | apply below_drew1) | exact HB.out))) : w.heap.size ≤ gb178)); have n3_ := Aside0.mk ((by rw [hg]; exact (below_size (by repeat (first | (with_reducible first | exact HB.out | apply below_alloc | apply pw_below_drewN | apply below_drew1) | exact HB.out))) : w.heap.size ≤ gb178)); clear HB; have HB := n0_; have BK178 := n1_; have GW178 := n2_; have GE178 := n3_; clear n0_ n1_ n2_ n3_; clear hb hbox hg))
 (try simp only [Act.put, List.setIfInBounds_toArray, List.set_cons_zero, List.set_cons_succ])
 go_cut [25] (fun v25 wc => ∃ (kq : Nat) (x25_1 : Bool), v25 = .bool x25_1 ∧ Aside0 (ratch_Right.j0 kq x25_1 a0_0 l0_1 l0_2 = some r) ∧ Aside0 (kq ≤ k) ∧ Aside0 (wc.heap[gb178]? = some (.cells #[.int .i64 a0_0, (.slice A0_1 l0_1.length c0_1), (.slice A0_2 l0_2.length c0_2)] 25 (0, 0))) ∧ Aside0 (Below w.heap.size w wc))
 case first =>
  have H := HC2.out
  clear HC2
  by_cases c4 : a0_0 < 0
  ·rw [if_pos c4] at H
   have c4b0 : decide (a0_0 < 0) = true := decide_eq_true c4
   clear c4
   (first | rw [c4b0] | (simp only [i64_w, i32_w]; rw [c4b0]) | skip)
   have H' := Aside0.mk H
   clear H
   have hcz5_0 : w3.cell? ⟨gb178, 0, none⟩ = some (.int .i64 a0_0) := (blk_cell BK178.out 0).trans rfl
   have hcz5_1 : w3.cell? ⟨gb178, 1, none⟩ = some (.slice A0_1 l0_1.length c0_1) := (blk_cell BK178.out 1).trans rfl
   have hcz5_2 : w3.cell? ⟨gb178, 2, none⟩ = some (.slice A0_2 l0_2.length c0_2) := (blk_cell BK178.out 2).trans rfl
   have hfz5_0 := blk_frozen BK178.out 0
   have hfz5_1 := blk_frozen BK178.out 1
   have hfz5_2 := blk_frozen BK178.out 2
   go_wp2
   go_meet
   case rel => exact ⟨_, (true), (by first | rfl | (simp; done) | (simp [*]; done)), H', ⟨by first | omega | exact Nat.le_refl _⟩, ⟨by (with_reducible repeat (first | refine blk_drewN ?_ _ | refine blk_drew ?_ | refine blk_alloc ?_ _)); exact BK178.out⟩, ⟨by repeat (first | (with_reducible first | exact HB.out | apply below_alloc | apply pw_below_drewN | apply below_drew1 | refine below_set ?_ GE178.out) | exact HB.out)⟩⟩
  rw [if_neg c4] at H
  have c4b0 : decide (a0_0 < 0) = false := decide_eq_false c4
  clear c4
  (first | rw [c4b0] | (simp only [i64_w, i32_w]; rw [c4b0]) | skip)
  by_cases c6 : a0_0 > 4294967294
  ·rw [if_pos c6] at H
   have c6b0 : decide (4294967294 < a0_0) = true := decide_eq_true c6
   clear c6
   have H' := Aside0.mk H
   clear H
   have hcz7_0 : w3.cell? ⟨gb178, 0, none⟩ = some (.int .i64 a0_0) := (blk_cell BK178.out 0).trans rfl
   have hcz7_1 : w3.cell? ⟨gb178, 1, none⟩ = some (.slice A0_1 l0_1.length c0_1) := (blk_cell BK178.out 1).trans rfl
   have hcz7_2 : w3.cell? ⟨gb178, 2, none⟩ = some (.slice A0_2 l0_2.length c0_2) := (blk_cell BK178.out 2).trans rfl
   have hfz7_0 := blk_frozen BK178.out 0
   have hfz7_1 := blk_frozen BK178.out 1
   have hfz7_2 := blk_frozen BK178.out 2
   go_wp2
   go_meet
   case rel => exact ⟨_, (true), (by first | rfl | (simp; done) | (simp [*]; done)), H', ⟨by first | omega | exact Nat.le_refl _⟩, ⟨by (with_reducible repeat (first | refine blk_drewN ?_ _ | refine blk_drew ?_ | refine blk_alloc ?_ _)); exact BK178.out⟩, ⟨by repeat (first | (with_reducible first | exact HB.out | apply below_alloc | apply pw_below_drewN | apply below_drew1 | refine below_set ?_ GE178.out) | exact HB.out)⟩⟩
  rw [if_neg c6] at H
  have c6b0 : decide (4294967294 < a0_0) = false := decide_eq_false c6
  clear c6
  by_cases c8 : (l0_1.length : Int) = 32
  rotate_left
  ·rw [if_neg c8] at H
   have c8b0 : ((l0_1.length : Int) == 32) = false := beq_eq_false_iff_ne.mpr c8
   have c8b1 : ((l0_1.length : Int) != 32) = true := bne_iff_ne.mpr c8
   have H' := Aside0.mk H
   clear H
   have hcz10_0 : w3.cell? ⟨gb178, 0, none⟩ = some (.int .i64 a0_0) := (blk_cell BK178.out 0).trans rfl
   have hcz10_1 : w3.cell? ⟨gb178, 1, none⟩ = some (.slice A0_1 l0_1.length c0_1) := (blk_cell BK178.out 1).trans rfl
   have hcz10_2 : w3.cell? ⟨gb178, 2, none⟩ = some (.slice A0_2 l0_2.length c0_2) := (blk_cell BK178.out 2).trans rfl
   have hfz10_0 := blk_frozen BK178.out 0
   have hfz10_1 := blk_frozen BK178.out 1
   have hfz10_2 := blk_frozen BK178.out 2
   go_wp2
   go_meet
   case rel => exact ⟨_, (true), (by first | rfl | (simp; done) | (simp [*]; done)), H', ⟨by first | omega | exact Nat.le_refl _⟩, ⟨by (with_reducible repeat (first | refine blk_drewN ?_ _ | refine blk_drew ?_ | refine blk_alloc ?_ _)); exact BK178.out⟩, ⟨by repeat (first | (with_reducible first | exact HB.out | apply below_alloc | apply pw_below_drewN | apply below_drew1 | refine below_set ?_ GE178.out) | exact HB.out)⟩⟩
  rw [if_pos c8] at H
  have c8b0 : ((l0_1.length : Int) == 32) = true := beq_iff_eq.mpr c8
  have c8b1 : ((l0_1.length : Int) != 32) = false := bne_eq_false_iff_eq.mpr c8
  clear c8
  have H' := Aside0.mk H
  clear H
  have hcz9_0 : w3.cell? ⟨gb178, 0, none⟩ = some (.int .i64 a0_0) := (blk_cell BK178.out 0).trans rfl
  have hcz9_1 : w3.cell? ⟨gb178, 1, none⟩ = some (.slice A0_1 l0_1.length c0_1) := (blk_cell BK178.out 1).trans rfl
  have hcz9_2 : w3.cell? ⟨gb178, 2, none⟩ = some (.slice A0_2 l0_2.length c0_2) := (blk_cell BK178.out 2).trans rfl
  have hfz9_0 := blk_frozen BK178.out 0
  have hfz9_1 := blk_frozen BK178.out 1
  have hfz9_2 := blk_frozen BK178.out 2
  go_wp2
  go_meet
  case rel => exact ⟨_, (decide ((l0_2.length : Int) > 32)), (by first | rfl | (simp; done) | (simp [*]; done)), H', ⟨by first | omega | exact Nat.le_refl _⟩, ⟨by (with_reducible repeat (first | refine blk_drewN ?_ _ | refine blk_drew ?_ | refine blk_alloc ?_ _)); exact BK178.out⟩, ⟨by repeat (first | (with_reducible first | exact HB.out | apply below_alloc | apply pw_below_drewN | apply below_drew1 | refine below_set ?_ GE178.out) | exact HB.out)⟩⟩
 clear HC2
 try clear c1
 try clear p2
 try clear c4
 try clear c4b0
 try clear c6
 try clear c6b0
 try clear c8
 try clear c8b0
 try clear c8b1
 try clear hcz10_0
 try clear hcz10_1
 try clear hcz10_2
 try clear hcz5_0
 try clear hcz5_1
 try clear hcz5_2
 try clear hcz7_0
 try clear hcz7_1
 try clear hcz7_2
 try clear hcz9_0
 try clear hcz9_1
 try clear hcz9_2
 try clear hfz10_0
 try clear hfz10_1
 try clear hfz10_2
 try clear hfz5_0
 try clear hfz5_1
 try clear hfz5_2
 try clear hfz7_0
 try clear hfz7_1
 try clear hfz7_2
 try clear hfz9_0
 try clear hfz9_1
 try clear hfz9_2
 obtain ⟨kq, x25_1, rfl, HA, HJ1, BK178, HB⟩ := hcut
 cases kq with
 | zero => exact absurd HA.out (by simp [ratch_Right.j0])
 | succ kj1 =>
  have H := HA.out
  clear HA
  simp only [ratch_Right.j0] at H
  by_cases c11 : x25_1 = true
  ·subst c11
   have H1 : (some false) = some r := by rw [if_pos rfl] at H; exact H
   clear H
   have H := H1
   clear H1
   obtain rfl := Option.some.inj H
   go_wp2
   go_ret
   exact ⟨by first | rfl | (simp [errW_none, errW_some] <;> rfl) | (simp [*, errW_none, errW_some] <;> rfl), by repeat (first | (with_reducible first | exact HB.out | apply below_alloc | apply pw_below_drewN | apply below_drew1 | refine below_set ?_ GE178.out) | exact HB.out)⟩
  replace c11 := Bool.eq_false_iff.mpr c11
  subst c11
  have H1 : (ratch_Right.l0 kj1 (-1) l0_2 (l0_2.length : Int) 0 a0_0 l0_1 l0_2) = some r := by rw [if_neg (show ¬ (false = true) by decide)] at H; exact H
  clear H
  have H := H1
  clear H1
  have H' := Aside0.mk H
  clear H
  have hcz12_0 : wc.cell? ⟨gb178, 0, none⟩ = some (.int .i64 a0_0) := (blk_cell BK178.out 0).trans rfl
  have hcz12_1 : wc.cell? ⟨gb178, 1, none⟩ = some (.slice A0_1 l0_1.length c0_1) := (blk_cell BK178.out 1).trans rfl
  have hcz12_2 : wc.cell? ⟨gb178, 2, none⟩ = some (.slice A0_2 l0_2.length c0_2) := (blk_cell BK178.out 2).trans rfl
  have hfz12_0 := blk_frozen BK178.out 0
  have hfz12_1 := blk_frozen BK178.out 1
  have hfz12_2 := blk_frozen BK178.out 2
  go_wp2
  go_loopg [3, 29] kj1 (fun kq v3 v29 w' => ∃ (x3_2 : Int) (x29_2 : Int), v3 = .int .i64 x3_2 ∧ v29 = .int .i64 x29_2 ∧ Aside0 (ratch_Right.l0 kq x3_2 l0_2 (l0_2.length : Int) x29_2 a0_0 l0_1 l0_2 = some r) ∧ Aside0 (kq ≤ kj1) ∧ Aside0 (w'.heap[gb178]? = some (.cells #[.int .i64 a0_0, (.slice A0_1 l0_1.length c0_1), (.slice A0_2 l0_2.length c0_2)] 25 (0, 0))) ∧ Aside0 (Below w.heap.size w w'))
  case atStart => exact ⟨((-1)), (0), (by first | rfl | (simp; done) | (simp [*]; done)), (by first | rfl | (simp; done) | (simp [*]; done)), H', ⟨Nat.le_refl _⟩, ⟨by (with_reducible repeat (first | refine blk_drewN ?_ _ | refine blk_drew ?_ | refine blk_alloc ?_ _)); exact BK178.out⟩, ⟨by repeat (first | (with_reducible first | exact HB.out | apply below_alloc | apply pw_below_drewN | apply below_drew1 | refine below_set ?_ GE178.out) | exact HB.out)⟩⟩
  clear H'
  try clear c1
  try clear p2
  try clear c4
  try clear c4b0
  try clear c6
  try clear c6b0
  try clear c8
  try clear c8b0
  try clear c8b1
  try clear c11
  try clear hcz10_0
  try clear hcz10_1
  try clear hcz10_2
  try clear hcz12_0
  try clear hcz12_1
  try clear hcz12_2
  try clear hcz5_0
  try clear hcz5_1
  try clear hcz5_2
  try clear hcz7_0
  try clear hcz7_1
  try clear hcz7_2
  try clear hcz9_0
  try clear hcz9_1
  try clear hcz9_2
  try clear hfz10_0
  try clear hfz10_1
  try clear hfz10_2
  try clear hfz12_0
  try clear hfz12_1
  try clear hfz12_2
  try clear hfz5_0
  try clear hfz5_1
  try clear hfz5_2
  try clear hfz7_0
  try clear hfz7_1
  try clear hfz7_2
  try clear hfz9_0
  try clear hfz9_1
  try clear hfz9_2
  try clear p2
  obtain ⟨x3_2, x29_2, rfl, rfl, HA, HK2, BK178, HB⟩ := hrel
  cases gk with
  | zero => exact absurd HA.out (by simp [ratch_Right.l0])
  | succ k2 =>
   have H := HA.out
   clear HA
   simp only [ratch_Right.l0] at H
   by_cases c13 : x29_2 < (l0_2.length : Int)
   rotate_left
   ·rw [if_neg c13] at H
    have c13b0 : decide (x29_2 < (l0_2.length : Int)) = false := decide_eq_false c13
    clear c13
    obtain rfl := Option.some.inj H
    go_wp2
    go_ret
    exact ⟨by first | rfl | (simp [errW_none, errW_some] <;> rfl) | (simp [*, errW_none, errW_some] <;> rfl), by repeat (first | (with_reducible first | exact HB.out | apply below_alloc | apply pw_below_drewN | apply below_drew1 | refine below_set ?_ GE178.out) | exact HB.out)⟩
   rw [if_pos c13] at H
   have c13b0 : decide (x29_2 < (l0_2.length : Int)) = true := decide_eq_true c13
   clear c13
   by_cases c14 : 0 ≤ x29_2
   rotate_left
   ·rw [if_neg c14] at H
    exact absurd H (by simp)
   rw [if_pos c14] at H
   have c14b0 : decide (0 ≤ x29_2) = true := decide_eq_true c14
   clear c14
   by_cases c15 : x29_2 < (l0_2.length : Int)
   rotate_left
   ·rw [if_neg c15] at H
    exact absurd H (by simp)
   rw [if_pos c15] at H
   have c15b0 : decide (x29_2 < (l0_2.length : Int)) = true := decide_eq_true c15
   clear c15
   by_cases c16 : ((rd_T43 l0_2 x29_2).f0) ≤ x3_2
   ·rw [if_pos c16] at H
    have c16b0 : decide (((rd_T43 l0_2 x29_2).f0) ≤ x3_2) = true := decide_eq_true c16
    clear c16
    obtain rfl := Option.some.inj H
    have p179 : 0 ≤ (x29_2 : Int) := of_decide_eq_true (by first | (with_reducible assumption) | assumption)
    have q179 : x29_2 < (l0_2.length : Int) := of_decide_eq_true (by first | (with_reducible assumption) | assumption)
    obtain ⟨ad179, A179_1, c179_1, A179_2, c179_2, e179, hx179_0, hx179_1, hx179_2, hl179_1, hi179_1, hl179_2, hi179_2⟩ := at_T43 HR0_2.out x29_2 p179 q179
    cases e179
    replace hx179_0 := (HB.out.cell (World.block_lt_of_cell? w _ hx179_0)).trans hx179_0
    replace hx179_1 := (HB.out.cell (World.block_lt_of_cell? w _ hx179_1)).trans hx179_1
    replace hx179_2 := (HB.out.cell (World.block_lt_of_cell? w _ hx179_2)).trans hx179_2
    have HR179_1 := Aside0.mk hi179_1
    have HC179_1 := Aside0.mk hl179_1
    clear hi179_1 hl179_1
    have HR179_2 := Aside0.mk hi179_2
    have HC179_2 := Aside0.mk hl179_2
    clear hi179_2 hl179_2
    replace p179 := eq_true p179
    replace q179 := eq_true q179
    go_wp2_with (first | ((with_reducible refine gate_dst (N := 5) rfl ?_); (try (refine gate_guard (by rfl) ?_; dsimp only)); refine box_event ?hg (N := 5) ?hd (cs := #[.int .i64 0, .slice none 0 0, .slice none 0 0]) (t := 43) ?hr ?_; (case hd => rfl); (case hg => rfl); (case hr => first | (go_simp; done) | (go_simp; rfl)); intro gb180 hg w17 hbox hb; have n0_ := Aside0.mk (blk_below (g := gb178) (o := .cells #[.int .i64 a0_0, .slice A0_1 l0_1.length c0_1, .slice (some ad179) l0_2.length c0_2] 25 (0, 0)) (by (with_reducible repeat (first | refine blk_drewN ?_ _ | refine blk_drew ?_ | refine blk_alloc ?_ _)); exact BK178.out) hb); have n1_ := Aside0.mk (below_step (by repeat (first | (with_reducible first | exact HB.out | apply below_alloc | apply pw_below_drewN | apply below_drew1 | refine below_set ?_ GE178.out) | exact HB.out)) hb); have n2_ := Aside0.mk (hbox); have n3_ := Aside0.mk ((by rw [hg]; exact (below_size (by repeat (first | (with_reducible first | exact HB.out | apply below_alloc | apply pw_below_drewN | apply below_drew1 | refine below_set ?_ GE178.out) | exact HB.out))) : w.heap.size ≤ gb180)); have n4_ := Aside0.mk ((by rw [hg]; exact (below_size (by repeat (first | (with_reducible first | exact HB.out | apply below_alloc | apply pw_below_drewN | apply below_drew1 | refine below_set ?_ GE178.out) | exact HB.out))) : w.heap.size ≤ gb180)); have n5_ := Aside0.mk ((by rw [hg]; exact Nat.ne_of_lt (blk_lt (g := gb178) (o := .cells #[.int .i64 a0_0, .slice A0_1 l0_1.length c0_1, .slice (some ad179) l0_2.length c0_2] 25 (0, 0)) (by (with_reducible repeat (first | refine blk_drewN ?_ _ | refine blk_drew ?_ | refine blk_alloc ?_ _)); exact BK178.out)) : gb178 ≠ gb180)); have n6_ := Aside0.mk ((by rw [hg]; exact Nat.ne_of_gt (blk_lt (g := gb178) (o := .cells #[.int .i64 a0_0, .slice A0_1 l0_1.length c0_1, .slice (some ad179) l0_2.length c0_2] 25 (0, 0)) (by (with_reducible repeat (first | refine blk_drewN ?_ _ | refine blk_drew ?_ | refine blk_alloc ?_ _)); exact BK178.out)) : gb180 ≠ gb178)); clear BK178; clear HB; have BK178 := n0_; have HB := n1_; have BK180 := n2_; have GW180 := n3_; have GE180 := n4_; have NB178_180 := n5_; have NB180_178 := n6_; clear n0_ n1_ n2_ n3_ n4_ n5_ n6_; clear hb hbox hg; have hnb18 := NB180_178.out; have hnc18 := NB178_180.out; have hcz19_0 : w17.cell? ⟨gb180, 0, none⟩ = some (.int .i64 0) := (blk_cell BK180.out 0).trans rfl; have hcz19_1 : w17.cell? ⟨gb180, 1, none⟩ = some (.slice none 0 0) := (blk_cell BK180.out 1).trans rfl; have hcz19_2 : w17.cell? ⟨gb180, 2, none⟩ = some (.slice none 0 0) := (blk_cell BK180.out 2).trans rfl; have hfz19_0 := blk_frozen BK180.out 0; have hfz19_1 := blk_frozen BK180.out 1; have hfz19_2 := blk_frozen BK180.out 2))
    go_ret
    exact ⟨by first | rfl | (simp [errW_none, errW_some] <;> rfl) | (simp [*, errW_none, errW_some] <;> rfl), by repeat (first | (with_reducible first | exact HB.out | apply below_alloc | apply pw_below_drewN | apply below_drew1 | refine below_set ?_ GE178.out | refine below_set ?_ GE180.out) | exact HB.out)⟩
   rw [if_neg c16] at H
   have c16b0 : decide (((rd_T43 l0_2 x29_2).f0) ≤ x3_2) = false := decide_eq_false c16
   clear c16
   by_cases c20 : ((rd_T43 l0_2 x29_2).f0) ≥ a0_0
   ·rw [if_pos c20] at H
    have c20b0 : decide (a0_0 ≤ ((rd_T43 l0_2 x29_2).f0)) = true := decide_eq_true c20
    clear c20
    obtain rfl := Option.some.inj H
    have p179 : 0 ≤ (x29_2 : Int) := of_decide_eq_true (by first | (with_reducible assumption) | assumption)
    have q179 : x29_2 < (l0_2.length : Int) := of_decide_eq_true (by first | (with_reducible assumption) | assumption)
    obtain ⟨ad179, A179_1, c179_1, A179_2, c179_2, e179, hx179_0, hx179_1, hx179_2, hl179_1, hi179_1, hl179_2, hi179_2⟩ := at_T43 HR0_2.out x29_2 p179 q179
    cases e179
    replace hx179_0 := (HB.out.cell (World.block_lt_of_cell? w _ hx179_0)).trans hx179_0
    replace hx179_1 := (HB.out.cell (World.block_lt_of_cell? w _ hx179_1)).trans hx179_1
    replace hx179_2 := (HB.out.cell (World.block_lt_of_cell? w _ hx179_2)).trans hx179_2
    have HR179_1 := Aside0.mk hi179_1
    have HC179_1 := Aside0.mk hl179_1
    clear hi179_1 hl179_1
    have HR179_2 := Aside0.mk hi179_2
    have HC179_2 := Aside0.mk hl179_2
    clear hi179_2 hl179_2
    replace p179 := eq_true p179
    replace q179 := eq_true q179
    go_wp2_with (first | ((with_reducible refine gate_dst (N := 5) rfl ?_); (try (refine gate_guard (by rfl) ?_; dsimp only)); refine box_event ?hg (N := 5) ?hd (cs := #[.int .i64 0, .slice none 0 0, .slice none 0 0]) (t := 43) ?hr ?_; (case hd => rfl); (case hg => rfl); (case hr => first | (go_simp; done) | (go_simp; rfl)); intro gb180 hg w21 hbox hb; have n0_ := Aside0.mk (blk_below (g := gb178) (o := .cells #[.int .i64 a0_0, .slice A0_1 l0_1.length c0_1, .slice (some ad179) l0_2.length c0_2] 25 (0, 0)) (by (with_reducible repeat (first | refine blk_drewN ?_ _ | refine blk_drew ?_ | refine blk_alloc ?_ _)); exact BK178.out) hb); have n1_ := Aside0.mk (below_step (by repeat (first | (with_reducible first | exact HB.out | apply below_alloc | apply pw_below_drewN | apply below_drew1 | refine below_set ?_ GE178.out) | exact HB.out)) hb); have n2_ := Aside0.mk (hbox); have n3_ := Aside0.mk ((by rw [hg]; exact (below_size (by repeat (first | (with_reducible first | exact HB.out | apply below_alloc | apply pw_below_drewN | apply below_drew1 | refine below_set ?_ GE178.out) | exact HB.out))) : w.heap.size ≤ gb180)); have n4_ := Aside0.mk ((by rw [hg]; exact (below_size (by repeat (first | (with_reducible first | exact HB.out | apply below_alloc | apply pw_below_drewN | apply below_drew1 | refine below_set ?_ GE178.out) | exact HB.out))) : w.heap.size ≤ gb180)); have n5_ := Aside0.mk ((by rw [hg]; exact Nat.ne_of_lt (blk_lt (g := gb178) (o := .cells #[.int .i64 a0_0, .slice A0_1 l0_1.length c0_1, .slice (some ad179) l0_2.length c0_2] 25 (0, 0)) (by (with_reducible repeat (first | refine blk_drewN ?_ _ | refine blk_drew ?_ | refine blk_alloc ?_ _)); exact BK178.out)) : gb178 ≠ gb180)); have n6_ := Aside0.mk ((by rw [hg]; exact Nat.ne_of_gt (blk_lt (g := gb178) (o := .cells #[.int .i64 a0_0, .slice A0_1 l0_1.length c0_1, .slice (some ad179) l0_2.length c0_2] 25 (0, 0)) (by (with_reducible repeat (first | refine blk_drewN ?_ _ | refine blk_drew ?_ | refine blk_alloc ?_ _)); exact BK178.out)) : gb180 ≠ gb178)); clear BK178; clear HB; have BK178 := n0_; have HB := n1_; have BK180 := n2_; have GW180 := n3_; have GE180 := n4_; have NB178_180 := n5_; have NB180_178 := n6_; clear n0_ n1_ n2_ n3_ n4_ n5_ n6_; clear hb hbox hg; have hnb22 := NB180_178.out; have hnc22 := NB178_180.out; have hcz23_0 : w21.cell? ⟨gb180, 0, none⟩ = some (.int .i64 0) := (blk_cell BK180.out 0).trans rfl; have hcz23_1 : w21.cell? ⟨gb180, 1, none⟩ = some (.slice none 0 0) := (blk_cell BK180.out 1).trans rfl; have hcz23_2 : w21.cell? ⟨gb180, 2, none⟩ = some (.slice none 0 0) := (blk_cell BK180.out 2).trans rfl; have hfz23_0 := blk_frozen BK180.out 0; have hfz23_1 := blk_frozen BK180.out 1; have hfz23_2 := blk_frozen BK180.out 2; have hcz24_0 : w21.cell? ⟨gb178, 0, none⟩ = some (.int .i64 a0_0) := (blk_cell BK178.out 0).trans rfl; have hcz24_1 : w21.cell? ⟨gb178, 1, none⟩ = some (.slice A0_1 l0_1.length c0_1) := (blk_cell BK178.out 1).trans rfl; have hcz24_2 : w21.cell? ⟨gb178, 2, none⟩ = some (.slice (some ad179) l0_2.length c0_2) := (blk_cell BK178.out 2).trans rfl; have hfz24_0 := blk_frozen BK178.out 0; have hfz24_1 := blk_frozen BK178.out 1; have hfz24_2 := blk_frozen BK178.out 2))
    go_ret
    exact ⟨by first | rfl | (simp [errW_none, errW_some] <;> rfl) | (simp [*, errW_none, errW_some] <;> rfl), by repeat (first | (with_reducible first | exact HB.out | apply below_alloc | apply pw_below_drewN | apply below_drew1 | refine below_set ?_ GE178.out | refine below_set ?_ GE180.out) | exact HB.out)⟩
   rw [if_neg c20] at H
   have c20b0 : decide (a0_0 ≤ ((rd_T43 l0_2 x29_2).f0)) = false := decide_eq_false c20
   clear c20
   by_cases c25 : (((rd_T43 l0_2 x29_2).f1).length : Int) = 32
   rotate_left
   ·rw [if_neg c25] at H
    have c25b0 : ((((rd_T43 l0_2 x29_2).f1).length : Int) == 32) = false := beq_eq_false_iff_ne.mpr c25
    have c25b1 : ((((rd_T43 l0_2 x29_2).f1).length : Int) != 32) = true := bne_iff_ne.mpr c25
    obtain rfl := Option.some.inj H
    have p179 : 0 ≤ (x29_2 : Int) := of_decide_eq_true (by first | (with_reducible assumption) | assumption)
    have q179 : x29_2 < (l0_2.length : Int) := of_decide_eq_true (by first | (with_reducible assumption) | assumption)
    obtain ⟨ad179, A179_1, c179_1, A179_2, c179_2, e179, hx179_0, hx179_1, hx179_2, hl179_1, hi179_1, hl179_2, hi179_2⟩ := at_T43 HR0_2.out x29_2 p179 q179
    cases e179
    replace hx179_0 := (HB.out.cell (World.block_lt_of_cell? w _ hx179_0)).trans hx179_0
    replace hx179_1 := (HB.out.cell (World.block_lt_of_cell? w _ hx179_1)).trans hx179_1
    replace hx179_2 := (HB.out.cell (World.block_lt_of_cell? w _ hx179_2)).trans hx179_2
    have HR179_1 := Aside0.mk hi179_1
    have HC179_1 := Aside0.mk hl179_1
    clear hi179_1 hl179_1
    have HR179_2 := Aside0.mk hi179_2
    have HC179_2 := Aside0.mk hl179_2
    clear hi179_2 hl179_2
    replace p179 := eq_true p179
    replace q179 := eq_true q179
    go_wp2_with (first | ((with_reducible refine gate_dst (N := 5) rfl ?_); (try (refine gate_guard (by rfl) ?_; dsimp only)); refine box_event ?hg (N := 5) ?hd (cs := #[.int .i64 0, .slice none 0 0, .slice none 0 0]) (t := 43) ?hr ?_; (case hd => rfl); (case hg => rfl); (case hr => first | (go_simp; done) | (go_simp; rfl)); intro gb180 hg w35 hbox hb; have n0_ := Aside0.mk (blk_below (g := gb178) (o := .cells #[.int .i64 a0_0, .slice A0_1 l0_1.length c0_1, .slice (some ad179) l0_2.length c0_2] 25 (0, 0)) (by (with_reducible repeat (first | refine blk_drewN ?_ _ | refine blk_drew ?_ | refine blk_alloc ?_ _)); exact BK178.out) hb); have n1_ := Aside0.mk (below_step (by repeat (first | (with_reducible first | exact HB.out | apply below_alloc | apply pw_below_drewN | apply below_drew1 | refine below_set ?_ GE178.out) | exact HB.out)) hb); have n2_ := Aside0.mk (hbox); have n3_ := Aside0.mk ((by rw [hg]; exact (below_size (by repeat (first | (with_reducible first | exact HB.out | apply below_alloc | apply pw_below_drewN | apply below_drew1 | refine below_set ?_ GE178.out) | exact HB.out))) : w.heap.size ≤ gb180)); have n4_ := Aside0.mk ((by rw [hg]; exact (below_size (by repeat (first | (with_reducible first | exact HB.out | apply below_alloc | apply pw_below_drewN | apply below_drew1 | refine below_set ?_ GE178.out) | exact HB.out))) : w.heap.size ≤ gb180)); have n5_ := Aside0.mk ((by rw [hg]; exact Nat.ne_of_lt (blk_lt (g := gb178) (o := .cells #[.int .i64 a0_0, .slice A0_1 l0_1.length c0_1, .slice (some ad179) l0_2.length c0_2] 25 (0, 0)) (by (with_reducible repeat (first | refine blk_drewN ?_ _ | refine blk_drew ?_ | refine blk_alloc ?_ _)); exact BK178.out)) : gb178 ≠ gb180)); have n6_ := Aside0.mk ((by rw [hg]; exact Nat.ne_of_gt (blk_lt (g := gb178) (o := .cells #[.int .i64 a0_0, .slice A0_1 l0_1.length c0_1, .slice (some ad179) l0_2.length c0_2] 25 (0, 0)) (by (with_reducible repeat (first | refine blk_drewN ?_ _ | refine blk_drew ?_ | refine blk_alloc ?_ _)); exact BK178.out)) : gb180 ≠ gb178)); clear BK178; clear HB; have BK178 := n0_; have HB := n1_; have BK180 := n2_; have GW180 := n3_; have GE180 := n4_; have NB178_180 := n5_; have NB180_178 := n6_; clear n0_ n1_ n2_ n3_ n4_ n5_ n6_; clear hb hbox hg; have hnb36 := NB180_178.out; have hnc36 := NB178_180.out; have hcz37_0 : w35.cell? ⟨gb180, 0, none⟩ = some (.int .i64 0) := (blk_cell BK180.out 0).trans rfl; have hcz37_1 : w35.cell? ⟨gb180, 1, none⟩ = some (.slice none 0 0) := (blk_cell BK180.out 1).trans rfl; have hcz37_2 : w35.cell? ⟨gb180, 2, none⟩ = some (.slice none 0 0) := (blk_cell BK180.out 2).trans rfl; have hfz37_0 := blk_frozen BK180.out 0; have hfz37_1 := blk_frozen BK180.out 1; have hfz37_2 := blk_frozen BK180.out 2; have hcz38_0 : w35.cell? ⟨gb178, 0, none⟩ = some (.int .i64 a0_0) := (blk_cell BK178.out 0).trans rfl; have hcz38_1 : w35.cell? ⟨gb178, 1, none⟩ = some (.slice A0_1 l0_1.length c0_1) := (blk_cell BK178.out 1).trans rfl; have hcz38_2 : w35.cell? ⟨gb178, 2, none⟩ = some (.slice (some ad179) l0_2.length c0_2) := (blk_cell BK178.out 2).trans rfl; have hfz38_0 := blk_frozen BK178.out 0; have hfz38_1 := blk_frozen BK178.out 1; have hfz38_2 := blk_frozen BK178.out 2))
    go_ret
    exact ⟨by first | rfl | (simp [errW_none, errW_some] <;> rfl) | (simp [*, errW_none, errW_some] <;> rfl), by repeat (first | (with_reducible first | exact HB.out | apply below_alloc | apply pw_below_drewN | apply below_drew1 | refine below_set ?_ GE178.out | refine below_set ?_ GE180.out) | exact HB.out)⟩
   rw [if_pos c25] at H
   have c25b0 : ((((rd_T43 l0_2 x29_2).f1).length : Int) == 32) = true := beq_iff_eq.mpr c25
   have c25b1 : ((((rd_T43 l0_2 x29_2).f1).length : Int) != 32) = false := bne_eq_false_iff_eq.mpr c25
   clear c25
   by_cases c26 : (((rd_T43 l0_2 x29_2).f2).length : Int) = 12
   rotate_left
   ·rw [if_neg c26] at H
    have c26b0 : ((((rd_T43 l0_2 x29_2).f2).length : Int) == 12) = false := beq_eq_false_iff_ne.mpr c26
    have c26b1 : ((((rd_T43 l0_2 x29_2).f2).length : Int) != 12) = true := bne_iff_ne.mpr c26
    obtain rfl := Option.some.inj H
    have p179 : 0 ≤ (x29_2 : Int) := of_decide_eq_true (by first | (with_reducible assumption) | assumption)
    have q179 : x29_2 < (l0_2.length : Int) := of_decide_eq_true (by first | (with_reducible assumption) | assumption)
    obtain ⟨ad179, A179_1, c179_1, A179_2, c179_2, e179, hx179_0, hx179_1, hx179_2, hl179_1, hi179_1, hl179_2, hi179_2⟩ := at_T43 HR0_2.out x29_2 p179 q179
    cases e179
    replace hx179_0 := (HB.out.cell (World.block_lt_of_cell? w _ hx179_0)).trans hx179_0
    replace hx179_1 := (HB.out.cell (World.block_lt_of_cell? w _ hx179_1)).trans hx179_1
    replace hx179_2 := (HB.out.cell (World.block_lt_of_cell? w _ hx179_2)).trans hx179_2
    have HR179_1 := Aside0.mk hi179_1
    have HC179_1 := Aside0.mk hl179_1
    clear hi179_1 hl179_1
    have HR179_2 := Aside0.mk hi179_2
    have HC179_2 := Aside0.mk hl179_2
    clear hi179_2 hl179_2
    replace p179 := eq_true p179
    replace q179 := eq_true q179
    go_wp2_with (first | ((with_reducible refine gate_dst (N := 5) rfl ?_); (try (refine gate_guard (by rfl) ?_; dsimp only)); refine box_event ?hg (N := 5) ?hd (cs := #[.int .i64 0, .slice none 0 0, .slice none 0 0]) (t := 43) ?hr ?_; (case hd => rfl); (case hg => rfl); (case hr => first | (go_simp; done) | (go_simp; rfl)); intro gb180 hg w31 hbox hb; have n0_ := Aside0.mk (blk_below (g := gb178) (o := .cells #[.int .i64 a0_0, .slice A0_1 l0_1.length c0_1, .slice (some ad179) l0_2.length c0_2] 25 (0, 0)) (by (with_reducible repeat (first | refine blk_drewN ?_ _ | refine blk_drew ?_ | refine blk_alloc ?_ _)); exact BK178.out) hb); have n1_ := Aside0.mk (below_step (by repeat (first | (with_reducible first | exact HB.out | apply below_alloc | apply pw_below_drewN | apply below_drew1 | refine below_set ?_ GE178.out) | exact HB.out)) hb); have n2_ := Aside0.mk (hbox); have n3_ := Aside0.mk ((by rw [hg]; exact (below_size (by repeat (first | (with_reducible first | exact HB.out | apply below_alloc | apply pw_below_drewN | apply below_drew1 | refine below_set ?_ GE178.out) | exact HB.out))) : w.heap.size ≤ gb180)); have n4_ := Aside0.mk ((by rw [hg]; exact (below_size (by repeat (first | (with_reducible first | exact HB.out | apply below_alloc | apply pw_below_drewN | apply below_drew1 | refine below_set ?_ GE178.out) | exact HB.out))) : w.heap.size ≤ gb180)); have n5_ := Aside0.mk ((by rw [hg]; exact Nat.ne_of_lt (blk_lt (g := gb178) (o := .cells #[.int .i64 a0_0, .slice A0_1 l0_1.length c0_1, .slice (some ad179) l0_2.length c0_2] 25 (0, 0)) (by (with_reducible repeat (first | refine blk_drewN ?_ _ | refine blk_drew ?_ | refine blk_alloc ?_ _)); exact BK178.out)) : gb178 ≠ gb180)); have n6_ := Aside0.mk ((by rw [hg]; exact Nat.ne_of_gt (blk_lt (g := gb178) (o := .cells #[.int .i64 a0_0, .slice A0_1 l0_1.length c0_1, .slice (some ad179) l0_2.length c0_2] 25 (0, 0)) (by (with_reducible repeat (first | refine blk_drewN ?_ _ | refine blk_drew ?_ | refine blk_alloc ?_ _)); exact BK178.out)) : gb180 ≠ gb178)); clear BK178; clear HB; have BK178 := n0_; have HB := n1_; have BK180 := n2_; have GW180 := n3_; have GE180 := n4_; have NB178_180 := n5_; have NB180_178 := n6_; clear n0_ n1_ n2_ n3_ n4_ n5_ n6_; clear hb hbox hg; have hnb32 := NB180_178.out; have hnc32 := NB178_180.out; have hcz33_0 : w31.cell? ⟨gb180, 0, none⟩ = some (.int .i64 0) := (blk_cell BK180.out 0).trans rfl; have hcz33_1 : w31.cell? ⟨gb180, 1, none⟩ = some (.slice none 0 0) := (blk_cell BK180.out 1).trans rfl; have hcz33_2 : w31.cell? ⟨gb180, 2, none⟩ = some (.slice none 0 0) := (blk_cell BK180.out 2).trans rfl; have hfz33_0 := blk_frozen BK180.out 0; have hfz33_1 := blk_frozen BK180.out 1; have hfz33_2 := blk_frozen BK180.out 2; have hcz34_0 : w31.cell? ⟨gb178, 0, none⟩ = some (.int .i64 a0_0) := (blk_cell BK178.out 0).trans rfl; have hcz34_1 : w31.cell? ⟨gb178, 1, none⟩ = some (.slice A0_1 l0_1.length c0_1) := (blk_cell BK178.out 1).trans rfl; have hcz34_2 : w31.cell? ⟨gb178, 2, none⟩ = some (.slice (some ad179) l0_2.length c0_2) := (blk_cell BK178.out 2).trans rfl; have hfz34_0 := blk_frozen BK178.out 0; have hfz34_1 := blk_frozen BK178.out 1; have hfz34_2 := blk_frozen BK178.out 2))
    go_ret
    exact ⟨by first | rfl | (simp [errW_none, errW_some] <;> rfl) | (simp [*, errW_none, errW_some] <;> rfl), by repeat (first | (with_reducible first | exact HB.out | apply below_alloc | apply pw_below_drewN | apply below_drew1 | refine below_set ?_ GE178.out | refine below_set ?_ GE180.out) | exact HB.out)⟩
   rw [if_pos c26] at H
   have c26b0 : ((((rd_T43 l0_2 x29_2).f2).length : Int) == 12) = true := beq_iff_eq.mpr c26
   have c26b1 : ((((rd_T43 l0_2 x29_2).f2).length : Int) != 12) = false := bne_eq_false_iff_eq.mpr c26
   clear c26
   have H' := Aside0.mk H
   clear H
   have p179 : 0 ≤ (x29_2 : Int) := of_decide_eq_true (by first | (with_reducible assumption) | assumption)
   have q179 : x29_2 < (l0_2.length : Int) := of_decide_eq_true (by first | (with_reducible assumption) | assumption)
   obtain ⟨ad179, A179_1, c179_1, A179_2, c179_2, e179, hx179_0, hx179_1, hx179_2, hl179_1, hi179_1, hl179_2, hi179_2⟩ := at_T43 HR0_2.out x29_2 p179 q179
   cases e179
   replace hx179_0 := (HB.out.cell (World.block_lt_of_cell? w _ hx179_0)).trans hx179_0
   replace hx179_1 := (HB.out.cell (World.block_lt_of_cell? w _ hx179_1)).trans hx179_1
   replace hx179_2 := (HB.out.cell (World.block_lt_of_cell? w _ hx179_2)).trans hx179_2
   have HR179_1 := Aside0.mk hi179_1
   have HC179_1 := Aside0.mk hl179_1
   clear hi179_1 hl179_1
   have HR179_2 := Aside0.mk hi179_2
   have HC179_2 := Aside0.mk hl179_2
   clear hi179_2 hl179_2
   replace p179 := eq_true p179
   replace q179 := eq_true q179
   go_wp2_with (first | ((with_reducible refine gate_dst (N := 5) rfl ?_); (try (refine gate_guard (by rfl) ?_; dsimp only)); refine box_event ?hg (N := 5) ?hd (cs := #[.int .i64 0, .slice none 0 0, .slice none 0 0]) (t := 43) ?hr ?_; (case hd => rfl); (case hg => rfl); (case hr => first | (go_simp; done) | (go_simp; rfl)); intro gb180 hg w27 hbox hb; have n0_ := Aside0.mk (blk_below (g := gb178) (o := .cells #[.int .i64 a0_0, .slice A0_1 l0_1.length c0_1, .slice (some ad179) l0_2.length c0_2] 25 (0, 0)) (by (with_reducible repeat (first | refine blk_drewN ?_ _ | refine blk_drew ?_ | refine blk_alloc ?_ _)); exact BK178.out) hb); have n1_ := Aside0.mk (below_step (by repeat (first | (with_reducible first | exact HB.out | apply below_alloc | apply pw_below_drewN | apply below_drew1 | refine below_set ?_ GE178.out) | exact HB.out)) hb); have n2_ := Aside0.mk (hbox); have n3_ := Aside0.mk ((by rw [hg]; exact (below_size (by repeat (first | (with_reducible first | exact HB.out | apply below_alloc | apply pw_below_drewN | apply below_drew1 | refine below_set ?_ GE178.out) | exact HB.out))) : w.heap.size ≤ gb180)); have n4_ := Aside0.mk ((by rw [hg]; exact (below_size (by repeat (first | (with_reducible first | exact HB.out | apply below_alloc | apply pw_below_drewN | apply below_drew1 | refine below_set ?_ GE178.out) | exact HB.out))) : w.heap.size ≤ gb180)); have n5_ := Aside0.mk ((by rw [hg]; exact Nat.ne_of_lt (blk_lt (g := gb178) (o := .cells #[.int .i64 a0_0, .slice A0_1 l0_1.length c0_1, .slice (some ad179) l0_2.length c0_2] 25 (0, 0)) (by (with_reducible repeat (first | refine blk_drewN ?_ _ | refine blk_drew ?_ | refine blk_alloc ?_ _)); exact BK178.out)) : gb178 ≠ gb180)); have n6_ := Aside0.mk ((by rw [hg]; exact Nat.ne_of_gt (blk_lt (g := gb178) (o := .cells #[.int .i64 a0_0, .slice A0_1 l0_1.length c0_1, .slice (some ad179) l0_2.length c0_2] 25 (0, 0)) (by (with_reducible repeat (first | refine blk_drewN ?_ _ | refine blk_drew ?_ | refine blk_alloc ?_ _)); exact BK178.out)) : gb180 ≠ gb178)); clear BK178; clear HB; have BK178 := n0_; have HB := n1_; have BK180 := n2_; have GW180 := n3_; have GE180 := n4_; have NB178_180 := n5_; have NB180_178 := n6_; clear n0_ n1_ n2_ n3_ n4_ n5_ n6_; clear hb hbox hg; have hnb28 := NB180_178.out; have hnc28 := NB178_180.out; have hcz29_0 : w27.cell? ⟨gb180, 0, none⟩ = some (.int .i64 0) := (blk_cell BK180.out 0).trans rfl; have hcz29_1 : w27.cell? ⟨gb180, 1, none⟩ = some (.slice none 0 0) := (blk_cell BK180.out 1).trans rfl; have hcz29_2 : w27.cell? ⟨gb180, 2, none⟩ = some (.slice none 0 0) := (blk_cell BK180.out 2).trans rfl; have hfz29_0 := blk_frozen BK180.out 0; have hfz29_1 := blk_frozen BK180.out 1; have hfz29_2 := blk_frozen BK180.out 2; have hcz30_0 : w27.cell? ⟨gb178, 0, none⟩ = some (.int .i64 a0_0) := (blk_cell BK178.out 0).trans rfl; have hcz30_1 : w27.cell? ⟨gb178, 1, none⟩ = some (.slice A0_1 l0_1.length c0_1) := (blk_cell BK178.out 1).trans rfl; have hcz30_2 : w27.cell? ⟨gb178, 2, none⟩ = some (.slice (some ad179) l0_2.length c0_2) := (blk_cell BK178.out 2).trans rfl; have hfz30_0 := blk_frozen BK178.out 0; have hfz30_1 := blk_frozen BK178.out 1; have hfz30_2 := blk_frozen BK178.out 2))
   go_roundg k2
   case measure => have := HJ1.out; have := HK2.out; omega
   case rel => exact ⟨((rd_T43 l0_2 x29_2).f0), (wrap64 (x29_2 + 1)), (by first | rfl | (simp; done) | (simp [*]; done)), (by first | rfl | (simp; done) | (simp [*]; done)), H', ⟨by have := HJ1.out; have := HK2.out; omega⟩, ⟨by (with_reducible repeat (first | refine blk_drewN ?_ _ | refine blk_drew ?_ | refine blk_alloc ?_ _)); refine blk_far ?_ NB178_180.out _; (with_reducible repeat (first | refine blk_drewN ?_ _ | refine blk_drew ?_ | refine blk_alloc ?_ _)); refine blk_far ?_ NB178_180.out _; (with_reducible repeat (first | refine blk_drewN ?_ _ | refine blk_drew ?_ | refine blk_alloc ?_ _)); refine blk_far ?_ NB178_180.out _; (with_reducible repeat (first | refine blk_drewN ?_ _ | refine blk_drew ?_ | refine blk_alloc ?_ _)); exact BK178.out⟩, ⟨by repeat (first | (with_reducible first | exact HB.out | apply below_alloc | apply pw_below_drewN | apply below_drew1 | refine below_set ?_ GE178.out | refine below_set ?_ GE180.out) | exact HB.out)⟩⟩
/-! ### bytes_Equal: function 34 -/
def bytes_Equal.f (l0 : List Int) (l1 : List Int) : Option (Bool) := some ((strOfNums l0).toList == (strOfNums l1).toList)
set_option maxHeartbeats 8000000 in
set_option maxRecDepth 100000 in
theorem bytes_Equal.calls (A0 : Option Addr) (c0 : Nat) (l0 : List Int) (A1 : Option Addr) (c1 : Nat) (l1 : List Int) (r : Bool) (w : World) (hr0 : Kd.C (Kd.int .u8) w A0 l0.length l0) (hc0 : l0.length ≤ c0) (hr1 : Kd.C (Kd.int .u8) w A1 l1.length l1) (hc1 : l1.length ≤ c1) (h : bytes_Equal.f l0 l1 = some r) :
  Calls Tryd.prog 34 #[.slice A0 l0.length c0, .slice A1 l1.length c1] w fun e w' => e = .returned (.bool r) ∧ Drawn0 w w' := by
 have HR0 := Aside0.mk hr0
 have HC0 := Aside0.mk hc0
 clear hr0 hc0
 have HR1 := Aside0.mk hr1
 have HC1 := Aside0.mk hc1
 clear hr1 hc1
 have H : (some ((strOfNums l0).toList == (strOfNums l1).toList)) = some r := h
 clear h
 obtain rfl := Option.some.inj H
 have hcv3 := Kd.C_string (P := Tryd.prog) (A := A0) (c := c0) Tryd.underlying22 Tryd.underlying5 Tryd.underlying9 HR0.out
 have hcv4 := Kd.C_string (P := Tryd.prog) (A := A1) (c := c1) Tryd.underlying22 Tryd.underlying5 Tryd.underlying9 HR1.out
 go_enter Tryd.func34, Tryd.ntmps34
 go_wp2
 go_ret
 exact ⟨by first | rfl | (simp; done) | (simp [*]; done), by repeat (first | exact Drawn0.refl _ | apply Drawn0.step)⟩
/-! ### ratch_sameLock: function 36 -/
def ratch_sameLock.f (a0_0 : Int) (l0_1 : List Int) (l0_2 : List Int) (a1_0 : Int) (l1_1 : List Int) (l1_2 : List Int) : Option (Bool) := if a0_0 = a1_0 then ((bytes_Equal.f l0_1 l1_1).bind fun t183 => (if t183 = true then ((bytes_Equal.f l0_2 l1_2).bind fun t184 => (some t184)) else (some false))) else (some false)
set_option maxHeartbeats 8000000 in
set_option maxRecDepth 100000 in
theorem ratch_sameLock.calls (a0_0 : Int) (A0_1 : Option Addr) (c0_1 : Nat) (l0_1 : List Int) (A0_2 : Option Addr) (c0_2 : Nat) (l0_2 : List Int) (a1_0 : Int) (A1_1 : Option Addr) (c1_1 : Nat) (l1_1 : List Int) (A1_2 : Option Addr) (c1_2 : Nat) (l1_2 : List Int) (r : Bool) (w : World) (hr0_1 : Kd.C (Kd.int .u8) w A0_1 l0_1.length l0_1) (hc0_1 : l0_1.length ≤ c0_1) (hr0_2 : Kd.C (Kd.int .u8) w A0_2 l0_2.length l0_2) (hc0_2 : l0_2.length ≤ c0_2) (hr1_1 : Kd.C (Kd.int .u8) w A1_1 l1_1.length l1_1) (hc1_1 : l1_1.length ≤ c1_1) (hr1_2 : Kd.C (Kd.int .u8) w A1_2 l1_2.length l1_2) (hc1_2 : l1_2.length ≤ c1_2) (h : ratch_sameLock.f a0_0 l0_1 l0_2 a1_0 l1_1 l1_2 = some r) :
  Calls Tryd.prog 36 #[.agg #[.int .i64 a0_0, .slice A0_1 l0_1.length c0_1, .slice A0_2 l0_2.length c0_2], .agg #[.int .i64 a1_0, .slice A1_1 l1_1.length c1_1, .slice A1_2 l1_2.length c1_2]] w fun e w' => e = .returned (.bool r) ∧ Below w.heap.size w w' := by
 have hu43 := Tryd.underlying43
 have HR0_1 := Aside0.mk hr0_1
 have HC0_1 := Aside0.mk hc0_1
 clear hr0_1 hc0_1
 have HR0_2 := Aside0.mk hr0_2
 have HC0_2 := Aside0.mk hc0_2
 clear hr0_2 hc0_2
 have HR1_1 := Aside0.mk hr1_1
 have HC1_1 := Aside0.mk hc1_1
 clear hr1_1 hc1_1
 have HR1_2 := Aside0.mk hr1_2
 have HC1_2 := Aside0.mk hc1_2
 clear hr1_2 hc1_2
 have HB := Aside0.mk (Below.refl w.heap.size w)
 have H : (if a0_0 = a1_0 then ((bytes_Equal.f l0_1 l1_1).bind fun t183 => (if t183 = true then ((bytes_Equal.f l0_2 l1_2).bind fun t184 => (some t184)) else (some false))) else (some false)) = some r := h
 clear h
 by_cases c3 : a0_0 = a1_0
 rotate_left
 ·rw [if_neg c3] at H
  have c3b0 : (a0_0 == a1_0) = false := beq_eq_false_iff_ne.mpr c3
  have c3b1 : (a0_0 != a1_0) = true := bne_iff_ne.mpr c3
  obtain rfl := Option.some.inj H
  go_enter Tryd.func36, Tryd.ntmps36
  go_wp2_with (first | ((with_reducible refine gate_dst (N := 2) rfl ?_); refine box_event ?hg (N := 2) ?hd (cs := #[.int .i64 a0_0, .slice A0_1 l0_1.length c0_1, .slice A0_2 l0_2.length c0_2]) (t := 43) ?hr ?_; (case hd => rfl); (case hg => rfl); (case hr => first | (go_simp; done) | (go_simp; rfl)); intro gb181 hg w17 hbox hb; have n0_ := Aside0.mk (below_step (by repeat (first | (with_reducible first | exact HB.out | apply below_alloc | apply pw_below_drewN | apply below_drew1) | exact HB.out)) hb); have n1_ := Aside0.mk (hbox); have n2_ := Aside0.mk ((by rw [hg]; exact (below_size (by repeat (first | (with_reducible first | exact HB.out | apply below_alloc | apply pw_below_drewN | apply below_drew1) | exact HB.out))) : w.heap.size ≤ gb181)); have n3_ := Aside0.mk ((by rw [hg]; exact (below_size (by repeat (first | (with_reducible first | exact HB.out | apply below_alloc | apply pw_below_drewN | apply below_drew1) | exact HB.out))) : w.heap.size ≤ gb181)); clear HB; have HB := n0_; have BK181 := n1_; have GW181 := n2_; have GE181 := n3_; clear n0_ n1_ n2_ n3_; clear hb hbox hg) | ((with_reducible refine gate_dst (N := 3) rfl ?_); refine box_event ?hg (N := 3) ?hd (cs := #[.int .i64 a1_0, .slice A1_1 l1_1.length c1_1, .slice A1_2 l1_2.length c1_2]) (t := 43) ?hr ?_; (case hd => rfl); (case hg => rfl); (case hr => first | (go_simp; done) | (go_simp; rfl)); intro gb182 hg w18 hbox hb; have n0_ := Aside0.mk (blk_below (g := gb181) (o := .cells #[.int .i64 a0_0, .slice A0_1 l0_1.length c0_1, .slice A0_2 l0_2.length c0_2] 43 (0, 0)) (by (with_reducible repeat (first | refine blk_drewN ?_ _ | refine blk_drew ?_ | refine blk_alloc ?_ _)); exact BK181.out) hb); have n1_ := Aside0.mk (below_step (by repeat (first | (with_reducible first | exact HB.out | apply below_alloc | apply pw_below_drewN | apply below_drew1 | refine below_set ?_ GE181.out) | exact HB.out)) hb); have n2_ := Aside0.mk (hbox); have n3_ := Aside0.mk ((by rw [hg]; exact (below_size (by repeat (first | (with_reducible first | exact HB.out | apply below_alloc | apply pw_below_drewN | apply below_drew1 | refine below_set ?_ GE181.out) | exact HB.out))) : w.heap.size ≤ gb182)); have n4_ := Aside0.mk ((by rw [hg]; exact (below_size (by repeat (first | (with_reducible first | exact HB.out | apply below_alloc | apply pw_below_drewN | apply below_drew1 | refine below_set ?_ GE181.out) | exact HB.out))) : w.heap.size ≤ gb182)); have n5_ := Aside0.mk ((by rw [hg]; exact Nat.ne_of_lt (blk_lt (g := gb181) (o := .cells #[.int .i64 a0_0, .slice A0_1 l0_1.length c0_1, .slice A0_2 l0_2.length c0_2] 43 (0, 0)) (by (with_reducible repeat (first | refine blk_drewN ?_ _ | refine blk_drew ?_ | refine blk_alloc ?_ _)); exact BK181.out)) : gb181 ≠ gb182)); have n6_ := Aside0.mk ((by rw [hg]; exact Nat.ne_of_gt (blk_lt (g := gb181) (o := .cells #[.int .i64 a0_0, .slice A0_1 l0_1.length c0_1, .slice A0_2 l0_2.length c0_2] 43 (0, 0)) (by (with_reducible repeat (first | refine blk_drewN ?_ _ | refine blk_drew ?_ | refine blk_alloc ?_ _)); exact BK181.out)) : gb182 ≠ gb181)); clear BK181; clear HB; have BK181 := n0_; have HB := n1_; have BK182 := n2_; have GW182 := n3_; have GE182 := n4_; have NB181_182 := n5_; have NB182_181 := n6_; clear n0_ n1_ n2_ n3_ n4_ n5_ n6_; clear hb hbox hg; have hnb19 := NB181_182.out; have hnc19 := NB182_181.out; have hcz20_0 : w18.cell? ⟨gb181, 0, none⟩ = some (.int .i64 a0_0) := (blk_cell BK181.out 0).trans rfl; have hcz20_1 : w18.cell? ⟨gb181, 1, none⟩ = some (.slice A0_1 l0_1.length c0_1) := (blk_cell BK181.out 1).trans rfl; have hcz20_2 : w18.cell? ⟨gb181, 2, none⟩ = some (.slice A0_2 l0_2.length c0_2) := (blk_cell BK181.out 2).trans rfl; have hfz20_0 := blk_frozen BK181.out 0; have hfz20_1 := blk_frozen BK181.out 1; have hfz20_2 := blk_frozen BK181.out 2; have hcz21_0 : w18.cell? ⟨gb182, 0, none⟩ = some (.int .i64 a1_0) := (blk_cell BK182.out 0).trans rfl; have hcz21_1 : w18.cell? ⟨gb182, 1, none⟩ = some (.slice A1_1 l1_1.length c1_1) := (blk_cell BK182.out 1).trans rfl; have hcz21_2 : w18.cell? ⟨gb182, 2, none⟩ = some (.slice A1_2 l1_2.length c1_2) := (blk_cell BK182.out 2).trans rfl; have hfz21_0 := blk_frozen BK182.out 0; have hfz21_1 := blk_frozen BK182.out 1; have hfz21_2 := blk_frozen BK182.out 2))
  go_ret
  exact ⟨by first | rfl | (simp [errW_none, errW_some] <;> rfl) | (simp [*, errW_none, errW_some] <;> rfl), by repeat (first | (with_reducible first | exact HB.out | apply below_alloc | apply pw_below_drewN | apply below_drew1 | refine below_set ?_ GE181.out | refine below_set ?_ GE182.out) | exact HB.out)⟩
 rw [if_pos c3] at H
 have c3b0 : (a0_0 == a1_0) = true := beq_iff_eq.mpr c3
 have c3b1 : (a0_0 != a1_0) = false := bne_eq_false_iff_eq.mpr c3
 clear c3
 replace H := Option.bind_eq_some_iff.mp H
 obtain ⟨t183, A40, H⟩ := H
 replace H : (if t183 = true then ((bytes_Equal.f l0_2 l1_2).bind fun t184 => (some t184)) else (some false)) = some r := H
 have A4 := Aside0.mk A40
 clear A40
 by_cases c5 : t183 = true
 rotate_left
 ·replace c5 := Bool.eq_false_iff.mpr c5
  subst c5
  have H1 : (some false) = some r := by rw [if_neg (show ¬ (false = true) by decide)] at H; exact H
  clear H
  have H := H1
  clear H1
  obtain rfl := Option.some.inj H
  go_enter Tryd.func36, Tryd.ntmps36
  go_wp2_with (first | ((with_reducible refine gate_dst (N := 2) rfl ?_); refine box_event ?hg (N := 2) ?hd (cs := #[.int .i64 a0_0, .slice A0_1 l0_1.length c0_1, .slice A0_2 l0_2.length c0_2]) (t := 43) ?hr ?_; (case hd => rfl); (case hg => rfl); (case hr => first | (go_simp; done) | (go_simp; rfl)); intro gb181 hg w12 hbox hb; have n0_ := Aside0.mk (below_step (by repeat (first | (with_reducible first | exact HB.out | apply below_alloc | apply pw_below_drewN | apply below_drew1) | exact HB.out)) hb); have n1_ := Aside0.mk (hbox); have n2_ := Aside0.mk ((by rw [hg]; exact (below_size (by repeat (first | (with_reducible first | exact HB.out | apply below_alloc | apply pw_below_drewN | apply below_drew1) | exact HB.out))) : w.heap.size ≤ gb181)); have n3_ := Aside0.mk ((by rw [hg]; exact (below_size (by repeat (first | (with_reducible first | exact HB.out | apply below_alloc | apply pw_below_drewN | apply below_drew1) | exact HB.out))) : w.heap.size ≤ gb181)); clear HB; have HB := n0_; have BK181 := n1_; have GW181 := n2_; have GE181 := n3_; clear n0_ n1_ n2_ n3_; clear hb hbox hg) | ((with_reducible refine gate_dst (N := 3) rfl ?_); refine box_event ?hg (N := 3) ?hd (cs := #[.int .i64 a1_0, .slice A1_1 l1_1.length c1_1, .slice A1_2 l1_2.length c1_2]) (t := 43) ?hr ?_; (case hd => rfl); (case hg => rfl); (case hr => first | (go_simp; done) | (go_simp; rfl)); intro gb182 hg w13 hbox hb; have n0_ := Aside0.mk (blk_below (g := gb181) (o := .cells #[.int .i64 a0_0, .slice A0_1 l0_1.length c0_1, .slice A0_2 l0_2.length c0_2] 43 (0, 0)) (by (with_reducible repeat (first | refine blk_drewN ?_ _ | refine blk_drew ?_ | refine blk_alloc ?_ _)); exact BK181.out) hb); have n1_ := Aside0.mk (below_step (by repeat (first | (with_reducible first | exact HB.out | apply below_alloc | apply pw_below_drewN | apply below_drew1 | refine below_set ?_ GE181.out) | exact HB.out)) hb); have n2_ := Aside0.mk (hbox); have n3_ := Aside0.mk ((by rw [hg]; exact (below_size (by repeat (first | (with_reducible first | exact HB.out | apply below_alloc | apply pw_below_drewN | apply below_drew1 | refine below_set ?_ GE181.out) | exact HB.out))) : w.heap.size ≤ gb182)); have n4_ := Aside0.mk ((by rw [hg]; exact (below_size (by repeat (first | (with_reducible first | exact HB.out | apply below_alloc | apply pw_below_drewN | apply below_drew1 | refine below_set ?_ GE181.out) | exact HB.out))) : w.heap.size ≤ gb182)); have n5_ := Aside0.mk ((by rw [hg]; exact Nat.ne_of_lt (blk_lt (g := gb181) (o := .cells #[.int .i64 a0_0, .slice A0_1 l0_1.length c0_1, .slice A0_2 l0_2.length c0_2] 43 (0, 0)) (by (with_reducible repeat (first | refine blk_drewN ?_ _ | refine blk_drew ?_ | refine blk_alloc ?_ _)); exact BK181.out)) : gb181 ≠ gb182)); have n6_ := Aside0.mk ((by rw [hg]; exact Nat.ne_of_gt (blk_lt (g := gb181) (o := .cells #[.int .i64 a0_0, .slice A0_1 l0_1.length c0_1, .slice A0_2 l0_2.length c0_2] 43 (0, 0)) (by (with_reducible repeat (first | refine blk_drewN ?_ _ | refine blk_drew ?_ | refine blk_alloc ?_ _)); exact BK181.out)) : gb182 ≠ gb181)); clear BK181; clear HB; have BK181 := n0_; have HB := n1_; have BK182 := n2_; have GW182 := n3_; have GE182 := n4_; have NB181_182 := n5_; have NB182_181 := n6_; clear n0_ n1_ n2_ n3_ n4_ n5_ n6_; clear hb hbox hg; have hnb14 := NB181_182.out; have hnc14 := NB182_181.out; have hcz15_0 : w13.cell? ⟨gb181, 0, none⟩ = some (.int .i64 a0_0) := (blk_cell BK181.out 0).trans rfl; have hcz15_1 : w13.cell? ⟨gb181, 1, none⟩ = some (.slice A0_1 l0_1.length c0_1) := (blk_cell BK181.out 1).trans rfl; have hcz15_2 : w13.cell? ⟨gb181, 2, none⟩ = some (.slice A0_2 l0_2.length c0_2) := (blk_cell BK181.out 2).trans rfl; have hfz15_0 := blk_frozen BK181.out 0; have hfz15_1 := blk_frozen BK181.out 1; have hfz15_2 := blk_frozen BK181.out 2; have hcz16_0 : w13.cell? ⟨gb182, 0, none⟩ = some (.int .i64 a1_0) := (blk_cell BK182.out 0).trans rfl; have hcz16_1 : w13.cell? ⟨gb182, 1, none⟩ = some (.slice A1_1 l1_1.length c1_1) := (blk_cell BK182.out 1).trans rfl; have hcz16_2 : w13.cell? ⟨gb182, 2, none⟩ = some (.slice A1_2 l1_2.length c1_2) := (blk_cell BK182.out 2).trans rfl; have hfz16_0 := blk_frozen BK182.out 0; have hfz16_1 := blk_frozen BK182.out 1; have hfz16_2 := blk_frozen BK182.out 2) | (go_at_call 34; (with_reducible refine (bytes_Equal.calls _ _ l0_1 _ _ l1_1 false _ ?side1 ?side2 ?side3 ?side4 A4.out).mono ?_); (case side1 => repeat (first | exact (Kd.C_below HR0_1.out HB.out) | (with_reducible refine Kd.C_alloc ?_ _) | (with_reducible refine Kd.C_drewN ?_ _) | (with_reducible refine Kd.C_drew ?_))); (case side2 => exact HC0_1.out); (case side3 => repeat (first | exact (Kd.C_below HR1_1.out HB.out) | (with_reducible refine Kd.C_alloc ?_ _) | (with_reducible refine Kd.C_drewN ?_ _) | (with_reducible refine Kd.C_drew ?_))); (case side4 => exact HC1_1.out); rintro e w' ⟨rfl, ⟨nd, rfl⟩⟩))
  go_ret
  exact ⟨by first | rfl | (simp [errW_none, errW_some] <;> rfl) | (simp [*, errW_none, errW_some] <;> rfl), by repeat (first | (with_reducible first | exact HB.out | apply below_alloc | apply pw_below_drewN | apply below_drew1 | refine below_set ?_ GE181.out | refine below_set ?_ GE182.out) | exact HB.out)⟩
 subst c5
 have H1 : ((bytes_Equal.f l0_2 l1_2).bind fun t184 => (some t184)) = some r := by rw [if_pos rfl] at H; exact H
 clear H
 have H := H1
 clear H1
 replace H := Option.bind_eq_some_iff.mp H
 obtain ⟨t184, A60, H⟩ := H
 replace H : (some t184) = some r := H
 have A6 := Aside0.mk A60
 clear A60
 obtain rfl := Option.some.inj H
 go_enter Tryd.func36, Tryd.ntmps36
 go_wp2_with (first | ((with_reducible refine gate_dst (N := 2) rfl ?_); refine box_event ?hg (N := 2) ?hd (cs := #[.int .i64 a0_0, .slice A0_1 l0_1.length c0_1, .slice A0_2 l0_2.length c0_2]) (t := 43) ?hr ?_; (case hd => rfl); (case hg => rfl); (case hr => first | (go_simp; done) | (go_simp; rfl)); intro gb181 hg w7 hbox hb; have n0_ := Aside0.mk (below_step (by repeat (first | (with_reducible first | exact HB.out | apply below_alloc | apply pw_below_drewN | apply below_drew1) | exact HB.out)) hb); have n1_ := Aside0.mk (hbox); have n2_ := Aside0.mk ((by rw [hg]; exact (below_size (by repeat (first | (with_reducible first | exact HB.out | apply below_alloc | apply pw_below_drewN | apply below_drew1) | exact HB.out))) : w.heap.size ≤ gb181)); have n3_ := Aside0.mk ((by rw [hg]; exact (below_size (by repeat (first | (with_reducible first | exact HB.out | apply below_alloc | apply pw_below_drewN | apply below_drew1) | exact HB.out))) : w.heap.size ≤ gb181)); clear HB; have HB := n0_; have BK181 := n1_; have GW181 := n2_; have GE181 := n3_; clear n0_ n1_ n2_ n3_; clear hb hbox hg) | ((with_reducible refine gate_dst (N := 3) rfl ?_); refine box_event ?hg (N := 3) ?hd (cs := #[.int .i64 a1_0, .slice A1_1 l1_1.length c1_1, .slice A1_2 l1_2.length c1_2]) (t := 43) ?hr ?_; (case hd => rfl); (case hg => rfl); (case hr => first | (go_simp; done) | (go_simp; rfl)); intro gb182 hg w8 hbox hb; have n0_ := Aside0.mk (blk_below (g := gb181) (o := .cells #[.int .i64 a0_0, .slice A0_1 l0_1.length c0_1, .slice A0_2 l0_2.length c0_2] 43 (0, 0)) (by (with_reducible repeat (first | refine blk_drewN ?_ _ | refine blk_drew ?_ | refine blk_alloc ?_ _)); exact BK181.out) hb); have n1_ := Aside0.mk (below_step (by repeat (first | (with_reducible first | exact HB.out | apply below_alloc | apply pw_below_drewN | apply below_drew1 | refine below_set ?_ GE181.out) | exact HB.out)) hb); have n2_ := Aside0.mk (hbox); have n3_ := Aside0.mk ((by rw [hg]; exact (below_size (by repeat (first | (with_reducible first | exact HB.out | apply below_alloc | apply pw_below_drewN | apply below_drew1 | refine below_set ?_ GE181.out) | exact HB.out))) : w.heap.size ≤ gb182)); have n4_ := Aside0.mk ((by rw [hg]; exact (below_size (by repeat (first | (with_reducible first | exact HB.out | apply below_alloc | apply pw_below_drewN | apply below_drew1 | refine below_set ?_ GE181.out) | exact HB.out))) : w.heap.size ≤ gb182)); have n5_ := Aside0.mk ((by rw [hg]; exact Nat.ne_of_lt (blk_lt (g := gb181) (o := .cells #[.int .i64 a0_0, .slice A0_1 l0_1.length c0_1, .slice A0_2 l0_2.length c0_2] 43 (0, 0)) (by (with_reducible repeat (first | refine blk_drewN ?_ _ | refine blk_drew ?_ | refine blk_alloc ?_ _)); exact BK181.out)) : gb181 ≠ gb182)); have n6_ := Aside0.mk ((by rw [hg]; exact Nat.ne_of_gt (blk_lt (g := gb181) (o := .cells #[.int .i64 a0_0, .slice A0_1 l0_1.length c0_1, .slice A0_2 l0_2.length c0_2] 43 (0, 0)) (by (with_reducible repeat (first | refine blk_drewN ?_ _ | refine blk_drew ?_ | refine blk_alloc ?_ _)); exact BK181.out)) : gb182 ≠ gb181)); clear BK181; clear HB; have BK181 := n0_; have HB := n1_; have BK182 := n2_; have GW182 := n3_; have GE182 := n4_; have NB181_182 := n5_; have NB182_181 := n6_; clear n0_ n1_ n2_ n3_ n4_ n5_ n6_; clear hb hbox hg; have hnb9 := NB181_182.out; have hnc9 := NB182_181.out; have hcz10_0 : w8.cell? ⟨gb181, 0, none⟩ = some (.int .i64 a0_0) := (blk_cell BK181.out 0).trans rfl; have hcz10_1 : w8.cell? ⟨gb181, 1, none⟩ = some (.slice A0_1 l0_1.length c0_1) := (blk_cell BK181.out 1).trans rfl; have hcz10_2 : w8.cell? ⟨gb181, 2, none⟩ = some (.slice A0_2 l0_2.length c0_2) := (blk_cell BK181.out 2).trans rfl; have hfz10_0 := blk_frozen BK181.out 0; have hfz10_1 := blk_frozen BK181.out 1; have hfz10_2 := blk_frozen BK181.out 2; have hcz11_0 : w8.cell? ⟨gb182, 0, none⟩ = some (.int .i64 a1_0) := (blk_cell BK182.out 0).trans rfl; have hcz11_1 : w8.cell? ⟨gb182, 1, none⟩ = some (.slice A1_1 l1_1.length c1_1) := (blk_cell BK182.out 1).trans rfl; have hcz11_2 : w8.cell? ⟨gb182, 2, none⟩ = some (.slice A1_2 l1_2.length c1_2) := (blk_cell BK182.out 2).trans rfl; have hfz11_0 := blk_frozen BK182.out 0; have hfz11_1 := blk_frozen BK182.out 1; have hfz11_2 := blk_frozen BK182.out 2) | (go_at_call 34; (with_reducible refine (bytes_Equal.calls _ _ l0_1 _ _ l1_1 true _ ?side1 ?side2 ?side3 ?side4 A4.out).mono ?_); (case side1 => repeat (first | exact (Kd.C_below HR0_1.out HB.out) | (with_reducible refine Kd.C_alloc ?_ _) | (with_reducible refine Kd.C_drewN ?_ _) | (with_reducible refine Kd.C_drew ?_))); (case side2 => exact HC0_1.out); (case side3 => repeat (first | exact (Kd.C_below HR1_1.out HB.out) | (with_reducible refine Kd.C_alloc ?_ _) | (with_reducible refine Kd.C_drewN ?_ _) | (with_reducible refine Kd.C_drew ?_))); (case side4 => exact HC1_1.out); rintro e w' ⟨rfl, ⟨nd, rfl⟩⟩) | (go_at_call 34; (with_reducible refine (bytes_Equal.calls _ _ l0_2 _ _ l1_2 t184 _ ?side1 ?side2 ?side3 ?side4 A6.out).mono ?_); (case side1 => repeat (first | exact (Kd.C_below HR0_2.out (by repeat (first | (with_reducible first | exact HB.out | apply below_alloc | apply pw_below_drewN | apply below_drew1 | refine below_set ?_ GE181.out | refine below_set ?_ GE182.out) | exact HB.out))) | (with_reducible refine Kd.C_alloc ?_ _) | (with_reducible refine Kd.C_drewN ?_ _) | (with_reducible refine Kd.C_drew ?_))); (case side2 => exact HC0_2.out); (case side3 => repeat (first | exact (Kd.C_below HR1_2.out (by repeat (first | (with_reducible first | exact HB.out | apply below_alloc | apply pw_below_drewN | apply below_drew1 | refine below_set ?_ GE181.out | refine below_set ?_ GE182.out) | exact HB.out))) | (with_reducible refine Kd.C_alloc ?_ _) | (with_reducible refine Kd.C_drewN ?_ _) | (with_reducible refine Kd.C_drew ?_))); (case side4 => exact HC1_2.out); rintro e w' ⟨rfl, ⟨nd, rfl⟩⟩))
 go_ret
 exact ⟨by first | rfl | (simp [errW_none, errW_some] <;> rfl) | (simp [*, errW_none, errW_some] <;> rfl), by repeat (first | (with_reducible first | exact HB.out | apply below_alloc | apply pw_below_drewN | apply below_drew1 | refine below_set ?_ GE181.out | refine below_set ?_ GE182.out) | exact HB.out)⟩
/-! ### pyxlaw13_lock: function 24 -/
def pyxlaw13_lock.l0 : Nat → Int → List Int → Int → Option (Int × List Int × List Int)
 | 0, _, _, _ => none
 | k + 1, x2, x7, x9 => if x9 < x2 then (if x9 < 1000 then ((pyxref13_Next.f x7 x9).bind fun t191 => (pyxlaw13_lock.l0 k x2 t191 (wrap64 (x9 + 1)))) else ((pyxref13_Lock.f x7 x2).bind fun bt194 => (some (bt194.1, bt194.2.1, bt194.2.2)))) else ((pyxref13_Lock.f x7 x2).bind fun bt201 => (some (bt201.1, bt201.2.1, bt201.2.2)))
def pyxlaw13_lock.f (k : Nat) (a0_0 : Int) (l0_1 : List Int) (l0_2 : List (S43)) (l1 : List Int) (a2 : Int) : Option (Int × List Int × List Int) := (pyxref13_Leaf.f k l1 1 0).bind fun bt187 => (pyxlaw13_lock.l0 k a2 bt187.1 0)
set_option maxHeartbeats 8000000 in
set_option maxRecDepth 100000 in
theorem pyxlaw13_lock.calls (k : Nat) (a0_0 : Int) (A0_1 : Option Addr) (c0_1 : Nat) (l0_1 : List Int) (A0_2 : Option Addr) (c0_2 : Nat) (l0_2 : List (S43)) (A1 : Option Addr) (c1 : Nat) (l1 : List Int) (a2 : Int) (r1 : Int) (r2 : List Int) (r3 : List Int) (w : World) (hr0_1 : Kd.C (Kd.int .u8) w A0_1 l0_1.length l0_1) (hc0_1 : l0_1.length ≤ c0_1) (hr0_2 : Kd.C k43 w A0_2 l0_2.length l0_2) (hc0_2 : l0_2.length ≤ c0_2) (hr1 : Kd.C (Kd.int .u8) w A1 l1.length l1) (hc1 : l1.length ≤ c1) (h : pyxlaw13_lock.f k a0_0 l0_1 l0_2 l1 a2 = some (r1, r2, r3)) :
  Calls Tryd.prog 24 #[.agg #[.int .i64 a0_0, .slice A0_1 l0_1.length c0_1, .slice A0_2 l0_2.length c0_2], .slice A1 l1.length c1, .int .i64 a2] w fun e w' => ∃ v1_ v2_ : Value, e = .returned (.agg #[.int .i64 r1, v1_, v2_]) ∧ Kd.R (Kd.int .u8) 5 w' w.heap.size (fun k_ => some k_ ≠ (v2_ : Value).ownBlock) v1_ r2 ∧ Kd.R (Kd.int .u8) 5 w' w.heap.size (fun k_ => some k_ ≠ (v1_ : Value).ownBlock) v2_ r3 ∧ Below w.heap.size w w' := by
 have hu25 := Tryd.underlying25
 have hu43 := Tryd.underlying43
 have HR0_1 := Aside0.mk hr0_1
 have HC0_1 := Aside0.mk hc0_1
 clear hr0_1 hc0_1
 have HR0_2 := Aside0.mk hr0_2
 have HC0_2 := Aside0.mk hc0_2
 clear hr0_2 hc0_2
 have HR1 := Aside0.mk hr1
 have HC1 := Aside0.mk hc1
 clear hr1 hc1
 have HB := Aside0.mk (Below.refl w.heap.size w)
 have H : ((pyxref13_Leaf.f k l1 1 0).bind fun bt187 => (pyxlaw13_lock.l0 k a2 bt187.1 0)) = some (r1, r2, r3) := h
 clear h
 replace H := Option.bind_eq_some_iff.mp H
 obtain ⟨⟨t187, t188⟩, A40, H⟩ := H
 replace H : (pyxlaw13_lock.l0 k a2 t187 0) = some (r1, r2, r3) := H
 have A4 := Aside0.mk A40
 clear A40
 have H' := Aside0.mk H
 clear H
 go_enter Tryd.func24, Tryd.ntmps24
 go_wp2_with (first | ((with_reducible refine gate_dst (N := 3) rfl ?_); refine box_event ?hg (N := 3) ?hd (cs := #[.int .i64 a0_0, .slice A0_1 l0_1.length c0_1, .slice A0_2 l0_2.length c0_2]) (t := 25) ?hr ?_; (case hd => rfl); (case hg => rfl); (case hr => first | (go_simp; done) | (go_simp; rfl)); intro gb185 hg w5 hbox hb; have n0_ := Aside0.mk (below_step (by repeat (first | (with_reducible first | exact HB.out | apply below_alloc | apply pw_below_drewN | apply below_drew1) | exact HB.out)) hb); have n1_ := Aside0.mk (hbox); have n2_ := Aside0.mk ((by rw [hg]; exact (below_size (by repeat (first | (with_reducible first | exact HB.out | apply below_alloc | apply pw_below_drewN | apply below_drew1) | exact HB.out))) : w.heap.size ≤ gb185)); have n3_ := Aside0.mk ((by rw [hg]; exact (below_size (by repeat (first | (with_reducible first | exact HB.out | apply below_alloc | apply pw_below_drewN | apply below_drew1) | exact HB.out))) : w.heap.size ≤ gb185)); clear HB; have HB := n0_; have BK185 := n1_; have GW185 := n2_; have GE185 := n3_; clear n0_ n1_ n2_ n3_; clear hb hbox hg) | ((with_reducible refine gate_dst (N := 6) rfl ?_); refine box_event ?hg (N := 6) ?hd (cs := #[.int .i64 0, .slice none 0 0, .slice none 0 0]) (t := 43) ?hr ?_; (case hd => rfl); (case hg => rfl); (case hr => first | (go_simp; done) | (go_simp; rfl)); intro gb186 hg w6 hbox hb; have n0_ := Aside0.mk (blk_below (g := gb185) (o := .cells #[.int .i64 a0_0, .slice A0_1 l0_1.length c0_1, .slice A0_2 l0_2.length c0_2] 25 (0, 0)) (by (with_reducible repeat (first | refine blk_drewN ?_ _ | refine blk_drew ?_ | refine blk_alloc ?_ _)); exact BK185.out) hb); have n1_ := Aside0.mk (below_step (by repeat (first | (with_reducible first | exact HB.out | apply below_alloc | apply pw_below_drewN | apply below_drew1 | refine below_set ?_ GE185.out) | exact HB.out)) hb); have n2_ := Aside0.mk (hbox); have n3_ := Aside0.mk ((by rw [hg]; exact (below_size (by repeat (first | (with_reducible first | exact HB.out | apply below_alloc | apply pw_below_drewN | apply below_drew1 | refine below_set ?_ GE185.out) | exact HB.out))) : w.heap.size ≤ gb186)); have n4_ := Aside0.mk ((by rw [hg]; exact (below_size (by repeat (first | (with_reducible first | exact HB.out | apply below_alloc | apply pw_below_drewN | apply below_drew1 | refine below_set ?_ GE185.out) | exact HB.out))) : w.heap.size ≤ gb186)); have n5_ := Aside0.mk ((by rw [hg]; exact Nat.ne_of_lt (blk_lt (g := gb185) (o := .cells #[.int .i64 a0_0, .slice A0_1 l0_1.length c0_1, .slice A0_2 l0_2.length c0_2] 25 (0, 0)) (by (with_reducible repeat (first | refine blk_drewN ?_ _ | refine blk_drew ?_ | refine blk_alloc ?_ _)); exact BK185.out)) : gb185 ≠ gb186)); have n6_ := Aside0.mk ((by rw [hg]; exact Nat.ne_of_gt (blk_lt (g := gb185) (o := .cells #[.int .i64 a0_0, .slice A0_1 l0_1.length c0_1, .slice A0_2 l0_2.length c0_2] 25 (0, 0)) (by (with_reducible repeat (first | refine blk_drewN ?_ _ | refine blk_drew ?_ | refine blk_alloc ?_ _)); exact BK185.out)) : gb186 ≠ gb185)); clear BK185; clear HB; have BK185 := n0_; have HB := n1_; have BK186 := n2_; have GW186 := n3_; have GE186 := n4_; have NB185_186 := n5_; have NB186_185 := n6_; clear n0_ n1_ n2_ n3_ n4_ n5_ n6_; clear hb hbox hg) | ((with_reducible refine gate_callee (f := 13) rfl ?_); refine goesL_ (some 12) rfl rfl Tryd.func13 (by kernel_rfl) rfl #[.slice A1 l1.length c1, .int .i64 1, .int .i64 0] rfl (by (try simp only [List.map_toArray, List.map_cons, List.map_nil]); first | done | rfl | (simp only [List.length_drop, List.length_take]; rfl)) ?_; (with_reducible refine (pyxref13_Leaf.calls k _ _ l1 1 0 t187 t188 _ ?side1 ?side2 A4.out).mono ?_); (case side1 => repeat (first | exact (Kd.C_below HR1.out HB.out) | (with_reducible refine Kd.C_alloc ?_ _) | (with_reducible refine Kd.C_drewN ?_ _) | (with_reducible refine Kd.C_drew ?_))); (case side2 => exact HC1.out); rintro e w7 ⟨v189, rfl, ho0, hb⟩; refine ⟨_, rfl, ?_⟩; have n0_ := Aside0.mk (Kd.R_lower ho0 (below_size (by repeat (first | (with_reducible first | exact HB.out | apply below_alloc | apply pw_below_drewN | apply below_drew1 | refine below_set ?_ GE185.out | refine below_set ?_ GE186.out) | exact HB.out)))); have n1_ := Aside0.mk (blk_below (g := gb185) (o := .cells #[.int .i64 a0_0, .slice A0_1 l0_1.length c0_1, .slice A0_2 l0_2.length c0_2] 25 (0, 0)) (by (with_reducible repeat (first | refine blk_drewN ?_ _ | refine blk_drew ?_ | refine blk_alloc ?_ _)); exact BK185.out) hb); have n2_ := Aside0.mk (blk_below (g := gb186) (o := .cells #[.int .i64 0, .slice none 0 0, .slice none 0 0] 43 (0, 0)) (by (with_reducible repeat (first | refine blk_drewN ?_ _ | refine blk_drew ?_ | refine blk_alloc ?_ _)); exact BK186.out) hb); have n3_ := Aside0.mk (below_step (by repeat (first | (with_reducible first | exact HB.out | apply below_alloc | apply pw_below_drewN | apply below_drew1 | refine below_set ?_ GE185.out | refine below_set ?_ GE186.out) | exact HB.out)) hb); clear BK185; clear BK186; clear HB; have HO190 := n0_; have BK185 := n1_; have BK186 := n2_; have HB := n3_; clear n0_ n1_ n2_ n3_; (try clear hb); (try clear hb2); (try clear hk); (try clear hi); (try clear ho0)))
 go_loopg [7, 9] k (fun kq v7 v9 w' => ∃ (x7_1 : List Int) (x9_1 : Int), v9 = .int .i64 x9_1 ∧ Aside0 (pyxlaw13_lock.l0 kq a2 x7_1 x9_1 = some (r1, r2, r3)) ∧ Aside0 (kq ≤ k) ∧ Aside0 (Kd.R (Kd.int .u8) 5 w' w.heap.size (fun _ => True) v7 x7_1) ∧ Aside0 (w'.heap[gb185]? = some (.cells #[.int .i64 a0_0, (.slice A0_1 l0_1.length c0_1), (.slice A0_2 l0_2.length c0_2)] 25 (0, 0))) ∧ Aside0 (w'.heap[gb186]? = some (.cells #[.int .i64 0, (.slice none 0 0), (.slice none 0 0)] 43 (0, 0))) ∧ Aside0 (Below w.heap.size w w'))
 case atStart => exact ⟨(t187), (0), (by first | rfl | (simp; done) | (simp [*]; done)), H', ⟨Nat.le_refl _⟩, ⟨by (with_reducible repeat (first | apply Kd.R_alloc | apply Kd.R_drewN | apply Kd.R_drew)); exact HO190.out⟩, ⟨by (with_reducible repeat (first | refine blk_drewN ?_ _ | refine blk_drew ?_ | refine blk_alloc ?_ _)); exact BK185.out⟩, ⟨by (with_reducible repeat (first | refine blk_drewN ?_ _ | refine blk_drew ?_ | refine blk_alloc ?_ _)); exact BK186.out⟩, ⟨by repeat (first | (with_reducible first | exact HB.out | apply below_alloc | apply pw_below_drewN | apply below_drew1 | refine below_set ?_ GE185.out | refine below_set ?_ GE186.out) | exact HB.out)⟩⟩
 clear H'
 try clear c1
 try clear c2
 try clear p2
 obtain ⟨x7_1, x9_1, rfl, HA, HK1, HO_7, BK185, BK186, HB⟩ := hrel
 cases gk with
 | zero => exact absurd HA.out (by simp [pyxlaw13_lock.l0])
 | succ k1 =>
  have H := HA.out
  clear HA
  simp only [pyxlaw13_lock.l0] at H
  by_cases c8 : x9_1 < a2
  rotate_left
  ·rw [if_neg c8] at H
   have c8b0 : decide (x9_1 < a2) = false := decide_eq_false c8
   clear c8
   replace H := Option.bind_eq_some_iff.mp H
   obtain ⟨⟨t201, t202, t205⟩, A200, H⟩ := H
   replace H : (some (t201, t202, t205)) = some (r1, r2, r3) := H
   have A20 := Aside0.mk A200
   clear A200
   simp only [Option.some.injEq, Prod.mk.injEq] at H
   obtain ⟨rfl, rfl, rfl⟩ := H
   obtain ⟨Ao21, co21, eo21⟩ := Kd.R_slice HO_7.out
   subst eo21
   go_wp2_with (first | ((with_reducible refine gate_callee (f := 27) rfl ?_); refine goesL_ (some 29) rfl rfl Tryd.func27 (by kernel_rfl) rfl #[.slice Ao21 x7_1.length co21, .int .i64 a2] rfl (by (try simp only [List.map_toArray, List.map_cons, List.map_nil]); first | done | rfl | (simp only [List.length_drop, List.length_take]; rfl)) ?_; (with_reducible refine (pyxref13_Lock.calls _ _ x7_1 a2 t201 t202 t205 _ ?side1 ?side2 A20.out).mono ?_); (case side1 => repeat (first | exact (Kd.R_reads' HO_7.out).2.2 | (with_reducible refine Kd.C_alloc ?_ _) | (with_reducible refine Kd.C_drewN ?_ _) | (with_reducible refine Kd.C_drew ?_))); (case side2 => exact (Kd.R_reads' HO_7.out).2.1); rintro e w22 ⟨v203, v206, rfl, ho0, ho1, hb⟩; refine ⟨_, rfl, ?_⟩; have n0_ := Aside0.mk (Kd.R_mono (Kd.R_told (Kd.R_told (Kd.R_old (by (with_reducible repeat (first | apply Kd.R_alloc | apply Kd.R_drewN | apply Kd.R_drew)); exact HO_7.out) hb) (Kd.R_base ho0)) (Kd.R_base ho1)) (fun _ h_ => h_.1)); have n1_ := Aside0.mk (Kd.R_lower (Kd.R_new' ho0 (Kd.R_lt (by (with_reducible repeat (first | apply Kd.R_alloc | apply Kd.R_drewN | apply Kd.R_drew)); exact HO_7.out))) (below_size (by repeat (first | (with_reducible first | exact HB.out | apply below_alloc | apply pw_below_drewN | apply below_drew1 | refine below_set ?_ GE185.out | refine below_set ?_ GE186.out) | exact HB.out)))); have n2_ := Aside0.mk (Kd.R_lower (Kd.R_new' ho1 (Kd.R_lt (by (with_reducible repeat (first | apply Kd.R_alloc | apply Kd.R_drewN | apply Kd.R_drew)); exact HO_7.out))) (below_size (by repeat (first | (with_reducible first | exact HB.out | apply below_alloc | apply pw_below_drewN | apply below_drew1 | refine below_set ?_ GE185.out | refine below_set ?_ GE186.out) | exact HB.out)))); have n3_ := Aside0.mk (blk_below (g := gb185) (o := .cells #[.int .i64 a0_0, .slice A0_1 l0_1.length c0_1, .slice A0_2 l0_2.length c0_2] 25 (0, 0)) (by (with_reducible repeat (first | refine blk_drewN ?_ _ | refine blk_drew ?_ | refine blk_alloc ?_ _)); exact BK185.out) hb); have n4_ := Aside0.mk (blk_below (g := gb186) (o := .cells #[.int .i64 0, .slice none 0 0, .slice none 0 0] 43 (0, 0)) (by (with_reducible repeat (first | refine blk_drewN ?_ _ | refine blk_drew ?_ | refine blk_alloc ?_ _)); exact BK186.out) hb); have n5_ := Aside0.mk (below_step (by repeat (first | (with_reducible first | exact HB.out | apply below_alloc | apply pw_below_drewN | apply below_drew1 | refine below_set ?_ GE185.out | refine below_set ?_ GE186.out) | exact HB.out)) hb); clear HO_7; clear BK185; clear BK186; clear HB; have HO_7 := n0_; have HO204 := n1_; have HO207 := n2_; have BK185 := n3_; have BK186 := n4_; have HB := n5_; clear n0_ n1_ n2_ n3_ n4_ n5_; (try clear hb); (try clear hb2); (try clear hk); (try clear hi); (try clear ho0); (try clear ho1); have hnb23 := NB186_185.out; have hnc23 := NB185_186.out; have hcz24_0 : w22.cell? ⟨gb186, 0, none⟩ = some (.int .i64 0) := (blk_cell BK186.out 0).trans rfl; have hcz24_1 : w22.cell? ⟨gb186, 1, none⟩ = some (.slice none 0 0) := (blk_cell BK186.out 1).trans rfl; have hcz24_2 : w22.cell? ⟨gb186, 2, none⟩ = some (.slice none 0 0) := (blk_cell BK186.out 2).trans rfl; have hfz24_0 := blk_frozen BK186.out 0; have hfz24_1 := blk_frozen BK186.out 1; have hfz24_2 := blk_frozen BK186.out 2; obtain ⟨Ao25, co25, eo25⟩ := Kd.R_slice HO204.out; subst eo25; obtain ⟨Ao26, co26, eo26⟩ := Kd.R_slice HO207.out; subst eo26))
   refine bodyPost_ret (results_cell_row rfl _ _ gb186 43 #[.int .i64 t201, .slice Ao25 t202.length co25, .slice Ao26 t205.length co26] (0, 0) _ rfl (by (with_reducible repeat (first | refine blk_drewN ?_ _ | refine blk_drew ?_ | refine blk_alloc ?_ _)); refine blk_put (cs := #[.int .i64 t201, .slice Ao25 t202.length co25, .slice none 0 0]) ?_ 2 _ rfl; (with_reducible repeat (first | refine blk_drewN ?_ _ | refine blk_drew ?_ | refine blk_alloc ?_ _)); refine blk_put (cs := #[.int .i64 t201, .slice none 0 0, .slice none 0 0]) ?_ 1 _ rfl; (with_reducible repeat (first | refine blk_drewN ?_ _ | refine blk_drew ?_ | refine blk_alloc ?_ _)); refine blk_put (cs := #[.int .i64 0, .slice none 0 0, .slice none 0 0]) ?_ 0 _ rfl; (with_reducible repeat (first | refine blk_drewN ?_ _ | refine blk_drew ?_ | refine blk_alloc ?_ _)); exact BK186.out) Tryd.underlying43 rfl (by kernel_rfl)) rfl ?_
   exact ⟨_, _, by first | rfl | (simp [errW_none, errW_some] <;> rfl) | (simp [*, errW_none, errW_some] <;> rfl), by (with_reducible repeat (first | apply Kd.R_alloc | apply Kd.R_drewN | apply Kd.R_drew)); exact Kd.R_mono (Kd.R_far (p := ⟨gb186, 2, none⟩) (Kd.R_far (p := ⟨gb186, 1, none⟩) (Kd.R_far (p := ⟨gb186, 0, none⟩) (Kd.R_types HO204.out BK186.out (by decide)) (fun _ hk => hk.2) (.int .i64 t201)) (fun _ hk => hk.2) (.slice Ao25 t202.length co25)) (fun _ hk => hk.2) (.slice Ao26 t205.length co26)) (fun _ hk => hk.1.1), by (with_reducible repeat (first | apply Kd.R_alloc | apply Kd.R_drewN | apply Kd.R_drew)); exact Kd.R_mono (Kd.R_far (p := ⟨gb186, 2, none⟩) (Kd.R_far (p := ⟨gb186, 1, none⟩) (Kd.R_far (p := ⟨gb186, 0, none⟩) (Kd.R_types HO207.out BK186.out (by decide)) (fun _ hk => hk.2) (.int .i64 t201)) (fun _ hk => hk.2) (.slice Ao25 t202.length co25)) (fun _ hk => hk.2) (.slice Ao26 t205.length co26)) (fun _ hk => hk.1.1), by repeat (first | (with_reducible first | exact HB.out | apply below_alloc | apply pw_below_drewN | apply below_drew1 | refine below_set ?_ GE185.out | refine below_set ?_ GE186.out) | exact HB.out)⟩
  rw [if_pos c8] at H
  have c8b0 : decide (x9_1 < a2) = true := decide_eq_true c8
  clear c8
  by_cases c9 : x9_1 < 1000
  ·rw [if_pos c9] at H
   have c9b0 : decide (x9_1 < 1000) = true := decide_eq_true c9
   clear c9
   replace H := Option.bind_eq_some_iff.mp H
   obtain ⟨t191, A100, H⟩ := H
   replace H : (pyxlaw13_lock.l0 k1 a2 t191 (wrap64 (x9_1 + 1))) = some (r1, r2, r3) := H
   have A10 := Aside0.mk A100
   clear A100
   have H' := Aside0.mk H
   clear H
   obtain ⟨Ao11, co11, eo11⟩ := Kd.R_slice HO_7.out
   subst eo11
   go_wp2_with (first | ((with_reducible refine gate_callee (f := 26) rfl ?_); refine goesL_ (some 26) rfl rfl Tryd.func26 (by kernel_rfl) rfl #[.slice Ao11 x7_1.length co11, .int .i64 x9_1] rfl (by (try simp only [List.map_toArray, List.map_cons, List.map_nil]); first | done | rfl | (simp only [List.length_drop, List.length_take]; rfl)) ?_; (with_reducible refine (pyxref13_Next.calls _ _ x7_1 x9_1 t191 _ ?side1 ?side2 A10.out).mono ?_); (case side1 => repeat (first | exact (Kd.R_reads' HO_7.out).2.2 | (with_reducible refine Kd.C_alloc ?_ _) | (with_reducible refine Kd.C_drewN ?_ _) | (with_reducible refine Kd.C_drew ?_))); (case side2 => exact (Kd.R_reads' HO_7.out).2.1); rintro e w12 ⟨v192, rfl, ho0, hb⟩; refine ⟨_, rfl, ?_⟩; have n0_ := Aside0.mk (Kd.R_elder' (by (with_reducible repeat (first | apply Kd.R_alloc | apply Kd.R_drewN | apply Kd.R_drew)); exact HO_7.out) (Kd.R_base ho0) hb); have n1_ := Aside0.mk (Kd.R_lower (Kd.R_new' ho0 (Kd.R_lt (by (with_reducible repeat (first | apply Kd.R_alloc | apply Kd.R_drewN | apply Kd.R_drew)); exact HO_7.out))) (below_size (by repeat (first | (with_reducible first | exact HB.out | apply below_alloc | apply pw_below_drewN | apply below_drew1 | refine below_set ?_ GE185.out | refine below_set ?_ GE186.out) | exact HB.out)))); have n2_ := Aside0.mk (blk_below (g := gb185) (o := .cells #[.int .i64 a0_0, .slice A0_1 l0_1.length c0_1, .slice A0_2 l0_2.length c0_2] 25 (0, 0)) (by (with_reducible repeat (first | refine blk_drewN ?_ _ | refine blk_drew ?_ | refine blk_alloc ?_ _)); exact BK185.out) hb); have n3_ := Aside0.mk (blk_below (g := gb186) (o := .cells #[.int .i64 0, .slice none 0 0, .slice none 0 0] 43 (0, 0)) (by (with_reducible repeat (first | refine blk_drewN ?_ _ | refine blk_drew ?_ | refine blk_alloc ?_ _)); exact BK186.out) hb); have n4_ := Aside0.mk (below_step (by repeat (first | (with_reducible first | exact HB.out | apply below_alloc | apply pw_below_drewN | apply below_drew1 | refine below_set ?_ GE185.out | refine below_set ?_ GE186.out) | exact HB.out)) hb); clear HO_7; clear BK185; clear BK186; clear HB; have HO_7 := n0_; have HO193 := n1_; have BK185 := n2_; have BK186 := n3_; have HB := n4_; clear n0_ n1_ n2_ n3_ n4_; (try clear hb); (try clear hb2); (try clear hk); (try clear hi); (try clear ho0)))
   go_roundg k1
   case measure => have := HK1.out; omega
   case rel => exact ⟨(t191), (wrap64 (x9_1 + 1)), (by first | rfl | (simp; done) | (simp [*]; done)), H', ⟨by have := HK1.out; omega⟩, ⟨by (with_reducible repeat (first | apply Kd.R_alloc | apply Kd.R_drewN | apply Kd.R_drew)); exact Kd.R_mono HO193.out (fun _ hk => trivial)⟩, ⟨by (with_reducible repeat (first | refine blk_drewN ?_ _ | refine blk_drew ?_ | refine blk_alloc ?_ _)); exact BK185.out⟩, ⟨by (with_reducible repeat (first | refine blk_drewN ?_ _ | refine blk_drew ?_ | refine blk_alloc ?_ _)); exact BK186.out⟩, ⟨by repeat (first | (with_reducible first | exact HB.out | apply below_alloc | apply pw_below_drewN | apply below_drew1 | refine below_set ?_ GE185.out | refine below_set ?_ GE186.out) | exact HB.out)⟩⟩
  rw [if_neg c9] at H
  have c9b0 : decide (x9_1 < 1000) = false := decide_eq_false c9
  clear c9
  replace H := Option.bind_eq_some_iff.mp H
  obtain ⟨⟨t194, t195, t198⟩, A130, H⟩ := H
  replace H : (some (t194, t195, t198)) = some (r1, r2, r3) := H
  have A13 := Aside0.mk A130
  clear A130
  simp only [Option.some.injEq, Prod.mk.injEq] at H
  obtain ⟨rfl, rfl, rfl⟩ := H
  obtain ⟨Ao14, co14, eo14⟩ := Kd.R_slice HO_7.out
  subst eo14
  go_wp2_with (first | ((with_reducible refine gate_callee (f := 27) rfl ?_); refine goesL_ (some 29) rfl rfl Tryd.func27 (by kernel_rfl) rfl #[.slice Ao14 x7_1.length co14, .int .i64 a2] rfl (by (try simp only [List.map_toArray, List.map_cons, List.map_nil]); first | done | rfl | (simp only [List.length_drop, List.length_take]; rfl)) ?_; (with_reducible refine (pyxref13_Lock.calls _ _ x7_1 a2 t194 t195 t198 _ ?side1 ?side2 A13.out).mono ?_); (case side1 => repeat (first | exact (Kd.R_reads' HO_7.out).2.2 | (with_reducible refine Kd.C_alloc ?_ _) | (with_reducible refine Kd.C_drewN ?_ _) | (with_reducible refine Kd.C_drew ?_))); (case side2 => exact (Kd.R_reads' HO_7.out).2.1); rintro e w15 ⟨v196, v199, rfl, ho0, ho1, hb⟩; refine ⟨_, rfl, ?_⟩; have n0_ := Aside0.mk (Kd.R_mono (Kd.R_told (Kd.R_told (Kd.R_old (by (with_reducible repeat (first | apply Kd.R_alloc | apply Kd.R_drewN | apply Kd.R_drew)); exact HO_7.out) hb) (Kd.R_base ho0)) (Kd.R_base ho1)) (fun _ h_ => h_.1)); have n1_ := Aside0.mk (Kd.R_lower (Kd.R_new' ho0 (Kd.R_lt (by (with_reducible repeat (first | apply Kd.R_alloc | apply Kd.R_drewN | apply Kd.R_drew)); exact HO_7.out))) (below_size (by repeat (first | (with_reducible first | exact HB.out | apply below_alloc | apply pw_below_drewN | apply below_drew1 | refine below_set ?_ GE185.out | refine below_set ?_ GE186.out) | exact HB.out)))); have n2_ := Aside0.mk (Kd.R_lower (Kd.R_new' ho1 (Kd.R_lt (by (with_reducible repeat (first | apply Kd.R_alloc | apply Kd.R_drewN | apply Kd.R_drew)); exact HO_7.out))) (below_size (by repeat (first | (with_reducible first | exact HB.out | apply below_alloc | apply pw_below_drewN | apply below_drew1 | refine below_set ?_ GE185.out | refine below_set ?_ GE186.out) | exact HB.out)))); have n3_ := Aside0.mk (blk_below (g := gb185) (o := .cells #[.int .i64 a0_0, .slice A0_1 l0_1.length c0_1, .slice A0_2 l0_2.length c0_2] 25 (0, 0)) (by (with_reducible repeat (first | refine blk_drewN ?_ _ | refine blk_drew ?_ | refine blk_alloc ?_ _)); exact BK185.out) hb); have n4_ := Aside0.mk (blk_below (g := gb186) (o := .cells #[.int .i64 0, .slice none 0 0, .slice none 0 0] 43 (0, 0)) (by (with_reducible repeat (first | refine blk_drewN ?_ _ | refine blk_drew ?_ | refine blk_alloc ?_ _)); exact BK186.out) hb); have n5_ := Aside0.mk (below_step (by repeat (first | (with_reducible first | exact HB.out | apply below_alloc | apply pw_below_drewN | apply below_drew1 | refine below_set ?_ GE185.out | refine below_set ?_ GE186.out) | exact HB.out)) hb); clear HO_7; clear BK185; clear BK186; clear HB; have HO_7 := n0_; have HO197 := n1_; have HO200 := n2_; have BK185 := n3_; have BK186 := n4_; have HB := n5_; clear n0_ n1_ n2_ n3_ n4_ n5_; (try clear hb); (try clear hb2); (try clear hk); (try clear hi); (try clear ho0); (try clear ho1); have hnb16 := NB186_185.out; have hnc16 := NB185_186.out; have hcz17_0 : w15.cell? ⟨gb186, 0, none⟩ = some (.int .i64 0) := (blk_cell BK186.out 0).trans rfl; have hcz17_1 : w15.cell? ⟨gb186, 1, none⟩ = some (.slice none 0 0) := (blk_cell BK186.out 1).trans rfl; have hcz17_2 : w15.cell? ⟨gb186, 2, none⟩ = some (.slice none 0 0) := (blk_cell BK186.out 2).trans rfl; have hfz17_0 := blk_frozen BK186.out 0; have hfz17_1 := blk_frozen BK186.out 1; have hfz17_2 := blk_frozen BK186.out 2; obtain ⟨Ao18, co18, eo18⟩ := Kd.R_slice HO197.out; subst eo18; obtain ⟨Ao19, co19, eo19⟩ := Kd.R_slice HO200.out; subst eo19))
  refine bodyPost_ret (results_cell_row rfl _ _ gb186 43 #[.int .i64 t194, .slice Ao18 t195.length co18, .slice Ao19 t198.length co19] (0, 0) _ rfl (by (with_reducible repeat (first | refine blk_drewN ?_ _ | refine blk_drew ?_ | refine blk_alloc ?_ _)); refine blk_put (cs := #[.int .i64 t194, .slice Ao18 t195.length co18, .slice none 0 0]) ?_ 2 _ rfl; (with_reducible repeat (first | refine blk_drewN ?_ _ | refine blk_drew ?_ | refine blk_alloc ?_ _)); refine blk_put (cs := #[.int .i64 t194, .slice none 0 0, .slice none 0 0]) ?_ 1 _ rfl; (with_reducible repeat (first | refine blk_drewN ?_ _ | refine blk_drew ?_ | refine blk_alloc ?_ _)); refine blk_put (cs := #[.int .i64 0, .slice none 0 0, .slice none 0 0]) ?_ 0 _ rfl; (with_reducible repeat (first | refine blk_drewN ?_ _ | refine blk_drew ?_ | refine blk_alloc ?_ _)); exact BK186.out) Tryd.underlying43 rfl (by kernel_rfl)) rfl ?_
  exact ⟨_, _, by first | rfl | (simp [errW_none, errW_some] <;> rfl) | (simp [*, errW_none, errW_some] <;> rfl), by (with_reducible repeat (first | apply Kd.R_alloc | apply Kd.R_drewN | apply Kd.R_drew)); exact Kd.R_mono (Kd.R_far (p := ⟨gb186, 2, none⟩) (Kd.R_far (p := ⟨gb186, 1, none⟩) (Kd.R_far (p := ⟨gb186, 0, none⟩) (Kd.R_types HO197.out BK186.out (by decide)) (fun _ hk => hk.2) (.int .i64 t194)) (fun _ hk => hk.2) (.slice Ao18 t195.length co18)) (fun _ hk => hk.2) (.slice Ao19 t198.length co19)) (fun _ hk => hk.1.1), by (with_reducible repeat (first | apply Kd.R_alloc | apply Kd.R_drewN | apply Kd.R_drew)); exact Kd.R_mono (Kd.R_far (p := ⟨gb186, 2, none⟩) (Kd.R_far (p := ⟨gb186, 1, none⟩) (Kd.R_far (p := ⟨gb186, 0, none⟩) (Kd.R_types HO200.out BK186.out (by decide)) (fun _ hk => hk.2) (.int .i64 t194)) (fun _ hk => hk.2) (.slice Ao18 t195.length co18)) (fun _ hk => hk.2) (.slice Ao19 t198.length co19)) (fun _ hk => hk.1.1), by repeat (first | (with_reducible first | exact HB.out | apply below_alloc | apply pw_below_drewN | apply below_drew1 | refine below_set ?_ GE185.out | refine below_set ?_ GE186.out) | exact HB.out)⟩
end Go.Proofs.YtdklmafkcbjomaaDoor.R

/-! RatN -/
namespace Go.Proofs.YtdklmafkcbjomaaDoor
set_option linter.unusedVariables false
set_option linter.unusedSimpArgs false
open Go.RowKit Go.Shelf Go.Proofs.YtdklmafkcbjomaaDoorW.PrintWords Go.Proofs.YtdklmafkcbjomaaDoorW.PrintLast Go.Proofs.YtdklmafkcbjomaaDoorW.PrintMore
def lockOk (x : R.S43) : Prop := byteOk x.f1 = true ∧ byteOk x.f2 = true
def locksOk (L : List R.S43) : Prop := ∀ x, x ∈ L → lockOk x
def rises (n : Int) : Int → List R.S43 → Bool
 | _, [] => true
 | last, x :: xs => decide (last < x.f0) && (decide (x.f0 < n) && (decide (x.f1.length = 32) && (decide (x.f2.length = 12) && rises n x.f0 xs)))
def rightC (n : Int) (s : List Int) (L : List R.S43) : Bool := decide (0 ≤ n) && (decide (n ≤ 4294967294) && (decide (s.length = 32) && (decide (L.length ≤ 32) && rises n (-1) L)))
def sameK (a b : R.S43) : Bool := decide (a.f0 = b.f0) && ((a.f1 == b.f1) && (a.f2 == b.f2))
def sameLs : List R.S43 → List R.S43 → Bool
 | [], [] => true
 | x :: xs, y :: ys => sameK x y && sameLs xs ys
 | _, _ => false
def sameC (n : Int) (s : List Int) (L : List R.S43) (n' : Int) (s' : List Int) (L' : List R.S43) : Bool := decide (n = n') && ((s == s') && sameLs L L')
theorem sameK_eq (a b : R.S43) : sameK a b = true ↔ a = b := by
 unfold sameK
 simp only [Bool.and_eq_true, decide_eq_true_eq, beq_iff_eq]
 constructor
 ·rintro ⟨h1, h2, h3⟩
  cases a; cases b
  simp_all
 ·rintro rfl
  exact ⟨rfl, rfl, rfl⟩
theorem sameLs_eq : ∀ (L M : List R.S43), sameLs L M = true ↔ L = M
 | [], [] => by simp [sameLs]
 | [], _ :: _ => by simp [sameLs]
 | _ :: _, [] => by simp [sameLs]
 | x :: xs, y :: ys => by
  simp only [sameLs, Bool.and_eq_true, sameK_eq, sameLs_eq xs ys, List.cons.injEq]
theorem sameLs_refl (L : List R.S43) : sameLs L L = true := (sameLs_eq L L).2 rfl
theorem sameC_refl (n : Int) (s : List Int) (L : List R.S43) : sameC n s L n s L = true := by unfold sameC; simp [sameLs_refl]
theorem sameLs_len : ∀ (L M : List R.S43), L.length ≠ M.length → sameLs L M = false
 | [], [], h => absurd rfl h
 | [], _ :: _, _ => rfl
 | _ :: _, [], _ => rfl
 | x :: xs, y :: ys, h => by
  rw [sameLs, sameLs_len xs ys (by simpa using h), Bool.and_false]
theorem rd43 (L : List R.S43) (i : Nat) (h : i < L.length) : R.rd_T43 L (i : Int) = L[i] := by
 unfold R.rd_T43
 rw [Int.toNat_natCast, List.getD_eq_getElem?_getD, List.getElem?_eq_getElem h]
 rfl
theorem wrap_up (i : Nat) (h : i ≤ 1000) : wrap64 ((i : Int) + 1) = ((i + 1 : Nat) : Int) := by unfold wrap64; omega
theorem wrap_down (i : Nat) (h : i ≤ 1000) : wrap64 (((i + 1 : Nat) : Int) - 1) = (i : Int) := by unfold wrap64; omega
/-- ratch.Right's loop. -/
theorem right_l0 (n : Int) (s : List Int) (L : List R.S43) (hL : L.length ≤ 100) : ∀ (d k i : Nat) (last : Int), i + d = L.length → d < k → R.ratch_Right.l0 k last L (L.length : Int) (i : Int) n s L = some (rises n last (L.drop i)) := by
 intro d
 induction d with
 | zero =>
  intro k i last hd hk
  obtain ⟨k, rfl⟩ : ∃ m, k = m + 1 := ⟨k - 1, by omega⟩
  simp only [R.ratch_Right.l0]
  rw [if_neg (by omega), List.drop_of_length_le (by omega)]
  rfl
 | succ d ih =>
  intro k i last hd hk
  obtain ⟨k, rfl⟩ : ∃ m, k = m + 1 := ⟨k - 1, by omega⟩
  have hi : i < L.length := by omega
  simp only [R.ratch_Right.l0]
  rw [if_pos (by omega), if_pos (by omega), if_pos (by omega), rd43 L i hi, List.drop_eq_getElem_cons hi, rises, wrap_up i (by omega), ih k (i + 1) _ (by omega) (by omega)]
  by_cases h1 : L[i].f0 ≤ last
  ·rw [if_pos h1, decide_eq_false (by omega)]; rfl
  rw [if_neg h1, decide_eq_true (by omega)]
  by_cases h2 : L[i].f0 ≥ n
  ·rw [if_pos h2, decide_eq_false (p := L[i].f0 < n) (by omega)]; rfl
  ·rw [if_neg h2, decide_eq_true (p := L[i].f0 < n) (by omega)]
   by_cases h3 : L[i].f1.length = 32
   ·rw [if_pos (by omega), decide_eq_true h3]
    by_cases h4 : L[i].f2.length = 12
    ·rw [if_pos (by omega), decide_eq_true h4]; rfl
    ·rw [if_neg (by omega), decide_eq_false h4]; rfl
   ·rw [if_neg (by omega), decide_eq_false h3]; rfl
theorem right_some (n : Int) (s : List Int) (L : List R.S43) (k : Nat) (hk : 40 ≤ k) : R.ratch_Right.f k n s L = some (rightC n s L) := by
 obtain ⟨k, rfl⟩ : ∃ m, k = m + 1 := ⟨k - 1, by omega⟩
 unfold R.ratch_Right.f rightC
 simp only [R.ratch_Right.j0]
 by_cases h1 : n < 0
 ·rw [if_pos h1, decide_eq_false (p := 0 ≤ n) (by omega)]; rfl
 rw [if_neg h1, decide_eq_true (p := 0 ≤ n) (by omega)]
 by_cases h2 : n > 4294967294
 ·rw [if_pos h2, decide_eq_false (p := n ≤ 4294967294) (by omega)]; rfl
 rw [if_neg h2, decide_eq_true (p := n ≤ 4294967294) (by omega)]
 by_cases h3 : s.length = 32
 rotate_left
 ·rw [if_neg (by omega), decide_eq_false h3]; rfl
 rw [if_pos (by omega), decide_eq_true h3]
 by_cases h4 : L.length ≤ 32
 ·rw [decide_eq_false (p := (L.length : Int) > 32) (by omega), decide_eq_true h4, if_neg (by decide)]
  have := right_l0 n s L (by omega) L.length k 0 (-1) (by omega) (by omega)
  rw [show ((0 : Nat) : Int) = 0 from rfl] at this
  rw [this, List.drop_zero]
  rfl
 ·rw [decide_eq_true (p := (L.length : Int) > 32) (by omega), decide_eq_false h4, if_pos rfl]; rfl
/-- pyxref13.Right's loop. -/
theorem refRight_l0 (n : Int) (s : List Int) (L : List R.S43) (hL : L.length ≤ 100) : ∀ (d k i : Nat) (last : Int), i + d = L.length → d < k → (i = 0 → last = -1) → (∀ j (hj : j < L.length), i = j + 1 → last = L[j].f0 ∧ 0 ≤ last) → R.pyxref13_Right.l0 k (i : Int) n s L = some (rises n last (L.drop i)) := by
 intro d
 induction d with
 | zero =>
  intro k i last hd hk h0 h1
  obtain ⟨k, rfl⟩ : ∃ m, k = m + 1 := ⟨k - 1, by omega⟩
  simp only [R.pyxref13_Right.l0]
  rw [if_neg (by omega), List.drop_of_length_le (by omega)]
  rfl
 | succ d ih =>
  intro k i last hd hk h0 h1
  obtain ⟨k, rfl⟩ : ∃ m, k = m + 1 := ⟨k - 1, by omega⟩
  have hi : i < L.length := by omega
  simp only [R.pyxref13_Right.l0]
  rw [if_pos (by omega), if_pos (by omega), rd43 L i hi, List.drop_eq_getElem_cons hi, rises, wrap_up i (by omega)]
  have hlast : -1 ≤ last := by
   cases i with
   | zero => have := h0 rfl; omega
   | succ j => have := h1 j (by omega) rfl; omega
  by_cases g1 : L[i].f0 < 0
  ·rw [if_pos g1, decide_eq_false (p := last < L[i].f0) (by omega)]; rfl
  rw [if_neg g1]
  have hih : L[i].f0 < n → L[i].f1.length = 32 → L[i].f2.length = 12 → last < L[i].f0 → R.pyxref13_Right.l0 k ((i + 1 : Nat) : Int) n s L = some (rises n L[i].f0 (L.drop (i + 1))) := fun _ _ _ _ =>
   ih k (i + 1) _ (by omega) (by omega) (by omega) (fun j hj e => by obtain rfl : i = j := (by omega); exact ⟨rfl, by omega⟩)
  by_cases h2 : L[i].f0 ≥ n
  ·rw [if_pos h2, decide_eq_false (p := L[i].f0 < n) (by omega), Bool.false_and, Bool.and_false]
  rw [if_neg h2, decide_eq_true (p := L[i].f0 < n) (by omega)]
  by_cases h3 : L[i].f1.length = 32
  case neg => rw [if_neg (by omega), decide_eq_false h3, Bool.false_and, Bool.and_false, Bool.and_false]
  rw [if_pos (by omega), decide_eq_true h3]
  by_cases h4 : L[i].f2.length = 12
  case neg => rw [if_neg (by omega), decide_eq_false h4, Bool.false_and, Bool.and_false, Bool.and_false, Bool.and_false]
  rw [if_pos (by omega), decide_eq_true h4]
  cases i with
  | zero =>
   have := h0 rfl
   rw [if_neg (by omega), decide_eq_true (p := last < L[0].f0) (by omega), hih (by omega) h3 h4 (by omega)]
   rfl
  | succ j =>
   have hj : j < L.length := by omega
   have e := (h1 j hj rfl).1
   rw [if_pos (by omega), wrap_down j (by omega), if_pos (by omega), if_pos (by omega), rd43 L j hj, ← e]
   by_cases h5 : last ≥ L[j + 1].f0
   ·rw [if_pos h5, decide_eq_false (p := last < L[j + 1].f0) (by omega)]; rfl
   ·rw [if_neg h5, decide_eq_true (p := last < L[j + 1].f0) (by omega), hih (by omega) h3 h4 (by omega)]; rfl
theorem refRight_some (n : Int) (s : List Int) (L : List R.S43) (k : Nat) (hk : 40 ≤ k) : R.pyxref13_Right.f k n s L = some (rightC n s L) := by
 obtain ⟨k, rfl⟩ : ∃ m, k = m + 1 := ⟨k - 1, by omega⟩
 unfold R.pyxref13_Right.f rightC
 simp only [R.pyxref13_Right.j0]
 by_cases h1 : n < 0
 ·rw [if_pos h1, decide_eq_false (p := 0 ≤ n) (by omega)]; rfl
 rw [if_neg h1, decide_eq_true (p := 0 ≤ n) (by omega)]
 by_cases h2 : n > 4294967294
 ·rw [if_pos h2, decide_eq_false (p := n ≤ 4294967294) (by omega)]; rfl
 rw [if_neg h2, decide_eq_true (p := n ≤ 4294967294) (by omega)]
 by_cases h3 : s.length = 32
 rotate_left
 ·rw [if_neg (by omega), decide_eq_false h3]; rfl
 rw [if_pos (by omega), decide_eq_true h3]
 by_cases h4 : L.length ≤ 32
 ·rw [decide_eq_false (p := (L.length : Int) > 32) (by omega), decide_eq_true h4, if_neg (by decide)]
  have := refRight_l0 n s L (by omega) L.length k 0 (-1) (by omega) (by omega) (fun _ => rfl) (fun j hj e => by omega)
  rw [show ((0 : Nat) : Int) = 0 from rfl] at this
  rw [this, List.drop_zero]
  rfl
 ·rw [decide_eq_true (p := (L.length : Int) > 32) (by omega), decide_eq_false h4, if_pos rfl]; rfl
theorem sameL_ref (a b : R.S43) (ha : lockOk a) (hb : lockOk b) : R.pyxref13_SameLock.f a.f0 a.f1 a.f2 b.f0 b.f1 b.f2 = some (sameK a b) := by
 unfold R.pyxref13_SameLock.f sameK
 rw [show P.pyxref01_Same.f a.f1 b.f1 = some (a.f1 == b.f1) from if_pos ⟨ha.1, hb.1⟩, show P.pyxref01_Same.f a.f2 b.f2 = some (a.f2 == b.f2) from if_pos ⟨ha.2, hb.2⟩]
 by_cases h1 : a.f0 = b.f0
 ·rw [if_pos h1, decide_eq_true h1]
  cases a.f1 == b.f1 <;> rfl
 ·rw [if_neg h1, decide_eq_false h1]; rfl
theorem sameL_own (a b : R.S43) (ha : lockOk a) (hb : lockOk b) : R.ratch_sameLock.f a.f0 a.f1 a.f2 b.f0 b.f1 b.f2 = some (sameK a b) := by
 unfold R.ratch_sameLock.f sameK R.bytes_Equal.f
 rw [strOfNums_inj _ _ ha.1 hb.1, strOfNums_inj _ _ ha.2 hb.2]
 by_cases h1 : a.f0 = b.f0
 ·rw [if_pos h1, decide_eq_true h1]
  cases a.f1 == b.f1 <;> rfl
 ·rw [if_neg h1, decide_eq_false h1]; rfl
/-- pyxref13.Same's loop. -/
theorem refSame_l0 (n n' : Int) (s s' : List Int) (L M : List R.S43) (hL : L.length ≤ 100) (hM : M.length = L.length) (oL : locksOk L) (oM : locksOk M) : ∀ (d k i : Nat), i + d = L.length → d < k → R.pyxref13_Same.l0 k (i : Int) n s L n' s' M = some (sameLs (L.drop i) (M.drop i)) := by
 intro d
 induction d with
 | zero =>
  intro k i hd hk
  obtain ⟨k, rfl⟩ : ∃ m, k = m + 1 := ⟨k - 1, by omega⟩
  simp only [R.pyxref13_Same.l0]
  rw [if_neg (by omega), List.drop_of_length_le (by omega), List.drop_of_length_le (by omega)]
  rfl
 | succ d ih =>
  intro k i hd hk
  obtain ⟨k, rfl⟩ : ∃ m, k = m + 1 := ⟨k - 1, by omega⟩
  have hi : i < L.length := by omega
  have hi' : i < M.length := by omega
  simp only [R.pyxref13_Same.l0]
  rw [if_pos (by omega), if_pos (by omega), if_pos (by omega), rd43 L i hi, rd43 M i hi', List.drop_eq_getElem_cons hi, List.drop_eq_getElem_cons hi', wrap_up i (by omega), ih k (i + 1) (by omega) (by omega),
   sameL_ref L[i] M[i] (oL _ (List.getElem_mem hi)) (oM _ (List.getElem_mem hi')), sameLs, Option.bind_some]
  cases sameK L[i] M[i] <;> rfl
theorem refSame_some (n n' : Int) (s s' : List Int) (L M : List R.S43) (os : byteOk s = true) (os' : byteOk s' = true) (oL : locksOk L) (oM : locksOk M) (hL : L.length ≤ 100) (k : Nat) (hk : 110 ≤ k) : R.pyxref13_Same.f k n s L n' s' M = some (sameC n s L n' s' M) := by
 obtain ⟨k, rfl⟩ : ∃ m, k = m + 1 := ⟨k - 1, by omega⟩
 unfold R.pyxref13_Same.f sameC
 simp only [R.pyxref13_Same.j0]
 rw [show P.pyxref01_Same.f s s' = some (s == s') from if_pos ⟨os, os'⟩]
 by_cases h1 : n = n'
 rotate_left
 ·rw [if_neg h1, decide_eq_false h1]; rfl
 rw [if_pos h1, decide_eq_true h1, Option.bind_some]
 cases s == s' with
 | false => rfl
 | true =>
  rw [if_pos rfl]
  by_cases h2 : M.length = L.length
  ·have e : ((L.length : Int) != (M.length : Int)) = false := by rw [h2]; exact bne_self_eq_false _
   have := refSame_l0 n n' s s' L M hL h2 oL oM L.length k 0 (by omega) (by omega)
   rw [show ((0 : Nat) : Int) = 0 from rfl] at this
   rw [e, if_neg (by decide), this, List.drop_zero, List.drop_zero]
   rfl
  ·have e : ((L.length : Int) != (M.length : Int)) = true := by simp only [bne_iff_ne, ne_eq, Int.natCast_inj]; exact fun h => h2 h.symm
   rw [e, if_pos rfl, sameLs_len L M (fun h => h2 h.symm)]
   rfl
end Go.Proofs.YtdklmafkcbjomaaDoor

/-! RatO -/
namespace Go.Proofs.YtdklmafkcbjomaaDoor
set_option linter.unusedVariables false
set_option linter.unusedSimpArgs false
open Go.RowKit Go.Shelf Go.Proofs.YtdklmafkcbjomaaDoorW.PrintWords Go.Proofs.YtdklmafkcbjomaaDoorW.PrintLast Go.Proofs.YtdklmafkcbjomaaDoorW.PrintMore Iter
attribute [local go_sem] Oper.semAt_some
theorem getD43 (L : List R.S43) (i : Nat) (h : i < L.length) : L.getD i R.z43 = L[i] := by
 rw [List.getD_eq_getElem?_getD, List.getElem?_eq_getElem h]
 rfl
theorem sameLs_drop (L M : List R.S43) (k : Nat) (hk : k < L.length) (hk' : k < M.length) : sameLs (L.drop k) (M.drop k) = (sameK (L.getD k R.z43) (M.getD k R.z43) && sameLs (L.drop (k + 1)) (M.drop (k + 1))) := by
 rw [List.drop_eq_getElem_cons hk, List.drop_eq_getElem_cons hk', sameLs, getD43 L k hk, getD43 M k hk']
set_option maxRecDepth 100000 in
set_option maxHeartbeats 2000000 in
theorem equal_calls (A B : Option Addr) (c d : Nat) (L M : List R.S43) (w : World) (hl : L.length ≤ 1000) (hC : Kd.C R.k43 w A L.length L) (hD : Kd.C R.k43 w B M.length M) (oL : locksOk L) (oM : locksOk M) :
  Calls Tryd.prog 35 #[.slice A L.length c, .slice B M.length d, .func (.func 36) #[] #[]] w fun e w' => e = .returned (.bool (sameLs L M)) ∧ Below w.heap.size w w' := by
 by_cases hne : L.length = M.length
 case neg =>
  have d0 : ((L.length : Int) != (M.length : Int)) = true := by simp only [bne_iff_ne, ne_eq, Int.natCast_inj]; exact hne
  rw [sameLs_len L M hne]
  clear hC hD hne oL oM
  go_enter Tryd.func35, Tryd.ntmps35
  go_wp2
  go_ret
  exact ⟨rfl, Below.refl _ _⟩
 have d0 : ((L.length : Int) != (M.length : Int)) = false := by rw [hne]; exact bne_self_eq_false _
 have HK := Lib.hid (And.intro hC (And.intro hD (And.intro oL (And.intro oM (And.intro hne hl)))))
 obtain ⟨z, hz⟩ : ∃ z, M.length = z := ⟨_, rfl⟩
 have HZ := Lib.hid hz
 rw [hz] at d0 ⊢
 clear hC hD oL oM hne hl hz
 go_enter Tryd.func35, Tryd.ntmps35
 go_wp2
 go_loopw [17] (fun i wr => ∃ k : Nat, k ≤ L.length ∧ i = .int .i64 (k : Int) ∧ Hid (sameLs L M = sameLs (L.drop k) (M.drop k)) ∧ Hid (Below w.heap.size w wr)) (fun i _ => L.length - (intOf i).toNat)
 case atStart => exact ⟨0, Nat.zero_le _, rfl, Lib.hid rfl, Lib.hid (Below.refl _ _)⟩
 obtain ⟨k, hk, rfl, HN, HB⟩ := hrel
 by_cases hlt : k < L.length
 rotate_left
 ·obtain rfl : k = L.length := by omega
  have d0 : decide ((L.length : Int) < (L.length : Int)) = false := by simp
  have hx : sameLs L M = true := by
   have h1 := HK.out.2.2.2.2.1
   rw [HN.out, List.drop_length, h1, List.drop_length]
   rfl
  go_wp2
  go_ret
  exact ⟨by rw [hx]; rfl, HB.out⟩
 have d0 : decide ((k : Int) < (L.length : Int)) = true := by simp; exact hlt
 have p0 : (0 : Int) ≤ (k : Int) := Int.natCast_nonneg _
 have p1 : (k : Int) < (L.length : Int) := by omega
 have hlt' : k < M.length := by have := HK.out.2.2.2.2.1; omega
 have p2 : (k : Int) < (z : Int) := by have := HZ.out; omega
 have p3 : (k : Int) < (M.length : Int) := by omega
 obtain ⟨ad, A1, c1, A2, c2, rfl, x0, x1, x2, lx1, gx1, lx2, gx2⟩ := R.at_T43 (Kd.C_below HK.out.1 HB.out) (k : Int) p0 p1
 obtain ⟨bd, B1, e1, B2, e2, rfl, y0, y1, y2, ly1, gy1, ly2, gy2⟩ := R.at_T43 (Kd.C_alloc (Kd.C_below HK.out.2.1 HB.out) (Obj.cells #[.int .i64 (R.rd_T43 L (k : Int)).f0, .slice A1 (R.rd_T43 L (k : Int)).f1.length c1, .slice A2 (R.rd_T43 L (k : Int)).f2.length c2] 43)) (k : Int) p0 p3
 have hf : R.rd_T43 L (k : Int) = L.getD k R.z43 := by unfold R.rd_T43; rw [Int.toNat_natCast]
 have hf' : R.rd_T43 M (k : Int) = M.getD k R.z43 := by unfold R.rd_T43; rw [Int.toNat_natCast]
 rw [hf] at x0 x1 x2 lx1 gx1 lx2 gx2 y0 y1 y2 gy1 gy2
 rw [hf'] at y0 y1 y2 ly1 gy1 ly2 gy2
 rw [Int.toNat_natCast] at x0 x1 x2 y0 y1 y2
 have hsm := sameL_own (L.getD k R.z43) (M.getD k R.z43) (by rw [getD43 L k hlt]; exact HK.out.2.2.1 _ (List.getElem_mem hlt)) (by rw [getD43 M k hlt']; exact HK.out.2.2.2.1 _ (List.getElem_mem hlt'))
 have hst := sameLs_drop L M k hlt hlt'
 have HW := Lib.hid (show wrap64 ((k : Int) + 1) = ((k + 1 : Nat) : Int) from by have := HK.out.2.2.2.2.2; unfold wrap64; omega)
 have HM := Lib.hid (show L.length - (intOf (.int .i64 ((k + 1 : Nat) : Int))).toNat < L.length - (intOf (.int .i64 (k : Int))).toNat by simp [intOf]; omega)
 have HS := Lib.hid (And.intro hsm (And.intro hst (And.intro gx1 (And.intro lx1 (And.intro gx2 (And.intro lx2 (And.intro gy1 (And.intro ly1 (And.intro gy2 ly2)))))))))
 clear hf hf' hsm hst gx1 lx1 gx2 lx2 gy1 ly1 gy2 ly2 hlt'
 generalize (L.getD k R.z43).f0 = F0 at *
 generalize (L.getD k R.z43).f1 = F1 at *
 generalize (L.getD k R.z43).f2 = F2 at *
 generalize (M.getD k R.z43).f0 = G0 at *
 generalize (M.getD k R.z43).f1 = G1 at *
 generalize (M.getD k R.z43).f2 = G2 at *
 go_wp2_with fail
 have hb2 : Below wr.heap.size wr ((wr.alloc (Obj.cells #[.int .i64 F0, .slice A1 F1.length c1, .slice A2 F2.length c2] 43)).alloc (Obj.cells #[.int .i64 G0, .slice B1 G1.length e1, .slice B2 G2.length e2] 43)) := ((Below.refl _ wr).alloc (Nat.le_refl _) _).alloc (by simp) _
 refine (R.ratch_sameLock.calls F0 A1 c1 F1 A2 c2 F2 G0 B1 e1 G1 B2 e2 G2 _ _ (Kd.C_below HS.out.2.2.1 hb2) HS.out.2.2.2.1 (Kd.C_below HS.out.2.2.2.2.1 hb2) HS.out.2.2.2.2.2.1 (Kd.C_alloc HS.out.2.2.2.2.2.2.1 _) HS.out.2.2.2.2.2.2.2.1 (Kd.C_alloc HS.out.2.2.2.2.2.2.2.2.1 _) HS.out.2.2.2.2.2.2.2.2.2 HS.out.1).mono ?_
 rintro e W1 ⟨rfl, hb1⟩
 have HB1 := Lib.hid ((HB.out.trans (hb2.mono HB.out.size)).trans (hb1.mono (Nat.le_trans HB.out.size hb2.size)))
 clear hb1 hb2 x0 x1 x2 y0 y1 y2
 obtain ⟨b, hb⟩ : ∃ b, sameK (L.getD k R.z43) (M.getD k R.z43) = b := ⟨_, rfl⟩
 rw [hb] at HS ⊢
 have HT := Lib.hid HS.out.2.1
 clear HS hb
 cases b with
 | false =>
  go_wp2
  go_ret
  exact ⟨by rw [HN.out, HT.out]; rfl, HB1.out⟩
 | true =>
  go_wp2
  refine ⟨⟨k + 1, hlt, by rw [HW.out], Lib.hid (by rw [HN.out, HT.out]; rfl), HB1⟩, by rw [HW.out]; exact HM.out⟩
theorem drawn_below {w w' : World} (h : Drawn0 w w') : Below w.heap.size w w' := by
 obtain ⟨n, rfl⟩ := h.out
 exact pw_below_drewN (Below.refl _ _) n
theorem bytesEqual_some (a b : List Int) (ha : byteOk a = true) (hb : byteOk b = true) : R.bytes_Equal.f a b = some (a == b) := by
 unfold R.bytes_Equal.f
 rw [strOfNums_inj _ _ ha hb]
set_option maxRecDepth 100000 in
set_option maxHeartbeats 2000000 in
theorem same_calls (n n' : Int) (A0 A1 B0 B1 : Option Addr) (c0 c1 d0 d1 : Nat) (s s' : List Int) (L M : List R.S43) (w : World) (os : byteOk s = true) (os' : byteOk s' = true) (oL : locksOk L) (oM : locksOk M) (hl : L.length ≤ 1000)
  (hs : Kd.C (Kd.int .u8) w A0 s.length s) (hc0 : s.length ≤ c0) (hL : Kd.C R.k43 w A1 L.length L) (hs' : Kd.C (Kd.int .u8) w B0 s'.length s') (hd0 : s'.length ≤ d0) (hM : Kd.C R.k43 w B1 M.length M) :
  Calls Tryd.prog 20 #[.agg #[.int .i64 n, .slice A0 s.length c0, .slice A1 L.length c1], .agg #[.int .i64 n', .slice B0 s'.length d0, .slice B1 M.length d1]] w fun e w' => e = .returned (.bool (sameC n s L n' s' M)) ∧ Below w.heap.size w w' := by
 have hb : Below w.heap.size w ((w.alloc (Obj.cells #[.int .i64 n, .slice A0 s.length c0, .slice A1 L.length c1] 25)).alloc (Obj.cells #[.int .i64 n', .slice B0 s'.length d0, .slice B1 M.length d1] 25)) := ((Below.refl _ w).alloc (Nat.le_refl _) _).alloc (by simp) _
 have HB := Lib.hid hb
 have HE := Lib.hid (fun W (hW : Below w.heap.size w W) => equal_calls A1 B1 c1 d1 L M W hl (Kd.C_below hL hW) (Kd.C_below hM hW) oL oM)
 have HQ := Lib.hid (R.bytes_Equal.calls A0 c0 s B0 d0 s' _ _ (Kd.C_below hs hb) hc0 (Kd.C_below hs' hb) hd0 (bytesEqual_some s s' os os'))
 clear hs hs' hL hM hc0 hd0 oL oM hl os os' hb
 by_cases hn : n = n'
 case neg =>
  have e : (n == n') = false := beq_eq_false_iff_ne.mpr hn
  have ec : sameC n s L n' s' M = false := by unfold sameC; rw [decide_eq_false hn]; rfl
  rw [ec]
  clear hn HE HQ ec
  go_enter Tryd.func20, Tryd.ntmps20
  go_wp2
  go_ret
  exact ⟨rfl, HB.out⟩
 have ec : sameC n s L n' s' M = ((s == s') && sameLs L M) := by unfold sameC; rw [decide_eq_true hn]; rfl
 rw [ec]
 subst hn
 have e : (n == n) = true := beq_self_eq_true _
 clear ec
 obtain ⟨b, hbb⟩ : ∃ b, (s == s') = b := ⟨_, rfl⟩
 obtain ⟨b2, hb2⟩ : ∃ b, sameLs L M = b := ⟨_, rfl⟩
 rw [hbb] at HQ ⊢
 rw [hb2] at HE ⊢
 clear hbb hb2
 cases b with
 | false =>
  go_enter Tryd.func20, Tryd.ntmps20
  go_wp2_with fail
  refine HQ.out.mono ?_
  rintro e W1 ⟨rfl, hq0⟩
  have hq := drawn_below hq0
  clear hq0
  go_wp2
  go_ret
  exact ⟨rfl, HB.out.trans (hq.mono HB.out.size)⟩
 | true =>
  go_enter Tryd.func20, Tryd.ntmps20
  go_wp2_with fail
  refine HQ.out.mono ?_
  rintro e W1 ⟨rfl, hq0⟩
  have hq := drawn_below hq0
  clear hq0
  have HB1 := Lib.hid (HB.out.trans (hq.mono HB.out.size))
  have x0 : W1.cell? ⟨w.heap.size, 2, none⟩ = some (.slice A1 L.length c1) := by
   have := ((Blk.new w 25 #[.int .i64 n, .slice A0 s.length c0, .slice A1 L.length c1]).alloc (Obj.cells #[.int .i64 n, .slice B0 s'.length d0, .slice B1 M.length d1] 25))
   exact (this.below hq this.lt).cell 2
  have x1 : W1.cell? ⟨w.heap.size + 1, 2, none⟩ = some (.slice B1 M.length d1) := by
   have := Blk.new (w.alloc (Obj.cells #[.int .i64 n, .slice A0 s.length c0, .slice A1 L.length c1] 25)) 25 #[.int .i64 n, .slice B0 s'.length d0, .slice B1 M.length d1]
   rw [World.size_alloc] at this
   exact (this.below hq this.lt).cell 2
  clear hq
  go_wp2_with fail
  refine (HE.out W1 HB1.out).mono ?_
  rintro e W2 ⟨rfl, hq2⟩
  have HB2 := Lib.hid (HB1.out.trans (hq2.mono HB1.out.size))
  clear hq2
  go_wp2
  go_ret
  exact ⟨rfl, HB2.out⟩
end Go.Proofs.YtdklmafkcbjomaaDoor

/-! RatP -/
namespace Go.Proofs.YtdklmafkcbjomaaDoor
set_option linter.unusedVariables false
set_option linter.unusedSimpArgs false
open Go.RowKit Go.Shelf Go.Proofs.YtdklmafkcbjomaaDoorW.PrintWords Go.Proofs.YtdklmafkcbjomaaDoorW.PrintLast Go.Proofs.YtdklmafkcbjomaaDoorW.PrintMore Iter
attribute [local go_sem] Oper.semAt_some
theorem madeB_eq13 (n : Nat) : madeCells (Value.int IntKind.u8 0).cells (n * 1) = (nums .u8 (List.replicate n 0)).toArray := by
 apply Array.ext
 ·simp [madeCells, nums]
 ·intro i h1 h2
  simp [madeCells, nums, Value.cells, Nat.mod_one]
theorem madeN13 (n : Nat) (m : Int) (hm : m = (n : Int)) (hn : n ≤ 140737488355328) (W : World) : (Instr.makeSlice 22 (.int .i64 m) (.int .i64 m)).run Tryd.prog W = .ok (.slice (some ⟨W.heap.size, 0, none⟩) n n) (W.alloc (.cells (nums .u8 (List.replicate n 0)).toArray 5)) := by
 subst hm
 obtain ⟨i, hi, hz⟩ := Option.map_eq_some_iff.1 (show (Tryd.prog.info? 5).map (fun i => (i.zero, i.size, i.bytes)) = some (some (.int .u8 0), 1, 1) by kernel_rfl)
 simp only [Prod.mk.injEq] at hz
 obtain ⟨h0, h1, h2⟩ := hz
 have h := run_make (P := Tryd.prog) (w := W) 22 5 i (.int .u8 0) Tryd.underlying22 hi h0 .i64 .i64 (n : Int) (n : Int) (by omega) (by omega) (by rw [h2]; omega) (by omega)
 rw [h1, Int.toNat_natCast, madeB_eq13] at h
 exact h
/-- Two boxes are made. -/
theorem two_boxes (W : World) (cs ds : Array Value) (t t' : TypeId) : Blk ((W.alloc (.cells cs t)).alloc (.cells ds t')) W.heap.size t cs ∧ Blk ((W.alloc (.cells cs t)).alloc (.cells ds t')) (W.heap.size + 1) t' ds ∧ Below W.heap.size W ((W.alloc (.cells cs t)).alloc (.cells ds t')) ∧ ((W.alloc (.cells cs t)).alloc (.cells ds t')).heap.size = W.heap.size + 2 := by
 have b := Blk.new (W.alloc (.cells cs t)) t' ds
 rw [World.size_alloc] at b
 exact ⟨(Blk.new W t cs).alloc _, b, ((Below.refl _ W).alloc (Nat.le_refl _) _).alloc (by simp) _, by simp⟩
theorem takeF_adv (n d : Nat) (s : List Int) (L : List R.S43) (hx : idxL L ((n + d : Nat) : Int) = none) (hd : d ≤ 100) (hm : n + d < 4294967294) : takeF n s L ((n + d : Nat) : Int) = (n + (d + 1), secS s n (d + 1), (L ++ passed s n d).drop (L.length + d - 32), lockN s n d, 0) := by
 have hdd : (((n + d : Nat) : Int) - (n : Int)).toNat = d := by omega
 unfold takeF
 rw [if_neg (by omega), hx]
 dsimp only
 rw [if_neg (by omega), if_neg (by omega), hdd]
theorem lockN_f0 (s : List Int) (n k : Nat) : (lockN s n k).f0 = ((n + k : Nat) : Int) := rfl
theorem lockN_l1 (s : List Int) (n k : Nat) : (lockN s n k).f1.length = 32 := labelOf_length _ _ _ _
theorem lockN_l2 (s : List Int) (n k : Nat) : (lockN s n k).f2.length = 12 := labelOf_length _ _ _ _
theorem lockN_ok (s : List Int) (n k : Nat) : lockOk (lockN s n k) := ⟨byteOk_labelOf _ _ _ _, byteOk_labelOf _ _ _ _⟩
theorem passed_ok (s : List Int) (n k : Nat) : locksOk (passed s n k) := by
 intro x hx
 obtain ⟨j, -, rfl⟩ := List.mem_map.1 hx
 exact lockN_ok s n j
theorem sh_take1 (s : List Int) : takeF 0 s [] 2 = (3, secS s 0 3, [lockN s 0 0, lockN s 0 1], lockN s 0 2, 0) := takeF_adv 0 2 s [] rfl (by decide) (by decide)
theorem sh_take2 (s t : List Int) : takeF 3 t [lockN s 0 0, lockN s 0 1] 0 = (3, t, [lockN s 0 1], lockN s 0 0, 0) := by
 unfold takeF
 rw [if_neg (by decide)]
 have : idxL [lockN s 0 0, lockN s 0 1] 0 = some 0 := by rw [idxL, if_pos (show (lockN s 0 0).f0 = 0 from rfl)]
 rw [this]
 rfl
theorem sh_take3 (s t : List Int) : takeF 3 t [lockN s 0 1] 0 = (3, t, [lockN s 0 1], R.z43, 9) := by
 unfold takeF
 rw [if_neg (by decide)]
 have : idxL [lockN s 0 1] 0 = none := by rw [idxL, if_neg (by rw [lockN_f0]; decide)]; rfl
 rw [this]
 rfl
theorem sh_right (s t : List Int) (h : t.length = 32) : rightC 3 t [lockN s 0 0, lockN s 0 1] = true := by
 unfold rightC
 rw [decide_eq_true h]
 simp only [rises, lockN_f0, lockN_l1, lockN_l2]
 simp
/-- Names for the example's rows. -/
structure ShV where
 s : List Int
 t : List Int
 k0 : R.S43
 k1 : R.S43
 k2 : R.S43
def ShP (v : ShV) : Prop := v.s.length = 32 ∧ byteOk v.s = true ∧ v.t.length = 32 ∧ byteOk v.t = true ∧ takeF 0 v.s [] 2 = (3, v.t, [v.k0, v.k1], v.k2, 0) ∧ takeF 3 v.t [v.k0, v.k1] 0 = (3, v.t, [v.k1], v.k0, 0) ∧ takeF 3 v.t [v.k1] 0 = (3, v.t, [v.k1], R.z43, 9) ∧
 rightC 3 v.t [v.k0, v.k1] = true ∧ v.k0.f0 = 0 ∧ v.k1.f0 = 1 ∧ v.k2.f0 = 2 ∧ v.k2.f1.length = 32 ∧ lockOk v.k0 ∧ lockOk v.k1
theorem shP_of (s : List Int) (h : s.length = 32) (o : byteOk s = true) : ShP ⟨s, secS s 0 3, lockN s 0 0, lockN s 0 1, lockN s 0 2⟩ :=
 ⟨h, o, secS_length s 0 h 3, byteOk_secS s 0 o 3, sh_take1 s, sh_take2 s _, sh_take3 s _, sh_right s _ (secS_length s 0 h 3), lockN_f0 s 0 0, lockN_f0 s 0 1, lockN_f0 s 0 2, lockN_l1 s 0 2, lockN_ok s 0 0, lockN_ok s 0 1⟩
def Z32r : List Int := List.replicate 32 0
set_option maxRecDepth 100000 in
set_option maxHeartbeats 4000000 in
theorem shown13_calls (w : World) (hT : TabOk w) : Calls Tryd.prog 10 #[] w fun e w' => e = .returned (.bool true) ∧ Below w.heap.size w w' := by
 obtain ⟨V, hV⟩ : ∃ V : ShV, ShP V ∧ leafS Z32r 2 1 = V.s := ⟨_, shP_of _ (leafS_length Z32r 2 1) (byteOk_leafS Z32r 2 1), rfl⟩
 have HV := Lib.hid hV
 have HT := Lib.hid hT
 have m32 : Hid (∀ W : World, (Instr.makeSlice 22 (.int .i64 32) (.int .i64 32)).run Tryd.prog W = .ok (.slice (some ⟨W.heap.size, 0, none⟩) 32 32) (W.alloc (.cells (nums .u8 Z32r).toArray 5))) := Lib.hid (madeN13 32 32 rfl (by decide))
 clear hV hT
 go_enter Tryd.func10, Tryd.ntmps10
 go_wp2_with fail
 rw [m32.out]
 have H0 := Lib.hid (And.intro (show Kd.C (Kd.int .u8) (w.alloc (Obj.cells (nums .u8 Z32r).toArray 5)) (some ⟨w.heap.size, 0, none⟩) 32 Z32r from c_lit w 5 Z32r (by decide)) ((Below.refl w.heap.size w).alloc (Nat.le_refl _) (Obj.cells (nums .u8 Z32r).toArray 5)))
 generalize (w.alloc (Obj.cells (nums .u8 Z32r).toArray 5)) = W1 at *
 go_wp2_with fail
 refine (start_calls (some ⟨w.heap.size, 0, none⟩) 32 Z32r 2 1 4 1 rfl rfl W1 (HT.out.below H0.out.2 HT.out.1) (by decide) (by decide) rfl (by decide) H0.out.1 (Nat.le_refl _)).mono ?_
 rw [HV.out.2]
 rintro e W2 ⟨A, c, rfl, hl, hC, hb⟩
 have H1 := Lib.hid (And.intro hl (And.intro hC (And.intro (Kd.C_below H0.out.1 hb) (H0.out.2.trans (hb.mono H0.out.2.size)))))
 clear hl hC hb H0
 go_wp2_with fail
 have b1 := Blk.new W2 25 #[.int .i64 0, .slice A V.s.length c, .slice none 0 0]
 have hb1 : Below W2.heap.size W2 (W2.alloc (Obj.cells #[.int .i64 0, .slice A V.s.length c, .slice none 0 0] 25)) := (Below.refl _ W2).alloc (Nat.le_refl _) _
 have H2 := Lib.hid (And.intro H1.out.1 (And.intro (Kd.C_below H1.out.2.1 hb1) (And.intro (Kd.C_below H1.out.2.2.1 hb1) (And.intro (H1.out.2.2.2.trans (hb1.mono H1.out.2.2.2.size)) b1))))
 generalize W2.alloc (Obj.cells #[.int .i64 0, .slice A V.s.length c, .slice none 0 0] 25) = W3 at *
 obtain ⟨gc, hgc⟩ : ∃ g, W2.heap.size = g := ⟨_, rfl⟩
 rw [hgc] at H2 ⊢
 clear hgc b1 hb1 H1
 refine (take_calls 0 2 A V.s c none [] 0 W3 H2.out.2.1 H2.out.1 (Kd.C_nil _ _) (Nat.le_refl _) HV.out.1.1 HV.out.1.2.1 (by decide) (by decide)).mono ?_
 rw [HV.out.1.2.2.2.2.1]
 rintro e W4 ⟨As, cs, Ap, cp, Ak, ck, An, cn, rfl, q1, q2, q3, q4, q5, q6, q7, q8, hb⟩
 have H3 := Lib.hid (And.intro q1 (And.intro q2 (And.intro q3 (And.intro q4 (And.intro (H2.out.2.2.2.1.trans (hb.mono H2.out.2.2.2.1.size)) (And.intro (H2.out.2.2.2.2.below hb H2.out.2.2.2.2.lt) (And.intro (Kd.C_below H2.out.2.1 hb) (And.intro (Kd.C_below H2.out.2.2.1 hb) H2.out.1))))))))
 clear q1 q2 q3 q4 q5 q6 q7 q8 hb H2
 dsimp only
 generalize hzk : V.k2.f1.length = zk at *
 generalize hzn : V.k2.f2.length = zn at *
 have HZ := Lib.hid hzk
 clear hzk hzn
 rw [show V.k2.f0 = 2 from HV.out.1.2.2.2.2.2.2.2.2.2.2.1]
 go_wp2_with fail
 obtain ⟨r1, r2, r3, r4⟩ := two_boxes W4 #[.int .i64 3, .slice As V.t.length cs, .slice Ap 2 cp] #[.int .i64 2, .slice Ak zk ck, .slice An zn cn] 25 43
 -- s: the rows of c and send; t: those of d
 have G0 := Lib.hid (And.intro H3.out.1 (And.intro (Kd.C_below H3.out.2.1 r3) (And.intro H3.out.2.2.1 (And.intro (Kd.C_below H3.out.2.2.2.1 r3) (And.intro (H3.out.2.2.2.2.1.trans (r3.mono H3.out.2.2.2.2.1.size)) (And.intro (H3.out.2.2.2.2.2.1.below r3 H3.out.2.2.2.2.2.1.lt) (And.intro (Kd.C_below H3.out.2.2.2.2.2.2.1 r3) (And.intro (Kd.C_below H3.out.2.2.2.2.2.2.2.1 r3) (And.intro H3.out.2.2.2.2.2.2.2.2 (And.intro r1 r2))))))))))
 generalize ((W4.alloc (.cells #[.int .i64 3, .slice As V.t.length cs, .slice Ap 2 cp] 25)).alloc (.cells #[.int .i64 2, .slice Ak zk ck, .slice An zn cn] 43)) = W5 at *
 obtain ⟨gd, hgd⟩ : ∃ g, W4.heap.size = g := ⟨_, rfl⟩
 rw [hgd] at G0 ⊢
 clear hgd r1 r2 r3 r4 H3
 refine (take_calls 3 0 As V.t cs Ap [V.k0, V.k1] cp W5 G0.out.2.1 G0.out.1 G0.out.2.2.2.1 G0.out.2.2.1 HV.out.1.2.2.1 HV.out.1.2.2.2.1 (by simp) (by decide)).mono ?_
 rw [HV.out.1.2.2.2.2.2.1]
 rintro e W6 ⟨Bs, es, Bp, ep, Bk, ek, Bn, en, rfl, q1, q2, q3, q4, -, -, -, -, hb⟩
 have G1 := Lib.hid (And.intro q1 (And.intro q2 (And.intro q3 (And.intro q4 (And.intro (G0.out.2.2.2.2.1.trans (hb.mono G0.out.2.2.2.2.1.size)) (And.intro (G0.out.2.2.2.2.2.1.below hb G0.out.2.2.2.2.2.1.lt) (And.intro (Kd.C_below G0.out.2.2.2.2.2.2.1 hb) (And.intro (Kd.C_below G0.out.2.2.2.2.2.2.2.1 hb) (And.intro G0.out.2.2.2.2.2.2.2.2.1 (And.intro (G0.out.2.2.2.2.2.2.2.2.2.1.below hb G0.out.2.2.2.2.2.2.2.2.2.1.lt) (And.intro (G0.out.2.2.2.2.2.2.2.2.2.2.below hb G0.out.2.2.2.2.2.2.2.2.2.2.lt) (And.intro G0.out.1 (And.intro (Kd.C_below G0.out.2.1 hb) (And.intro G0.out.2.2.1 (Kd.C_below G0.out.2.2.2.1 hb)))))))))))))))
 clear q1 q2 q3 q4 hb G0
 dsimp only
 generalize V.k0.f1.length = xk at *
 generalize V.k0.f2.length = xn at *
 rw [show V.k0.f0 = 0 from HV.out.1.2.2.2.2.2.2.2.2.1]
 go_wp2_with fail
 obtain ⟨r1, r2, r3, r4⟩ := two_boxes W6 #[.int .i64 3, .slice Bs V.t.length es, .slice Bp 1 ep] #[.int .i64 0, .slice Bk xk ek, .slice Bn xn en] 25 43
 obtain ⟨p1, p2, p3, p4, p5, p6, p7, p8, p9, p10, p11, p12, p13, p14, p15⟩ := G1.out
 have G2 := Lib.hid (And.intro p1 (And.intro (Kd.C_below p2 r3) (And.intro p3 (And.intro (Kd.C_below p4 r3) (And.intro (p5.trans (r3.mono p5.size)) (And.intro (p6.below r3 p6.lt) (And.intro (Kd.C_below p7 r3) (And.intro (Kd.C_below p8 r3) (And.intro p9 (And.intro (p10.below r3 p10.lt) (And.intro (p11.below r3 p11.lt) (And.intro p12 (And.intro (Kd.C_below p13 r3) (And.intro p14 (And.intro (Kd.C_below p15 r3) (And.intro r1 r2))))))))))))))))
 clear p1 p2 p3 p4 p5 p6 p7 p8 p9 p10 p11 p12 p13 p14 p15 G1
 generalize ((W6.alloc (.cells #[.int .i64 3, .slice Bs V.t.length es, .slice Bp 1 ep] 25)).alloc (.cells #[.int .i64 0, .slice Bk xk ek, .slice Bn xn en] 43)) = W7 at *
 obtain ⟨gx, hgx⟩ : ∃ g, W6.heap.size = g := ⟨_, rfl⟩
 rw [hgx] at G2 ⊢
 clear hgx r1 r2 r3 r4
 refine (take_calls 3 0 Bs V.t es Bp [V.k1] ep W7 G2.out.2.1 G2.out.1 G2.out.2.2.2.1 G2.out.2.2.1 HV.out.1.2.2.1 HV.out.1.2.2.2.1 (by simp) (by decide)).mono ?_
 rw [HV.out.1.2.2.2.2.2.2.1]
 rintro e W8 ⟨Ds, fs, Dp, fp, Dk, fk, Dn, fn, rfl, -, -, -, -, -, -, -, -, hb⟩
 obtain ⟨p1, p2, p3, p4, p5, p6, p7, p8, p9, p10, p11, p12, p13, p14, p15, p16, p17⟩ := G2.out
 have G3 := Lib.hid (And.intro (p5.trans (hb.mono p5.size)) (And.intro (p6.below hb p6.lt) (And.intro (Kd.C_below p7 hb) (And.intro (Kd.C_below p8 hb) (And.intro p9 (And.intro (p10.below hb p10.lt) (And.intro (p11.below hb p11.lt) (And.intro p12 (And.intro (Kd.C_below p13 hb) (And.intro p14 (And.intro (Kd.C_below p15 hb) (And.intro (p16.below hb p16.lt) (p17.below hb p17.lt)))))))))))))
 clear p1 p2 p3 p4 p5 p6 p7 p8 p9 p10 p11 p12 p13 p14 p15 p16 p17 G2 hb
 dsimp only
 rw [show R.z43.f0 = 0 from rfl, show R.z43.f1.length = 0 from rfl, show R.z43.f2.length = 0 from rfl]
 go_wp2_with fail
 obtain ⟨r1, r2, r3, r4⟩ := two_boxes W8 #[.int .i64 3, .slice Ds V.t.length fs, .slice Dp 1 fp] #[.int .i64 0, .slice Dk 0 fk, .slice Dn 0 fn] 25 43
 obtain ⟨p5, p6, p7, p8, p9, p10, p11, p12, p13, p14, p15, p16, p17⟩ := G3.out
 have G4 := Lib.hid (And.intro (p5.trans (r3.mono p5.size)) (And.intro (p6.below r3 p6.lt) (And.intro (Kd.C_below p7 r3) (And.intro (Kd.C_below p8 r3) (And.intro p9 (And.intro (p10.below r3 p10.lt) (And.intro (p11.below r3 p11.lt) (And.intro p12 (And.intro (Kd.C_below p13 r3) (And.intro p14 (And.intro (Kd.C_below p15 r3) (And.intro (p16.below r3 p16.lt) (p17.below r3 p17.lt)))))))))))))
 clear p5 p6 p7 p8 p9 p10 p11 p12 p13 p14 p15 p16 p17 G3
 generalize ((W8.alloc (.cells #[.int .i64 3, .slice Ds V.t.length fs, .slice Dp 1 fp] 25)).alloc (.cells #[.int .i64 0, .slice Dk 0 fk, .slice Dn 0 fn] 43)) = W9 at *
 obtain ⟨gy, hgy⟩ : ∃ g, W8.heap.size = g := ⟨_, rfl⟩
 rw [hgy]
 clear hgy r1 r2 r3 r4
 refine (leaf_calls (some ⟨w.heap.size, 0, none⟩) 32 Z32r 2 1 W9 (HT.out.below G4.out.1 HT.out.1) (by decide) (by decide) rfl (by decide) G4.out.2.2.2.1 (Nat.le_refl _)).mono ?_
 rw [HV.out.2]
 rintro e W10 ⟨v, rfl, hR, hb⟩
 obtain ⟨As', cs', rfl, hls, hCs⟩ := Kd.R_reads hR
 obtain ⟨p5, p6, p7, p8, p9, p10, p11, p12, p13, p14, p15, p16, p17⟩ := G4.out
 have G5 := Lib.hid (And.intro (p5.trans (hb.mono p5.size)) (And.intro (p6.below hb p6.lt) (And.intro (Kd.C_below p7 hb) (And.intro hls (And.intro hCs (And.intro p9 (And.intro (p10.below hb p10.lt) (And.intro (p11.below hb p11.lt) (And.intro p12 (And.intro (Kd.C_below p13 hb) (And.intro p14 (And.intro (Kd.C_below p15 hb) (And.intro (p16.below hb p16.lt) (p17.below hb p17.lt))))))))))))))
 clear p5 p6 p7 p8 p9 p10 p11 p12 p13 p14 p15 p16 p17 G4 hb hR hls hCs
 obtain rfl : 32 = zk := by rw [← HZ.out]; exact HV.out.1.2.2.2.2.2.2.2.2.2.2.2.1.symm
 obtain ⟨hb, bc, hCc, hls, hCs, hlc, bd, bl, hlt, hCt, hlp, hCp, bx, bm⟩ := G5.out
 have c1 : W10.cell? ⟨gc, 1, none⟩ = some (.slice A V.s.length c) := bc.cell 1
 have d0 : W10.cell? ⟨gd, 0, none⟩ = some (.int .i64 3) := bd.cell 0
 have d2 : W10.cell? ⟨gd, 2, none⟩ = some (.slice Ap 2 cp) := bd.cell 2
 have l0 : W10.cell? ⟨gd + 1, 0, none⟩ = some (.int .i64 2) := bl.cell 0
 have l1 : W10.cell? ⟨gd + 1, 1, none⟩ = some (.slice Ak 32 ck) := bl.cell 1
 have x2 : W10.cell? ⟨gx, 2, none⟩ = some (.slice Bp 1 ep) := bx.cell 2
 have m0 : W10.cell? ⟨gx + 1, 0, none⟩ = some (.int .i64 0) := bm.cell 0
 obtain ⟨ad, A1, c1', A2, c2', rfl, y0, -, -, -, -, -, -⟩ := R.at_T43 hCp (0 : Int) (by decide) (by simp)
 obtain ⟨ad', A3, c3', A4, c4', ead, z0, -, -, -, -, -, -⟩ := R.at_T43 hCp (1 : Int) (by decide) (by simp)
 cases ead
 have y0' : W10.cell? (ad.add 0) = some (.int .i64 0) := by
  have := y0
  rw [show (R.rd_T43 [V.k0, V.k1] 0).f0 = 0 from HV.out.1.2.2.2.2.2.2.2.2.1] at this
  exact this
 have z0' : W10.cell? (ad.add 3) = some (.int .i64 1) := by
  have := z0
  rw [show (R.rd_T43 [V.k0, V.k1] 1).f0 = 1 from HV.out.1.2.2.2.2.2.2.2.2.2.1] at this
  exact this
 have y0'' : W10.cell? ad = some (.int .i64 0) := by
  rw [Addr.add_zero'] at y0'
  exact y0'
 have z0'' : W10.cell? ⟨ad.block, ad.off + 3, none⟩ = some (.int .i64 1) := z0'
 clear y0 z0 hb bc hCc hls hCs hlc bd bl hlt hCt hlp hCp bx bm HZ
 go_wp2_with fail
 clear c1 d0 d2 l0 l1 x2 m0 y0' z0' y0'' z0''
 refine (P.pyxref01_Same.calls As' cs' V.s A c V.s true W10 G5.out.2.2.2.2.1 G5.out.2.2.2.1 G5.out.2.2.1 G5.out.2.2.2.2.2.1 (by unfold P.pyxref01_Same.f; rw [if_pos ⟨HV.out.1.2.1, HV.out.1.2.1⟩, beq_self_eq_true])).mono ?_
 rintro e W11 ⟨rfl, hq⟩
 have hb := drawn_below hq
 clear hq
 obtain ⟨q0, bc, hCc, hls, hCs, hlc, bd, bl, hlt, hCt, hlp, hCp, bx, bm⟩ := G5.out
 have G6 := Lib.hid (And.intro (q0.trans (hb.mono q0.size)) (And.intro (bc.below hb bc.lt) (And.intro (Kd.C_below hCc hb) (And.intro hlc (And.intro (bd.below hb bd.lt) (And.intro hlt (And.intro (Kd.C_below hCt hb) (And.intro hlp (Kd.C_below hCp hb)))))))))
 clear q0 bc hCc hls hCs hlc bd bl hlt hCt hlp hCp bx bm hb G5
 have d0 : W11.cell? ⟨gd, 0, none⟩ = some (.int .i64 3) := G6.out.2.2.2.2.1.cell 0
 have d1 : W11.cell? ⟨gd, 1, none⟩ = some (.slice As V.t.length cs) := G6.out.2.2.2.2.1.cell 1
 have d2 : W11.cell? ⟨gd, 2, none⟩ = some (.slice (some ad) 2 cp) := G6.out.2.2.2.2.1.cell 2
 go_wp2_with fail
 clear d0 d1 d2
 refine (R.ratch_Right.calls 40 3 As cs V.t (some ad) cp [V.k0, V.k1] true W11 G6.out.2.2.2.2.2.2.1 G6.out.2.2.2.2.2.1 G6.out.2.2.2.2.2.2.2.2 G6.out.2.2.2.2.2.2.2.1 (by rw [right_some _ _ _ 40 (by decide), HV.out.1.2.2.2.2.2.2.2.1])).mono ?_
 rintro e W12 ⟨rfl, hb⟩
 obtain ⟨q0, bc, hCc, hlc, bd, hlt, hCt, hlp, hCp⟩ := G6.out
 have G7 := Lib.hid (And.intro (q0.trans (hb.mono q0.size)) (And.intro (bc.below hb bc.lt) (And.intro (Kd.C_below hCc hb) (And.intro hlc (And.intro (bd.below hb bd.lt) (And.intro hlt (And.intro (Kd.C_below hCt hb) (And.intro hlp (Kd.C_below hCp hb)))))))))
 clear q0 bc hCc hlc bd hlt hCt hlp hCp hb G6
 have c0 : W12.cell? ⟨gc, 0, none⟩ = some (.int .i64 0) := G7.out.2.1.cell 0
 have c1 : W12.cell? ⟨gc, 1, none⟩ = some (.slice A V.s.length c) := G7.out.2.1.cell 1
 have c2 : W12.cell? ⟨gc, 2, none⟩ = some (.slice none 0 0) := G7.out.2.1.cell 2
 go_wp2_with fail
 clear c0 c1 c2
 refine (same_calls 0 0 A none A none c 0 c 0 V.s V.s [] [] W12 HV.out.1.2.1 HV.out.1.2.1 (fun x hx => by simp at hx) (fun x hx => by simp at hx) (by decide) G7.out.2.2.1 G7.out.2.2.2.1 (Kd.C_nil _ _) G7.out.2.2.1 G7.out.2.2.2.1 (Kd.C_nil _ _)).mono ?_
 rw [sameC_refl]
 rintro e W13 ⟨rfl, hb⟩
 obtain ⟨q0, bc, hCc, hlc, bd, hlt, hCt, hlp, hCp⟩ := G7.out
 have G8 := Lib.hid (And.intro (q0.trans (hb.mono q0.size)) (And.intro (bc.below hb bc.lt) (And.intro (Kd.C_below hCc hb) (And.intro hlc (And.intro (bd.below hb bd.lt) (And.intro hlt (And.intro (Kd.C_below hCt hb) (And.intro hlp (Kd.C_below hCp hb)))))))))
 clear q0 bc hCc hlc bd hlt hCt hlp hCp hb G7
 have c0 : W13.cell? ⟨gc, 0, none⟩ = some (.int .i64 0) := G8.out.2.1.cell 0
 have c1 : W13.cell? ⟨gc, 1, none⟩ = some (.slice A V.s.length c) := G8.out.2.1.cell 1
 have c2 : W13.cell? ⟨gc, 2, none⟩ = some (.slice none 0 0) := G8.out.2.1.cell 2
 have d0 : W13.cell? ⟨gd, 0, none⟩ = some (.int .i64 3) := G8.out.2.2.2.2.1.cell 0
 have d1 : W13.cell? ⟨gd, 1, none⟩ = some (.slice As V.t.length cs) := G8.out.2.2.2.2.1.cell 1
 have d2 : W13.cell? ⟨gd, 2, none⟩ = some (.slice (some ad) 2 cp) := G8.out.2.2.2.2.1.cell 2
 go_wp2_with fail
 clear c0 c1 c2 d0 d1 d2
 refine (same_calls 0 3 A none As (some ad) c 0 cs cp V.s V.t [] [V.k0, V.k1] W13 HV.out.1.2.1 HV.out.1.2.2.2.1 (fun x hx => by simp at hx) (fun x hx => by simp at hx; rcases hx with rfl | rfl; exact HV.out.1.2.2.2.2.2.2.2.2.2.2.2.2.1; exact HV.out.1.2.2.2.2.2.2.2.2.2.2.2.2.2) (by decide) G8.out.2.2.1 G8.out.2.2.2.1 (Kd.C_nil _ _) G8.out.2.2.2.2.2.2.1 G8.out.2.2.2.2.2.1 G8.out.2.2.2.2.2.2.2.2).mono ?_
 rw [show sameC 0 V.s [] 3 V.t [V.k0, V.k1] = false from rfl]
 rintro e W14 ⟨rfl, hb⟩
 go_wp2
 go_ret
 exact ⟨rfl, G8.out.1.trans (hb.mono G8.out.1.size)⟩
end Go.Proofs.YtdklmafkcbjomaaDoor

/-! RatR -/
namespace Go.Proofs.YtdklmafkcbjomaaDoor
set_option linter.unusedVariables false
set_option linter.unusedSimpArgs false
open Go.RowKit Go.Shelf Go.Proofs.YtdklmafkcbjomaaDoorW.PrintWords Go.Proofs.YtdklmafkcbjomaaDoorW.PrintLast Go.Proofs.YtdklmafkcbjomaaDoorW.PrintMore Iter
/-- Locks that rise, each in bounds. -/
def RiseP (n last : Int) (L : List R.S43) : Prop := (∀ x, x ∈ L → last < x.f0 ∧ x.f0 < n ∧ x.f1.length = 32 ∧ x.f2.length = 12) ∧ L.Pairwise (fun a b => a.f0 < b.f0)
theorem rises_iff (n : Int) : ∀ (L : List R.S43) (last : Int), rises n last L = true ↔ RiseP n last L
 | [], last => by simp [rises, RiseP]
 | x :: xs, last => by
  rw [rises]
  simp only [Bool.and_eq_true, decide_eq_true_eq]
  rw [rises_iff n xs x.f0]
  unfold RiseP
  rw [List.pairwise_cons]
  constructor
  ·rintro ⟨h1, h2, h3, h4, h5, h6⟩
   refine ⟨fun y hy => ?_, fun y hy => (h5 y hy).1, h6⟩
   rcases List.mem_cons.1 hy with rfl | hy
   ·exact ⟨h1, h2, h3, h4⟩
   ·have := h5 y hy
    exact ⟨by omega, this.2⟩
  ·rintro ⟨h1, h2, h3⟩
   have h0 := h1 x (List.mem_cons_self ..)
   exact ⟨h0.1, h0.2.1, h0.2.2.1, h0.2.2.2, fun y hy => ⟨h2 y hy, (h1 y (List.mem_cons_of_mem _ hy)).2⟩, h3⟩
/-- A right chain. -/
def Good (n : Nat) (s : List Int) (L : List R.S43) : Prop := n ≤ 4294967294 ∧ s.length = 32 ∧ byteOk s = true ∧ L.length ≤ 32 ∧ locksOk L ∧ RiseP (n : Int) (-1) L
theorem good_right {n : Nat} {s : List Int} {L : List R.S43} (h : Good n s L) : rightC (n : Int) s L = true := by
 unfold rightC
 rw [decide_eq_true (p := (0 : Int) ≤ n) (by omega), decide_eq_true (p := (n : Int) ≤ 4294967294) (by have := h.1; omega), decide_eq_true h.2.1, decide_eq_true h.2.2.2.1, (rises_iff _ _ _).2 h.2.2.2.2.2]
 rfl
theorem idxL_none_of (L : List R.S43) (X : Int) (h : ∀ x, x ∈ L → x.f0 ≠ X) : idxL L X = none := by
 refine idxL_none L X (fun j hj => ?_)
 rw [getD43 L j hj]
 exact h _ (List.getElem_mem hj)
theorem good_idx {n : Nat} {s : List Int} {L : List R.S43} (h : Good n s L) (X : Int) (hX : (n : Int) ≤ X ∨ X < 0) : idxL L X = none :=
 idxL_none_of L X (fun x hx e => by have := h.2.2.2.2.2.1 x hx; omega)
/-- Places behind the chain's next one. -/
theorem takeF_next {n : Nat} {s : List Int} {L : List R.S43} (h : Good n s L) (d : Nat) (hd : d ≤ 100) (hm : n + d < 4294967294) : takeF n s L ((n + d : Nat) : Int) = (n + (d + 1), secS s n (d + 1), (L ++ passed s n d).drop (L.length + d - 32), lockN s n d, 0) :=
 takeF_adv n d s L (good_idx h _ (by omega)) hd hm
theorem takeF_far {n : Nat} {s : List Int} {L : List R.S43} (h : Good n s L) (X : Int) (hX : (n : Int) ≤ X) (h4 : X ≤ 4294967294) (hf : 100 < X - (n : Int) ∨ 4294967294 ≤ X) : takeF n s L X = (n, s, L, R.z43, 4) := by
 unfold takeF
 rw [if_neg (by omega), good_idx h X (.inl hX)]
 dsimp only
 rw [if_neg (by omega), if_pos hf]
theorem takeF_out (n : Nat) (s : List Int) (L : List R.S43) (X : Int) (h : X < 0 ∨ 4294967294 < X) : takeF n s L X = (n, s, L, R.z43, 1) := by
 unfold takeF
 rw [if_pos h]
theorem takeF_stale (n : Nat) (s : List Int) (L : List R.S43) (X : Int) (h0 : 0 ≤ X) (h1 : X < (n : Int)) (hn : n ≤ 4294967294) (hi : idxL L X = none) : takeF n s L X = (n, s, L, R.z43, 9) := by
 unfold takeF
 rw [if_neg (by omega), hi]
 dsimp only
 rw [if_pos h1]
theorem takeF_spare (n : Nat) (s : List Int) (L : List R.S43) (X : Int) (k : Nat) (h0 : 0 ≤ X) (h1 : X ≤ 4294967294) (hi : idxL L X = some k) : takeF n s L X = (n, s, L.take k ++ L.drop (k + 1), L.getD k R.z43, 0) := by
 unfold takeF
 rw [if_neg (by omega), hi]
theorem passed_rise (s : List Int) (n d : Nat) : ∀ x, x ∈ passed s n d → ∃ k, k < d ∧ x = lockN s n k := by
 intro x hx
 obtain ⟨k, hk, rfl⟩ := List.mem_map.1 hx
 exact ⟨k, List.mem_range.1 hk, rfl⟩
theorem passed_pair (s : List Int) (n d : Nat) : (passed s n d).Pairwise (fun a b => a.f0 < b.f0) := by
 unfold passed
 rw [List.pairwise_map]
 refine (List.pairwise_lt_range (n := d)).imp (fun {a b} hab => ?_)
 rw [lockN_f0, lockN_f0]
 omega
theorem riseP_sub {n last : Int} {L M : List R.S43} (h : RiseP n last L) (hs : M.Sublist L) : RiseP n last M := ⟨fun x hx => h.1 x (hs.subset hx), h.2.sublist hs⟩
theorem riseP_passed {n d : Nat} {s : List Int} {L : List R.S43} (h : RiseP (n : Int) (-1) L) : RiseP ((n + (d + 1) : Nat) : Int) (-1) (L ++ passed s n d) := by
 refine ⟨fun x hx => ?_, ?_⟩
 ·rcases List.mem_append.1 hx with hx | hx
  ·have := h.1 x hx
   exact ⟨this.1, by omega, this.2.2⟩
  ·obtain ⟨k, hk, rfl⟩ := passed_rise s n d x hx
   rw [lockN_f0, lockN_l1, lockN_l2]
   exact ⟨by omega, by omega, rfl, rfl⟩
 ·rw [List.pairwise_append]
  refine ⟨h.2, passed_pair s n d, fun a ha b hb => ?_⟩
  obtain ⟨k, hk, rfl⟩ := passed_rise s n d b hb
  have := h.1 a ha
  rw [lockN_f0]
  omega
theorem locksOk_sub {L M : List R.S43} (h : locksOk L) (hs : M.Sublist L) : locksOk M := fun x hx => h x (hs.subset hx)
theorem locksOk_app {L M : List R.S43} (h : locksOk L) (h' : locksOk M) : locksOk (L ++ M) := fun x hx => by
 rcases List.mem_append.1 hx with hx | hx
 ·exact h x hx
 ·exact h' x hx
theorem good_next {n : Nat} {s : List Int} {L : List R.S43} (h : Good n s L) (d : Nat) (hm : n + d < 4294967294) : Good (n + (d + 1)) (secS s n (d + 1)) ((L ++ passed s n d).drop (L.length + d - 32)) := by
 refine ⟨by omega, secS_length s n h.2.1 _, byteOk_secS s n h.2.2.1 _, ?_, ?_, ?_⟩
 ·rw [List.length_drop, List.length_append, passed_length]
  omega
 ·exact locksOk_sub (locksOk_app h.2.2.2.2.1 (passed_ok s n d)) (List.drop_sublist _ _)
 ·exact riseP_sub (riseP_passed h.2.2.2.2.2) (List.drop_sublist _ _)
theorem take_drop_sub (L : List R.S43) (k : Nat) : (L.take k ++ L.drop (k + 1)).Sublist L := by
 have : (L.take k ++ L.drop (k + 1)).Sublist (L.take k ++ L.drop k) := by
  refine List.Sublist.append_left ?_ _
  rw [← List.drop_drop]
  exact List.drop_sublist _ _
 rwa [List.take_append_drop] at this
theorem good_spare {n : Nat} {s : List Int} {L : List R.S43} (h : Good n s L) (k : Nat) : Good n s (L.take k ++ L.drop (k + 1)) :=
 ⟨h.1, h.2.1, h.2.2.1, Nat.le_trans (take_drop_sub L k).length_le h.2.2.2.1, locksOk_sub h.2.2.2.2.1 (take_drop_sub L k), riseP_sub h.2.2.2.2.2 (take_drop_sub L k)⟩
theorem lockOk_z : lockOk R.z43 := ⟨rfl, rfl⟩
/-- Take keeps a chain right, and its lock is bytes. -/
theorem good_takeF {n : Nat} {s : List Int} {L : List R.S43} (h : Good n s L) (X : Int) : Good (takeF n s L X).1 (takeF n s L X).2.1 (takeF n s L X).2.2.1 ∧ lockOk (takeF n s L X).2.2.2.1 := by
 by_cases h1 : X < 0 ∨ 4294967294 < X
 ·rw [takeF_out n s L X h1]
  exact ⟨h, lockOk_z⟩
 cases hi : idxL L X with
 | some k =>
  rw [takeF_spare n s L X k (by omega) (by omega) hi]
  have hk := (idxL_lt L X k hi).1
  refine ⟨good_spare h k, ?_⟩
  dsimp only
  rw [getD43 L k hk]
  exact h.2.2.2.2.1 _ (List.getElem_mem hk)
 | none =>
  by_cases h2 : X < (n : Int)
  ·rw [takeF_stale n s L X (by omega) h2 h.1 hi]
   exact ⟨h, lockOk_z⟩
  ·by_cases h3 : 100 < X - (n : Int) ∨ 4294967294 ≤ X
   ·rw [takeF_far h X (by omega) (by omega) h3]
    exact ⟨h, lockOk_z⟩
   ·obtain ⟨d, hd⟩ : ∃ d : Nat, (X - (n : Int)).toNat = d := ⟨_, rfl⟩
    obtain rfl : X = ((n + d : Nat) : Int) := by omega
    rw [takeF_next h d (by omega) (by omega)]
    exact ⟨good_next h d (by omega), lockN_ok s n d⟩
/-- Take, its numbers spelled as they stand. -/
theorem take_any (n : Nat) (N X : Int) (hN : (n : Int) = N) (As : Option Addr) (s : List Int) (cs : Nat) (Ap : Option Addr) (L : List R.S43) (cp : Nat) (w : World) (n' : Nat) (N' : Int) (s' : List Int) (L' : List R.S43) (x : R.S43) (er : Int)
  (hr : takeF n s L X = (n', s', L', x, er)) (hN' : (n' : Int) = N') (h : Good n s L) (hrs : Kd.C (Kd.int .u8) w As s.length s) (hcs : s.length ≤ cs) (hrp : Kd.C R.k43 w Ap L.length L) (hcp : L.length ≤ cp) :
  Calls Tryd.prog 21 #[.agg #[.int .i64 N, .slice As s.length cs, .slice Ap L.length cp], .int .i64 X] w (TakePost w N' s' L' x er) := by
 subst hN hN'
 have := take_calls n X As s cs Ap L cp w hrs hcs hrp hcp h.2.1 h.2.2.1 h.2.2.2.1 (by have := h.1; omega)
 rw [hr] at this
 exact this
end Go.Proofs.YtdklmafkcbjomaaDoor

/-! StructIn -/
namespace Go.Proofs.YtdklmafkcbjomaaDoor
set_option linter.unusedVariables false
open Go.Deep Go.RowKit Go.ChangeShapes Go.WideShapes Go.Proofs.YtdklmafkcbjomaaDoorW.PrintWords
theorem mapM_each {α β : Type} {f : α → Option β} : ∀ {l : List α} {xs : List β}, l.mapM f = some xs → ∀ (i : Nat) (a : α), l[i]? = some a → ∃ y, xs[i]? = some y ∧ f a = some y
 | [], _, _, i, a, ha => by simp at ha
 | b :: l, xs, h, i, a, ha => by
  rw [List.mapM_cons] at h
  cases hb : f b with
  | none => simp [hb] at h
  | some y =>
   rw [hb] at h
   cases hl : l.mapM f with
   | none => simp [hl] at h
   | some ys =>
    rw [hl] at h
    simp at h
    subst h
    cases i with
    | zero =>
     simp at ha
     subst ha
     exact ⟨y, rfl, hb⟩
    | succ i =>
     obtain ⟨z, hz, hfz⟩ := mapM_each hl i a (by simpa using ha)
     exact ⟨z, by simpa using hz, hfz⟩
end Go.Proofs.YtdklmafkcbjomaaDoor

/-! OpenK -/
namespace Go.Proofs.YtdklmafkcbjomaaDoor
set_option linter.unusedVariables false
open Go.Deep Go.RowKit Go.ChangeShapes Go.WideShapes Go.Proofs.YtdklmafkcbjomaaDoorW.PrintWords
/-- Cells that read as data of the type e are those of a value of the kind d, of which ok holds. -/
def Opens {α : Type} (P : Program) (e : TypeId) (d : Kd α) (ok : α → Prop) : Prop :=
 P.cellsOf e = d.sz ∧ ∀ (H : Type) (enc : TypeId × Value → H) (W : World) (base : Nat) (held : Bool) (fuel : Nat) (cs : List Value) (y : DataW H × List MemPlace),
  DataW.trod enc P W base (fun _ => true) held fuel e cs = some y → ∃ x, d.K W x cs ∧ ok x
theorem opens_int {P : Program} {e : TypeId} {k : IntKind} (he : P.underlying e = some (.int k)) (hc : P.cellsOf e = 1) : Opens P e (Kd.int k) (fun n => (Lit.int k n).wf = true) :=
 ⟨hc, fun H enc W base held fuel cs y h => by
  obtain ⟨n, rfl, -, hw⟩ := DataW.trod_int he h
  exact ⟨n, rfl, hw⟩⟩
theorem mapM_range {β : Type} {f : Nat → Option β} : ∀ (n : Nat) {xs : List β}, (List.range n).mapM f = some xs → ∀ i, i < n → ∃ y, f i = some y := by
 intro n xs h i hi
 obtain ⟨y, -, hy⟩ := mapM_each h i i (by rw [List.getElem?_range hi])
 exact ⟨y, hy⟩
theorem addr_add_add (a : Addr) (m n : Nat) : (a.add m).add n = a.add (m + n) := by
 unfold Addr.add
 by_cases hm : m = 0
 ·subst hm; simp
 ·by_cases hn : n = 0
  ·subst hn; simp
  ·rw [if_neg hn, if_neg hm, if_neg (by omega)]
   simp [Nat.add_assoc]
theorem opens_slice {α : Type} {P : Program} {t e : TypeId} {d : Kd α} {ok : α → Prop} (ht : P.underlying t = some (.slice e)) (hc : P.cellsOf t = 1) (hd : Opens P e d ok) : Opens P t (Kd.slice e d) (fun l => l.length ≤ maxLen ∧ ∀ x ∈ l, ok x) :=
 ⟨hc, fun H enc W base held fuel cs y h => by
  cases fuel with
  | zero => simp [DataW.trod] at h
  | succ m =>
   unfold DataW.trod at h
   simp only [ht] at h
   split at h <;> simp_all only [reduceCtorEq, Option.some.injEq, TypeDesc.slice.injEq]
   ·exact ⟨[], ⟨none, 0, rfl, Nat.le_refl _, rfl, by simp, fun h => absurd h (by simp)⟩, by simp, fun x hx => by simp at hx⟩
   ·rename_i e' a len cap he
    subst he
    split at h
    case isFalse => cases h
    rename_i hb
    obtain ⟨elems, hel, -⟩ := Option.bind_eq_some_iff.1 h
    have each : ∀ i : Fin len, ∃ x, ∃ c, c.length = d.sz ∧ d.K W x c ∧ (∀ j u, c[j]? = some u → W.cell? (a.add (i.1 * d.sz + j)) = some u) ∧ ok x := fun ⟨i, hi⟩ => by
     obtain ⟨y, hy⟩ := mapM_range len hel i hi
     obtain ⟨c, hcs, hy⟩ := Option.bind_eq_some_iff.1 hy
     obtain ⟨x, hK, hok⟩ := hd.2 H enc W base held m c y hy
     rw [hd.1] at hcs
     obtain ⟨h1, h2, h3⟩ := World.cells?_some hcs
     refine ⟨x, c, d.K_len hK, hK, fun j u hj => ?_, hok⟩
     have hlt := (List.getElem?_eq_some_iff.1 hj).1
     rw [← addr_add_add, h3 j (by omega)]
     exact hj
    obtain ⟨f, hf⟩ := Classical.axiomOfChoice each
    refine ⟨List.ofFn f, ⟨some a, cap, by rw [List.length_ofFn], by rw [List.length_ofFn]; exact hb.2.1, rfl, by rw [List.length_ofFn]; have := hb.2; unfold maxLen at this; omega, fun h0 => ⟨a, rfl, fun j p hj => ?_⟩⟩, by rw [List.length_ofFn]; omega, fun x hx => ?_⟩
    ·rw [List.getElem?_ofFn] at hj
     split at hj
     case isFalse => cases hj
     rename_i hlt
     obtain rfl := Option.some.inj hj
     obtain ⟨c, h1, h2, h3, -⟩ := hf ⟨j, hlt⟩
     exact ⟨c, h1, h2, h3⟩
    ·obtain ⟨i, rfl⟩ := (List.mem_ofFn ..).1 hx
     obtain ⟨c, -, -, -, h4⟩ := hf i
     exact h4⟩
/-- An argument. -/
theorem Opens.arg {α : Type} {P : Program} {t : TypeId} {d : Kd α} {ok : α → Prop} (h : Opens P t d ok) {H : Type} {enc : TypeId × Value → H} {W : World} {base : Nat} {held : Bool} {v : Value} {x : DataW H} {ps : List MemPlace} (hv : DataW.Trod enc P W base (fun _ => true) held t v x ps) : ∃ z, d.K W z v.cells.toList ∧ ok z := by
 obtain ⟨fuel, hf⟩ := hv
 exact h.2 H enc W base held fuel _ _ hf
end Go.Proofs.YtdklmafkcbjomaaDoor

/-! RatQ -/
namespace Go.Proofs.YtdklmafkcbjomaaDoor
set_option linter.unusedVariables false
set_option linter.unusedSimpArgs false
open Go.RowKit Go.ChangeShapes Go.WideShapes Go.Proofs.YtdklmafkcbjomaaDoorW.PrintWords Go.Proofs.YtdklmafkcbjomaaDoorW.PrintLast Go.Proofs.YtdklmafkcbjomaaDoorW.PrintMore
theorem Opens.imp {α : Type} {P : Program} {e : TypeId} {d : Kd α} {ok ok' : α → Prop} (h : Opens P e d ok) (hi : ∀ x, ok x → ok' x) : Opens P e d ok' :=
 ⟨h.1, fun H enc W base held fuel cs y hy => by
  obtain ⟨x, hK, hok⟩ := h.2 H enc W base held fuel cs y hy
  exact ⟨x, hK, hi x hok⟩⟩
theorem i64_wf (n : Int) (h : (Lit.int .i64 n).wf = true) : -9223372036854775808 ≤ n ∧ n < 9223372036854775808 := by
 simp [Lit.wf, show IntKind.i64.min = -9223372036854775808 from rfl, show IntKind.i64.max = 9223372036854775807 from rfl] at h
 omega
theorem open_int64 : Opens Tryd.prog 3 (Kd.int .i64) (fun n => -9223372036854775808 ≤ n ∧ n < 9223372036854775808) := (opens_int Tryd.underlying3 (by kernel_rfl)).imp i64_wf
theorem open_bytes : Opens Tryd.prog 22 (Kd.slice 5 (Kd.int .u8)) (fun l => byteOk l = true) :=
 (opens_slice Tryd.underlying22 (by kernel_rfl) (opens_int Tryd.underlying5 (by kernel_rfl))).imp (fun l h => byteOk_of_wf l h.2)
def laid2 : List (String × DataW Unit) := [("math/bits.deBruijn32tab", Rows.laid_math_bits_deBruijn32tab), ("math/bits.deBruijn64tab", Rows.laid_math_bits_deBruijn64tab)]
theorem g64 : Tryd.prog.globalNamed "math/bits.deBruijn64tab" = some 1 := by kernel_rfl
theorem t64 : (Tryd.prog.globals[1]?).map (·.type) = some 117 := by kernel_rfl
theorem laid64_eq : (Rows.laid_math_bits_deBruijn64tab : DataW Unit) = Lib.tabData .u8 deB := by rfl
theorem tabOk_of_laid {W : World} (h : laidMetH Tryd.prog laid2 W) : TabOk W := by
 rw [MakeChecks.laidMetH_plain _ _ _ (by kernel_rfl)] at h
 have h1 := laidMet.tail h
 rw [laid64_eq] at h1
 have ht := Lib.tabIs_of_head g64 t64 Tryd.underlying117 Tryd.underlying5 (by kernel_rfl) (by kernel_rfl) h1
 have hc : ∀ i, i < 64 → W.cell? ⟨1, i, none⟩ = some (.int .u8 (deB.getD i 0)) := fun i hi => ht.cell g64 i hi
 refine ⟨?_, hc⟩
 have := hc 0 (by decide)
 unfold World.cell? at this
 by_cases hlt : 1 < W.heap.size
 ·omega
 ·rw [Array.getElem?_eq_none (by show W.heap.size ≤ 1; omega)] at this
  simp at this
/-- The door's own heap meets the condition. -/
theorem door_met (os : Os) (args : Array Value) : laidMetH Tryd.prog laid2 ((World.doorLaid Tryd.prog 400 os).forCall (fun _ _ => 0) ⟨#[], args, []⟩).memory :=
 laidMetH_of_parts3 (fuel := 8) (laidMet_of_run' 8 (by kernel_rfl) (by kernel_rfl)) (by kernel_rfl) (by kernel_rfl)
end Go.Proofs.YtdklmafkcbjomaaDoor

/-! RatV -/
namespace Go.Proofs.YtdklmafkcbjomaaDoor
set_option linter.unusedVariables false
set_option linter.unusedSimpArgs false
open Go.RowKit Go.Shelf Go.Proofs.YtdklmafkcbjomaaDoorW.PrintWords Go.Proofs.YtdklmafkcbjomaaDoorW.PrintLast Go.Proofs.YtdklmafkcbjomaaDoorW.PrintMore Iter
attribute [local go_sem] Oper.semAt_some
/-- What pyxref13.Take holds in its boxes. -/
def RefB (w : World) (C : Array Value) (W : World) : Prop :=
 Blk W w.heap.size 25 C ∧ Blk W (w.heap.size + 1) 25 chain0 ∧ Blk W (w.heap.size + 2) 43 chain0 ∧ Below w.heap.size w W
theorem RefB.below {w : World} {C : Array Value} {W W' : World} (h : RefB w C W) (hb : Below W.heap.size W W') : RefB w C W' :=
 ⟨h.1.below hb h.1.lt, h.2.1.below hb h.2.1.lt, h.2.2.1.below hb h.2.2.1.lt, h.2.2.2.trans (hb.mono h.2.2.2.size)⟩
end Go.Proofs.YtdklmafkcbjomaaDoor

/-! RatX -/
namespace Go.Proofs.YtdklmafkcbjomaaDoor
set_option linter.unusedVariables false
set_option linter.unusedSimpArgs false
open Go.RowKit Go.Shelf Go.Proofs.YtdklmafkcbjomaaDoorW.PrintWords Go.Proofs.YtdklmafkcbjomaaDoorW.PrintLast Go.Proofs.YtdklmafkcbjomaaDoorW.PrintMore Iter
attribute [local go_sem] Oper.semAt_some
theorem cell_lt {W : World} {a : Addr} {v : Value} (h : W.cell? a = some v) : a.block < W.heap.size := by
 unfold World.cell? at h
 by_cases hlt : a.block < W.heap.size
 ·exact hlt
 ·rw [Array.getElem?_eq_none (by omega)] at h
  simp at h
end Go.Proofs.YtdklmafkcbjomaaDoor

/-! Ref8 -/
namespace Go.Proofs.YtdklmafkcbjomaaDoor
set_option linter.unusedVariables false
set_option linter.unusedSimpArgs false
open Go.RowKit Go.Shelf Go.Proofs.YtdklmafkcbjomaaDoorW.PrintWords Go.Proofs.YtdklmafkcbjomaaDoorW.PrintLast Go.Proofs.YtdklmafkcbjomaaDoorW.PrintMore Iter
theorem up_of {β : Type} {f : Nat → Option β} (hm : ∀ k, LeO (f k) (f (k + 1))) {k0 : Nat} {r : β} (h : f k0 = some r) : ∀ k, k0 ≤ k → f k = some r := by
 intro k hk
 induction k with
 | zero =>
  obtain rfl : k0 = 0 := by omega
  exact h
 | succ k ih =>
  by_cases hh : k0 = k + 1
  ·rw [← hh]; exact h
  ·exact hm k _ (ih (by omega))
theorem tree_no (n : Int) (hn : n < 1 ∨ 1024 < n) : ∀ (d k m : Nat), m + d = 10 → d < k → R.pyxref08_tree.l0 k n ((2 ^ m : Nat) : Int) = some false := by
 intro d
 induction d with
 | zero =>
  intro k m hm hk
  obtain ⟨k, rfl⟩ : ∃ j, k = j + 1 := ⟨k - 1, by omega⟩
  obtain rfl : m = 10 := by omega
  simp only [R.pyxref08_tree.l0]
  rw [if_neg (by decide)]
  congr 1
  rw [beq_eq_false_iff_ne]
  intro e
  rw [← e] at hn
  revert hn
  decide
 | succ d ih =>
  intro k m hm hk
  obtain ⟨k, rfl⟩ : ∃ j, k = j + 1 := ⟨k - 1, by omega⟩
  have h1 : 2 ^ m ≤ 512 := Nat.le_trans (Nat.pow_le_pow_right (by decide) (show m ≤ 9 by omega)) (by decide)
  have h0 := Nat.two_pow_pos m
  have hs : (2 : Nat) ^ (m + 1) = 2 * 2 ^ m := by rw [Nat.pow_succ, Nat.mul_comm]
  have := ih k (m + 1) (by omega) (by omega)
  rw [hs] at this
  generalize 2 ^ m = q at *
  simp only [R.pyxref08_tree.l0]
  rw [if_pos (by omega), if_neg (by omega), show wrap64 (2 * (q : Int)) = ((2 * q : Nat) : Int) by unfold wrap64; omega]
  exact this
theorem tree_all : (List.range 1025).all (fun m => m == 0 || R.pyxref08_tree.f 20 (m : Int) == some (isT (m : Int))) = true := by decide +kernel
theorem tree_some (n : Int) (k : Nat) (hk : 20 ≤ k) : R.pyxref08_tree.f k n = some (isT n) := by
 refine up_of (R.pyxref08_tree.mono n) ?_ k hk
 by_cases h : n < 1 ∨ 1024 < n
 ·have e : isT n = false := by
   unfold isT
   by_cases h1 : 1 ≤ n
   ·rw [decide_eq_false (p := n ≤ 1024) (by omega)]; simp
   ·rw [decide_eq_false h1]; rfl
  rw [e]
  exact tree_no n h 10 20 0 (by omega) (by omega)
 ·obtain ⟨m, rfl⟩ := Int.eq_ofNat_of_zero_le (show 0 ≤ n by omega)
  have := List.all_eq_true.1 tree_all m (List.mem_range.2 (by omega))
  simp only [Bool.or_eq_true, beq_iff_eq] at this
  rcases this with h | h
  ·omega
  ·exact h
def leftN (p : Nat) : Nat := p - 2 ^ (lev p - 1)
def rightN (p : Nat) : Nat := p + 2 ^ (lev p - 1)
def upN (x : Nat) : Nat := nodeAt (lev x + 1) (x / 2 ^ (lev x + 1) / 2)
def childI (c : Nat) (p : Nat) : Int × Int := if p % 2 = 0 then (0, 1) else ((c : Int), 0)
theorem left_all : (List.range 2047).all (fun p => R.pyxref08_Left.f 20 (p : Int) == some (childI (leftN p) p)) = true := by decide +kernel
theorem right_all : (List.range 2047).all (fun p => R.pyxref08_Right.f 20 (p : Int) == some (childI (rightN p) p)) = true := by decide +kernel
theorem up_all : (List.range 2047).all (fun p => p % 2 == 0 || (upN (leftN p) == p && upN (rightN p) == p)) = true := by decide +kernel
theorem down_all : (List.range 2047).all (fun x => upN x % 2 == 1 && (leftN (upN x) == x || rightN (upN x) == x)) = true := by decide +kernel
theorem left_some (p k : Nat) (hp : p < 2047) (hk : 20 ≤ k) : R.pyxref08_Left.f k (p : Int) = some (childI (leftN p) p) := by
 refine up_of (R.pyxref08_Left.mono (p : Int)) ?_ k hk
 simpa using List.all_eq_true.1 left_all p (List.mem_range.2 hp)
theorem rightc_some (p k : Nat) (hp : p < 2047) (hk : 20 ≤ k) : R.pyxref08_Right.f k (p : Int) = some (childI (rightN p) p) := by
 refine up_of (R.pyxref08_Right.mono (p : Int)) ?_ k hk
 simpa using List.all_eq_true.1 right_all p (List.mem_range.2 hp)
theorem up_child (p x : Nat) (hp : p < 2047) (ho : p % 2 = 1) (h : leftN p = x ∨ rightN p = x) : upN x = p := by
 have := List.all_eq_true.1 up_all p (List.mem_range.2 hp)
 simp only [Bool.or_eq_true, Bool.and_eq_true, beq_iff_eq] at this
 rcases this with h0 | ⟨h1, h2⟩
 ·omega
 ·rcases h with h | h
  ·rw [← h]; exact h1
  ·rw [← h]; exact h2
theorem up_down (x : Nat) (hx : x < 2047) : upN x % 2 = 1 ∧ (leftN (upN x) = x ∨ rightN (upN x) = x) := by
 have := List.all_eq_true.1 down_all x (List.mem_range.2 hx)
 simpa only [Bool.or_eq_true, Bool.and_eq_true, beq_iff_eq] using this
/-- The search of a parent. -/
theorem parent_l0 (x n : Nat) (hx : x < 2047) (hn : 1 ≤ n) (hn2 : n ≤ 1024) : ∀ (d k p : Nat), p + d = 2 * n - 1 → p ≤ upN x → d + 25 ≤ k → R.pyxref08_Parent.l0 k (x : Int) (n : Int) (p : Int) = some (if upN x < 2 * n - 1 then ((upN x : Int), 0) else (0, 11)) := by
 intro d
 induction d with
 | zero =>
  intro k p hp hu hk
  obtain ⟨k, rfl⟩ : ∃ j, k = j + 1 := ⟨k - 1, by omega⟩
  simp only [R.pyxref08_Parent.l0]
  rw [show wrap64 ((wrap64 (2 * (n : Int))) - 1) = ((2 * n - 1 : Nat) : Int) by unfold wrap64; omega, if_neg (by omega), if_neg (by omega)]
 | succ d ih =>
  intro k p hp hu hk
  obtain ⟨k, rfl⟩ : ∃ j, k = j + 1 := ⟨k - 1, by omega⟩
  have hp2 : p < 2047 := by omega
  have hnext : p ≠ upN x → R.pyxref08_Parent.l0 k (x : Int) (n : Int) ((p + 1 : Nat) : Int) = some (if upN x < 2 * n - 1 then ((upN x : Int), 0) else (0, 11)) := fun h => ih k (p + 1) (by omega) (by omega) (by omega)
  simp only [R.pyxref08_Parent.l0]
  rw [show wrap64 ((wrap64 (2 * (n : Int))) - 1) = ((2 * n - 1 : Nat) : Int) by unfold wrap64; omega, if_pos (by omega), left_some p k hp2 (by omega), Option.bind_some, rightc_some p k hp2 (by omega), Option.bind_some, show wrap64 ((p : Int) + 1) = ((p + 1 : Nat) : Int) by unfold wrap64; omega]
  unfold childI
  by_cases ho : p % 2 = 0
  ·rw [if_pos ho, if_pos ho]
   dsimp only
   rw [if_neg (by decide)]
   refine hnext (fun e => ?_)
   have := (up_down x hx).1
   rw [← e] at this
   omega
  rw [if_neg ho, if_neg ho]
  dsimp only
  rw [if_pos rfl]
  by_cases e : p = upN x
  ·rw [if_pos (show upN x < 2 * n - 1 by omega)]
   rcases (up_down x hx).2 with h | h
   ·rw [← e] at h
    rw [if_pos (show (leftN p : Int) = (x : Int) by rw [h]), e]
   ·rw [← e] at h
    by_cases h1 : (leftN p : Int) = (x : Int)
    ·rw [if_pos h1, e]
    ·rw [if_neg h1, if_pos (show (rightN p : Int) = (x : Int) by rw [h]), e]
  ·have hl : leftN p ≠ x := fun h => e (up_child p x hp2 (by omega) (.inl h)).symm
   have hr : rightN p ≠ x := fun h => e (up_child p x hp2 (by omega) (.inr h)).symm
   rw [if_neg (show ¬ (leftN p : Int) = (x : Int) by omega), if_neg (show ¬ (rightN p : Int) = (x : Int) by omega)]
   exact hnext e
theorem parent_some (x K k : Nat) (hK : K ≤ 10) (hx : x < 2 * 2 ^ K - 1) (hk : 2100 ≤ k) : R.pyxref08_Parent.f k (x : Int) ((2 ^ K : Nat) : Int) = some (if upN x < 2 * 2 ^ K - 1 then ((upN x : Int), 0) else (0, 11)) := by
 have h1 : 2 ^ K ≤ 1024 := Nat.pow_le_pow_right (by decide) hK
 have h0 := Nat.two_pow_pos K
 have ht := isT_pow K hK
 generalize 2 ^ K = n at *
 unfold R.pyxref08_Parent.f R.pyxref08_node.f
 rw [tree_some _ k (by omega), ht, Option.bind_some, if_pos rfl, if_pos (by omega), Option.bind_some, show wrap64 ((wrap64 (2 * (n : Int))) - 1) = ((2 * n - 1 : Nat) : Int) by unfold wrap64; omega, decide_eq_true (by omega), if_pos rfl]
 exact parent_l0 x n (by omega) (by omega) h1 (2 * n - 1) k 0 (by omega) (by omega) (by omega)
theorem node_div (j a : Nat) : nodeAt j a / 2 ^ (j + 1) = a := by
 have h := nodeAt_succ j a
 have hp := Nat.two_pow_pos j
 have e : 2 ^ (j + 1) = 2 * 2 ^ j := by rw [Nat.pow_succ, Nat.mul_comm]
 have e2 : nodeAt j a = 2 ^ (j + 1) * a + (2 ^ j - 1) := by
  rw [e, Nat.mul_assoc, Nat.mul_left_comm]
  have : 2 ^ j * (2 * a + 1) = 2 ^ j * (2 * a) + 2 ^ j := by rw [Nat.mul_add, Nat.mul_one]
  omega
 rw [e2, Nat.mul_add_div (by omega), Nat.div_eq_of_lt (by omega), Nat.add_zero]
theorem up_node (j a : Nat) (hj : j ≤ 10) : upN (nodeAt j a) = nodeAt (j + 1) (a / 2) := by
 unfold upN
 rw [lev_node j a hj, node_div]
/-- The secret of a node, so many levels below the root. -/
def nodeS (l : List Int) : Nat → Nat → List Int
 | 0, _ => labelOf l labTree [] 32
 | t + 1, a => labelOf (nodeS l t (a / 2)) (if a % 2 = 1 then labRight else labLeft) [] 32
theorem nodeS_length (l : List Int) : ∀ t a, (nodeS l t a).length = 32
 | 0, _ => labelOf_length _ _ _ _
 | _ + 1, _ => labelOf_length _ _ _ _
theorem byteOk_nodeS (l : List Int) : ∀ t a, byteOk (nodeS l t a) = true
 | 0, _ => byteOk_labelOf _ _ _ _
 | _ + 1, _ => byteOk_labelOf _ _ _ _
theorem down_node (l : List Int) (i K : Nat) : ∀ k, k ≤ K → downS i k (nodeS l (K - k) (i / 2 ^ k)) = nodeS l K i := by
 intro k
 induction k with
 | zero => intro _; rw [Nat.pow_zero, Nat.div_one]; rfl
 | succ k ih =>
  intro hk
  rw [downS, half_up]
  have e : K - k = (K - (k + 1)) + 1 := by omega
  have := ih (by omega)
  rw [e, nodeS] at this
  exact this
theorem leafS_node (l : List Int) (K i : Nat) (hi : i < 2 ^ K) : leafS l K i = nodeS l K i := by
 have := down_node l i K K (Nat.le_refl _)
 rw [Nat.sub_self, nodeS] at this
 exact this
theorem refLabel_some' (s : List Int) (lab : ByteArray) (h : s.length = 32) (o : byteOk s = true) (hl : lab.size ≤ 100000) : R.pyxref13_part.f s lab [] 32 = some (labelOf s lab [] 32) := by
 unfold R.pyxref13_part.f
 rw [show P.pyxref04_Label.f s lab [] 32 = some (labelOf s lab [] 32, 0) from label_some s lab [] 32 (by decide) o rfl (by rw [h]; decide) hl (by decide), Option.bind_some]
theorem refNode_some (l : List Int) (K : Nat) (hK : K ≤ 10) (h : l.length = 32) (o : byteOk l = true) : ∀ (t j a k : Nat), j + t = K → a < 2 ^ t → 2200 + t ≤ k → R.pyxref13_node.f k l ((2 ^ K : Nat) : Int) (nodeAt j a : Int) = some (nodeS l t a) := by
 intro t
 induction t with
 | zero =>
  intro j a k hj ha hk
  obtain ⟨k, rfl⟩ : ∃ m, k = m + 1 := ⟨k - 1, by omega⟩
  obtain rfl : j = K := by omega
  obtain rfl : a = 0 := by simpa using ha
  have hr := nodeAt_root j
  have hr2 := nodeAt_root (j + 1)
  have e : 2 ^ (j + 1) = 2 * 2 ^ j := by rw [Nat.pow_succ, Nat.mul_comm]
  rw [R.pyxref13_node.f, parent_some _ j k hK (by omega) (by omega), up_node j 0 hK, Option.bind_some, if_neg (show ¬ nodeAt (j + 1) (0 / 2) < 2 * 2 ^ j - 1 by rw [Nat.zero_div]; omega)]
  dsimp only
  rw [if_neg (by decide), show (⟨#[116, 114, 101, 101]⟩ : ByteArray) = labTree from rfl, refLabel_some' l labTree h o (by decide), Option.bind_some]
  rfl
 | succ t ih =>
  intro j a k hj ha hk
  obtain ⟨k, rfl⟩ : ∃ m, k = m + 1 := ⟨k - 1, by omega⟩
  have ha2 : a / 2 < 2 ^ t := by rw [Nat.pow_succ] at ha; omega
  have hlt : ∀ (m b : Nat), m ≤ K → b < 2 ^ (K - m) → nodeAt m b < 2 * 2 ^ K - 1 := by
   intro m b hm hb
   have h1 := nodeAt_succ m b
   have e : 2 ^ K = 2 ^ m * 2 ^ (K - m) := by rw [← Nat.pow_add]; congr 1; omega
   have h2 : 2 ^ m * (b + 1) ≤ 2 ^ m * 2 ^ (K - m) := Nat.mul_le_mul_left _ hb
   have h3 : 2 ^ m * (2 * b + 1) + 2 ^ m = 2 * (2 ^ m * (b + 1)) := by rw [← Nat.mul_succ, Nat.mul_left_comm]; congr 1
   have := Nat.two_pow_pos m
   omega
  have hx := hlt j a (by omega) (by rw [show K - j = t + 1 by omega]; exact ha)
  have hP := hlt (j + 1) (a / 2) (by omega) (by rw [show K - (j + 1) = t by omega]; exact ha2)
  rw [R.pyxref13_node.f, parent_some _ K k hK hx (by omega), up_node j a (by omega), Option.bind_some, if_pos hP]
  dsimp only
  rw [if_pos rfl, ih (j + 1) (a / 2) k (by omega) ha2 (by omega), Option.bind_some, Option.bind_some, show (⟨#[108, 101, 102, 116]⟩ : ByteArray) = labLeft from rfl, show (⟨#[114, 105, 103, 104, 116]⟩ : ByteArray) = labRight from rfl, refLabel_some' _ labLeft (nodeS_length l t _) (byteOk_nodeS l t _) (by decide), refLabel_some' _ labRight (nodeS_length l t _) (byteOk_nodeS l t _) (by decide), Option.bind_some, Option.bind_some, nodeS]
  have hp := Nat.two_pow_pos j
  by_cases hb : a % 2 = 1
  ·have e : a = 2 * (a / 2) + 1 := by omega
   have := node_right j (a / 2)
   rw [← e] at this
   rw [if_neg (by omega), if_pos hb]
  ·have e : a = 2 * (a / 2) := by omega
   have := node_left j (a / 2)
   rw [← e] at this
   rw [if_pos (by omega), if_neg hb]
def leafF (l : List Int) (n i : Int) : List Int × Int := if isT n = true ∧ l.length = 32 ∧ 0 ≤ i ∧ i < n then (leafS l (Nat.log2 n.toNat) i.toNat, 0) else ([], 1)
theorem log2_pow (K : Nat) : Nat.log2 ((2 ^ K : Nat) : Int).toNat = K := by rw [Int.toNat_natCast]; exact Nat.log2_two_pow
theorem refLeaf_some (l : List Int) (n i : Int) (o : byteOk l = true) (k : Nat) (hk : 2300 ≤ k) : R.pyxref13_Leaf.f k l n i = some (leafF l n i) := by
 unfold R.pyxref13_Leaf.f R.pyxref08_Width.f leafF
 rw [tree_some n k (by omega), Option.bind_some]
 cases ht : isT n with
 | false =>
  rw [if_neg (by decide), Option.bind_some]
  dsimp only
  rw [if_neg (by decide), if_neg (by simp)]
 | true =>
  rw [if_pos rfl, Option.bind_some]
  dsimp only
  rw [if_pos rfl]
  by_cases h : l.length = 32
  rotate_left
  ·rw [if_neg (by omega), if_neg (by simp [h])]
  rw [if_pos (by omega)]
  by_cases h0 : i < 0
  ·rw [if_pos h0, if_neg (by omega)]
  rw [if_neg h0]
  by_cases h1 : i ≥ n
  ·rw [if_pos h1, if_neg (by omega)]
  rw [if_neg h1, if_pos ⟨rfl, h, by omega, by omega⟩]
  obtain ⟨K, hK, rfl⟩ := isT_two n ht
  obtain ⟨a, rfl⟩ := Int.eq_ofNat_of_zero_le (show 0 ≤ i by omega)
  have ha : a < 2 ^ K := by omega
  have h2 : 2 ^ K ≤ 1024 := Nat.pow_le_pow_right (by decide) hK
  have := refNode_some l K hK h o K 0 a k (by omega) ha (by omega)
  rw [nodeAt_leaf] at this
  rw [show wrap64 (2 * (a : Int)) = ((2 * a : Nat) : Int) by unfold wrap64; omega, this, Option.bind_some, log2_pow, Int.toNat_natCast, leafS_node l K a ha]
end Go.Proofs.YtdklmafkcbjomaaDoor

/-! RatY -/
namespace Go.Proofs.YtdklmafkcbjomaaDoor
set_option linter.unusedVariables false
set_option linter.unusedSimpArgs false
open Go.RowKit Go.Shelf Go.Proofs.YtdklmafkcbjomaaDoorW.PrintWords Go.Proofs.YtdklmafkcbjomaaDoorW.PrintLast Go.Proofs.YtdklmafkcbjomaaDoorW.PrintMore Iter
theorem refPart_some (s : List Int) (lab : ByteArray) (n m : Nat) (h : s.length = 32) (o : byteOk s = true) (hl : lab.size ≤ 100000) (hm : m ≤ 8160) : R.pyxref13_part.f s lab (numB n 4) (m : Int) = some (labelOf s lab (numB n 4) m) := by
 unfold R.pyxref13_part.f
 rw [show P.pyxref04_Label.f s lab (numB n 4) (m : Int) = some (labelOf s lab (numB n 4) m, 0) from label_some s lab (numB n 4) m hm o (byteOk_numB _ _) (by rw [h]; decide) hl (by rw [numB_length]; decide), Option.bind_some]
theorem refNum_some (n : Nat) (h : n < 4294967296) : P.pyxref01_Num.f (n : Int) 4 = some (numB n 4, 0) := by
 unfold P.pyxref01_Num.f
 rw [show ((4 : Int)) = ((4 : Nat) : Int) from rfl, numOf_small n 4 (by omega) (by omega) (by omega)]
theorem refLock_some (s : List Int) (n : Nat) (hn : n < 4294967296) (h : s.length = 32) (o : byteOk s = true) : R.pyxref13_Lock.f s (n : Int) = some ((n : Int), (lockS s n).f1, (lockS s n).f2) := by
 unfold R.pyxref13_Lock.f
 rw [refNum_some n hn, Option.bind_some]
 dsimp only
 rw [show (⟨#[107, 101, 121]⟩ : ByteArray) = labKeyR from rfl, show (⟨#[110, 111, 110, 99, 101]⟩ : ByteArray) = labNonceR from rfl, show R.pyxref13_part.f s labKeyR (numB n 4) 32 = some (labelOf s labKeyR (numB n 4) 32) from refPart_some s labKeyR n 32 h o (by decide) (by decide), Option.bind_some, show R.pyxref13_part.f s labNonceR (numB n 4) 12 = some (labelOf s labNonceR (numB n 4) 12) from refPart_some s labNonceR n 12 h o (by decide) (by decide), Option.bind_some]
 rfl
theorem refNext_some (s : List Int) (n : Nat) (hn : n < 4294967296) (h : s.length = 32) (o : byteOk s = true) : R.pyxref13_Next.f s (n : Int) = some (nextS s n) := by
 unfold R.pyxref13_Next.f
 rw [refNum_some n hn, Option.bind_some]
 dsimp only
 rw [show (⟨#[110, 101, 120, 116]⟩ : ByteArray) = labNext from rfl, show R.pyxref13_part.f s labNext (numB n 4) 32 = some (labelOf s labNext (numB n 4) 32) from refPart_some s labNext n 32 h o (by decide) (by decide), Option.bind_some]
 rfl
/-- What lies ready between the rounds: the boxes, the spares, and the secret. -/
def RefI (w : World) (C : Array Value) (M : List R.S43) (v : Value) (ys : List (List Value)) (A : Option Addr) (S : List Int) (W : World) : Prop :=
 RefB w C W ∧ Kd.R (Kd.raw 3) 43 W w.heap.size (fun b => w.heap.size + 2 < b) v ys ∧ RawIn (okT w.heap.size (w.heap.size + 2) W.heap.size W) W M ys ∧ Kd.C (Kd.int .u8) W A S.length S ∧
 (∀ a, A = some a → okT w.heap.size (w.heap.size + 2) W.heap.size W a.block)
theorem okT_below {g g10 : Nat} {W W' : World} (hg : g ≤ W.heap.size) (hb : Below W.heap.size W W') : ∀ b, okT g g10 W.heap.size W b → okT g g10 W'.heap.size W' b := fun b h => by
 have h1 := hb.block b (okT_lt h hg)
 have hs := hb.size
 rcases h with h | ⟨h2, h3, cells, h4⟩
 ·exact .inl h
 ·exact .inr ⟨h2, by omega, cells, h1.trans h4⟩
theorem RefI.below {w : World} {C : Array Value} {M : List R.S43} {v : Value} {ys : List (List Value)} {A : Option Addr} {S : List Int} {W W' : World} (h : RefI w C M v ys A S W) (hb : Below W.heap.size W W') : RefI w C M v ys A S W' := by
 obtain ⟨h1, h2, h3, h4, h5⟩ := h
 have hg := h1.2.2.2.size
 refine ⟨h1.below hb, Kd.R_mono (Kd.R_step (Kd.R_bound h2) (fun b hk _ => hb.block b hk.2.2.1)) (fun b hk => hk.1), ?_, Kd.C_below h4 hb, fun a ha => okT_below hg hb _ (h5 a ha)⟩
 exact (h3.subT (fun b hk => hb.block b (okT_lt hk hg))).mono (okT_mono hb.size)
/-- A lock more. -/
theorem RefI.append {w : World} {C : Array Value} {M : List R.S43} {v v4 : Value} {ys : List (List Value)} {A : Option Addr} {S : List Int} {W2 W4 : World} {x : R.S43} {q0 q1 q2 : Value} (h : RefI w C M v ys A S W2) (hl : LockIn (okT w.heap.size (w.heap.size + 2) W2.heap.size W2) W2 x [q0, q1, q2])
  (hR : Kd.R (Kd.raw 3) 43 W4 w.heap.size (fun b => w.heap.size + 2 < b) v4 (ys ++ [[q0, q1, q2]])) (hg : (W2.alloc (.cells #[q0, q1, q2] 43)).grownBy W4 v.ownBlock) : RefI w C (M ++ [x]) v4 (ys ++ [[q0, q1, q2]]) A S W4 := by
 obtain ⟨h1, h2, h3, h4, h5⟩ := h
 have hgs := h1.2.2.2.size
 have hv := Kd.R_bound h2
 have hsz3 : (W2.alloc (.cells #[q0, q1, q2] 43)).heap.size = W2.heap.size + 1 := by simp
 have hsz4 := hg.size
 have hal : Below W2.heap.size W2 (W2.alloc (.cells #[q0, q1, q2] 43)) := (Below.refl _ W2).alloc (Nat.le_refl _) _
 have hs : ∀ b, b < W2.heap.size → some b ≠ v.ownBlock → W4.heap[b]? = W2.heap[b]? := fun b hb hne => (hg.block b (by omega) hne).trans (hal.block b hb)
 have hown : ∀ b, v.ownBlock = some b → w.heap.size + 2 < b ∧ ∃ cells, W2.heap[b]? = some (.cells cells 43 (0, 0)) := fun b hb => by
  obtain ⟨p1, p4, -, q, hq, cells, hc⟩ := hv.1 b hb
  refine ⟨p1, cells, ?_⟩
  have : q = 43 := by simpa [Kd.raw] using hq
  rw [this] at hc
  exact hc
 have hok : ∀ b, okT w.heap.size (w.heap.size + 2) W2.heap.size W2 b → W4.heap[b]? = W2.heap[b]? := fun b hb => by
  refine hs b (okT_lt hb hgs) (fun e => ?_)
  obtain ⟨p1, cells, p5⟩ := hown b e.symm
  rcases hb with hb | ⟨-, -, cells', hb⟩
  ·omega
  ·rw [p5] at hb
   injection hb with hb
   injection hb with _ hb
   exact absurd hb (by decide)
 have hne : ∀ b, b ≤ w.heap.size + 2 → some b ≠ v.ownBlock := fun b hb e => by have := (hown b e.symm).1; omega
 have l0 := h1.1.lt
 have l1 := h1.2.1.lt
 have l2 := h1.2.2.1.lt
 have hle : W2.heap.size ≤ W4.heap.size := by omega
 refine ⟨⟨(hs _ l0 (hne _ (by omega))).trans h1.1, (hs _ l1 (hne _ (by omega))).trans h1.2.1, (hs _ l2 (hne _ (by omega))).trans h1.2.2.1, ?_⟩, hR, ?_, ?_, ?_⟩
 ·refine h1.2.2.2.trans ⟨?_, ?_, ?_, ?_, ?_⟩
  ·exact (hg.os).trans hal.os
  ·exact (hg.tape).trans hal.tape
  ·exact (hg.output).trans hal.output
  ·exact hle
  ·exact fun b hb => hs b (by omega) (hne b (by omega))
 ·exact ((h3.subT hok).mono (okT_mono hle)).snoc _ _ ((hl.subT hok).mono (okT_mono hle))
 ·exact C_sub h4 (fun _ a ha => hok _ (h5 a ha))
 ·exact fun a ha => okT_mono hle _ (okT_same hok _ (h5 a ha))
/-- Another secret. -/
theorem RefI.secret {w : World} {C : Array Value} {M : List R.S43} {v : Value} {ys : List (List Value)} {A A' : Option Addr} {S S' : List Int} {W : World} (h : RefI w C M v ys A S W) (hC : Kd.C (Kd.int .u8) W A' S'.length S') (hA : ∀ a, A' = some a → okT w.heap.size (w.heap.size + 2) W.heap.size W a.block) : RefI w C M v ys A' S' W :=
 ⟨h.1, h.2.1, h.2.2.1, hC, hA⟩
end Go.Proofs.YtdklmafkcbjomaaDoor

/-! RatSa -/
namespace Go.Proofs.YtdklmafkcbjomaaDoor
set_option linter.unusedVariables false
set_option linter.unusedSimpArgs false
open Go.RowKit Go.Shelf Go.Proofs.YtdklmafkcbjomaaDoorW.PrintWords Go.Proofs.YtdklmafkcbjomaaDoorW.PrintLast Go.Proofs.YtdklmafkcbjomaaDoorW.PrintMore Iter
theorem rise_lt {n last : Int} {L : List R.S43} (h : RiseP n last L) {i j : Nat} (hij : i < j) (hj : j < L.length) : (L.getD i R.z43).f0 < (L.getD j R.z43).f0 := by
 rw [getD43 L i (by omega), getD43 L j hj]
 exact List.pairwise_iff_getElem.1 h.2 i j (by omega) hj hij
/-- Which spare stands at place j behind i's leaving. -/
def fromJ (i j : Nat) : Nat := if i ≤ j then j + 1 else j
theorem getD_leave (L : List R.S43) (i j : Nat) (hi : i < L.length) (hj : j < L.length - 1) : (L.take i ++ L.drop (i + 1)).getD j R.z43 = L.getD (fromJ i j) R.z43 := by
 unfold fromJ
 rw [List.getD_eq_getElem?_getD, List.getD_eq_getElem?_getD, List.getElem?_append]
 have hl : (L.take i).length = i := by rw [List.length_take]; omega
 rw [hl]
 by_cases h : i ≤ j
 ·rw [if_neg (by omega), if_pos h, List.getElem?_drop]
  congr 2
  omega
 ·rw [if_pos (by omega), if_neg h, List.getElem?_take, if_pos (by omega)]
theorem leave_length (L : List R.S43) (i : Nat) (hi : i < L.length) : (L.take i ++ L.drop (i + 1)).length = L.length - 1 := by
 rw [List.length_append, List.length_take, List.length_drop]
 omega
end Go.Proofs.YtdklmafkcbjomaaDoor
