/-
  The lower layers, walked and in closed forms, part 5: C3, C4.
-/
import Derived.Test.YtifpdpfjhjoieaaX0
import Derived.Test.YtifpdpfjhjoieaaX1
import Derived.Test.YtifpdpfjhjoieaaX4
import Derived.Test.YtifpdpfjhjoieaaJWords
import Derived.Test.YtifpdpfjhjoieaaJLast
import Derived.Test.YtifpdpfjhjoieaaJMore
import Derived.Test.YtifpdpfjhjoieaaJRepsOne
import Derived.Test.YtifpdpfjhjoieaaJTab
import Derived.Test.YtifpdpfjhjoieaaJGuard
/-! C3 -/
namespace Go.Proofs.Ytifpdpfjhjoieaa.C
open Go.Proofs.Ytifpdpfjhjoieaa.P
open Go.RowKit Go.Proofs.YtifpdpfjhjoieaaW.PrintWords Go.Proofs.YtifpdpfjhjoieaaW.PrintLast Go.Proofs.YtifpdpfjhjoieaaW.PrintMore
attribute [local go_sem] max2_int min2_int max_two min_two max_three min_three max_four min_four   -- for this text's walks alone
set_option linter.unusedVariables false
set_option linter.unusedSimpArgs false
/-! ### pyxref05_lock: function 55 -/
mutual
def pyxref05_lock.l0 : Nat → List Int → List Int → List Int → List Int → Int → Option (List Int)
  | 0, _, _, _, _, _ => none
  | k + 1, x0, x1, x2, x7, x8 => if x8 < 16 then (if 0 ≤ x8 then (if x8 < (x2.length : Int) then (if x8 < (x0.length : Int) then (if x8 < (x7.length : Int) then (pyxref05_lock.l0 k x0 x1 x2 (x7.set (x8 : Int).toNat (Go.bits .xor .u8 (rd x2 x8) (rd x0 x8))) (wrap64 (x8 + 1))) else (none)) else (none)) else (none)) else (none)) else (pyxref05_lock.l1 k x0 x1 x7 1)
def pyxref05_lock.l1 : Nat → List Int → List Int → List Int → Int → Option (List Int)
  | 0, _, _, _, _ => none
  | k + 1, x0, x1, x7, x9 => if x9 ≤ 10 then (if 16 ≤ 281474976710656 then (pyxref05_lock.l2 k x0 x1 x7 x9 (List.replicate 16 0) 0) else (none)) else (some x7)
def pyxref05_lock.l2 : Nat → List Int → List Int → List Int → Int → List Int → Int → Option (List Int)
  | 0, _, _, _, _, _, _ => none
  | k + 1, x0, x1, x7, x9, x10, x11 => if x11 < 4 then (pyxref05_lock.l3 k x0 x1 x7 x9 x10 x11 0) else ((some (([] : List Int) : List Int)).bind fun y156 => (if y156.length + x10.length < 140737488355328 then (pyxref05_lock.l4 k x0 x1 x7 x9 x10 (y156 ++ x10) 0) else (none)))
def pyxref05_lock.l3 : Nat → List Int → List Int → List Int → Int → List Int → Int → Int → Option (List Int)
  | 0, _, _, _, _, _, _, _ => none
  | k + 1, x0, x1, x7, x9, x10, x11, x12 => if x12 < 4 then (if 0 ≤ (wrap64 ((wrap64 (4 * (Int.tmod (wrap64 (x11 + x12)) 4))) + x12)) then (if (wrap64 ((wrap64 (4 * (Int.tmod (wrap64 (x11 + x12)) 4))) + x12)) < (x7.length : Int) then (if 0 ≤ (wrap64 (rd x7 (wrap64 ((wrap64 (4 * (Int.tmod (wrap64 (x11 + x12)) 4))) + x12)))) then (if (wrap64 (rd x7 (wrap64 ((wrap64 (4 * (Int.tmod (wrap64 (x11 + x12)) 4))) + x12)))) < (x1.length : Int) then (if 0 ≤ (wrap64 ((wrap64 (4 * x11)) + x12)) then (if (wrap64 ((wrap64 (4 * x11)) + x12)) < (x10.length : Int) then (pyxref05_lock.l3 k x0 x1 x7 x9 (x10.set ((wrap64 ((wrap64 (4 * x11)) + x12)) : Int).toNat (rd x1 (wrap64 (rd x7 (wrap64 ((wrap64 (4 * (Int.tmod (wrap64 (x11 + x12)) 4))) + x12)))))) x11 (wrap64 (x12 + 1))) else (none)) else (none)) else (none)) else (none)) else (none)) else (none)) else (pyxref05_lock.l2 k x0 x1 x7 x9 x10 (wrap64 (x11 + 1)))
def pyxref05_lock.l4 : Nat → List Int → List Int → List Int → Int → List Int → List Int → Int → Option (List Int)
  | 0, _, _, _, _, _, _, _ => none
  | k + 1, x0, x1, x7, x9, x10, x13, x14 => if x14 < 4 then (pyxref05_lock.j5 k x0 x1 x7 x9 x10 x13 x14 (decide (x9 < 10))) else (pyxref05_lock.j5 k x0 x1 x7 x9 x10 x13 x14 false)
def pyxref05_lock.j5 : Nat → List Int → List Int → List Int → Int → List Int → List Int → Int → Bool → Option (List Int)
  | 0, _, _, _, _, _, _, _, _ => none
  | k + 1, x0, x1, x7, x9, x10, x13, x14, x75 => if x75 = true then (pyxref05_lock.l5 k x0 x1 x7 x9 x10 x13 x14 0) else (pyxref05_lock.l6 k x0 x1 x7 x9 x13 0)
def pyxref05_lock.l5 : Nat → List Int → List Int → List Int → Int → List Int → List Int → Int → Int → Option (List Int)
  | 0, _, _, _, _, _, _, _, _ => none
  | k + 1, x0, x1, x7, x9, x10, x13, x14, x15 => if x15 < 4 then (if 0 ≤ (wrap64 ((wrap64 (4 * x14)) + x15)) then (if (wrap64 ((wrap64 (4 * x14)) + x15)) < (x10.length : Int) then ((pyxref05_Mul.f k (rd x10 (wrap64 ((wrap64 (4 * x14)) + x15))) 2).bind fun t163 => (if 0 ≤ (wrap64 ((wrap64 (4 * x14)) + (Int.tmod (wrap64 (x15 + 1)) 4))) then (if (wrap64 ((wrap64 (4 * x14)) + (Int.tmod (wrap64 (x15 + 1)) 4))) < (x10.length : Int) then ((pyxref05_Mul.f k (rd x10 (wrap64 ((wrap64 (4 * x14)) + (Int.tmod (wrap64 (x15 + 1)) 4)))) 3).bind fun t165 => (if 0 ≤ (wrap64 ((wrap64 (4 * x14)) + (Int.tmod (wrap64 (x15 + 2)) 4))) then (if (wrap64 ((wrap64 (4 * x14)) + (Int.tmod (wrap64 (x15 + 2)) 4))) < (x10.length : Int) then (if 0 ≤ (wrap64 ((wrap64 (4 * x14)) + (Int.tmod (wrap64 (x15 + 3)) 4))) then (if (wrap64 ((wrap64 (4 * x14)) + (Int.tmod (wrap64 (x15 + 3)) 4))) < (x10.length : Int) then (if (wrap64 ((wrap64 (4 * x14)) + x15)) < (x13.length : Int) then (pyxref05_lock.l5 k x0 x1 x7 x9 x10 (x13.set ((wrap64 ((wrap64 (4 * x14)) + x15)) : Int).toNat (Go.bits .xor .u8 (Go.bits .xor .u8 (Go.bits .xor .u8 t163 t165) (rd x10 (wrap64 ((wrap64 (4 * x14)) + (Int.tmod (wrap64 (x15 + 2)) 4))))) (rd x10 (wrap64 ((wrap64 (4 * x14)) + (Int.tmod (wrap64 (x15 + 3)) 4)))))) x14 (wrap64 (x15 + 1))) else (none)) else (none)) else (none)) else (none)) else (none))) else (none)) else (none))) else (none)) else (none)) else (pyxref05_lock.l4 k x0 x1 x7 x9 x10 x13 (wrap64 (x14 + 1)))
def pyxref05_lock.l6 : Nat → List Int → List Int → List Int → Int → List Int → Int → Option (List Int)
  | 0, _, _, _, _, _, _ => none
  | k + 1, x0, x1, x7, x9, x13, x16 => if x16 < 16 then (if 0 ≤ x16 then (if x16 < (x13.length : Int) then (if 0 ≤ (wrap64 ((wrap64 (16 * x9)) + x16)) then (if (wrap64 ((wrap64 (16 * x9)) + x16)) < (x0.length : Int) then (if x16 < (x7.length : Int) then (pyxref05_lock.l6 k x0 x1 (x7.set (x16 : Int).toNat (Go.bits .xor .u8 (rd x13 x16) (rd x0 (wrap64 ((wrap64 (16 * x9)) + x16))))) x9 x13 (wrap64 (x16 + 1))) else (none)) else (none)) else (none)) else (none)) else (none)) else (pyxref05_lock.l1 k x0 x1 x7 (wrap64 (x9 + 1)))
end
def pyxref05_lock.f (k : Nat) (l0 : List Int) (l1 : List Int) (l2 : List Int) : Option (List Int) := if 16 ≤ 281474976710656 then (pyxref05_lock.l0 k l0 l1 l2 (List.replicate 16 0) 0) else (none)
def pyxref05_lock.T5 : Bool × List (List Nat × List Nat) := (true, [([], []), ([], []), ([], []), ([], []), ([2, 3], [2, 3]), ([4], [4]), ([], []), ([], []), ([6, 7], [6, 7]), ([8], [8]), ([5, 9], [5, 9]), ([0, 1, 0, 1, 2, 3, 4, 5, 6, 7, 8, 9, 10], [0, 1]), ([11, 10, 0, 1, 2, 3, 4, 5, 6, 7, 8, 9, 10], [10, 11])])
def pyxref05_lock.B5 : List Nat := [0, 0, 0, 0, 12, 28, 0, 0, 192, 448, 1020, 2047, 4095]
theorem pyxref05_lock.tab5 : rtab .any (opsOf Try.f55 5) = pyxref05_lock.T5 := by kernel_rfl
theorem pyxref05_lock.bits5 : waitsOk pyxref05_lock.T5.2 pyxref05_lock.B5 = true := by kernel_rfl
def pyxref05_lock.T24 : Bool × List (List Nat × List Nat) := (true, [([], []), ([], []), ([1], [1]), ([], []), ([2, 3], [2, 3]), ([], []), ([], []), ([6], [6]), ([], []), ([7, 8], [7, 8]), ([5, 9], [5, 9]), ([10], [10]), ([11], [11]), ([], []), ([], []), ([14], [14]), ([], []), ([16], [16]), ([17], [17]), ([15, 18], [15, 18]), ([13, 19], [13, 19]), ([20], [20]), ([21, 12], [21]), ([12, 22], [12, 22]), ([], []), ([], []), ([25], [25]), ([], []), ([27], [27]), ([28], [28]), ([26, 29], [26, 29]), ([24, 30], [24, 30]), ([31], [31]), ([23, 32], [23, 32]), ([], []), ([], []), ([35], [35]), ([], []), ([37], [37]), ([38], [38]), ([36, 39], [36, 39]), ([34, 40], [34, 40]), ([41], [41]), ([33, 42], [33, 42]), ([0, 4, 0, 1, 2, 3, 4, 5, 6, 7, 8, 9, 10, 11, 12, 13, 14, 15, 16, 17, 18, 19, 20, 21, 22, 23, 24, 25, 26, 27, 28, 29, 30, 31, 32, 33, 34, 35, 36, 37, 38, 39, 40, 41, 42, 43], [0, 4]), ([44, 43, 22, 0, 1, 2, 3, 4, 5, 6, 7, 8, 9, 10, 11, 12, 13, 14, 15, 16, 17, 18, 19, 20, 21, 22, 23, 24, 25, 26, 27, 28, 29, 30, 31, 32, 33, 34, 35, 36, 37, 38, 39, 40, 41, 42, 43], [43, 44])])
def pyxref05_lock.B24 : List Nat := [0, 0, 2, 0, 14, 0, 0, 64, 0, 448, 992, 2016, 4064, 0, 0, 16384, 0, 65536, 196608, 507904, 1040384, 2088960, 4194272, 8388576, 0, 0, 33554432, 0, 134217728, 402653184, 1040187392, 2130706432, 4278190080, 8589934560, 0, 0, 34359738368, 0, 137438953472, 412316860416, 1065151889408, 2181843386368, 4380866641920, 8796093022176, 17592186044415, 35184372088831]
theorem pyxref05_lock.tab24 : rtab .any (opsOf Try.f55 24) = pyxref05_lock.T24 := by kernel_rfl
theorem pyxref05_lock.bits24 : waitsOk pyxref05_lock.T24.2 pyxref05_lock.B24 = true := by kernel_rfl
def pyxref05_lock.T28 : Bool × List (List Nat × List Nat) := (true, [([], []), ([], []), ([], []), ([], []), ([2, 3], [2, 3]), ([4], [4]), ([], []), ([], []), ([7], [7]), ([], []), ([8, 9], [8, 9]), ([6, 10], [6, 10]), ([11], [11]), ([5, 12], [5, 12]), ([0, 1, 0, 1, 2, 3, 4, 5, 6, 7, 8, 9, 10, 11, 12, 13], [0, 1]), ([14, 13, 0, 1, 2, 3, 4, 5, 6, 7, 8, 9, 10, 11, 12, 13], [13, 14])])
def pyxref05_lock.B28 : List Nat := [0, 0, 0, 0, 12, 28, 0, 0, 128, 0, 896, 1984, 4032, 8188, 16383, 32767]
theorem pyxref05_lock.tab28 : rtab .any (opsOf Try.f55 28) = pyxref05_lock.T28 := by kernel_rfl
theorem pyxref05_lock.bits28 : waitsOk pyxref05_lock.T28.2 pyxref05_lock.B28 = true := by kernel_rfl
set_option maxHeartbeats 8000000 in
set_option maxRecDepth 100000 in
theorem pyxref05_lock.calls (k : Nat) (A0 : Option Addr) (c0 : Nat) (l0 : List Int) (A1 : Option Addr) (c1 : Nat) (l1 : List Int) (A2 : Option Addr) (c2 : Nat) (l2 : List Int) (r : List Int) (w : World) (hr0 : Kd.C (Kd.int .u8) w A0 l0.length l0) (hc0 : l0.length ≤ c0) (hr1 : Kd.C (Kd.int .u8) w A1 l1.length l1) (hc1 : l1.length ≤ c1) (hr2 : Kd.C (Kd.int .u8) w A2 l2.length l2) (hc2 : l2.length ≤ c2) (h : pyxref05_lock.f k l0 l1 l2 = some r) :
    Calls Try.prog 55 #[.slice A0 l0.length c0, .slice A1 l1.length c1, .slice A2 l2.length c2] w fun e w' => ∃ v0_ : Value, e = .returned (v0_) ∧ Kd.R (Kd.int .u8) 5 w' w.heap.size (fun _ => True) v0_ r ∧ Below w.heap.size w w' := by
  have HR0 := Aside0.mk hr0
  have HC0 := Aside0.mk hc0
  clear hr0 hc0
  have HR1 := Aside0.mk hr1
  have HC1 := Aside0.mk hc1
  clear hr1 hc1
  have HR2 := Aside0.mk hr2
  have HC2 := Aside0.mk hc2
  clear hr2 hc2
  have HB := Aside0.mk (Below.refl w.heap.size w)
  have H : (if 16 ≤ 281474976710656 then (pyxref05_lock.l0 k l0 l1 l2 (List.replicate 16 0) 0) else (none)) = some r := h
  clear h
  by_cases c4 : 16 ≤ 281474976710656
  rotate_left
  · rw [if_neg c4] at H
    exact absurd H (by simp)
  rw [if_pos c4] at H
  have c4b0 := eq_true c4
  have c4b1 : decide (16 ≤ 281474976710656) = true := decide_eq_true c4
  clear c4
  obtain ⟨y144, hy144⟩ : ∃ y_ : List Int, y_ = (List.replicate 16 0) := ⟨_, rfl⟩
  replace H : (pyxref05_lock.l0 k l0 l1 l2 y144 0) = some r := by first | (rw [hy144]; with_reducible exact H)
  have Ny144 := Aside0.mk hy144
  clear hy144
  have H' := Aside0.mk H
  clear H
  go_enter Try.func55, Try.ntmps55
  go_wp2_with (first | ((with_reducible refine gate_dst (N := 17) rfl ?_); refine Kd.R_make (Kd.int .u8) _ 5 rfl (N := 17) rfl 22 _ _ rfl 16 rfl rfl Try.underlying22 (.int .u8 0) 1 info5 rfl (by decide) (by omega) 0 (ok := fun _ => True) (okp := fun _ => True) rfl (fun _ hk => hk) trivial (by omega) (by omega) (Below.refl _ _) (Nat.le_refl _) ?_; intro v145 w5 ho6 hb hg_ hnew_; clear hg_ hnew_; ((simp only [Int.reduceToNat] at ho6; rw [← Ny144.out] at ho6)); have n0_ := Aside0.mk (Kd.R_lower ho6 (below_size (by repeat ((with_reducible first | exact HB.out))))); have n1_ := Aside0.mk (below_step (by repeat ((with_reducible first | exact HB.out))) hb); clear HB; have HO146 := n0_; have HB := n1_; clear n0_ n1_; clear hb ho6))
  go_loopg [8] k (fun kq v8 w' => ∃ (x7_1 : List Int) (x8_1 : Int), v8 = .int .i64 x8_1 ∧ Aside0 (pyxref05_lock.l0 kq l0 l1 l2 x7_1 x8_1 = some r) ∧ Aside0 (kq ≤ k) ∧ Aside0 (Kd.R (Kd.int .u8) 5 w' w.heap.size (fun _ => True) v145 x7_1) ∧ Aside0 (Below w.heap.size w w'))
  case atStart => exact ⟨(y144), (0), (by first | rfl), H', ⟨Nat.le_refl _⟩, ⟨by (with_reducible repeat (fail)); exact HO146.out⟩, ⟨by repeat ((with_reducible first | exact HB.out))⟩⟩
  clear H'
  skip
  skip
  skip
  skip
  try clear c4b0
  try clear c4b1
  skip
  obtain ⟨x7_1, x8_1, rfl, HA, HK1, HO_7, HB⟩ := hrel
  cases gk with
  | zero => exact absurd HA.out (by simp [pyxref05_lock.l0])
  | succ k1 =>
    have H := HA.out
    clear HA
    simp only [pyxref05_lock.l0] at H
    by_cases c7 : x8_1 < 16
    · rw [if_pos c7] at H
      have c7b0 : decide (x8_1 < 16) = true := decide_eq_true c7
      clear c7
      by_cases c8 : 0 ≤ x8_1
      rotate_left
      · rw [if_neg c8] at H
        exact absurd H (by simp)
      rw [if_pos c8] at H
      have c8b0 : decide (0 ≤ x8_1) = true := decide_eq_true c8
      clear c8
      by_cases c9 : x8_1 < (l2.length : Int)
      rotate_left
      · rw [if_neg c9] at H
        exact absurd H (by simp)
      rw [if_pos c9] at H
      have c9b0 : decide (x8_1 < (l2.length : Int)) = true := decide_eq_true c9
      clear c9
      by_cases c10 : x8_1 < (l0.length : Int)
      rotate_left
      · rw [if_neg c10] at H
        exact absurd H (by simp)
      rw [if_pos c10] at H
      have c10b0 : decide (x8_1 < (l0.length : Int)) = true := decide_eq_true c10
      clear c10
      by_cases c11 : x8_1 < (x7_1.length : Int)
      rotate_left
      · rw [if_neg c11] at H
        exact absurd H (by simp)
      rw [if_pos c11] at H
      have c11b0 : decide (x8_1 < (x7_1.length : Int)) = true := decide_eq_true c11
      clear c11
      obtain ⟨y149, hy149⟩ : ∃ y_ : List Int, y_ = (x7_1.set (x8_1 : Int).toNat (Go.bits .xor .u8 (rd l2 x8_1) (rd l0 x8_1))) := ⟨_, rfl⟩
      replace H : (pyxref05_lock.l0 k1 l0 l1 l2 y149 (wrap64 (x8_1 + 1))) = some r := by first | (rw [hy149]; with_reducible exact H)
      have Ny149 := Aside0.mk hy149
      clear hy149
      have H' := Aside0.mk H
      clear H
      try go_wp2
      have n0_ := Aside0.mk (Kd.R_drew HO_7.out)
      have n1_ := Aside0.mk (below_drew1 HB.out)
      clear HO_7
      clear HB
      have HO_7 := n0_
      have HB := n1_
      clear n0_ n1_
      have p147 : 0 ≤ (x8_1 : Int) := of_decide_eq_true (by first | (with_reducible assumption))
      have q147 : x8_1 < (l2.length : Int) := of_decide_eq_true (by first | (with_reducible assumption))
      obtain ⟨ad147, e147, hx147_0⟩ := Kd.at_int HR2.out x8_1 p147 q147
      have hw147_0 := hx147_0
      cases e147
      replace hx147_0 := (HB.out.cell (World.block_lt_of_cell? w _ hx147_0)).trans hx147_0
      replace p147 := eq_true p147
      replace q147 := eq_true q147
      have p148 : 0 ≤ (x8_1 : Int) := of_decide_eq_true (by first | (with_reducible assumption))
      have q148 : x8_1 < (l0.length : Int) := of_decide_eq_true (by first | (with_reducible assumption))
      obtain ⟨ad148, e148, hx148_0⟩ := Kd.at_int HR0.out x8_1 p148 q148
      have hw148_0 := hx148_0
      cases e148
      replace hx148_0 := (HB.out.cell (World.block_lt_of_cell? w _ hx148_0)).trans hx148_0
      replace p148 := eq_true p148
      replace q148 := eq_true q148
      have p12 : 0 ≤ (x8_1 : Int) := of_decide_eq_true (by first | (with_reducible assumption))
      have q12 : (x8_1 : Int) < ((x7_1.length : Int) : Int) := of_decide_eq_true (by first | (with_reducible assumption))
      obtain ⟨go12, co12, eo12, gb12, gl12, cl12, HG12⟩ := Kd.R_form HO_7.out (by omega)
      (cases eo12)
      have GB12 := Aside0.mk gb12
      have GG12 := Aside0.mk HG12
      clear gb12 gl12 HG12
      obtain ⟨hx12_0, hf12_0⟩ := Kd.R_celln 0 HO_7.out (x8_1 : Int) p12 q12
      replace p12 := eq_true p12
      replace q12 := eq_true q12
      have HP14 := Kd.R_putn HO_7.out (x8_1 : Int) (Go.bits .xor .u8 (rd l2 x8_1) (rd l0 x8_1))
      rw [← Ny149.out] at HP14
      have HQ14 := Aside0.mk HP14
      clear HP14
      refine start_ (n := 13) (S := fun w' => w'.cell? (ad147.add (x8_1).toNat) = some (.int .u8 (rd l2 x8_1)) ∧ w'.cell? (ad148.add (x8_1).toNat) = some (.int .u8 (rd l0 x8_1))) (ds := [12]) #[false, false, false, false, false, false, false, false, false, false, false, false, false] (by kernel_rfl) rfl rfl ⟨((HB.out.cell (World.block_lt_of_cell? w _ hw147_0)).trans hw147_0), ((HB.out.cell (World.block_lt_of_cell? w _ hw148_0)).trans hw148_0)⟩ (fun hHeld => ?_); refine with_tabW pyxref05_lock.tab5 pyxref05_lock.bits5 (fun HT_ HW_ => ?_)
      generalize wr.drew = w13 at HO_7 HB GG12 HQ14 hf12_0 hx12_0 hx147_0 hx148_0 hHeld ⊢
      refine pure_ (i := 0) (N := some 22) (v := ?_) (a' := ?_) #[true, false, false, false, false, false, false, false, false, false, false, false, false] rfl rfl (any_of HT_.out (by kernel_rfl)) (fun _ _ _ h => h) (Or.inl ⟨by rfl, ?_⟩) ?_ ?_
      rotate_left
      · intro w'
        go_simp
        with_reducible rfl
      rotate_left
      · simp only [Act.put, List.setIfInBounds_toArray, List.set_cons_zero, List.set_cons_succ, i64_w, i32_w]
        rfl
      refine pure_ (i := 1) (N := some 23) (v := ?_) (a' := ?_) #[true, true, false, false, false, false, false, false, false, false, false, false, false] rfl rfl (any_of HT_.out (by kernel_rfl)) (fun _ _ _ h => h) (Or.inl ⟨by rfl, ?_⟩) ?_ ?_
      rotate_left
      · intro w'
        go_simp
        with_reducible rfl
      rotate_left
      · simp only [Act.put, List.setIfInBounds_toArray, List.set_cons_zero, List.set_cons_succ, i64_w, i32_w]
        rfl
      refine pure_ (i := 2) (N := some 24) (v := ?_) (a' := ?_) #[true, true, true, false, false, false, false, false, false, false, false, false, false] rfl rfl (any_of HT_.out (by kernel_rfl)) (fun _ _ _ h => h) (Or.inl ⟨by rfl, ?_⟩) ?_ ?_
      rotate_left
      · intro w'
        go_simp
        with_reducible rfl
      rotate_left
      · simp only [Act.put, List.setIfInBounds_toArray, List.set_cons_zero, List.set_cons_succ, i64_w, i32_w]
        rfl
      refine pure_ (i := 3) (N := some 25) (v := ?_) (a' := ?_) #[true, true, true, true, false, false, false, false, false, false, false, false, false] rfl rfl (any_of HT_.out (by kernel_rfl)) (fun _ _ _ h => h) (Or.inl ⟨by rfl, ?_⟩) ?_ ?_
      rotate_left
      · intro w'
        go_simp
        with_reducible rfl
      rotate_left
      · simp only [Act.put, List.setIfInBounds_toArray, List.set_cons_zero, List.set_cons_succ, i64_w, i32_w]
        rfl
      refine pure_ (i := 4) (N := some 26) (v := ?_) (a' := ?_) #[true, true, true, true, true, false, false, false, false, false, false, false, false] rfl rfl (any_of HT_.out (by kernel_rfl)) (fun _ _ _ h => h) (Or.inl ⟨by rfl, ?_⟩) ?_ ?_
      rotate_left
      · intro w'
        go_simp
        with_reducible rfl
      rotate_left
      · simp only [Act.put, List.setIfInBounds_toArray, List.set_cons_zero, List.set_cons_succ, i64_w, i32_w]
        rfl
      refine pure_ (i := 6) (N := some 28) (v := ?_) (a' := ?_) #[true, true, true, true, true, false, true, false, false, false, false, false, false] rfl rfl (any_of HT_.out (by kernel_rfl)) (fun _ _ _ h => h) (Or.inl ⟨by rfl, ?_⟩) ?_ ?_
      rotate_left
      · intro w'
        go_simp
        with_reducible rfl
      rotate_left
      · simp only [Act.put, List.setIfInBounds_toArray, List.set_cons_zero, List.set_cons_succ, i64_w, i32_w]
        rfl
      refine pure_ (i := 7) (N := some 29) (v := ?_) (a' := ?_) #[true, true, true, true, true, false, true, true, false, false, false, false, false] rfl rfl (any_of HT_.out (by kernel_rfl)) (fun _ _ _ h => h) (Or.inl ⟨by rfl, ?_⟩) ?_ ?_
      rotate_left
      · intro w'
        go_simp
        with_reducible rfl
      rotate_left
      · simp only [Act.put, List.setIfInBounds_toArray, List.set_cons_zero, List.set_cons_succ, i64_w, i32_w]
        rfl
      refine pure_ (i := 8) (N := some 30) (v := ?_) (a' := ?_) #[true, true, true, true, true, false, true, true, true, false, false, false, false] rfl rfl (any_of HT_.out (by kernel_rfl)) (fun _ _ _ h => h) (Or.inl ⟨by rfl, ?_⟩) ?_ ?_
      rotate_left
      · intro w'
        go_simp
        with_reducible rfl
      rotate_left
      · simp only [Act.put, List.setIfInBounds_toArray, List.set_cons_zero, List.set_cons_succ, i64_w, i32_w]
        rfl
      refine take_ (i := 5) (N := some 27) (v := ?_) (a' := ?_) #[true, true, true, true, true, true, true, true, true, false, false, false, false] rfl rfl (take_ofW HT_.out HW_.out (by kernel_rfl)) (fun _ _ _ h => h) (Or.inl ⟨by rfl, ?_⟩) hHeld ?_ ?_
      rotate_left
      · rintro w' ⟨s0, s1⟩
        go_simp
        with_reducible rfl
      rotate_left
      · simp only [Act.put, List.setIfInBounds_toArray, List.set_cons_zero, List.set_cons_succ, i64_w, i32_w]
        rfl
      refine take_ (i := 9) (N := some 31) (v := ?_) (a' := ?_) #[true, true, true, true, true, true, true, true, true, true, false, false, false] rfl rfl (take_ofW HT_.out HW_.out (by kernel_rfl)) (fun _ _ _ h => h) (Or.inl ⟨by rfl, ?_⟩) hHeld ?_ ?_
      rotate_left
      · rintro w' ⟨s0, s1⟩
        go_simp
        with_reducible rfl
      rotate_left
      · simp only [Act.put, List.setIfInBounds_toArray, List.set_cons_zero, List.set_cons_succ, i64_w, i32_w]
        rfl
      refine pure_ (i := 10) (N := some 32) (v := ?_) (a' := ?_) #[true, true, true, true, true, true, true, true, true, true, true, false, false] rfl rfl (any_of HT_.out (by kernel_rfl)) (fun _ _ _ h => h) (Or.inl ⟨by rfl, ?_⟩) ?_ ?_
      rotate_left
      · intro w'
        go_simp
        with_reducible rfl
      rotate_left
      · simp only [Act.put, List.setIfInBounds_toArray, List.set_cons_zero, List.set_cons_succ, i64_w, i32_w]
        rfl
      refine pure_ (i := 11) (N := some 33) (v := ?_) (a' := ?_) #[true, true, true, true, true, true, true, true, true, true, true, true, false] rfl rfl (any_of HT_.out (by kernel_rfl)) (fun _ _ _ h => h) (Or.inl ⟨by rfl, ?_⟩) ?_ ?_
      rotate_left
      · intro w'
        go_simp
        with_reducible rfl
      rotate_left
      · simp only [Act.put, List.setIfInBounds_toArray, List.set_cons_zero, List.set_cons_succ, i64_w, i32_w]
        rfl
      refine last_ (i := 12) (N := none) #[true, true, true, true, true, true, true, true, true, true, true, true, true] rfl rfl (one_of HT_.out (by kernel_rfl)) (by decide) (fun K hK => ?_)
      refine skip_ (w1 := ?_) (by rfl) rfl ?_ ?_
      rotate_left
      · go_simp
        rfl
      refine hK.out _ _ ?_
      clear hK K
      refine done_ (done_of HT_.out (by kernel_rfl)) ?_
      try go_wp2
      go_roundg k1
      case measure => have := HK1.out; omega
      case rel => exact ⟨(y149), (wrap64 (x8_1 + 1)), (by first | rfl), H', ⟨by have := HK1.out; omega⟩, ⟨by (with_reducible repeat (fail)); exact HQ14.out⟩, ⟨by repeat ((with_reducible first | exact HB.out | refine below_set ?_ GB12.out))⟩⟩
    rw [if_neg c7] at H
    have c7b0 : decide (x8_1 < 16) = false := decide_eq_false c7
    clear c7
    have H' := Aside0.mk H
    clear H
    go_wp2
    go_loopg [9] k1 (fun kq v9 w' => ∃ (x7_2 : List Int) (x9_2 : Int), v9 = .int .i64 x9_2 ∧ Aside0 (pyxref05_lock.l1 kq l0 l1 x7_2 x9_2 = some r) ∧ Aside0 (kq ≤ k1) ∧ Aside0 (Kd.R (Kd.int .u8) 5 w' w.heap.size (fun _ => True) v145 x7_2) ∧ Aside0 (Below w.heap.size w w'))
    case atStart => exact ⟨(x7_1), (1), (by first | rfl), H', ⟨Nat.le_refl _⟩, ⟨by (with_reducible repeat (fail)); exact HO_7.out⟩, ⟨by repeat ((with_reducible first | exact HB.out))⟩⟩
    clear H'
    skip
    skip
    skip
    skip
    skip
    skip
    skip
    skip
    skip
    skip
    skip
    skip
    try clear c7b0
    skip
    skip
    skip
    skip
    skip
    skip
    skip
    skip
    skip
    skip
    skip
    skip
    skip
    skip
    skip
    skip
    skip
    skip
    skip
    skip
    skip
    skip
    skip
    skip
    skip
    obtain ⟨x7_2, x9_2, rfl, HA, HK2, HO_7, HB⟩ := hrel
    cases gk with
    | zero => exact absurd HA.out (by simp [pyxref05_lock.l1])
    | succ k2 =>
      have H := HA.out
      clear HA
      simp only [pyxref05_lock.l1] at H
      by_cases c15 : x9_2 ≤ 10
      rotate_left
      · rw [if_neg c15] at H
        have c15b0 : decide (x9_2 ≤ 10) = false := decide_eq_false c15
        clear c15
        obtain rfl := Option.some.inj H
        go_wp2
        go_ret
        exact ⟨_, by first | rfl, by (with_reducible repeat (fail)); exact HO_7.out, by repeat ((with_reducible first | exact HB.out))⟩
      rw [if_pos c15] at H
      have c15b0 : decide (x9_2 ≤ 10) = true := decide_eq_true c15
      clear c15
      by_cases c16 : 16 ≤ 281474976710656
      rotate_left
      · rw [if_neg c16] at H
        exact absurd H (by simp)
      rw [if_pos c16] at H
      have c16b0 := eq_true c16
      have c16b1 : decide (16 ≤ 281474976710656) = true := decide_eq_true c16
      clear c16
      obtain ⟨y150, hy150⟩ : ∃ y_ : List Int, y_ = (List.replicate 16 0) := ⟨_, rfl⟩
      replace H : (pyxref05_lock.l2 k2 l0 l1 x7_2 x9_2 y150 0) = some r := by first | (rw [hy150]; with_reducible exact H)
      have Ny150 := Aside0.mk hy150
      clear hy150
      have H' := Aside0.mk H
      clear H
      go_wp2_with (first | ((with_reducible refine gate_dst (N := 38) rfl ?_); refine Kd.R_make (Kd.int .u8) _ 5 rfl (N := 38) rfl 22 _ _ rfl 16 rfl rfl Try.underlying22 (.int .u8 0) 1 info5 rfl (by decide) (by omega) 0 (ok := fun _ => True) (okp := fun _ => True) rfl (fun _ hk => hk) trivial (by omega) (by omega) (Below.refl _ _) (Nat.le_refl _) ?_; intro v151 w17 ho18 hb hg_ hnew_; clear hg_ hnew_; ((simp only [Int.reduceToNat] at ho18; rw [← Ny150.out] at ho18)); have n0_ := Aside0.mk (Kd.R_elder' (by (with_reducible repeat (fail)); exact HO_7.out) (Kd.R_base ho18) hb); have n1_ := Aside0.mk (Kd.R_lower (Kd.R_new' ho18 (Kd.R_lt (by (with_reducible repeat (fail)); exact HO_7.out))) (below_size (by repeat ((with_reducible first | exact HB.out))))); have n2_ := Aside0.mk (below_step (by repeat ((with_reducible first | exact HB.out))) hb); clear HO_7; clear HB; have HO_7 := n0_; have HO152 := n1_; have HB := n2_; clear n0_ n1_ n2_; clear hb ho18))
      go_loopg [11] k2 (fun kq v11 w' => ∃ (x10_3 : List Int) (x11_3 : Int), v11 = .int .i64 x11_3 ∧ Aside0 (pyxref05_lock.l2 kq l0 l1 x7_2 x9_2 x10_3 x11_3 = some r) ∧ Aside0 (kq ≤ k2) ∧ Aside0 (Kd.R (Kd.int .u8) 5 w' w.heap.size (fun k_ => some k_ ≠ (v151 : Value).ownBlock) v145 x7_2) ∧ Aside0 (Kd.R (Kd.int .u8) 5 w' w.heap.size (fun k_ => some k_ ≠ (v145 : Value).ownBlock) v151 x10_3) ∧ Aside0 (Below w.heap.size w w'))
      case atStart => exact ⟨(y150), (0), (by first | rfl), H', ⟨Nat.le_refl _⟩, ⟨by (with_reducible repeat (fail)); exact Kd.R_mono HO_7.out (fun _ hk => hk.2)⟩, ⟨by (with_reducible repeat (fail)); exact Kd.R_mono HO152.out (fun _ hk => hk.2)⟩, ⟨by repeat ((with_reducible first | exact HB.out))⟩⟩
      clear H'
      skip
      skip
      skip
      skip
      skip
      skip
      skip
      skip
      skip
      skip
      skip
      skip
      skip
      skip
      skip
      skip
      skip
      skip
      skip
      skip
      skip
      skip
      skip
      skip
      skip
      skip
      skip
      skip
      skip
      try clear c15b0
      skip
      try clear c16b0
      try clear c16b1
      skip
      skip
      skip
      skip
      skip
      skip
      skip
      skip
      skip
      skip
      skip
      skip
      skip
      skip
      skip
      obtain ⟨x10_3, x11_3, rfl, HA, HK3, HO_7, HO_10, HB⟩ := hrel
      cases gk with
      | zero => exact absurd HA.out (by simp [pyxref05_lock.l2])
      | succ k3 =>
        have H := HA.out
        clear HA
        simp only [pyxref05_lock.l2] at H
        by_cases c19 : x11_3 < 4
        · rw [if_pos c19] at H
          have c19b0 : decide (x11_3 < 4) = true := decide_eq_true c19
          clear c19
          have H' := Aside0.mk H
          clear H
          go_wp2
          go_loopg [12] k3 (fun kq v12 w' => ∃ (x10_4 : List Int) (x12_4 : Int), v12 = .int .i64 x12_4 ∧ Aside0 (pyxref05_lock.l3 kq l0 l1 x7_2 x9_2 x10_4 x11_3 x12_4 = some r) ∧ Aside0 (kq ≤ k3) ∧ Aside0 (Kd.R (Kd.int .u8) 5 w' w.heap.size (fun k_ => some k_ ≠ (v151 : Value).ownBlock) v145 x7_2) ∧ Aside0 (Kd.R (Kd.int .u8) 5 w' w.heap.size (fun k_ => some k_ ≠ (v145 : Value).ownBlock) v151 x10_4) ∧ Aside0 (Below w.heap.size w w'))
          case atStart => exact ⟨(x10_3), (0), (by first | rfl), H', ⟨Nat.le_refl _⟩, ⟨by (with_reducible repeat (fail)); exact HO_7.out⟩, ⟨by (with_reducible repeat (fail)); exact HO_10.out⟩, ⟨by repeat ((with_reducible first | exact HB.out))⟩⟩
          clear H'
          skip
          skip
          skip
          skip
          skip
          skip
          skip
          skip
          skip
          skip
          skip
          skip
          skip
          skip
          skip
          skip
          skip
          skip
          skip
          skip
          skip
          skip
          skip
          skip
          skip
          skip
          skip
          skip
          skip
          skip
          skip
          skip
          skip
          skip
          try clear c19b0
          skip
          skip
          skip
          skip
          skip
          skip
          skip
          skip
          skip
          skip
          skip
          skip
          skip
          skip
          skip
          obtain ⟨x10_4, x12_4, rfl, HA, HK4, HO_7, HO_10, HB⟩ := hrel
          cases gk with
          | zero => exact absurd HA.out (by simp [pyxref05_lock.l3])
          | succ k4 =>
            have H := HA.out
            clear HA
            simp only [pyxref05_lock.l3] at H
            by_cases c20 : x12_4 < 4
            rotate_left
            · rw [if_neg c20] at H
              have c20b0 : decide (x12_4 < 4) = false := decide_eq_false c20
              clear c20
              have H' := Aside0.mk H
              clear H
              go_wp2
              go_roundg k4
              case measure => have := HK1.out; have := HK2.out; have := HK3.out; have := HK4.out; omega
              case rel => exact ⟨(x10_4), (wrap64 (x11_3 + 1)), (by first | rfl), H', ⟨by have := HK1.out; have := HK2.out; have := HK3.out; have := HK4.out; omega⟩, ⟨by (with_reducible repeat (fail)); exact HO_7.out⟩, ⟨by (with_reducible repeat (fail)); exact HO_10.out⟩, ⟨by repeat ((with_reducible first | exact HB.out))⟩⟩
            rw [if_pos c20] at H
            have c20b0 : decide (x12_4 < 4) = true := decide_eq_true c20
            clear c20
            obtain ⟨ji21, hji21⟩ : ∃ j_ : Int, (wrap64 ((wrap64 (4 * (Int.tmod (wrap64 (x11_3 + x12_4)) 4))) + x12_4)) = j_ := ⟨_, rfl⟩
            replace H : (if 0 ≤ (ji21) then (if (ji21) < (x7_2.length : Int) then (if 0 ≤ (wrap64 (rd x7_2 (ji21))) then (if (wrap64 (rd x7_2 (ji21))) < (l1.length : Int) then (if 0 ≤ (wrap64 ((wrap64 (4 * x11_3)) + x12_4)) then (if (wrap64 ((wrap64 (4 * x11_3)) + x12_4)) < (x10_4.length : Int) then (pyxref05_lock.l3 k4 l0 l1 x7_2 x9_2 (x10_4.set ((wrap64 ((wrap64 (4 * x11_3)) + x12_4)) : Int).toNat (rd l1 (wrap64 (rd x7_2 (ji21))))) x11_3 (wrap64 (x12_4 + 1))) else (none)) else (none)) else (none)) else (none)) else (none)) else (none)) = some r := by first | (rw [hji21] at H; exact H)
            have hji21w : (IntKind.i64.wrap ((wrap64 (4 * (Int.tmod (wrap64 (x11_3 + x12_4)) 4))) + x12_4)) = ji21 := (i64_w _).trans hji21
            by_cases c22 : 0 ≤ (ji21)
            rotate_left
            · rw [if_neg c22] at H
              exact absurd H (by simp)
            rw [if_pos c22] at H
            have c22b0 : decide (0 ≤ (ji21)) = true := decide_eq_true c22
            clear c22
            by_cases c23 : (ji21) < (x7_2.length : Int)
            rotate_left
            · rw [if_neg c23] at H
              exact absurd H (by simp)
            rw [if_pos c23] at H
            have c23b0 : decide ((ji21) < (x7_2.length : Int)) = true := decide_eq_true c23
            clear c23
            obtain ⟨ji24, hji24⟩ : ∃ j_ : Int, (wrap64 (rd x7_2 (ji21))) = j_ := ⟨_, rfl⟩
            replace H : (if 0 ≤ (ji24) then (if (ji24) < (l1.length : Int) then (if 0 ≤ (wrap64 ((wrap64 (4 * x11_3)) + x12_4)) then (if (wrap64 ((wrap64 (4 * x11_3)) + x12_4)) < (x10_4.length : Int) then (pyxref05_lock.l3 k4 l0 l1 x7_2 x9_2 (x10_4.set ((wrap64 ((wrap64 (4 * x11_3)) + x12_4)) : Int).toNat (rd l1 (ji24))) x11_3 (wrap64 (x12_4 + 1))) else (none)) else (none)) else (none)) else (none)) = some r := by first | (rw [hji24] at H; exact H)
            have hji24w : (IntKind.i64.wrap (rd x7_2 (ji21))) = ji24 := (i64_w _).trans hji24
            by_cases c25 : 0 ≤ (ji24)
            rotate_left
            · rw [if_neg c25] at H
              exact absurd H (by simp)
            rw [if_pos c25] at H
            have c25b0 : decide (0 ≤ (ji24)) = true := decide_eq_true c25
            clear c25
            by_cases c26 : (ji24) < (l1.length : Int)
            rotate_left
            · rw [if_neg c26] at H
              exact absurd H (by simp)
            rw [if_pos c26] at H
            have c26b0 : decide ((ji24) < (l1.length : Int)) = true := decide_eq_true c26
            clear c26
            obtain ⟨ji27, hji27⟩ : ∃ j_ : Int, (wrap64 ((wrap64 (4 * x11_3)) + x12_4)) = j_ := ⟨_, rfl⟩
            replace H : (if 0 ≤ (ji27) then (if (ji27) < (x10_4.length : Int) then (pyxref05_lock.l3 k4 l0 l1 x7_2 x9_2 (x10_4.set ((ji27) : Int).toNat (rd l1 (ji24))) x11_3 (wrap64 (x12_4 + 1))) else (none)) else (none)) = some r := by first | (rw [hji27] at H; exact H)
            have hji27w : (IntKind.i64.wrap ((wrap64 (4 * x11_3)) + x12_4)) = ji27 := (i64_w _).trans hji27
            by_cases c28 : 0 ≤ (ji27)
            rotate_left
            · rw [if_neg c28] at H
              exact absurd H (by simp)
            rw [if_pos c28] at H
            have c28b0 : decide (0 ≤ (ji27)) = true := decide_eq_true c28
            clear c28
            by_cases c29 : (ji27) < (x10_4.length : Int)
            rotate_left
            · rw [if_neg c29] at H
              exact absurd H (by simp)
            rw [if_pos c29] at H
            have c29b0 : decide ((ji27) < (x10_4.length : Int)) = true := decide_eq_true c29
            clear c29
            obtain ⟨y155, hy155⟩ : ∃ y_ : List Int, y_ = (x10_4.set ((ji27) : Int).toNat (rd l1 (ji24))) := ⟨_, rfl⟩
            replace H : (pyxref05_lock.l3 k4 l0 l1 x7_2 x9_2 y155 x11_3 (wrap64 (x12_4 + 1))) = some r := by first | (rw [hy155]; with_reducible exact H)
            have Ny155 := Aside0.mk hy155
            clear hy155
            have H' := Aside0.mk H
            clear H
            obtain ⟨Ao31, co31, eo31⟩ := Kd.R_slice HO_7.out
            subst eo31
            have p153 : 0 ≤ ((ji21) : Int) := of_decide_eq_true (by first | (with_reducible assumption))
            have q153 : (ji21) < (x7_2.length : Int) := of_decide_eq_true (by first | (with_reducible assumption))
            obtain ⟨ad153, e153, hx153_0⟩ := Kd.at_int (Kd.R_reads' HO_7.out).2.2 (ji21) p153 q153
            cases e153
            replace p153 := eq_true p153
            replace q153 := eq_true q153
            have p154 : 0 ≤ ((ji24) : Int) := of_decide_eq_true (by first | (with_reducible assumption))
            have q154 : (ji24) < (l1.length : Int) := of_decide_eq_true (by first | (with_reducible assumption))
            obtain ⟨ad154, e154, hx154_0⟩ := Kd.at_int HR1.out (ji24) p154 q154
            cases e154
            replace hx154_0 := (HB.out.cell (World.block_lt_of_cell? w _ hx154_0)).trans hx154_0
            replace p154 := eq_true p154
            replace q154 := eq_true q154
            have p30 : 0 ≤ ((ji27) : Int) := of_decide_eq_true (by first | (with_reducible assumption))
            have q30 : ((ji27) : Int) < ((x10_4.length : Int) : Int) := of_decide_eq_true (by first | (with_reducible assumption))
            obtain ⟨go30, co30, eo30, gb30, gl30, cl30, HG30⟩ := Kd.R_form HO_10.out (by omega)
            (cases eo30)
            have GB30 := Aside0.mk gb30
            have GG30 := Aside0.mk HG30
            clear gb30 gl30 HG30
            obtain ⟨hx30_0, hf30_0⟩ := Kd.R_celln 0 HO_10.out ((ji27) : Int) p30 q30
            replace p30 := eq_true p30
            replace q30 := eq_true q30
            have HP32 := Kd.R_putg HO_10.out ((ji27) : Int) (rd l1 (ji24))
            go_wp2_with (first | ((with_reducible refine gate_store (t := 5) (p := 66) rfl ?_); refine store_event (t := 5) (p := 66) (v := ?vo_w33) (w1 := (wr.setCell ⟨go30, ((ji27) : Int).toNat, none⟩ (.int .u8 (rd l1 (ji24))))) ?hg ?ho ?hn ?hr ?_; (case ho => rfl); (case hg => rfl); (case hn => rfl); (case hr => first | (go_simp; done)); intro w33 hw; have hg : wr.grownBy w33 (some go30) := (by rw [hw]; exact HP32.2); have hp_ : Kd.R (Kd.int .u8) 5 w33 w.heap.size (fun k_ => some k_ ≠ (.slice (some ad153) x7_2.length co31 : Value).ownBlock) (.slice (some ⟨go30, 0, none⟩) x10_4.length co30) y155 := (by rw [hw, Ny155.out]; exact HP32.1); clear HP32; have n0_ := Aside0.mk (Kd.R_after (v := (.slice (some ⟨go30, 0, none⟩) x10_4.length co30)) (v1 := (.slice (some ⟨go30, 0, none⟩) x10_4.length co30)) (ok := (fun _ => True)) (by (with_reducible repeat (fail)); exact Kd.R_mono HO_7.out (fun _ hk => ⟨trivial, hk⟩)) hg (.inl rfl)); have n1_ := Aside0.mk (hp_); have n2_ := Aside0.mk ((by rw [hw]; exact below_set (HB.out) GB30.out : Below w.heap.size w w33)); clear HO_7; clear HO_10; clear HB; have HO_7 := n0_; have HO_10 := n1_; have HB := n2_; clear n0_ n1_ n2_; clear hg hw hp_))
            go_roundg k4
            case measure => have := HK1.out; have := HK2.out; have := HK3.out; have := HK4.out; omega
            case rel => exact ⟨(y155), (wrap64 (x12_4 + 1)), (by first | rfl), H', ⟨by have := HK1.out; have := HK2.out; have := HK3.out; have := HK4.out; omega⟩, ⟨by (with_reducible repeat (fail)); exact Kd.R_mono HO_7.out (fun _ hk => hk.2)⟩, ⟨by (with_reducible repeat (fail)); exact HO_10.out⟩, ⟨by repeat ((with_reducible first | exact HB.out))⟩⟩
        rw [if_neg c19] at H
        have c19b0 : decide (x11_3 < 4) = false := decide_eq_false c19
        clear c19
        obtain ⟨y156, hy156⟩ : ∃ y_ : List Int, y_ = (([] : List Int)) := ⟨_, rfl⟩
        replace H : (if y156.length + x10_3.length < 140737488355328 then (pyxref05_lock.l4 k3 l0 l1 x7_2 x9_2 x10_3 (y156 ++ x10_3) 0) else (none)) = some r := by first | (have H2_ := (Option.bind_some _ _).symm.trans H; rw [hy156]; with_reducible exact H2_)
        have Ny156 := Aside0.mk hy156
        clear hy156
        by_cases c34 : y156.length + x10_3.length < 140737488355328
        rotate_left
        · rw [if_neg c34] at H
          exact absurd H (by simp)
        rw [if_pos c34] at H
        have LMc34 := Aside0.mk c34
        clear c34
        obtain ⟨y159, hy159⟩ : ∃ y_ : List Int, y_ = (y156 ++ x10_3) := ⟨_, rfl⟩
        replace H : (pyxref05_lock.l4 k3 l0 l1 x7_2 x9_2 x10_3 y159 0) = some r := by first | (rw [hy159]; with_reducible exact H)
        have Ny159 := Aside0.mk hy159
        clear hy159
        have H' := Aside0.mk H
        clear H
        go_wp2_with (first | ((with_reducible refine gate_dst (N := 67) rfl ?_); refine Kd.R_lit (Kd.int .u8) _ 5 ?hg (N := 67) ?hd (xs := ([] : List Int)) (inner := []) (ok := fun _ => True) (okp := fun _ => True) ?hr ?hp (fun _ hk => hk) trivial (Below.refl _ _) (Nat.le_refl _) (by simp) ?_; (case hd => rfl); (case hg => rfl); (case hr => first | (go_simp; done)); (case hp => exact (Reps.none _ _)); intro v157 w35 ho36 hb hg_ hnew_; clear hg_ hnew_; (rw [← Ny156.out] at ho36); have n0_ := Aside0.mk (Kd.R_elder' (by (with_reducible repeat (fail)); exact HO_7.out) (Kd.R_base ho36) hb); have n1_ := Aside0.mk (Kd.R_elder' (by (with_reducible repeat (fail)); exact HO_10.out) (Kd.R_base ho36) hb); have n2_ := Aside0.mk (Kd.R_lower (Kd.R_new' (Kd.R_new' ho36 (Kd.R_lt (by (with_reducible repeat (fail)); exact HO_7.out))) (Kd.R_lt (by (with_reducible repeat (fail)); exact HO_10.out))) (below_size (by repeat ((with_reducible first | exact HB.out))))); have n3_ := Aside0.mk (below_step (by repeat ((with_reducible first | exact HB.out))) hb); clear HO_7; clear HO_10; clear HB; have HO_7 := n0_; have HO_10 := n1_; have HO158 := n2_; have HB := n3_; clear n0_ n1_ n2_ n3_; clear hb ho36; obtain ⟨Ao38, co38, eo38⟩ := Kd.R_slice HO_10.out; subst eo38) | ((with_reducible refine gate_builtin (b := .append) (xs := #[.tmp 67, .tmp 68]) rfl ?_); at_builtin; refine Kd.R_append_rows (Kd.int .u8) (w0 := w) w.heap.size rfl (.tmp 67) (.tmp 68) 22 5 (.int .u8 0) 1 rfl Try.underlying22 info5 rfl (by decide) (by omega) v157 y156 x10_3 _ _ _ (fun k_ => some k_ ≠ (v145 : Value).ownBlock ∧ some k_ ≠ (.slice Ao38 x10_3.length co38 : Value).ownBlock) (fun _ => False) rfl rfl ?aO ?aR (fun _ _ h => h) (fun _ h => h.elim) ?aF ?aB ?aS ?aL ?_; (case aR => repeat (exact (Kd.R_reads' HO_10.out).2.2)); (case aB => exact (by repeat ((with_reducible first | exact HB.out)))); (case aF => exact (fun k_ hk => ⟨Kd.fresh' (Kd.R_lt (by (with_reducible repeat (fail)); exact HO_7.out)) k_ hk, Kd.fresh' (Kd.R_lt (by (with_reducible repeat (fail)); exact HO_10.out)) k_ hk⟩)); (case aO => exact (by (with_reducible repeat (fail)); exact Kd.R_mono HO158.out (fun _ hk => ⟨hk.1.2, hk.2⟩))); (case aS => exact (below_size (by repeat ((with_reducible first | exact HB.out))))); (case aL => have := LMc34.out; omega); intro v160 w37 ho hb hg hat; rw [← Ny159.out] at ho; have n0_ := Aside0.mk (Kd.R_after (ok := (fun k_ => some k_ ≠ (.slice Ao38 x10_3.length co38 : Value).ownBlock)) (by (with_reducible repeat (fail)); exact HO_7.out) hg hat); have n1_ := Aside0.mk (Kd.R_after (ok := (fun k_ => some k_ ≠ (v145 : Value).ownBlock)) (by (with_reducible repeat (fail)); exact HO_10.out) hg hat); have n2_ := Aside0.mk (hb); have n3_ := Aside0.mk (ho); clear HO_7; clear HO_10; clear HB; clear HO158; have HO_7 := n0_; have HO_10 := n1_; have HB := n2_; have HO161 := n3_; clear n0_ n1_ n2_ n3_; clear ho hb hg hat))
        go_loopg [14] k3 (fun kq v14 w' => ∃ (x13_4 : List Int) (x14_4 : Int), v14 = .int .i64 x14_4 ∧ Aside0 (pyxref05_lock.l4 kq l0 l1 x7_2 x9_2 x10_3 x13_4 x14_4 = some r) ∧ Aside0 (kq ≤ k3) ∧ Aside0 (Kd.R (Kd.int .u8) 5 w' w.heap.size (fun k_ => some k_ ≠ ((.slice Ao38 x10_3.length co38) : Value).ownBlock ∧ some k_ ≠ (v160 : Value).ownBlock) v145 x7_2) ∧ Aside0 (Kd.R (Kd.int .u8) 5 w' w.heap.size (fun k_ => some k_ ≠ (v145 : Value).ownBlock ∧ some k_ ≠ (v160 : Value).ownBlock) (.slice Ao38 x10_3.length co38) x10_3) ∧ Aside0 (Kd.R (Kd.int .u8) 5 w' w.heap.size (fun k_ => some k_ ≠ (v145 : Value).ownBlock ∧ some k_ ≠ ((.slice Ao38 x10_3.length co38) : Value).ownBlock) v160 x13_4) ∧ Aside0 (Below w.heap.size w w'))
        case atStart => exact ⟨(y159), (0), (by first | rfl), H', ⟨Nat.le_refl _⟩, ⟨by (with_reducible repeat (fail)); exact HO_7.out⟩, ⟨by (with_reducible repeat (fail)); exact HO_10.out⟩, ⟨by (with_reducible repeat (fail)); exact HO161.out⟩, ⟨by repeat ((with_reducible first | exact HB.out))⟩⟩
        clear H'
        skip
        skip
        skip
        skip
        skip
        skip
        skip
        skip
        skip
        skip
        skip
        skip
        skip
        skip
        skip
        skip
        skip
        skip
        skip
        skip
        skip
        skip
        skip
        skip
        skip
        skip
        skip
        skip
        skip
        skip
        skip
        skip
        skip
        skip
        skip
        skip
        skip
        skip
        skip
        skip
        skip
        skip
        try clear c19b0
        skip
        skip
        skip
        skip
        skip
        skip
        skip
        skip
        skip
        skip
        skip
        skip
        skip
        skip
        skip
        skip
        skip
        skip
        skip
        skip
        skip
        skip
        skip
        skip
        skip
        skip
        skip
        skip
        skip
        skip
        skip
        skip
        skip
        skip
        skip
        skip
        skip
        skip
        skip
        skip
        skip
        skip
        skip
        obtain ⟨x13_4, x14_4, rfl, HA, HK4, HO_7, HO_10, HO_13, HB⟩ := hrel
        cases gk with
        | zero => exact absurd HA.out (by simp [pyxref05_lock.l4])
        | succ k4 =>
          have H := HA.out
          clear HA
          simp only [pyxref05_lock.l4] at H
          have HC39 := Aside0.mk H
          clear H
          go_upto_region 19 with (fail)
          go_cut [75] (fun v75 wc => ∃ (kq : Nat) (x75_38 : Bool), v75 = .bool x75_38 ∧ Aside0 (pyxref05_lock.j5 kq l0 l1 x7_2 x9_2 x10_3 x13_4 x14_4 x75_38 = some r) ∧ Aside0 (kq ≤ k4) ∧ Aside0 (Kd.R (Kd.int .u8) 5 wc w.heap.size (fun k_ => some k_ ≠ ((.slice Ao38 x10_3.length co38) : Value).ownBlock ∧ some k_ ≠ (v160 : Value).ownBlock) v145 x7_2) ∧ Aside0 (Kd.R (Kd.int .u8) 5 wc w.heap.size (fun k_ => some k_ ≠ (v145 : Value).ownBlock ∧ some k_ ≠ (v160 : Value).ownBlock) (.slice Ao38 x10_3.length co38) x10_3) ∧ Aside0 (Kd.R (Kd.int .u8) 5 wc w.heap.size (fun k_ => some k_ ≠ (v145 : Value).ownBlock ∧ some k_ ≠ ((.slice Ao38 x10_3.length co38) : Value).ownBlock) v160 x13_4) ∧ Aside0 (Below w.heap.size w wc))
          case first =>
            have H := HC39.out
            clear HC39
            by_cases c40 : x14_4 < 4
            rotate_left
            · rw [if_neg c40] at H
              have c40b0 : decide (x14_4 < 4) = false := decide_eq_false c40
              clear c40
              (skip)
              have H' := Aside0.mk H
              clear H
              go_wp2
              go_meet
              case rel => exact ⟨_, (false), (by first | rfl), H', ⟨by have := HK1.out; have := HK2.out; have := HK3.out; have := HK4.out; first | omega⟩, ⟨by (with_reducible repeat (fail)); exact HO_7.out⟩, ⟨by (with_reducible repeat (fail)); exact HO_10.out⟩, ⟨by (with_reducible repeat (fail)); exact HO_13.out⟩, ⟨by repeat ((with_reducible first | exact HB.out))⟩⟩
            rw [if_pos c40] at H
            have c40b0 : decide (x14_4 < 4) = true := decide_eq_true c40
            clear c40
            (skip)
            have H' := Aside0.mk H
            clear H
            go_wp2
            go_meet
            case rel => exact ⟨_, (decide (x9_2 < 10)), (by first | rfl), H', ⟨by have := HK1.out; have := HK2.out; have := HK3.out; have := HK4.out; first | omega⟩, ⟨by (with_reducible repeat (fail)); exact HO_7.out⟩, ⟨by (with_reducible repeat (fail)); exact HO_10.out⟩, ⟨by (with_reducible repeat (fail)); exact HO_13.out⟩, ⟨by repeat ((with_reducible first | exact HB.out))⟩⟩
          clear HC39
          skip
          skip
          skip
          skip
          skip
          skip
          skip
          skip
          skip
          skip
          skip
          skip
          skip
          skip
          skip
          skip
          skip
          skip
          skip
          skip
          skip
          skip
          skip
          skip
          skip
          skip
          skip
          skip
          skip
          skip
          skip
          skip
          skip
          skip
          skip
          skip
          skip
          skip
          skip
          skip
          skip
          skip
          skip
          skip
          skip
          skip
          skip
          skip
          skip
          skip
          skip
          skip
          skip
          skip
          skip
          skip
          skip
          skip
          skip
          skip
          skip
          skip
          skip
          skip
          skip
          skip
          skip
          skip
          skip
          skip
          skip
          skip
          skip
          skip
          skip
          skip
          skip
          skip
          skip
          skip
          skip
          skip
          skip
          skip
          skip
          skip
          skip
          skip
          skip
          skip
          skip
          skip
          obtain ⟨kq, x75_38, rfl, HA, HJ38, HO_7, HO_10, HO_13, HB⟩ := hcut
          cases kq with
          | zero => exact absurd HA.out (by simp [pyxref05_lock.j5])
          | succ kj38 =>
            have H := HA.out
            clear HA
            simp only [pyxref05_lock.j5] at H
            by_cases c41 : x75_38 = true
            rotate_left
            · replace c41 := Bool.eq_false_iff.mpr c41
              subst c41
              have H1 : (pyxref05_lock.l6 kj38 l0 l1 x7_2 x9_2 x13_4 0) = some r := by rw [if_neg (show ¬ (false = true) by decide)] at H; exact H
              clear H
              have H := H1
              clear H1
              have H' := Aside0.mk H
              clear H
              go_wp2
              go_loopg [16] kj38 (fun kq v16 w' => ∃ (x7_6 : List Int) (x16_6 : Int), v16 = .int .i64 x16_6 ∧ Aside0 (pyxref05_lock.l6 kq l0 l1 x7_6 x9_2 x13_4 x16_6 = some r) ∧ Aside0 (kq ≤ kj38) ∧ Aside0 (Kd.R (Kd.int .u8) 5 w' w.heap.size (fun k_ => some k_ ≠ (v160 : Value).ownBlock) v145 x7_6) ∧ Aside0 (Kd.R (Kd.int .u8) 5 w' w.heap.size (fun k_ => some k_ ≠ (v145 : Value).ownBlock) v160 x13_4) ∧ Aside0 (Below w.heap.size w w'))
              case atStart => exact ⟨(x7_2), (0), (by first | rfl), H', ⟨Nat.le_refl _⟩, ⟨by (with_reducible repeat (fail)); exact Kd.R_mono HO_7.out (fun _ hk => hk.2)⟩, ⟨by (with_reducible repeat (fail)); exact Kd.R_mono HO_13.out (fun _ hk => hk.1)⟩, ⟨by repeat ((with_reducible first | exact HB.out))⟩⟩
              clear H'
              skip
              skip
              skip
              skip
              skip
              skip
              skip
              skip
              skip
              skip
              skip
              skip
              skip
              skip
              skip
              skip
              skip
              skip
              skip
              skip
              skip
              skip
              skip
              skip
              skip
              skip
              skip
              skip
              skip
              skip
              skip
              skip
              skip
              skip
              skip
              skip
              skip
              skip
              skip
              skip
              skip
              skip
              skip
              skip
              skip
              skip
              skip
              skip
              skip
              skip
              skip
              skip
              skip
              skip
              skip
              skip
              skip
              skip
              skip
              skip
              skip
              skip
              skip
              skip
              skip
              skip
              skip
              skip
              skip
              skip
              skip
              skip
              skip
              skip
              skip
              skip
              skip
              skip
              skip
              skip
              skip
              skip
              skip
              skip
              skip
              skip
              skip
              skip
              skip
              skip
              skip
              skip
              skip
              skip
              skip
              skip
              skip
              skip
              skip
              skip
              skip
              skip
              skip
              skip
              skip
              skip
              skip
              skip
              skip
              skip
              skip
              skip
              skip
              skip
              skip
              obtain ⟨x7_6, x16_6, rfl, HA, HK6, HO_7, HO_13, HB⟩ := hrel
              cases gk with
              | zero => exact absurd HA.out (by simp [pyxref05_lock.l6])
              | succ k6 =>
                have H := HA.out
                clear HA
                simp only [pyxref05_lock.l6] at H
                by_cases c61 : x16_6 < 16
                rotate_left
                · rw [if_neg c61] at H
                  have c61b0 : decide (x16_6 < 16) = false := decide_eq_false c61
                  clear c61
                  have H' := Aside0.mk H
                  clear H
                  go_wp2
                  go_roundg k6
                  case measure => have := HK1.out; have := HK2.out; have := HK3.out; have := HK4.out; have := HJ38.out; have := HK6.out; omega
                  case rel => exact ⟨(x7_6), (wrap64 (x9_2 + 1)), (by first | rfl), H', ⟨by have := HK1.out; have := HK2.out; have := HK3.out; have := HK4.out; have := HJ38.out; have := HK6.out; omega⟩, ⟨by (with_reducible repeat (fail)); exact Kd.R_mono HO_7.out (fun _ hk => trivial)⟩, ⟨by repeat ((with_reducible first | exact HB.out))⟩⟩
                rw [if_pos c61] at H
                have c61b0 : decide (x16_6 < 16) = true := decide_eq_true c61
                clear c61
                by_cases c62 : 0 ≤ x16_6
                rotate_left
                · rw [if_neg c62] at H
                  exact absurd H (by simp)
                rw [if_pos c62] at H
                have c62b0 : decide (0 ≤ x16_6) = true := decide_eq_true c62
                clear c62
                by_cases c63 : x16_6 < (x13_4.length : Int)
                rotate_left
                · rw [if_neg c63] at H
                  exact absurd H (by simp)
                rw [if_pos c63] at H
                have c63b0 : decide (x16_6 < (x13_4.length : Int)) = true := decide_eq_true c63
                clear c63
                obtain ⟨ji64, hji64⟩ : ∃ j_ : Int, (wrap64 ((wrap64 (16 * x9_2)) + x16_6)) = j_ := ⟨_, rfl⟩
                replace H : (if 0 ≤ (ji64) then (if (ji64) < (l0.length : Int) then (if x16_6 < (x7_6.length : Int) then (pyxref05_lock.l6 k6 l0 l1 (x7_6.set (x16_6 : Int).toNat (Go.bits .xor .u8 (rd x13_4 x16_6) (rd l0 (ji64)))) x9_2 x13_4 (wrap64 (x16_6 + 1))) else (none)) else (none)) else (none)) = some r := by first | (rw [hji64] at H; exact H)
                have hji64w : (IntKind.i64.wrap ((wrap64 (16 * x9_2)) + x16_6)) = ji64 := (i64_w _).trans hji64
                by_cases c65 : 0 ≤ (ji64)
                rotate_left
                · rw [if_neg c65] at H
                  exact absurd H (by simp)
                rw [if_pos c65] at H
                have c65b0 : decide (0 ≤ (ji64)) = true := decide_eq_true c65
                clear c65
                by_cases c66 : (ji64) < (l0.length : Int)
                rotate_left
                · rw [if_neg c66] at H
                  exact absurd H (by simp)
                rw [if_pos c66] at H
                have c66b0 : decide ((ji64) < (l0.length : Int)) = true := decide_eq_true c66
                clear c66
                by_cases c67 : x16_6 < (x7_6.length : Int)
                rotate_left
                · rw [if_neg c67] at H
                  exact absurd H (by simp)
                rw [if_pos c67] at H
                have c67b0 : decide (x16_6 < (x7_6.length : Int)) = true := decide_eq_true c67
                clear c67
                obtain ⟨y171, hy171⟩ : ∃ y_ : List Int, y_ = (x7_6.set (x16_6 : Int).toNat (Go.bits .xor .u8 (rd x13_4 x16_6) (rd l0 (ji64)))) := ⟨_, rfl⟩
                replace H : (pyxref05_lock.l6 k6 l0 l1 y171 x9_2 x13_4 (wrap64 (x16_6 + 1))) = some r := by first | (rw [hy171]; with_reducible exact H)
                have Ny171 := Aside0.mk hy171
                clear hy171
                have H' := Aside0.mk H
                clear H
                try go_wp2
                have n0_ := Aside0.mk (Kd.R_drew HO_7.out)
                have n1_ := Aside0.mk (Kd.R_drew HO_13.out)
                have n2_ := Aside0.mk (below_drew1 HB.out)
                clear HO_7
                clear HO_13
                clear HB
                have HO_7 := n0_
                have HO_13 := n1_
                have HB := n2_
                clear n0_ n1_ n2_
                obtain ⟨Ao70, co70, eo70⟩ := Kd.R_slice HO_13.out
                (subst eo70)
                have p169 : 0 ≤ (x16_6 : Int) := of_decide_eq_true (by first | (with_reducible assumption))
                have q169 : x16_6 < (x13_4.length : Int) := of_decide_eq_true (by first | (with_reducible assumption))
                obtain ⟨ad169, e169, hx169_0⟩ := Kd.at_int (Kd.R_reads' HO_13.out).2.2 x16_6 p169 q169
                cases e169
                replace p169 := eq_true p169
                replace q169 := eq_true q169
                have p170 : 0 ≤ ((ji64) : Int) := of_decide_eq_true (by first | (with_reducible assumption))
                have q170 : (ji64) < (l0.length : Int) := of_decide_eq_true (by first | (with_reducible assumption))
                obtain ⟨ad170, e170, hx170_0⟩ := Kd.at_int HR0.out (ji64) p170 q170
                have hw170_0 := hx170_0
                cases e170
                replace hx170_0 := (HB.out.cell (World.block_lt_of_cell? w _ hx170_0)).trans hx170_0
                replace p170 := eq_true p170
                replace q170 := eq_true q170
                have p68 : 0 ≤ (x16_6 : Int) := of_decide_eq_true (by first | (with_reducible assumption))
                have q68 : (x16_6 : Int) < ((x7_6.length : Int) : Int) := of_decide_eq_true (by first | (with_reducible assumption))
                obtain ⟨go68, co68, eo68, gb68, gl68, cl68, HG68⟩ := Kd.R_form HO_7.out (by omega)
                (cases eo68)
                have GB68 := Aside0.mk gb68
                have GG68 := Aside0.mk HG68
                clear gb68 gl68 HG68
                obtain ⟨hx68_0, hf68_0⟩ := Kd.R_celln 0 HO_7.out (x16_6 : Int) p68 q68
                replace p68 := eq_true p68
                replace q68 := eq_true q68
                have HP71 := Kd.R_putn HO_7.out (x16_6 : Int) (Go.bits .xor .u8 (rd x13_4 x16_6) (rd l0 (ji64)))
                rw [← Ny171.out] at HP71
                have HQ71 := Aside0.mk HP71
                clear HP71
                refine start_ (n := 16) (S := fun w' => w'.cell? (ad169.add (x16_6).toNat) = some (.int .u8 (rd x13_4 x16_6)) ∧ w'.cell? (ad170.add ((ji64)).toNat) = some (.int .u8 (rd l0 (ji64)))) (ds := [15]) #[false, false, false, false, false, false, false, false, false, false, false, false, false, false, false, false] (by kernel_rfl) rfl rfl ⟨hx169_0, ((HB.out.cell (World.block_lt_of_cell? w _ hw170_0)).trans hw170_0)⟩ (fun hHeld => ?_); refine with_tabW pyxref05_lock.tab28 pyxref05_lock.bits28 (fun HT_ HW_ => ?_)
                generalize wr.drew = w69 at HO_7 HO_13 HB GG68 HQ71 hf68_0 hx169_0 hx170_0 hx68_0 hHeld ⊢
                refine pure_ (i := 0) (N := some 131) (v := ?_) (a' := ?_) #[true, false, false, false, false, false, false, false, false, false, false, false, false, false, false, false] rfl rfl (any_of HT_.out (by kernel_rfl)) (fun _ _ _ h => h) (Or.inl ⟨by rfl, ?_⟩) ?_ ?_
                rotate_left
                · intro w'
                  go_simp
                  with_reducible rfl
                rotate_left
                · simp only [Act.put, List.setIfInBounds_toArray, List.set_cons_zero, List.set_cons_succ, i64_w, i32_w]
                  rfl
                refine pure_ (i := 1) (N := some 132) (v := ?_) (a' := ?_) #[true, true, false, false, false, false, false, false, false, false, false, false, false, false, false, false] rfl rfl (any_of HT_.out (by kernel_rfl)) (fun _ _ _ h => h) (Or.inl ⟨by rfl, ?_⟩) ?_ ?_
                rotate_left
                · intro w'
                  go_simp
                  with_reducible rfl
                rotate_left
                · simp only [Act.put, List.setIfInBounds_toArray, List.set_cons_zero, List.set_cons_succ, i64_w, i32_w]
                  rfl
                refine pure_ (i := 2) (N := some 133) (v := ?_) (a' := ?_) #[true, true, true, false, false, false, false, false, false, false, false, false, false, false, false, false] rfl rfl (any_of HT_.out (by kernel_rfl)) (fun _ _ _ h => h) (Or.inl ⟨by rfl, ?_⟩) ?_ ?_
                rotate_left
                · intro w'
                  go_simp
                  with_reducible rfl
                rotate_left
                · simp only [Act.put, List.setIfInBounds_toArray, List.set_cons_zero, List.set_cons_succ, i64_w, i32_w]
                  rfl
                refine pure_ (i := 3) (N := some 134) (v := ?_) (a' := ?_) #[true, true, true, true, false, false, false, false, false, false, false, false, false, false, false, false] rfl rfl (any_of HT_.out (by kernel_rfl)) (fun _ _ _ h => h) (Or.inl ⟨by rfl, ?_⟩) ?_ ?_
                rotate_left
                · intro w'
                  go_simp
                  with_reducible rfl
                rotate_left
                · simp only [Act.put, List.setIfInBounds_toArray, List.set_cons_zero, List.set_cons_succ, i64_w, i32_w]
                  rfl
                refine pure_ (i := 4) (N := some 135) (v := ?_) (a' := ?_) #[true, true, true, true, true, false, false, false, false, false, false, false, false, false, false, false] rfl rfl (any_of HT_.out (by kernel_rfl)) (fun _ _ _ h => h) (Or.inl ⟨by rfl, ?_⟩) ?_ ?_
                rotate_left
                · intro w'
                  go_simp
                  with_reducible rfl
                rotate_left
                · simp only [Act.put, List.setIfInBounds_toArray, List.set_cons_zero, List.set_cons_succ, i64_w, i32_w]
                  rfl
                refine pure_ (i := 6) (N := some 137) (v := ?_) (a' := ?_) #[true, true, true, true, true, false, true, false, false, false, false, false, false, false, false, false] rfl rfl (any_of HT_.out (by kernel_rfl)) (fun _ _ _ h => h) (Or.inl ⟨by rfl, ?_⟩) ?_ ?_
                rotate_left
                · intro w'
                  go_simp
                  with_reducible rfl
                rotate_left
                · simp only [Act.put, List.setIfInBounds_toArray, List.set_cons_zero, List.set_cons_succ, i64_w, i32_w]
                  rfl
                refine pure_ (i := 7) (N := some 138) (v := ?_) (a' := ?_) #[true, true, true, true, true, false, true, true, false, false, false, false, false, false, false, false] rfl rfl (any_of HT_.out (by kernel_rfl)) (fun _ _ _ h => h) (Or.inl ⟨by rfl, ?_⟩) ?_ ?_
                rotate_left
                · intro w'
                  go_simp
                  with_reducible rfl
                rotate_left
                · simp only [Act.put, List.setIfInBounds_toArray, List.set_cons_zero, List.set_cons_succ, i64_w, i32_w]
                  rfl
                refine pure_ (i := 8) (N := some 139) (v := ?_) (a' := ?_) #[true, true, true, true, true, false, true, true, true, false, false, false, false, false, false, false] rfl rfl (any_of HT_.out (by kernel_rfl)) (fun _ _ _ h => h) (Or.inl ⟨by rfl, ?_⟩) ?_ ?_
                rotate_left
                · intro w'
                  go_simp
                  with_reducible rfl
                rotate_left
                · simp only [Act.put, List.setIfInBounds_toArray, List.set_cons_zero, List.set_cons_succ, i64_w, i32_w]
                  rfl
                refine pure_ (i := 9) (N := some 140) (v := ?_) (a' := ?_) #[true, true, true, true, true, false, true, true, true, true, false, false, false, false, false, false] rfl rfl (any_of HT_.out (by kernel_rfl)) (fun _ _ _ h => h) (Or.inl ⟨by rfl, ?_⟩) ?_ ?_
                rotate_left
                · intro w'
                  go_simp
                  with_reducible rfl
                rotate_left
                · simp only [Act.put, List.setIfInBounds_toArray, List.set_cons_zero, List.set_cons_succ, i64_w, i32_w]
                  rfl
                refine pure_ (i := 10) (N := some 141) (v := ?_) (a' := ?_) #[true, true, true, true, true, false, true, true, true, true, true, false, false, false, false, false] rfl rfl (any_of HT_.out (by kernel_rfl)) (fun _ _ _ h => h) (Or.inl ⟨by rfl, ?_⟩) ?_ ?_
                rotate_left
                · intro w'
                  go_simp
                  with_reducible rfl
                rotate_left
                · simp only [Act.put, List.setIfInBounds_toArray, List.set_cons_zero, List.set_cons_succ, i64_w, i32_w]
                  rfl
                refine pure_ (i := 11) (N := some 142) (v := ?_) (a' := ?_) #[true, true, true, true, true, false, true, true, true, true, true, true, false, false, false, false] rfl rfl (any_of HT_.out (by kernel_rfl)) (fun _ _ _ h => h) (Or.inl ⟨by rfl, ?_⟩) ?_ ?_
                rotate_left
                · intro w'
                  go_simp
                  with_reducible rfl
                rotate_left
                · simp only [Act.put, List.setIfInBounds_toArray, List.set_cons_zero, List.set_cons_succ, i64_w, i32_w]
                  rfl
                refine take_ (i := 5) (N := some 136) (v := ?_) (a' := ?_) #[true, true, true, true, true, true, true, true, true, true, true, true, false, false, false, false] rfl rfl (take_ofW HT_.out HW_.out (by kernel_rfl)) (fun _ _ _ h => h) (Or.inl ⟨by rfl, ?_⟩) hHeld ?_ ?_
                rotate_left
                · rintro w' ⟨s0, s1⟩
                  go_simp
                  with_reducible rfl
                rotate_left
                · simp only [Act.put, List.setIfInBounds_toArray, List.set_cons_zero, List.set_cons_succ, i64_w, i32_w]
                  rfl
                refine take_ (i := 12) (N := some 143) (v := ?_) (a' := ?_) #[true, true, true, true, true, true, true, true, true, true, true, true, true, false, false, false] rfl rfl (take_ofW HT_.out HW_.out (by kernel_rfl)) (fun _ _ _ h => h) (Or.inl ⟨by rfl, ?_⟩) hHeld ?_ ?_
                rotate_left
                · rintro w' ⟨s0, s1⟩
                  go_simp
                  with_reducible rfl
                rotate_left
                · simp only [Act.put, List.setIfInBounds_toArray, List.set_cons_zero, List.set_cons_succ, i64_w, i32_w]
                  rfl
                refine pure_ (i := 13) (N := some 144) (v := ?_) (a' := ?_) #[true, true, true, true, true, true, true, true, true, true, true, true, true, true, false, false] rfl rfl (any_of HT_.out (by kernel_rfl)) (fun _ _ _ h => h) (Or.inl ⟨by rfl, ?_⟩) ?_ ?_
                rotate_left
                · intro w'
                  go_simp
                  with_reducible rfl
                rotate_left
                · simp only [Act.put, List.setIfInBounds_toArray, List.set_cons_zero, List.set_cons_succ, i64_w, i32_w]
                  rfl
                refine pure_ (i := 14) (N := some 145) (v := ?_) (a' := ?_) #[true, true, true, true, true, true, true, true, true, true, true, true, true, true, true, false] rfl rfl (any_of HT_.out (by kernel_rfl)) (fun _ _ _ h => h) (Or.inl ⟨by rfl, ?_⟩) ?_ ?_
                rotate_left
                · intro w'
                  go_simp
                  with_reducible rfl
                rotate_left
                · simp only [Act.put, List.setIfInBounds_toArray, List.set_cons_zero, List.set_cons_succ, i64_w, i32_w]
                  rfl
                refine last_ (i := 15) (N := none) #[true, true, true, true, true, true, true, true, true, true, true, true, true, true, true, true] rfl rfl (one_of HT_.out (by kernel_rfl)) (by decide) (fun K hK => ?_)
                refine skip_ (w1 := ?_) (by rfl) rfl ?_ ?_
                rotate_left
                · go_simp
                  rfl
                refine hK.out _ _ ?_
                clear hK K
                refine done_ (done_of HT_.out (by kernel_rfl)) ?_
                try go_wp2
                go_roundg k6
                case measure => have := HK1.out; have := HK2.out; have := HK3.out; have := HK4.out; have := HJ38.out; have := HK6.out; omega
                case rel => exact ⟨(y171), (wrap64 (x16_6 + 1)), (by first | rfl), H', ⟨by have := HK1.out; have := HK2.out; have := HK3.out; have := HK4.out; have := HJ38.out; have := HK6.out; omega⟩, ⟨by (with_reducible repeat (fail)); exact HQ71.out⟩, ⟨by (with_reducible repeat (fail)); exact Kd.R_mono (Kd.R_far (p := ⟨go68, (x16_6 : Int).toNat, none⟩) (Kd.R_mono HO_13.out (fun k_ hk => (⟨hk, fun e_ => hk (by rw [e_]; rfl)⟩ : _ ∧ k_ ≠ go68))) (fun _ hk => hk.2) (.int .u8 (Go.bits .xor .u8 (rd x13_4 x16_6) (rd l0 (ji64))))) (fun _ hk => hk.1)⟩, ⟨by repeat ((with_reducible first | exact HB.out | refine below_set ?_ GB68.out))⟩⟩
            subst c41
            have H1 : (pyxref05_lock.l5 kj38 l0 l1 x7_2 x9_2 x10_3 x13_4 x14_4 0) = some r := by rw [if_pos rfl] at H; exact H
            clear H
            have H := H1
            clear H1
            have H' := Aside0.mk H
            clear H
            go_wp2
            go_loopg [15] kj38 (fun kq v15 w' => ∃ (x13_6 : List Int) (x15_6 : Int), v15 = .int .i64 x15_6 ∧ Aside0 (pyxref05_lock.l5 kq l0 l1 x7_2 x9_2 x10_3 x13_6 x14_4 x15_6 = some r) ∧ Aside0 (kq ≤ kj38) ∧ Aside0 (Kd.R (Kd.int .u8) 5 w' w.heap.size (fun k_ => some k_ ≠ ((.slice Ao38 x10_3.length co38) : Value).ownBlock ∧ some k_ ≠ (v160 : Value).ownBlock) v145 x7_2) ∧ Aside0 (Kd.R (Kd.int .u8) 5 w' w.heap.size (fun k_ => some k_ ≠ (v145 : Value).ownBlock ∧ some k_ ≠ (v160 : Value).ownBlock) (.slice Ao38 x10_3.length co38) x10_3) ∧ Aside0 (Kd.R (Kd.int .u8) 5 w' w.heap.size (fun k_ => some k_ ≠ (v145 : Value).ownBlock ∧ some k_ ≠ ((.slice Ao38 x10_3.length co38) : Value).ownBlock) v160 x13_6) ∧ Aside0 (Below w.heap.size w w'))
            case atStart => exact ⟨(x13_4), (0), (by first | rfl), H', ⟨Nat.le_refl _⟩, ⟨by (with_reducible repeat (fail)); exact HO_7.out⟩, ⟨by (with_reducible repeat (fail)); exact HO_10.out⟩, ⟨by (with_reducible repeat (fail)); exact HO_13.out⟩, ⟨by repeat ((with_reducible first | exact HB.out))⟩⟩
            clear H'
            skip
            skip
            skip
            skip
            skip
            skip
            skip
            skip
            skip
            skip
            skip
            skip
            skip
            skip
            skip
            skip
            skip
            skip
            skip
            skip
            skip
            skip
            skip
            skip
            skip
            skip
            skip
            skip
            skip
            skip
            skip
            skip
            skip
            skip
            skip
            skip
            skip
            skip
            skip
            skip
            skip
            skip
            skip
            skip
            skip
            skip
            skip
            skip
            skip
            skip
            skip
            skip
            skip
            skip
            skip
            skip
            skip
            skip
            skip
            skip
            skip
            skip
            skip
            skip
            skip
            skip
            skip
            skip
            skip
            skip
            skip
            skip
            skip
            skip
            skip
            skip
            skip
            skip
            skip
            skip
            skip
            skip
            skip
            skip
            skip
            skip
            skip
            skip
            skip
            skip
            skip
            skip
            skip
            obtain ⟨x13_6, x15_6, rfl, HA, HK6, HO_7, HO_10, HO_13, HB⟩ := hrel
            cases gk with
            | zero => exact absurd HA.out (by simp [pyxref05_lock.l5])
            | succ k6 =>
              have H := HA.out
              clear HA
              simp only [pyxref05_lock.l5] at H
              by_cases c42 : x15_6 < 4
              rotate_left
              · rw [if_neg c42] at H
                have c42b0 : decide (x15_6 < 4) = false := decide_eq_false c42
                clear c42
                have H' := Aside0.mk H
                clear H
                go_wp2
                go_roundg k6
                case measure => have := HK1.out; have := HK2.out; have := HK3.out; have := HK4.out; have := HJ38.out; have := HK6.out; omega
                case rel => exact ⟨(x13_6), (wrap64 (x14_4 + 1)), (by first | rfl), H', ⟨by have := HK1.out; have := HK2.out; have := HK3.out; have := HK4.out; have := HJ38.out; have := HK6.out; omega⟩, ⟨by (with_reducible repeat (fail)); exact HO_7.out⟩, ⟨by (with_reducible repeat (fail)); exact HO_10.out⟩, ⟨by (with_reducible repeat (fail)); exact HO_13.out⟩, ⟨by repeat ((with_reducible first | exact HB.out))⟩⟩
              rw [if_pos c42] at H
              have c42b0 : decide (x15_6 < 4) = true := decide_eq_true c42
              clear c42
              obtain ⟨ji43, hji43⟩ : ∃ j_ : Int, (wrap64 ((wrap64 (4 * x14_4)) + x15_6)) = j_ := ⟨_, rfl⟩
              replace H : (if 0 ≤ (ji43) then (if (ji43) < (x10_3.length : Int) then ((pyxref05_Mul.f k6 (rd x10_3 (ji43)) 2).bind fun t163 => (if 0 ≤ (wrap64 ((wrap64 (4 * x14_4)) + (Int.tmod (wrap64 (x15_6 + 1)) 4))) then (if (wrap64 ((wrap64 (4 * x14_4)) + (Int.tmod (wrap64 (x15_6 + 1)) 4))) < (x10_3.length : Int) then ((pyxref05_Mul.f k6 (rd x10_3 (wrap64 ((wrap64 (4 * x14_4)) + (Int.tmod (wrap64 (x15_6 + 1)) 4)))) 3).bind fun t165 => (if 0 ≤ (wrap64 ((wrap64 (4 * x14_4)) + (Int.tmod (wrap64 (x15_6 + 2)) 4))) then (if (wrap64 ((wrap64 (4 * x14_4)) + (Int.tmod (wrap64 (x15_6 + 2)) 4))) < (x10_3.length : Int) then (if 0 ≤ (wrap64 ((wrap64 (4 * x14_4)) + (Int.tmod (wrap64 (x15_6 + 3)) 4))) then (if (wrap64 ((wrap64 (4 * x14_4)) + (Int.tmod (wrap64 (x15_6 + 3)) 4))) < (x10_3.length : Int) then (if (ji43) < (x13_6.length : Int) then (pyxref05_lock.l5 k6 l0 l1 x7_2 x9_2 x10_3 (x13_6.set ((ji43) : Int).toNat (Go.bits .xor .u8 (Go.bits .xor .u8 (Go.bits .xor .u8 t163 t165) (rd x10_3 (wrap64 ((wrap64 (4 * x14_4)) + (Int.tmod (wrap64 (x15_6 + 2)) 4))))) (rd x10_3 (wrap64 ((wrap64 (4 * x14_4)) + (Int.tmod (wrap64 (x15_6 + 3)) 4)))))) x14_4 (wrap64 (x15_6 + 1))) else (none)) else (none)) else (none)) else (none)) else (none))) else (none)) else (none))) else (none)) else (none)) = some r := by first | (rw [hji43] at H; exact H)
              have hji43w : (IntKind.i64.wrap ((wrap64 (4 * x14_4)) + x15_6)) = ji43 := (i64_w _).trans hji43
              by_cases c44 : 0 ≤ (ji43)
              rotate_left
              · rw [if_neg c44] at H
                exact absurd H (by simp)
              rw [if_pos c44] at H
              have c44b0 : decide (0 ≤ (ji43)) = true := decide_eq_true c44
              clear c44
              by_cases c45 : (ji43) < (x10_3.length : Int)
              rotate_left
              · rw [if_neg c45] at H
                exact absurd H (by simp)
              rw [if_pos c45] at H
              have c45b0 : decide ((ji43) < (x10_3.length : Int)) = true := decide_eq_true c45
              clear c45
              replace H := Option.bind_eq_some_iff.mp H
              obtain ⟨t163, A460, H⟩ := H
              replace H : (if 0 ≤ (wrap64 ((wrap64 (4 * x14_4)) + (Int.tmod (wrap64 (x15_6 + 1)) 4))) then (if (wrap64 ((wrap64 (4 * x14_4)) + (Int.tmod (wrap64 (x15_6 + 1)) 4))) < (x10_3.length : Int) then ((pyxref05_Mul.f k6 (rd x10_3 (wrap64 ((wrap64 (4 * x14_4)) + (Int.tmod (wrap64 (x15_6 + 1)) 4)))) 3).bind fun t165 => (if 0 ≤ (wrap64 ((wrap64 (4 * x14_4)) + (Int.tmod (wrap64 (x15_6 + 2)) 4))) then (if (wrap64 ((wrap64 (4 * x14_4)) + (Int.tmod (wrap64 (x15_6 + 2)) 4))) < (x10_3.length : Int) then (if 0 ≤ (wrap64 ((wrap64 (4 * x14_4)) + (Int.tmod (wrap64 (x15_6 + 3)) 4))) then (if (wrap64 ((wrap64 (4 * x14_4)) + (Int.tmod (wrap64 (x15_6 + 3)) 4))) < (x10_3.length : Int) then (if (ji43) < (x13_6.length : Int) then (pyxref05_lock.l5 k6 l0 l1 x7_2 x9_2 x10_3 (x13_6.set ((ji43) : Int).toNat (Go.bits .xor .u8 (Go.bits .xor .u8 (Go.bits .xor .u8 t163 t165) (rd x10_3 (wrap64 ((wrap64 (4 * x14_4)) + (Int.tmod (wrap64 (x15_6 + 2)) 4))))) (rd x10_3 (wrap64 ((wrap64 (4 * x14_4)) + (Int.tmod (wrap64 (x15_6 + 3)) 4)))))) x14_4 (wrap64 (x15_6 + 1))) else (none)) else (none)) else (none)) else (none)) else (none))) else (none)) else (none)) = some r := H
              have A46 := Aside0.mk A460
              clear A460
              obtain ⟨ji47, hji47⟩ : ∃ j_ : Int, (wrap64 ((wrap64 (4 * x14_4)) + (Int.tmod (wrap64 (x15_6 + 1)) 4))) = j_ := ⟨_, rfl⟩
              replace H : (if 0 ≤ (ji47) then (if (ji47) < (x10_3.length : Int) then ((pyxref05_Mul.f k6 (rd x10_3 (ji47)) 3).bind fun t165 => (if 0 ≤ (wrap64 ((wrap64 (4 * x14_4)) + (Int.tmod (wrap64 (x15_6 + 2)) 4))) then (if (wrap64 ((wrap64 (4 * x14_4)) + (Int.tmod (wrap64 (x15_6 + 2)) 4))) < (x10_3.length : Int) then (if 0 ≤ (wrap64 ((wrap64 (4 * x14_4)) + (Int.tmod (wrap64 (x15_6 + 3)) 4))) then (if (wrap64 ((wrap64 (4 * x14_4)) + (Int.tmod (wrap64 (x15_6 + 3)) 4))) < (x10_3.length : Int) then (if (ji43) < (x13_6.length : Int) then (pyxref05_lock.l5 k6 l0 l1 x7_2 x9_2 x10_3 (x13_6.set ((ji43) : Int).toNat (Go.bits .xor .u8 (Go.bits .xor .u8 (Go.bits .xor .u8 t163 t165) (rd x10_3 (wrap64 ((wrap64 (4 * x14_4)) + (Int.tmod (wrap64 (x15_6 + 2)) 4))))) (rd x10_3 (wrap64 ((wrap64 (4 * x14_4)) + (Int.tmod (wrap64 (x15_6 + 3)) 4)))))) x14_4 (wrap64 (x15_6 + 1))) else (none)) else (none)) else (none)) else (none)) else (none))) else (none)) else (none)) = some r := by first | (rw [hji47] at H; exact H)
              (skip)
              have hji47w : (IntKind.i64.wrap ((wrap64 (4 * x14_4)) + (Int.tmod (wrap64 (x15_6 + 1)) 4))) = ji47 := (i64_w _).trans hji47
              by_cases c48 : 0 ≤ (ji47)
              rotate_left
              · rw [if_neg c48] at H
                exact absurd H (by simp)
              rw [if_pos c48] at H
              have c48b0 : decide (0 ≤ (ji47)) = true := decide_eq_true c48
              clear c48
              by_cases c49 : (ji47) < (x10_3.length : Int)
              rotate_left
              · rw [if_neg c49] at H
                exact absurd H (by simp)
              rw [if_pos c49] at H
              have c49b0 : decide ((ji47) < (x10_3.length : Int)) = true := decide_eq_true c49
              clear c49
              replace H := Option.bind_eq_some_iff.mp H
              obtain ⟨t165, A500, H⟩ := H
              replace H : (if 0 ≤ (wrap64 ((wrap64 (4 * x14_4)) + (Int.tmod (wrap64 (x15_6 + 2)) 4))) then (if (wrap64 ((wrap64 (4 * x14_4)) + (Int.tmod (wrap64 (x15_6 + 2)) 4))) < (x10_3.length : Int) then (if 0 ≤ (wrap64 ((wrap64 (4 * x14_4)) + (Int.tmod (wrap64 (x15_6 + 3)) 4))) then (if (wrap64 ((wrap64 (4 * x14_4)) + (Int.tmod (wrap64 (x15_6 + 3)) 4))) < (x10_3.length : Int) then (if (ji43) < (x13_6.length : Int) then (pyxref05_lock.l5 k6 l0 l1 x7_2 x9_2 x10_3 (x13_6.set ((ji43) : Int).toNat (Go.bits .xor .u8 (Go.bits .xor .u8 (Go.bits .xor .u8 t163 t165) (rd x10_3 (wrap64 ((wrap64 (4 * x14_4)) + (Int.tmod (wrap64 (x15_6 + 2)) 4))))) (rd x10_3 (wrap64 ((wrap64 (4 * x14_4)) + (Int.tmod (wrap64 (x15_6 + 3)) 4)))))) x14_4 (wrap64 (x15_6 + 1))) else (none)) else (none)) else (none)) else (none)) else (none)) = some r := H
              have A50 := Aside0.mk A500
              clear A500
              obtain ⟨ji51, hji51⟩ : ∃ j_ : Int, (wrap64 ((wrap64 (4 * x14_4)) + (Int.tmod (wrap64 (x15_6 + 2)) 4))) = j_ := ⟨_, rfl⟩
              replace H : (if 0 ≤ (ji51) then (if (ji51) < (x10_3.length : Int) then (if 0 ≤ (wrap64 ((wrap64 (4 * x14_4)) + (Int.tmod (wrap64 (x15_6 + 3)) 4))) then (if (wrap64 ((wrap64 (4 * x14_4)) + (Int.tmod (wrap64 (x15_6 + 3)) 4))) < (x10_3.length : Int) then (if (ji43) < (x13_6.length : Int) then (pyxref05_lock.l5 k6 l0 l1 x7_2 x9_2 x10_3 (x13_6.set ((ji43) : Int).toNat (Go.bits .xor .u8 (Go.bits .xor .u8 (Go.bits .xor .u8 t163 t165) (rd x10_3 (ji51))) (rd x10_3 (wrap64 ((wrap64 (4 * x14_4)) + (Int.tmod (wrap64 (x15_6 + 3)) 4)))))) x14_4 (wrap64 (x15_6 + 1))) else (none)) else (none)) else (none)) else (none)) else (none)) = some r := by first | (rw [hji51] at H; exact H)
              (skip)
              (skip)
              have hji51w : (IntKind.i64.wrap ((wrap64 (4 * x14_4)) + (Int.tmod (wrap64 (x15_6 + 2)) 4))) = ji51 := (i64_w _).trans hji51
              by_cases c52 : 0 ≤ (ji51)
              rotate_left
              · rw [if_neg c52] at H
                exact absurd H (by simp)
              rw [if_pos c52] at H
              have c52b0 : decide (0 ≤ (ji51)) = true := decide_eq_true c52
              clear c52
              by_cases c53 : (ji51) < (x10_3.length : Int)
              rotate_left
              · rw [if_neg c53] at H
                exact absurd H (by simp)
              rw [if_pos c53] at H
              have c53b0 : decide ((ji51) < (x10_3.length : Int)) = true := decide_eq_true c53
              clear c53
              obtain ⟨ji54, hji54⟩ : ∃ j_ : Int, (wrap64 ((wrap64 (4 * x14_4)) + (Int.tmod (wrap64 (x15_6 + 3)) 4))) = j_ := ⟨_, rfl⟩
              replace H : (if 0 ≤ (ji54) then (if (ji54) < (x10_3.length : Int) then (if (ji43) < (x13_6.length : Int) then (pyxref05_lock.l5 k6 l0 l1 x7_2 x9_2 x10_3 (x13_6.set ((ji43) : Int).toNat (Go.bits .xor .u8 (Go.bits .xor .u8 (Go.bits .xor .u8 t163 t165) (rd x10_3 (ji51))) (rd x10_3 (ji54)))) x14_4 (wrap64 (x15_6 + 1))) else (none)) else (none)) else (none)) = some r := by first | (rw [hji54] at H; exact H)
              (skip)
              (skip)
              have hji54w : (IntKind.i64.wrap ((wrap64 (4 * x14_4)) + (Int.tmod (wrap64 (x15_6 + 3)) 4))) = ji54 := (i64_w _).trans hji54
              by_cases c55 : 0 ≤ (ji54)
              rotate_left
              · rw [if_neg c55] at H
                exact absurd H (by simp)
              rw [if_pos c55] at H
              have c55b0 : decide (0 ≤ (ji54)) = true := decide_eq_true c55
              clear c55
              by_cases c56 : (ji54) < (x10_3.length : Int)
              rotate_left
              · rw [if_neg c56] at H
                exact absurd H (by simp)
              rw [if_pos c56] at H
              have c56b0 : decide ((ji54) < (x10_3.length : Int)) = true := decide_eq_true c56
              clear c56
              by_cases c57 : (ji43) < (x13_6.length : Int)
              rotate_left
              · rw [if_neg c57] at H
                exact absurd H (by simp)
              rw [if_pos c57] at H
              have c57b0 : decide ((ji43) < (x13_6.length : Int)) = true := decide_eq_true c57
              clear c57
              obtain ⟨y168, hy168⟩ : ∃ y_ : List Int, y_ = (x13_6.set ((ji43) : Int).toNat (Go.bits .xor .u8 (Go.bits .xor .u8 (Go.bits .xor .u8 t163 t165) (rd x10_3 (ji51))) (rd x10_3 (ji54)))) := ⟨_, rfl⟩
              replace H : (pyxref05_lock.l5 k6 l0 l1 x7_2 x9_2 x10_3 y168 x14_4 (wrap64 (x15_6 + 1))) = some r := by first | (rw [hy168]; with_reducible exact H)
              have Ny168 := Aside0.mk hy168
              clear hy168
              have H' := Aside0.mk H
              clear H
              try go_wp2
              have n0_ := Aside0.mk (Kd.R_drew HO_7.out)
              have n1_ := Aside0.mk (Kd.R_drew HO_10.out)
              have n2_ := Aside0.mk (Kd.R_drew HO_13.out)
              have n3_ := Aside0.mk (below_drew1 HB.out)
              clear HO_7
              clear HO_10
              clear HO_13
              clear HB
              have HO_7 := n0_
              have HO_10 := n1_
              have HO_13 := n2_
              have HB := n3_
              clear n0_ n1_ n2_ n3_
              have p162 : 0 ≤ ((ji43) : Int) := of_decide_eq_true (by first | (with_reducible assumption))
              have q162 : (ji43) < (x10_3.length : Int) := of_decide_eq_true (by first | (with_reducible assumption))
              obtain ⟨ad162, e162, hx162_0⟩ := Kd.at_int (Kd.R_reads' HO_10.out).2.2 (ji43) p162 q162
              cases e162
              replace p162 := eq_true p162
              replace q162 := eq_true q162
              have p164 : 0 ≤ ((ji47) : Int) := of_decide_eq_true (by first | (with_reducible assumption))
              have q164 : (ji47) < (x10_3.length : Int) := of_decide_eq_true (by first | (with_reducible assumption))
              obtain ⟨ad164, e164, hx164_0⟩ := Kd.at_int (Kd.R_reads' HO_10.out).2.2 (ji47) p164 q164
              obtain rfl : ad162 = ad164 := (by injection e164)
              replace p164 := eq_true p164
              replace q164 := eq_true q164
              have p166 : 0 ≤ ((ji51) : Int) := of_decide_eq_true (by first | (with_reducible assumption))
              have q166 : (ji51) < (x10_3.length : Int) := of_decide_eq_true (by first | (with_reducible assumption))
              obtain ⟨ad166, e166, hx166_0⟩ := Kd.at_int (Kd.R_reads' HO_10.out).2.2 (ji51) p166 q166
              obtain rfl : ad162 = ad166 := (by injection e166)
              replace p166 := eq_true p166
              replace q166 := eq_true q166
              have p167 : 0 ≤ ((ji54) : Int) := of_decide_eq_true (by first | (with_reducible assumption))
              have q167 : (ji54) < (x10_3.length : Int) := of_decide_eq_true (by first | (with_reducible assumption))
              obtain ⟨ad167, e167, hx167_0⟩ := Kd.at_int (Kd.R_reads' HO_10.out).2.2 (ji54) p167 q167
              obtain rfl : ad162 = ad167 := (by injection e167)
              replace p167 := eq_true p167
              replace q167 := eq_true q167
              refine start_ (n := 46) (S := fun w' => w'.cell? (ad162.add ((ji43)).toNat) = some (.int .u8 (rd x10_3 (ji43))) ∧ w'.cell? (ad162.add ((ji47)).toNat) = some (.int .u8 (rd x10_3 (ji47))) ∧ w'.cell? (ad162.add ((ji51)).toNat) = some (.int .u8 (rd x10_3 (ji51))) ∧ w'.cell? (ad162.add ((ji54)).toNat) = some (.int .u8 (rd x10_3 (ji54)))) (ds := [45]) #[false, false, false, false, false, false, false, false, false, false, false, false, false, false, false, false, false, false, false, false, false, false, false, false, false, false, false, false, false, false, false, false, false, false, false, false, false, false, false, false, false, false, false, false, false, false] (by kernel_rfl) rfl rfl ⟨hx162_0, hx164_0, hx166_0, hx167_0⟩ (fun hHeld => ?_); refine with_tabW pyxref05_lock.tab24 pyxref05_lock.bits24 (fun HT_ HW_ => ?_)
              generalize wr.drew = w59 at HO_7 HO_10 HO_13 HB hx162_0 hx164_0 hx166_0 hx167_0 hHeld ⊢
              refine pure_ (i := 0) (N := some 82) (v := ?_) (a' := ?_) #[true, false, false, false, false, false, false, false, false, false, false, false, false, false, false, false, false, false, false, false, false, false, false, false, false, false, false, false, false, false, false, false, false, false, false, false, false, false, false, false, false, false, false, false, false, false] rfl rfl (any_of HT_.out (by kernel_rfl)) (fun _ _ _ h => h) (Or.inl ⟨by rfl, ?_⟩) ?_ ?_
              rotate_left
              · intro w'
                go_simp
                with_reducible rfl
              rotate_left
              · simp only [Act.put, List.setIfInBounds_toArray, List.set_cons_zero, List.set_cons_succ, i64_w, i32_w]
                rfl
              refine pure_ (i := 1) (N := some 83) (v := ?_) (a' := ?_) #[true, true, false, false, false, false, false, false, false, false, false, false, false, false, false, false, false, false, false, false, false, false, false, false, false, false, false, false, false, false, false, false, false, false, false, false, false, false, false, false, false, false, false, false, false, false] rfl rfl (any_of HT_.out (by kernel_rfl)) (fun _ _ _ h => h) (Or.inl ⟨by rfl, ?_⟩) ?_ ?_
              rotate_left
              · intro w'
                go_simp
                with_reducible rfl
              rotate_left
              · simp only [Act.put, List.setIfInBounds_toArray, List.set_cons_zero, List.set_cons_succ, i64_w, i32_w]
                rfl
              refine pure_ (i := 2) (N := some 84) (v := ?_) (a' := ?_) #[true, true, true, false, false, false, false, false, false, false, false, false, false, false, false, false, false, false, false, false, false, false, false, false, false, false, false, false, false, false, false, false, false, false, false, false, false, false, false, false, false, false, false, false, false, false] rfl rfl (any_of HT_.out (by kernel_rfl)) (fun _ _ _ h => h) (Or.inl ⟨by rfl, ?_⟩) ?_ ?_
              rotate_left
              · intro w'
                go_simp
                with_reducible rfl
              rotate_left
              · simp only [Act.put, List.setIfInBounds_toArray, List.set_cons_zero, List.set_cons_succ, i64_w, i32_w]
                rfl
              refine pure_ (i := 3) (N := some 85) (v := ?_) (a' := ?_) #[true, true, true, true, false, false, false, false, false, false, false, false, false, false, false, false, false, false, false, false, false, false, false, false, false, false, false, false, false, false, false, false, false, false, false, false, false, false, false, false, false, false, false, false, false, false] rfl rfl (any_of HT_.out (by kernel_rfl)) (fun _ _ _ h => h) (Or.inl ⟨by rfl, ?_⟩) ?_ ?_
              rotate_left
              · intro w'
                go_simp
                with_reducible rfl
              rotate_left
              · simp only [Act.put, List.setIfInBounds_toArray, List.set_cons_zero, List.set_cons_succ, i64_w, i32_w]
                rfl
              refine pure_ (i := 4) (N := some 86) (v := ?_) (a' := ?_) #[true, true, true, true, true, false, false, false, false, false, false, false, false, false, false, false, false, false, false, false, false, false, false, false, false, false, false, false, false, false, false, false, false, false, false, false, false, false, false, false, false, false, false, false, false, false] rfl rfl (any_of HT_.out (by kernel_rfl)) (fun _ _ _ h => h) (Or.inl ⟨by rfl, ?_⟩) ?_ ?_
              rotate_left
              · intro w'
                go_simp
                with_reducible rfl
              rotate_left
              · simp only [Act.put, List.setIfInBounds_toArray, List.set_cons_zero, List.set_cons_succ, i64_w, i32_w]
                rfl
              refine pure_ (i := 5) (N := some 87) (v := ?_) (a' := ?_) #[true, true, true, true, true, true, false, false, false, false, false, false, false, false, false, false, false, false, false, false, false, false, false, false, false, false, false, false, false, false, false, false, false, false, false, false, false, false, false, false, false, false, false, false, false, false] rfl rfl (any_of HT_.out (by kernel_rfl)) (fun _ _ _ h => h) (Or.inl ⟨by rfl, ?_⟩) ?_ ?_
              rotate_left
              · intro w'
                go_simp
                with_reducible rfl
              rotate_left
              · simp only [Act.put, List.setIfInBounds_toArray, List.set_cons_zero, List.set_cons_succ, i64_w, i32_w]
                rfl
              refine pure_ (i := 6) (N := some 88) (v := ?_) (a' := ?_) #[true, true, true, true, true, true, true, false, false, false, false, false, false, false, false, false, false, false, false, false, false, false, false, false, false, false, false, false, false, false, false, false, false, false, false, false, false, false, false, false, false, false, false, false, false, false] rfl rfl (any_of HT_.out (by kernel_rfl)) (fun _ _ _ h => h) (Or.inl ⟨by rfl, ?_⟩) ?_ ?_
              rotate_left
              · intro w'
                go_simp
                with_reducible rfl
              rotate_left
              · simp only [Act.put, List.setIfInBounds_toArray, List.set_cons_zero, List.set_cons_succ, i64_w, i32_w]
                rfl
              refine pure_ (i := 7) (N := some 89) (v := ?_) (a' := ?_) #[true, true, true, true, true, true, true, true, false, false, false, false, false, false, false, false, false, false, false, false, false, false, false, false, false, false, false, false, false, false, false, false, false, false, false, false, false, false, false, false, false, false, false, false, false, false] rfl rfl (any_of HT_.out (by kernel_rfl)) (fun _ _ _ h => h) (Or.inl ⟨by rfl, ?_⟩) ?_ ?_
              rotate_left
              · intro w'
                go_simp
                with_reducible rfl
              rotate_left
              · simp only [Act.put, List.setIfInBounds_toArray, List.set_cons_zero, List.set_cons_succ, i64_w, i32_w]
                rfl
              refine pure_ (i := 8) (N := some 90) (v := ?_) (a' := ?_) #[true, true, true, true, true, true, true, true, true, false, false, false, false, false, false, false, false, false, false, false, false, false, false, false, false, false, false, false, false, false, false, false, false, false, false, false, false, false, false, false, false, false, false, false, false, false] rfl rfl (any_of HT_.out (by kernel_rfl)) (fun _ _ _ h => h) (Or.inl ⟨by rfl, ?_⟩) ?_ ?_
              rotate_left
              · intro w'
                go_simp
                with_reducible rfl
              rotate_left
              · simp only [Act.put, List.setIfInBounds_toArray, List.set_cons_zero, List.set_cons_succ, i64_w, i32_w]
                rfl
              refine pure_ (i := 9) (N := some 91) (v := ?_) (a' := ?_) #[true, true, true, true, true, true, true, true, true, true, false, false, false, false, false, false, false, false, false, false, false, false, false, false, false, false, false, false, false, false, false, false, false, false, false, false, false, false, false, false, false, false, false, false, false, false] rfl rfl (any_of HT_.out (by kernel_rfl)) (fun _ _ _ h => h) (Or.inl ⟨by rfl, ?_⟩) ?_ ?_
              rotate_left
              · intro w'
                go_simp
                with_reducible rfl
              rotate_left
              · simp only [Act.put, List.setIfInBounds_toArray, List.set_cons_zero, List.set_cons_succ, i64_w, i32_w]
                rfl
              refine pure_ (i := 10) (N := some 92) (v := ?_) (a' := ?_) #[true, true, true, true, true, true, true, true, true, true, true, false, false, false, false, false, false, false, false, false, false, false, false, false, false, false, false, false, false, false, false, false, false, false, false, false, false, false, false, false, false, false, false, false, false, false] rfl rfl (any_of HT_.out (by kernel_rfl)) (fun _ _ _ h => h) (Or.inl ⟨by rfl, ?_⟩) ?_ ?_
              rotate_left
              · intro w'
                go_simp
                with_reducible rfl
              rotate_left
              · simp only [Act.put, List.setIfInBounds_toArray, List.set_cons_zero, List.set_cons_succ, i64_w, i32_w]
                rfl
              refine pure_ (i := 13) (N := some 95) (v := ?_) (a' := ?_) #[true, true, true, true, true, true, true, true, true, true, true, false, false, true, false, false, false, false, false, false, false, false, false, false, false, false, false, false, false, false, false, false, false, false, false, false, false, false, false, false, false, false, false, false, false, false] rfl rfl (any_of HT_.out (by kernel_rfl)) (fun _ _ _ h => h) (Or.inl ⟨by rfl, ?_⟩) ?_ ?_
              rotate_left
              · intro w'
                go_simp
                with_reducible rfl
              rotate_left
              · simp only [Act.put, List.setIfInBounds_toArray, List.set_cons_zero, List.set_cons_succ, i64_w, i32_w]
                rfl
              refine pure_ (i := 14) (N := some 96) (v := ?_) (a' := ?_) #[true, true, true, true, true, true, true, true, true, true, true, false, false, true, true, false, false, false, false, false, false, false, false, false, false, false, false, false, false, false, false, false, false, false, false, false, false, false, false, false, false, false, false, false, false, false] rfl rfl (any_of HT_.out (by kernel_rfl)) (fun _ _ _ h => h) (Or.inl ⟨by rfl, ?_⟩) ?_ ?_
              rotate_left
              · intro w'
                go_simp
                with_reducible rfl
              rotate_left
              · simp only [Act.put, List.setIfInBounds_toArray, List.set_cons_zero, List.set_cons_succ, i64_w, i32_w]
                rfl
              refine pure_ (i := 15) (N := some 97) (v := ?_) (a' := ?_) #[true, true, true, true, true, true, true, true, true, true, true, false, false, true, true, true, false, false, false, false, false, false, false, false, false, false, false, false, false, false, false, false, false, false, false, false, false, false, false, false, false, false, false, false, false, false] rfl rfl (any_of HT_.out (by kernel_rfl)) (fun _ _ _ h => h) (Or.inl ⟨by rfl, ?_⟩) ?_ ?_
              rotate_left
              · intro w'
                go_simp
                with_reducible rfl
              rotate_left
              · simp only [Act.put, List.setIfInBounds_toArray, List.set_cons_zero, List.set_cons_succ, i64_w, i32_w]
                rfl
              refine pure_ (i := 16) (N := some 98) (v := ?_) (a' := ?_) #[true, true, true, true, true, true, true, true, true, true, true, false, false, true, true, true, true, false, false, false, false, false, false, false, false, false, false, false, false, false, false, false, false, false, false, false, false, false, false, false, false, false, false, false, false, false] rfl rfl (any_of HT_.out (by kernel_rfl)) (fun _ _ _ h => h) (Or.inl ⟨by rfl, ?_⟩) ?_ ?_
              rotate_left
              · intro w'
                go_simp
                with_reducible rfl
              rotate_left
              · simp only [Act.put, List.setIfInBounds_toArray, List.set_cons_zero, List.set_cons_succ, i64_w, i32_w]
                rfl
              refine pure_ (i := 17) (N := some 99) (v := ?_) (a' := ?_) #[true, true, true, true, true, true, true, true, true, true, true, false, false, true, true, true, true, true, false, false, false, false, false, false, false, false, false, false, false, false, false, false, false, false, false, false, false, false, false, false, false, false, false, false, false, false] rfl rfl (any_of HT_.out (by kernel_rfl)) (fun _ _ _ h => h) (Or.inl ⟨by rfl, ?_⟩) ?_ ?_
              rotate_left
              · intro w'
                go_simp
                with_reducible rfl
              rotate_left
              · simp only [Act.put, List.setIfInBounds_toArray, List.set_cons_zero, List.set_cons_succ, i64_w, i32_w]
                rfl
              refine pure_ (i := 18) (N := some 100) (v := ?_) (a' := ?_) #[true, true, true, true, true, true, true, true, true, true, true, false, false, true, true, true, true, true, true, false, false, false, false, false, false, false, false, false, false, false, false, false, false, false, false, false, false, false, false, false, false, false, false, false, false, false] rfl rfl (any_of HT_.out (by kernel_rfl)) (fun _ _ _ h => h) (Or.inl ⟨by rfl, ?_⟩) ?_ ?_
              rotate_left
              · intro w'
                go_simp
                with_reducible rfl
              rotate_left
              · simp only [Act.put, List.setIfInBounds_toArray, List.set_cons_zero, List.set_cons_succ, i64_w, i32_w]
                rfl
              refine pure_ (i := 19) (N := some 101) (v := ?_) (a' := ?_) #[true, true, true, true, true, true, true, true, true, true, true, false, false, true, true, true, true, true, true, true, false, false, false, false, false, false, false, false, false, false, false, false, false, false, false, false, false, false, false, false, false, false, false, false, false, false] rfl rfl (any_of HT_.out (by kernel_rfl)) (fun _ _ _ h => h) (Or.inl ⟨by rfl, ?_⟩) ?_ ?_
              rotate_left
              · intro w'
                go_simp
                with_reducible rfl
              rotate_left
              · simp only [Act.put, List.setIfInBounds_toArray, List.set_cons_zero, List.set_cons_succ, i64_w, i32_w]
                rfl
              refine pure_ (i := 20) (N := some 102) (v := ?_) (a' := ?_) #[true, true, true, true, true, true, true, true, true, true, true, false, false, true, true, true, true, true, true, true, true, false, false, false, false, false, false, false, false, false, false, false, false, false, false, false, false, false, false, false, false, false, false, false, false, false] rfl rfl (any_of HT_.out (by kernel_rfl)) (fun _ _ _ h => h) (Or.inl ⟨by rfl, ?_⟩) ?_ ?_
              rotate_left
              · intro w'
                go_simp
                with_reducible rfl
              rotate_left
              · simp only [Act.put, List.setIfInBounds_toArray, List.set_cons_zero, List.set_cons_succ, i64_w, i32_w]
                rfl
              refine pure_ (i := 24) (N := some 106) (v := ?_) (a' := ?_) #[true, true, true, true, true, true, true, true, true, true, true, false, false, true, true, true, true, true, true, true, true, false, false, false, true, false, false, false, false, false, false, false, false, false, false, false, false, false, false, false, false, false, false, false, false, false] rfl rfl (any_of HT_.out (by kernel_rfl)) (fun _ _ _ h => h) (Or.inl ⟨by rfl, ?_⟩) ?_ ?_
              rotate_left
              · intro w'
                go_simp
                with_reducible rfl
              rotate_left
              · simp only [Act.put, List.setIfInBounds_toArray, List.set_cons_zero, List.set_cons_succ, i64_w, i32_w]
                rfl
              refine pure_ (i := 25) (N := some 107) (v := ?_) (a' := ?_) #[true, true, true, true, true, true, true, true, true, true, true, false, false, true, true, true, true, true, true, true, true, false, false, false, true, true, false, false, false, false, false, false, false, false, false, false, false, false, false, false, false, false, false, false, false, false] rfl rfl (any_of HT_.out (by kernel_rfl)) (fun _ _ _ h => h) (Or.inl ⟨by rfl, ?_⟩) ?_ ?_
              rotate_left
              · intro w'
                go_simp
                with_reducible rfl
              rotate_left
              · simp only [Act.put, List.setIfInBounds_toArray, List.set_cons_zero, List.set_cons_succ, i64_w, i32_w]
                rfl
              refine pure_ (i := 26) (N := some 108) (v := ?_) (a' := ?_) #[true, true, true, true, true, true, true, true, true, true, true, false, false, true, true, true, true, true, true, true, true, false, false, false, true, true, true, false, false, false, false, false, false, false, false, false, false, false, false, false, false, false, false, false, false, false] rfl rfl (any_of HT_.out (by kernel_rfl)) (fun _ _ _ h => h) (Or.inl ⟨by rfl, ?_⟩) ?_ ?_
              rotate_left
              · intro w'
                go_simp
                with_reducible rfl
              rotate_left
              · simp only [Act.put, List.setIfInBounds_toArray, List.set_cons_zero, List.set_cons_succ, i64_w, i32_w]
                rfl
              refine pure_ (i := 27) (N := some 109) (v := ?_) (a' := ?_) #[true, true, true, true, true, true, true, true, true, true, true, false, false, true, true, true, true, true, true, true, true, false, false, false, true, true, true, true, false, false, false, false, false, false, false, false, false, false, false, false, false, false, false, false, false, false] rfl rfl (any_of HT_.out (by kernel_rfl)) (fun _ _ _ h => h) (Or.inl ⟨by rfl, ?_⟩) ?_ ?_
              rotate_left
              · intro w'
                go_simp
                with_reducible rfl
              rotate_left
              · simp only [Act.put, List.setIfInBounds_toArray, List.set_cons_zero, List.set_cons_succ, i64_w, i32_w]
                rfl
              refine pure_ (i := 28) (N := some 110) (v := ?_) (a' := ?_) #[true, true, true, true, true, true, true, true, true, true, true, false, false, true, true, true, true, true, true, true, true, false, false, false, true, true, true, true, true, false, false, false, false, false, false, false, false, false, false, false, false, false, false, false, false, false] rfl rfl (any_of HT_.out (by kernel_rfl)) (fun _ _ _ h => h) (Or.inl ⟨by rfl, ?_⟩) ?_ ?_
              rotate_left
              · intro w'
                go_simp
                with_reducible rfl
              rotate_left
              · simp only [Act.put, List.setIfInBounds_toArray, List.set_cons_zero, List.set_cons_succ, i64_w, i32_w]
                rfl
              refine pure_ (i := 29) (N := some 111) (v := ?_) (a' := ?_) #[true, true, true, true, true, true, true, true, true, true, true, false, false, true, true, true, true, true, true, true, true, false, false, false, true, true, true, true, true, true, false, false, false, false, false, false, false, false, false, false, false, false, false, false, false, false] rfl rfl (any_of HT_.out (by kernel_rfl)) (fun _ _ _ h => h) (Or.inl ⟨by rfl, ?_⟩) ?_ ?_
              rotate_left
              · intro w'
                go_simp
                with_reducible rfl
              rotate_left
              · simp only [Act.put, List.setIfInBounds_toArray, List.set_cons_zero, List.set_cons_succ, i64_w, i32_w]
                rfl
              refine pure_ (i := 30) (N := some 112) (v := ?_) (a' := ?_) #[true, true, true, true, true, true, true, true, true, true, true, false, false, true, true, true, true, true, true, true, true, false, false, false, true, true, true, true, true, true, true, false, false, false, false, false, false, false, false, false, false, false, false, false, false, false] rfl rfl (any_of HT_.out (by kernel_rfl)) (fun _ _ _ h => h) (Or.inl ⟨by rfl, ?_⟩) ?_ ?_
              rotate_left
              · intro w'
                go_simp
                with_reducible rfl
              rotate_left
              · simp only [Act.put, List.setIfInBounds_toArray, List.set_cons_zero, List.set_cons_succ, i64_w, i32_w]
                rfl
              refine pure_ (i := 31) (N := some 113) (v := ?_) (a' := ?_) #[true, true, true, true, true, true, true, true, true, true, true, false, false, true, true, true, true, true, true, true, true, false, false, false, true, true, true, true, true, true, true, true, false, false, false, false, false, false, false, false, false, false, false, false, false, false] rfl rfl (any_of HT_.out (by kernel_rfl)) (fun _ _ _ h => h) (Or.inl ⟨by rfl, ?_⟩) ?_ ?_
              rotate_left
              · intro w'
                go_simp
                with_reducible rfl
              rotate_left
              · simp only [Act.put, List.setIfInBounds_toArray, List.set_cons_zero, List.set_cons_succ, i64_w, i32_w]
                rfl
              refine pure_ (i := 34) (N := some 116) (v := ?_) (a' := ?_) #[true, true, true, true, true, true, true, true, true, true, true, false, false, true, true, true, true, true, true, true, true, false, false, false, true, true, true, true, true, true, true, true, false, false, true, false, false, false, false, false, false, false, false, false, false, false] rfl rfl (any_of HT_.out (by kernel_rfl)) (fun _ _ _ h => h) (Or.inl ⟨by rfl, ?_⟩) ?_ ?_
              rotate_left
              · intro w'
                go_simp
                with_reducible rfl
              rotate_left
              · simp only [Act.put, List.setIfInBounds_toArray, List.set_cons_zero, List.set_cons_succ, i64_w, i32_w]
                rfl
              refine pure_ (i := 35) (N := some 117) (v := ?_) (a' := ?_) #[true, true, true, true, true, true, true, true, true, true, true, false, false, true, true, true, true, true, true, true, true, false, false, false, true, true, true, true, true, true, true, true, false, false, true, true, false, false, false, false, false, false, false, false, false, false] rfl rfl (any_of HT_.out (by kernel_rfl)) (fun _ _ _ h => h) (Or.inl ⟨by rfl, ?_⟩) ?_ ?_
              rotate_left
              · intro w'
                go_simp
                with_reducible rfl
              rotate_left
              · simp only [Act.put, List.setIfInBounds_toArray, List.set_cons_zero, List.set_cons_succ, i64_w, i32_w]
                rfl
              refine pure_ (i := 36) (N := some 118) (v := ?_) (a' := ?_) #[true, true, true, true, true, true, true, true, true, true, true, false, false, true, true, true, true, true, true, true, true, false, false, false, true, true, true, true, true, true, true, true, false, false, true, true, true, false, false, false, false, false, false, false, false, false] rfl rfl (any_of HT_.out (by kernel_rfl)) (fun _ _ _ h => h) (Or.inl ⟨by rfl, ?_⟩) ?_ ?_
              rotate_left
              · intro w'
                go_simp
                with_reducible rfl
              rotate_left
              · simp only [Act.put, List.setIfInBounds_toArray, List.set_cons_zero, List.set_cons_succ, i64_w, i32_w]
                rfl
              refine pure_ (i := 37) (N := some 119) (v := ?_) (a' := ?_) #[true, true, true, true, true, true, true, true, true, true, true, false, false, true, true, true, true, true, true, true, true, false, false, false, true, true, true, true, true, true, true, true, false, false, true, true, true, true, false, false, false, false, false, false, false, false] rfl rfl (any_of HT_.out (by kernel_rfl)) (fun _ _ _ h => h) (Or.inl ⟨by rfl, ?_⟩) ?_ ?_
              rotate_left
              · intro w'
                go_simp
                with_reducible rfl
              rotate_left
              · simp only [Act.put, List.setIfInBounds_toArray, List.set_cons_zero, List.set_cons_succ, i64_w, i32_w]
                rfl
              refine pure_ (i := 38) (N := some 120) (v := ?_) (a' := ?_) #[true, true, true, true, true, true, true, true, true, true, true, false, false, true, true, true, true, true, true, true, true, false, false, false, true, true, true, true, true, true, true, true, false, false, true, true, true, true, true, false, false, false, false, false, false, false] rfl rfl (any_of HT_.out (by kernel_rfl)) (fun _ _ _ h => h) (Or.inl ⟨by rfl, ?_⟩) ?_ ?_
              rotate_left
              · intro w'
                go_simp
                with_reducible rfl
              rotate_left
              · simp only [Act.put, List.setIfInBounds_toArray, List.set_cons_zero, List.set_cons_succ, i64_w, i32_w]
                rfl
              refine pure_ (i := 39) (N := some 121) (v := ?_) (a' := ?_) #[true, true, true, true, true, true, true, true, true, true, true, false, false, true, true, true, true, true, true, true, true, false, false, false, true, true, true, true, true, true, true, true, false, false, true, true, true, true, true, true, false, false, false, false, false, false] rfl rfl (any_of HT_.out (by kernel_rfl)) (fun _ _ _ h => h) (Or.inl ⟨by rfl, ?_⟩) ?_ ?_
              rotate_left
              · intro w'
                go_simp
                with_reducible rfl
              rotate_left
              · simp only [Act.put, List.setIfInBounds_toArray, List.set_cons_zero, List.set_cons_succ, i64_w, i32_w]
                rfl
              refine pure_ (i := 40) (N := some 122) (v := ?_) (a' := ?_) #[true, true, true, true, true, true, true, true, true, true, true, false, false, true, true, true, true, true, true, true, true, false, false, false, true, true, true, true, true, true, true, true, false, false, true, true, true, true, true, true, true, false, false, false, false, false] rfl rfl (any_of HT_.out (by kernel_rfl)) (fun _ _ _ h => h) (Or.inl ⟨by rfl, ?_⟩) ?_ ?_
              rotate_left
              · intro w'
                go_simp
                with_reducible rfl
              rotate_left
              · simp only [Act.put, List.setIfInBounds_toArray, List.set_cons_zero, List.set_cons_succ, i64_w, i32_w]
                rfl
              refine pure_ (i := 41) (N := some 123) (v := ?_) (a' := ?_) #[true, true, true, true, true, true, true, true, true, true, true, false, false, true, true, true, true, true, true, true, true, false, false, false, true, true, true, true, true, true, true, true, false, false, true, true, true, true, true, true, true, true, false, false, false, false] rfl rfl (any_of HT_.out (by kernel_rfl)) (fun _ _ _ h => h) (Or.inl ⟨by rfl, ?_⟩) ?_ ?_
              rotate_left
              · intro w'
                go_simp
                with_reducible rfl
              rotate_left
              · simp only [Act.put, List.setIfInBounds_toArray, List.set_cons_zero, List.set_cons_succ, i64_w, i32_w]
                rfl
              refine take_ (i := 11) (N := some 93) (v := ?_) (a' := ?_) #[true, true, true, true, true, true, true, true, true, true, true, true, false, true, true, true, true, true, true, true, true, false, false, false, true, true, true, true, true, true, true, true, false, false, true, true, true, true, true, true, true, true, false, false, false, false] rfl rfl (take_ofW HT_.out HW_.out (by kernel_rfl)) (fun _ _ _ h => h) (Or.inl ⟨by rfl, ?_⟩) hHeld ?_ ?_
              rotate_left
              · rintro w' ⟨s0, s1, s2, s3⟩
                go_simp
                with_reducible rfl
              rotate_left
              · simp only [Act.put, List.setIfInBounds_toArray, List.set_cons_zero, List.set_cons_succ, i64_w, i32_w]
                rfl
              refine take_ (i := 21) (N := some 103) (v := ?_) (a' := ?_) #[true, true, true, true, true, true, true, true, true, true, true, true, false, true, true, true, true, true, true, true, true, true, false, false, true, true, true, true, true, true, true, true, false, false, true, true, true, true, true, true, true, true, false, false, false, false] rfl rfl (take_ofW HT_.out HW_.out (by kernel_rfl)) (fun _ _ _ h => h) (Or.inl ⟨by rfl, ?_⟩) hHeld ?_ ?_
              rotate_left
              · rintro w' ⟨s0, s1, s2, s3⟩
                go_simp
                with_reducible rfl
              rotate_left
              · simp only [Act.put, List.setIfInBounds_toArray, List.set_cons_zero, List.set_cons_succ, i64_w, i32_w]
                rfl
              refine take_ (i := 32) (N := some 114) (v := ?_) (a' := ?_) #[true, true, true, true, true, true, true, true, true, true, true, true, false, true, true, true, true, true, true, true, true, true, false, false, true, true, true, true, true, true, true, true, true, false, true, true, true, true, true, true, true, true, false, false, false, false] rfl rfl (take_ofW HT_.out HW_.out (by kernel_rfl)) (fun _ _ _ h => h) (Or.inl ⟨by rfl, ?_⟩) hHeld ?_ ?_
              rotate_left
              · rintro w' ⟨s0, s1, s2, s3⟩
                go_simp
                with_reducible rfl
              rotate_left
              · simp only [Act.put, List.setIfInBounds_toArray, List.set_cons_zero, List.set_cons_succ, i64_w, i32_w]
                rfl
              refine take_ (i := 42) (N := some 124) (v := ?_) (a' := ?_) #[true, true, true, true, true, true, true, true, true, true, true, true, false, true, true, true, true, true, true, true, true, true, false, false, true, true, true, true, true, true, true, true, true, false, true, true, true, true, true, true, true, true, true, false, false, false] rfl rfl (take_ofW HT_.out HW_.out (by kernel_rfl)) (fun _ _ _ h => h) (Or.inl ⟨by rfl, ?_⟩) hHeld ?_ ?_
              rotate_left
              · rintro w' ⟨s0, s1, s2, s3⟩
                go_simp
                with_reducible rfl
              rotate_left
              · simp only [Act.put, List.setIfInBounds_toArray, List.set_cons_zero, List.set_cons_succ, i64_w, i32_w]
                rfl
              refine one_ (i := 12) (N := some 94) #[true, true, true, true, true, true, true, true, true, true, true, true, true, true, true, true, true, true, true, true, true, true, false, false, true, true, true, true, true, true, true, true, true, false, true, true, true, true, true, true, true, true, true, false, false, false] rfl rfl (one_of HT_.out (by kernel_rfl)) (by decide) (fun K hK => ?_)
              refine goes_ Try.func76 (by kernel_rfl) rfl #[.int .u8 (rd x10_3 (ji43)), .int .u8 2] (by rfl) rfl rfl (by (try simp only [List.map_toArray, List.map_cons, List.map_nil]); first | rfl) ?_
              with_reducible refine (pyxref05_Mul.calls k6 (rd x10_3 (ji43)) 2 t163 _ A46.out).mono ?_
              rintro e w' ⟨rfl, ⟨nd, rfl⟩⟩
              refine ⟨_, rfl, ?_⟩
              refine hK.out _ _ ⟨hHeld.1, hHeld.2.1, hHeld.2.2.1, hHeld.2.2.2⟩ (fun hHeld => ?_)
              clear hK K
              refine norm_ (a' := ?_) ?_ ?_
              rotate_left
              · show Act.put _ (some 94) _ = _
                simp only [Act.put, List.setIfInBounds_toArray, List.set_cons_zero, List.set_cons_succ, i64_w, i32_w]
                rfl
              refine one_ (i := 22) (N := some 104) #[true, true, true, true, true, true, true, true, true, true, true, true, true, true, true, true, true, true, true, true, true, true, true, false, true, true, true, true, true, true, true, true, true, false, true, true, true, true, true, true, true, true, true, false, false, false] rfl rfl (one_of HT_.out (by kernel_rfl)) (by decide) (fun K hK => ?_)
              refine goes_ Try.func76 (by kernel_rfl) rfl #[.int .u8 (rd x10_3 (ji47)), .int .u8 3] (by rfl) rfl rfl (by (try simp only [List.map_toArray, List.map_cons, List.map_nil]); first | rfl) ?_
              with_reducible refine (pyxref05_Mul.calls k6 (rd x10_3 (ji47)) 3 t165 _ A50.out).mono ?_
              rintro e w' ⟨rfl, ⟨nd, rfl⟩⟩
              refine ⟨_, rfl, ?_⟩
              have p58 : 0 ≤ ((ji43) : Int) := of_decide_eq_true (by first | (with_reducible assumption))
              have q58 : ((ji43) : Int) < ((x13_6.length : Int) : Int) := of_decide_eq_true (by first | (with_reducible assumption))
              obtain ⟨go58, co58, eo58, gb58, gl58, cl58, HG58⟩ := Kd.R_form HO_13.out (by omega)
              (cases eo58)
              have GB58 := Aside0.mk gb58
              have GG58 := Aside0.mk HG58
              clear gb58 gl58 HG58
              obtain ⟨hx58_0, hf58_0⟩ := Kd.R_celln 0 HO_13.out ((ji43) : Int) p58 q58
              replace p58 := eq_true p58
              replace q58 := eq_true q58
              have HP60 := Kd.R_putn HO_13.out ((ji43) : Int) (Go.bits .xor .u8 (Go.bits .xor .u8 (Go.bits .xor .u8 t163 t165) (rd x10_3 (ji51))) (rd x10_3 (ji54)))
              rw [← Ny168.out] at HP60
              have HQ60 := Aside0.mk HP60
              clear HP60
              refine hK.out _ _ ⟨hHeld.1, hHeld.2.1, hHeld.2.2.1, hHeld.2.2.2⟩ (fun hHeld => ?_)
              clear hK K
              refine norm_ (a' := ?_) ?_ ?_
              rotate_left
              · show Act.put _ (some 104) _ = _
                simp only [Act.put, List.setIfInBounds_toArray, List.set_cons_zero, List.set_cons_succ, i64_w, i32_w]
                rfl
              refine pure_ (i := 23) (N := some 105) (v := ?_) (a' := ?_) #[true, true, true, true, true, true, true, true, true, true, true, true, true, true, true, true, true, true, true, true, true, true, true, true, true, true, true, true, true, true, true, true, true, false, true, true, true, true, true, true, true, true, true, false, false, false] rfl rfl (any_of HT_.out (by kernel_rfl)) (fun _ _ _ h => h) (Or.inl ⟨by rfl, ?_⟩) ?_ ?_
              rotate_left
              · intro w'
                go_simp
                with_reducible rfl
              rotate_left
              · simp only [Act.put, List.setIfInBounds_toArray, List.set_cons_zero, List.set_cons_succ, i64_w, i32_w]
                rfl
              refine pure_ (i := 33) (N := some 115) (v := ?_) (a' := ?_) #[true, true, true, true, true, true, true, true, true, true, true, true, true, true, true, true, true, true, true, true, true, true, true, true, true, true, true, true, true, true, true, true, true, true, true, true, true, true, true, true, true, true, true, false, false, false] rfl rfl (any_of HT_.out (by kernel_rfl)) (fun _ _ _ h => h) (Or.inl ⟨by rfl, ?_⟩) ?_ ?_
              rotate_left
              · intro w'
                go_simp
                with_reducible rfl
              rotate_left
              · simp only [Act.put, List.setIfInBounds_toArray, List.set_cons_zero, List.set_cons_succ, i64_w, i32_w]
                rfl
              refine pure_ (i := 43) (N := some 125) (v := ?_) (a' := ?_) #[true, true, true, true, true, true, true, true, true, true, true, true, true, true, true, true, true, true, true, true, true, true, true, true, true, true, true, true, true, true, true, true, true, true, true, true, true, true, true, true, true, true, true, true, false, false] rfl rfl (any_of HT_.out (by kernel_rfl)) (fun _ _ _ h => h) (Or.inl ⟨by rfl, ?_⟩) ?_ ?_
              rotate_left
              · intro w'
                go_simp
                with_reducible rfl
              rotate_left
              · simp only [Act.put, List.setIfInBounds_toArray, List.set_cons_zero, List.set_cons_succ, i64_w, i32_w]
                rfl
              refine pure_ (i := 44) (N := some 126) (v := ?_) (a' := ?_) #[true, true, true, true, true, true, true, true, true, true, true, true, true, true, true, true, true, true, true, true, true, true, true, true, true, true, true, true, true, true, true, true, true, true, true, true, true, true, true, true, true, true, true, true, true, false] rfl rfl (any_of HT_.out (by kernel_rfl)) (fun _ _ _ h => h) (Or.inl ⟨by rfl, ?_⟩) ?_ ?_
              rotate_left
              · intro w'
                go_simp
                with_reducible rfl
              rotate_left
              · simp only [Act.put, List.setIfInBounds_toArray, List.set_cons_zero, List.set_cons_succ, i64_w, i32_w]
                rfl
              refine last_ (i := 45) (N := none) #[true, true, true, true, true, true, true, true, true, true, true, true, true, true, true, true, true, true, true, true, true, true, true, true, true, true, true, true, true, true, true, true, true, true, true, true, true, true, true, true, true, true, true, true, true, true] rfl rfl (one_of HT_.out (by kernel_rfl)) (by decide) (fun K hK => ?_)
              refine skip_ (w1 := ?_) (by rfl) rfl ?_ ?_
              rotate_left
              · go_simp
                rfl
              refine hK.out _ _ ?_
              clear hK K
              refine done_ (done_of HT_.out (by kernel_rfl)) ?_
              try go_wp2
              go_roundg k6
              case measure => have := HK1.out; have := HK2.out; have := HK3.out; have := HK4.out; have := HJ38.out; have := HK6.out; omega
              case rel => exact ⟨(y168), (wrap64 (x15_6 + 1)), (by first | rfl), H', ⟨by have := HK1.out; have := HK2.out; have := HK3.out; have := HK4.out; have := HJ38.out; have := HK6.out; omega⟩, ⟨by (with_reducible repeat (fail)); exact Kd.R_mono (Kd.R_far (p := ⟨go58, ((ji43) : Int).toNat, none⟩) (Kd.R_mono HO_7.out (fun k_ hk => (⟨hk, fun e_ => hk.2 (by rw [e_]; rfl)⟩ : _ ∧ k_ ≠ go58))) (fun _ hk => hk.2) (.int .u8 (Go.bits .xor .u8 (Go.bits .xor .u8 (Go.bits .xor .u8 t163 t165) (rd x10_3 (ji51))) (rd x10_3 (ji54))))) (fun _ hk => ⟨hk.1.1, hk.1.2⟩)⟩, ⟨by (with_reducible repeat (fail)); exact Kd.R_mono (Kd.R_far (p := ⟨go58, ((ji43) : Int).toNat, none⟩) (Kd.R_mono HO_10.out (fun k_ hk => (⟨hk, fun e_ => hk.2 (by rw [e_]; rfl)⟩ : _ ∧ k_ ≠ go58))) (fun _ hk => hk.2) (.int .u8 (Go.bits .xor .u8 (Go.bits .xor .u8 (Go.bits .xor .u8 t163 t165) (rd x10_3 (ji51))) (rd x10_3 (ji54))))) (fun _ hk => ⟨hk.1.1, hk.1.2⟩)⟩, ⟨by (with_reducible repeat (fail)); exact HQ60.out⟩, ⟨by repeat ((with_reducible first | exact HB.out | apply pw_below_drewN | refine below_set ?_ GB58.out))⟩⟩
end Go.Proofs.Ytifpdpfjhjoieaa.C

/-! C4 -/
namespace Go.Proofs.Ytifpdpfjhjoieaa.C
open Go.Proofs.Ytifpdpfjhjoieaa.P
open Go.RowKit Go.Proofs.YtifpdpfjhjoieaaW.PrintWords Go.Proofs.YtifpdpfjhjoieaaW.PrintLast Go.Proofs.YtifpdpfjhjoieaaW.PrintMore
attribute [local go_sem] max2_int min2_int max_two min_two max_three min_three max_four min_four   -- for this text's walks alone
set_option linter.unusedVariables false
set_option linter.unusedSimpArgs false
/-! ### pyxref05_Stream: function 25 -/
mutual
def pyxref05_Stream.j0 : Nat → List Int → List Int → List Int → Bool → Option (List Int × Int)
  | 0, _, _, _, _ => none
  | k + 1, x0, x1, x2, x23 => if x23 = true then (some (([] : List Int), 1)) else (if (x2.length : Int) = 0 then (some (([] : List Int), 0)) else ((pyxref05_boxes.f k).bind fun t172 => ((pyxref05_keys.f k x0 t172).bind fun t175 => (pyxref05_Stream.l0 k x1 x2 ([] : List Int) t172 t175 0))))
def pyxref05_Stream.l0 : Nat → List Int → List Int → List Int → List Int → List Int → Int → Option (List Int × Int)
  | 0, _, _, _, _, _, _ => none
  | k + 1, x1, x2, x8, x9, x10, x11 => if x11 < (x2.length : Int) then ((pyxref01_Num.f (wrap64 ((wrap64 (Int.tdiv x11 16)) + 1)) 4).bind fun bt178 => ((some (([] : List Int) : List Int)).bind fun y182 => (if y182.length + x1.length < 140737488355328 then ((some (y182 ++ x1 : List Int)).bind fun y185 => (if y185.length + bt178.1.length < 140737488355328 then ((pyxref05_lock.f k x10 x9 (y185 ++ bt178.1)).bind fun t191 => (pyxref05_Stream.l1 k x1 x2 x8 x9 x10 x11 t191 x11)) else (none))) else (none)))) else (some (x8, 0))
def pyxref05_Stream.l1 : Nat → List Int → List Int → List Int → List Int → List Int → Int → List Int → Int → Option (List Int × Int)
  | 0, _, _, _, _, _, _, _, _ => none
  | k + 1, x1, x2, x8, x9, x10, x11, x14, x15 => if x15 < (wrap64 (x11 + 16)) then (if x15 < (x2.length : Int) then (if 0 ≤ x15 then (if 0 ≤ (wrap64 (x15 - x11)) then (if (wrap64 (x15 - x11)) < (x14.length : Int) then (if x8.length < 140737488355328 then (pyxref05_Stream.l1 k x1 x2 (x8 ++ [Go.bits .xor .u8 (rd x2 x15) (rd x14 (wrap64 (x15 - x11)))]) x9 x10 x11 x14 (wrap64 (x15 + 1))) else (none)) else (none)) else (none)) else (none)) else (pyxref05_Stream.l0 k x1 x2 x8 x9 x10 (wrap64 (x11 + 16)))) else (pyxref05_Stream.l0 k x1 x2 x8 x9 x10 (wrap64 (x11 + 16)))
end
def pyxref05_Stream.f (k : Nat) (l0 : List Int) (l1 : List Int) (l2 : List Int) : Option (List Int × Int) := if (l0.length : Int) = 16 then (pyxref05_Stream.j0 k l0 l1 l2 ((l1.length : Int) != 12)) else (pyxref05_Stream.j0 k l0 l1 l2 true)
def pyxref05_Stream.T16 : Bool × List (List Nat × List Nat) := (true, [([], []), ([], []), ([], []), ([1, 2], [1, 2]), ([3], [3]), ([], []), ([], []), ([], []), ([6, 7], [6, 7]), ([5, 8], [5, 8]), ([9], [9]), ([4, 10], [4, 10]), ([11], [11]), ([0, 12], [0, 12]), ([13, 13, 0, 1, 2, 3, 4, 5, 6, 7, 8, 9, 10, 11, 12, 13], [0, 13])])
def pyxref05_Stream.B16 : List Nat := [0, 0, 0, 6, 14, 0, 0, 0, 192, 480, 992, 2046, 4094, 8191, 16383]
theorem pyxref05_Stream.tab16 : rtab .any (opsOf Try.f25 16) = pyxref05_Stream.T16 := by kernel_rfl
theorem pyxref05_Stream.bits16 : waitsOk pyxref05_Stream.T16.2 pyxref05_Stream.B16 = true := by kernel_rfl
set_option maxHeartbeats 8000000 in
set_option maxRecDepth 100000 in
theorem pyxref05_Stream.calls (k : Nat) (A0 : Option Addr) (c0 : Nat) (l0 : List Int) (A1 : Option Addr) (c1 : Nat) (l1 : List Int) (A2 : Option Addr) (c2 : Nat) (l2 : List Int) (r1 : List Int) (r2 : Int) (w : World) (hr0 : Kd.C (Kd.int .u8) w A0 l0.length l0) (hc0 : l0.length ≤ c0) (hr1 : Kd.C (Kd.int .u8) w A1 l1.length l1) (hc1 : l1.length ≤ c1) (hr2 : Kd.C (Kd.int .u8) w A2 l2.length l2) (hc2 : l2.length ≤ c2) (h : pyxref05_Stream.f k l0 l1 l2 = some (r1, r2)) :
    Calls Try.prog 25 #[.slice A0 l0.length c0, .slice A1 l1.length c1, .slice A2 l2.length c2] w fun e w' => ∃ v0_ : Value, e = .returned (.tuple #[v0_, .int .i64 r2]) ∧ Kd.R (Kd.int .u8) 5 w' w.heap.size (fun _ => True) v0_ r1 ∧ Below w.heap.size w w' := by
  have HR0 := Aside0.mk hr0
  have HC0 := Aside0.mk hc0
  clear hr0 hc0
  have HR1 := Aside0.mk hr1
  have HC1 := Aside0.mk hc1
  clear hr1 hc1
  have HR2 := Aside0.mk hr2
  have HC2 := Aside0.mk hc2
  clear hr2 hc2
  have HB := Aside0.mk (Below.refl w.heap.size w)
  have H : (if (l0.length : Int) = 16 then (pyxref05_Stream.j0 k l0 l1 l2 ((l1.length : Int) != 12)) else (pyxref05_Stream.j0 k l0 l1 l2 true)) = some (r1, r2) := h
  clear h
  have HC4 := Aside0.mk H
  clear H
  go_enter Try.func25, Try.ntmps25
  go_upto_region 1 with (fail)
  go_cut [23] (fun v23 wc => ∃ (kq : Nat) (x23_3 : Bool), v23 = .bool x23_3 ∧ Aside0 (pyxref05_Stream.j0 kq l0 l1 l2 x23_3 = some (r1, r2)) ∧ Aside0 (kq ≤ k) ∧ Aside0 (Below w.heap.size w wc))
  case first =>
    have H := HC4.out
    clear HC4
    by_cases c5 : (l0.length : Int) = 16
    rotate_left
    · rw [if_neg c5] at H
      have c5b0 : ((l0.length : Int) == 16) = false := beq_eq_false_iff_ne.mpr c5
      have c5b1 : ((l0.length : Int) != 16) = true := bne_iff_ne.mpr c5
      (skip)
      have H' := Aside0.mk H
      clear H
      go_wp2
      go_meet
      case rel => exact ⟨_, (true), (by first | rfl), H', ⟨by first | omega⟩, ⟨by repeat ((with_reducible first | exact HB.out))⟩⟩
    rw [if_pos c5] at H
    have c5b0 : ((l0.length : Int) == 16) = true := beq_iff_eq.mpr c5
    have c5b1 : ((l0.length : Int) != 16) = false := bne_eq_false_iff_eq.mpr c5
    clear c5
    (skip)
    have H' := Aside0.mk H
    clear H
    go_wp2
    go_meet
    case rel => exact ⟨_, (((l1.length : Int) != 12)), (by first | rfl), H', ⟨by first | omega⟩, ⟨by repeat ((with_reducible first | exact HB.out))⟩⟩
  clear HC4
  skip
  skip
  skip
  skip
  skip
  skip
  obtain ⟨kq, x23_3, rfl, HA, HJ3, HB⟩ := hcut
  cases kq with
  | zero => exact absurd HA.out (by simp [pyxref05_Stream.j0])
  | succ kj3 =>
    have H := HA.out
    clear HA
    simp only [pyxref05_Stream.j0] at H
    by_cases c6 : x23_3 = true
    · subst c6
      have H1 : (some (([] : List Int), 1)) = some (r1, r2) := by rw [if_pos rfl] at H; exact H
      clear H
      have H := H1
      clear H1
      simp only [Option.some.injEq, Prod.mk.injEq] at H
      obtain ⟨rfl, rfl⟩ := H
      go_wp2
      go_ret2
      exact ⟨_, by first | rfl, by first | exact Kd.R_nil _ _ _ _ _, by repeat ((with_reducible first | exact HB.out))⟩
    replace c6 := Bool.eq_false_iff.mpr c6
    subst c6
    have H1 : (if (l2.length : Int) = 0 then (some (([] : List Int), 0)) else ((pyxref05_boxes.f kj3).bind fun t172 => ((pyxref05_keys.f kj3 l0 t172).bind fun t175 => (pyxref05_Stream.l0 kj3 l1 l2 ([] : List Int) t172 t175 0)))) = some (r1, r2) := by rw [if_neg (show ¬ (false = true) by decide)] at H; exact H
    clear H
    have H := H1
    clear H1
    by_cases c7 : (l2.length : Int) = 0
    · rw [if_pos c7] at H
      have c7b0 : ((l2.length : Int) == 0) = true := beq_iff_eq.mpr c7
      have c7b1 : ((l2.length : Int) != 0) = false := bne_eq_false_iff_eq.mpr c7
      clear c7
      simp only [Option.some.injEq, Prod.mk.injEq] at H
      obtain ⟨rfl, rfl⟩ := H
      go_wp2
      go_ret2
      exact ⟨_, by first | rfl, by first | exact Kd.R_nil _ _ _ _ _, by repeat ((with_reducible first | exact HB.out))⟩
    rw [if_neg c7] at H
    have c7b0 : ((l2.length : Int) == 0) = false := beq_eq_false_iff_ne.mpr c7
    have c7b1 : ((l2.length : Int) != 0) = true := bne_iff_ne.mpr c7
    have c7b2 : ¬ (l2 = []) := fun h_ => c7 (by rw [h_]; rfl)
    replace H := Option.bind_eq_some_iff.mp H
    obtain ⟨t172, A80, H⟩ := H
    replace H : ((pyxref05_keys.f kj3 l0 t172).bind fun t175 => (pyxref05_Stream.l0 kj3 l1 l2 ([] : List Int) t172 t175 0)) = some (r1, r2) := H
    have A8 := Aside0.mk A80
    clear A80
    replace H := Option.bind_eq_some_iff.mp H
    obtain ⟨t175, A90, H⟩ := H
    replace H : (pyxref05_Stream.l0 kj3 l1 l2 ([] : List Int) t172 t175 0) = some (r1, r2) := H
    have A9 := Aside0.mk A90
    clear A90
    have H' := Aside0.mk H
    clear H
    go_wp2_with (first | ((with_reducible refine gate_callee (f := 52) rfl ?_); refine goesL_ (some 28) rfl rfl Try.func52 (by kernel_rfl) rfl #[] rfl (by (try simp only [List.map_toArray, List.map_cons, List.map_nil]); first | done) ?_; (with_reducible refine (pyxref05_boxes.calls kj3  t172 _ A8.out).mono ?_); rintro e w10 ⟨v173, rfl, ho0, hb⟩; refine ⟨_, rfl, ?_⟩; have n0_ := Aside0.mk (Kd.R_lower ho0 (below_size (by repeat ((with_reducible first | exact HB.out))))); have n1_ := Aside0.mk (below_step (by repeat ((with_reducible first | exact HB.out))) hb); clear HB; have HO174 := n0_; have HB := n1_; clear n0_ n1_; (try clear hb); (try clear ho0); obtain ⟨Ao11, co11, eo11⟩ := Kd.R_slice HO174.out; subst eo11) | ((with_reducible refine gate_callee (f := 53) rfl ?_); refine goesL_ (some 31) rfl rfl Try.func53 (by kernel_rfl) rfl #[.slice A0 l0.length c0, .slice Ao11 t172.length co11] rfl (by (try simp only [List.map_toArray, List.map_cons, List.map_nil]); first | rfl) ?_; (with_reducible refine (pyxref05_keys.calls kj3 _ _ l0 _ _ t172 t175 _ ?side1 ?side2 ?side3 ?side4 A9.out).mono ?_); (case side1 => repeat (exact (Kd.C_below HR0.out HB.out))); (case side2 => exact HC0.out); (case side3 => repeat (exact (Kd.R_reads' HO174.out).2.2)); (case side4 => exact (Kd.R_reads' HO174.out).2.1); rintro e w12 ⟨v176, rfl, ho0, hb⟩; refine ⟨_, rfl, ?_⟩; have n0_ := Aside0.mk (Kd.R_elder' (by (with_reducible repeat (fail)); exact HO174.out) (Kd.R_base ho0) hb); have n1_ := Aside0.mk (Kd.R_lower (Kd.R_new' ho0 (Kd.R_lt (by (with_reducible repeat (fail)); exact HO174.out))) (below_size (by repeat ((with_reducible first | exact HB.out))))); have n2_ := Aside0.mk (below_step (by repeat ((with_reducible first | exact HB.out))) hb); clear HO174; clear HB; have HO174 := n0_; have HO177 := n1_; have HB := n2_; clear n0_ n1_ n2_; (try clear hb); (try clear ho0)))
    go_loopg [8, 11] kj3 (fun kq v8 v11 w' => ∃ (x8_2 : List Int) (x11_2 : Int), v11 = .int .i64 x11_2 ∧ Aside0 (pyxref05_Stream.l0 kq l1 l2 x8_2 t172 t175 x11_2 = some (r1, r2)) ∧ Aside0 (kq ≤ kj3) ∧ Aside0 (Kd.R (Kd.int .u8) 5 w' w.heap.size (fun k_ => some k_ ≠ ((.slice Ao11 t172.length co11) : Value).ownBlock ∧ some k_ ≠ (v176 : Value).ownBlock) v8 x8_2) ∧ Aside0 (Kd.R (Kd.int .u8) 5 w' w.heap.size (fun k_ => some k_ ≠ (v8 : Value).ownBlock ∧ some k_ ≠ (v176 : Value).ownBlock) (.slice Ao11 t172.length co11) t172) ∧ Aside0 (Kd.R (Kd.int .u8) 5 w' w.heap.size (fun k_ => some k_ ≠ (v8 : Value).ownBlock ∧ some k_ ≠ ((.slice Ao11 t172.length co11) : Value).ownBlock) v176 t175) ∧ Aside0 (Below w.heap.size w w'))
    case atStart => exact ⟨(([] : List Int)), (0), (by first | rfl), H', ⟨Nat.le_refl _⟩, ⟨by first | exact Kd.R_nil _ _ _ _ _⟩, ⟨by (with_reducible repeat (fail)); exact Kd.R_mono HO174.out (fun _ hk => ⟨(by simp [Value.ownBlock]), hk.2⟩)⟩, ⟨by (with_reducible repeat (fail)); exact Kd.R_mono HO177.out (fun _ hk => ⟨(by simp [Value.ownBlock]), hk.2⟩)⟩, ⟨by repeat ((with_reducible first | exact HB.out))⟩⟩
    clear H'
    skip
    skip
    skip
    skip
    skip
    skip
    skip
    try clear c7
    try clear c7b0
    try clear c7b1
    try clear c7b2
    skip
    obtain ⟨x8_2, x11_2, rfl, HA, HK2, HO_8, HO_9, HO_10, HB⟩ := hrel
    cases gk with
    | zero => exact absurd HA.out (by simp [pyxref05_Stream.l0])
    | succ k2 =>
      have H := HA.out
      clear HA
      simp only [pyxref05_Stream.l0] at H
      by_cases c13 : x11_2 < (l2.length : Int)
      rotate_left
      · rw [if_neg c13] at H
        have c13b0 : decide (x11_2 < (l2.length : Int)) = false := decide_eq_false c13
        clear c13
        simp only [Option.some.injEq, Prod.mk.injEq] at H
        obtain ⟨rfl, rfl⟩ := H
        go_wp2
        go_ret2
        exact ⟨_, by first | rfl, by (with_reducible repeat (fail)); exact Kd.R_mono HO_8.out (fun _ hk => trivial), by repeat ((with_reducible first | exact HB.out))⟩
      rw [if_pos c13] at H
      have c13b0 : decide (x11_2 < (l2.length : Int)) = true := decide_eq_true c13
      clear c13
      replace H := Option.bind_eq_some_iff.mp H
      obtain ⟨⟨t178, t179⟩, A140, H⟩ := H
      replace H : ((some (([] : List Int) : List Int)).bind fun y182 => (if y182.length + l1.length < 140737488355328 then ((some (y182 ++ l1 : List Int)).bind fun y185 => (if y185.length + t178.length < 140737488355328 then ((pyxref05_lock.f k2 t175 t172 (y185 ++ t178)).bind fun t191 => (pyxref05_Stream.l1 k2 l1 l2 x8_2 t172 t175 x11_2 t191 x11_2)) else (none))) else (none))) = some (r1, r2) := H
      have A14 := Aside0.mk A140
      clear A140
      obtain ⟨y182, hy182⟩ : ∃ y_ : List Int, y_ = (([] : List Int)) := ⟨_, rfl⟩
      replace H : (if y182.length + l1.length < 140737488355328 then ((some (y182 ++ l1 : List Int)).bind fun y185 => (if y185.length + t178.length < 140737488355328 then ((pyxref05_lock.f k2 t175 t172 (y185 ++ t178)).bind fun t191 => (pyxref05_Stream.l1 k2 l1 l2 x8_2 t172 t175 x11_2 t191 x11_2)) else (none))) else (none)) = some (r1, r2) := by first | (have H2_ := (Option.bind_some _ _).symm.trans H; rw [hy182]; with_reducible exact H2_)
      have Ny182 := Aside0.mk hy182
      clear hy182
      by_cases c15 : y182.length + l1.length < 140737488355328
      rotate_left
      · rw [if_neg c15] at H
        exact absurd H (by simp)
      rw [if_pos c15] at H
      have LMc15 := Aside0.mk c15
      clear c15
      obtain ⟨y185, hy185⟩ : ∃ y_ : List Int, y_ = (y182 ++ l1) := ⟨_, rfl⟩
      replace H : (if y185.length + t178.length < 140737488355328 then ((pyxref05_lock.f k2 t175 t172 (y185 ++ t178)).bind fun t191 => (pyxref05_Stream.l1 k2 l1 l2 x8_2 t172 t175 x11_2 t191 x11_2)) else (none)) = some (r1, r2) := by first | (have H2_ := (Option.bind_some _ _).symm.trans H; rw [hy185]; with_reducible exact H2_)
      have Ny185 := Aside0.mk hy185
      clear hy185
      by_cases c16 : y185.length + t178.length < 140737488355328
      rotate_left
      · rw [if_neg c16] at H
        exact absurd H (by simp)
      rw [if_pos c16] at H
      have LMc16 := Aside0.mk c16
      clear c16
      obtain ⟨y188, hy188⟩ : ∃ y_ : List Int, y_ = (y185 ++ t178) := ⟨_, rfl⟩
      replace H : ((pyxref05_lock.f k2 t175 t172 y188).bind fun t191 => (pyxref05_Stream.l1 k2 l1 l2 x8_2 t172 t175 x11_2 t191 x11_2)) = some (r1, r2) := by first | (rw [hy188]; with_reducible exact H)
      have Ny188 := Aside0.mk hy188
      clear hy188
      replace H := Option.bind_eq_some_iff.mp H
      obtain ⟨t191, A170, H⟩ := H
      replace H : (pyxref05_Stream.l1 k2 l1 l2 x8_2 t172 t175 x11_2 t191 x11_2) = some (r1, r2) := H
      have A17 := Aside0.mk A170
      clear A170
      have H' := Aside0.mk H
      clear H
      go_wp2_with (first | ((with_reducible refine gate_callee (f := 54) rfl ?_); refine goesL_ (some 42) rfl rfl Try.func54 (by kernel_rfl) rfl #[.int .i64 (wrap64 ((wrap64 (Int.tdiv x11_2 16)) + 1)), .int .i64 4] rfl (by (try simp only [List.map_toArray, List.map_cons, List.map_nil]); first | rfl) ?_; (with_reducible refine (pyxref01_Num.calls (wrap64 ((wrap64 (Int.tdiv x11_2 16)) + 1)) 4 t178 t179 _ A14.out).mono ?_); rintro e w18 ⟨v180, rfl, ho0, hb⟩; refine ⟨_, rfl, ?_⟩; have n0_ := Aside0.mk (Kd.R_elder' (by (with_reducible repeat (fail)); exact HO_8.out) (Kd.R_base ho0) hb); have n1_ := Aside0.mk (Kd.R_elder' (by (with_reducible repeat (fail)); exact HO_9.out) (Kd.R_base ho0) hb); have n2_ := Aside0.mk (Kd.R_elder' (by (with_reducible repeat (fail)); exact HO_10.out) (Kd.R_base ho0) hb); have n3_ := Aside0.mk (Kd.R_lower (Kd.R_new' (Kd.R_new' (Kd.R_new' ho0 (Kd.R_lt (by (with_reducible repeat (fail)); exact HO_8.out))) (Kd.R_lt (by (with_reducible repeat (fail)); exact HO_9.out))) (Kd.R_lt (by (with_reducible repeat (fail)); exact HO_10.out))) (below_size (by repeat ((with_reducible first | exact HB.out))))); have n4_ := Aside0.mk (below_step (by repeat ((with_reducible first | exact HB.out))) hb); clear HO_8; clear HO_9; clear HO_10; clear HB; have HO_8 := n0_; have HO_9 := n1_; have HO_10 := n2_; have HO181 := n3_; have HB := n4_; clear n0_ n1_ n2_ n3_ n4_; (try clear hb); (try clear ho0)) | ((with_reducible refine gate_dst (N := 47) rfl ?_); (try (refine gate_guard (by rfl) ?_; dsimp only)); refine Kd.R_lit (Kd.int .u8) _ 5 ?hg (N := 47) ?hd (xs := ([] : List Int)) (inner := []) (ok := fun _ => True) (okp := fun _ => True) ?hr ?hp (fun _ hk => hk) trivial (Below.refl _ _) (Nat.le_refl _) (by simp) ?_; (case hd => rfl); (case hg => rfl); (case hr => first | (go_simp; done)); (case hp => exact (Reps.none _ _)); intro v183 w19 ho20 hb hg_ hnew_; clear hg_ hnew_; (rw [← Ny182.out] at ho20); have n0_ := Aside0.mk (Kd.R_elder' (by (with_reducible repeat (fail)); exact HO_8.out) (Kd.R_base ho20) hb); have n1_ := Aside0.mk (Kd.R_elder' (by (with_reducible repeat (fail)); exact HO_9.out) (Kd.R_base ho20) hb); have n2_ := Aside0.mk (Kd.R_elder' (by (with_reducible repeat (fail)); exact HO_10.out) (Kd.R_base ho20) hb); have n3_ := Aside0.mk (Kd.R_elder' (by (with_reducible repeat (fail)); exact HO181.out) (Kd.R_base ho20) hb); have n4_ := Aside0.mk (Kd.R_lower (Kd.R_new' (Kd.R_new' (Kd.R_new' (Kd.R_new' ho20 (Kd.R_lt (by (with_reducible repeat (fail)); exact HO_8.out))) (Kd.R_lt (by (with_reducible repeat (fail)); exact HO_9.out))) (Kd.R_lt (by (with_reducible repeat (fail)); exact HO_10.out))) (Kd.R_lt (by (with_reducible repeat (fail)); exact HO181.out))) (below_size (by repeat ((with_reducible first | exact HB.out))))); have n5_ := Aside0.mk (below_step (by repeat ((with_reducible first | exact HB.out))) hb); clear HO_8; clear HO_9; clear HO_10; clear HO181; clear HB; have HO_8 := n0_; have HO_9 := n1_; have HO_10 := n2_; have HO181 := n3_; have HO184 := n4_; have HB := n5_; clear n0_ n1_ n2_ n3_ n4_ n5_; clear hb ho20) | ((with_reducible refine gate_builtin (b := .append) (xs := #[.tmp 47, .tmp 48]) rfl ?_); (try (refine gate_guard (by rfl) ?_; dsimp only)); at_builtin; refine Kd.R_append_rows (Kd.int .u8) (w0 := w) w.heap.size rfl (.tmp 47) (.tmp 48) 22 5 (.int .u8 0) 1 rfl Try.underlying22 info5 rfl (by decide) (by omega) v183 y182 l1 _ _ _ (fun k_ => some k_ ≠ (u8 : Value).ownBlock ∧ some k_ ≠ (.slice Ao11 t172.length co11 : Value).ownBlock ∧ some k_ ≠ (v176 : Value).ownBlock ∧ some k_ ≠ (v180 : Value).ownBlock) (fun _ => False) rfl rfl ?aO ?aR (fun _ _ h => h) (fun _ h => h.elim) ?aF ?aB ?aS ?aL ?_; (case aR => repeat (exact (Kd.C_below HR1.out HB.out))); (case aB => exact (by repeat ((with_reducible first | exact HB.out)))); (case aF => exact (fun k_ hk => ⟨Kd.fresh' (Kd.R_lt (by (with_reducible repeat (fail)); exact HO_8.out)) k_ hk, Kd.fresh' (Kd.R_lt (by (with_reducible repeat (fail)); exact HO_9.out)) k_ hk, Kd.fresh' (Kd.R_lt (by (with_reducible repeat (fail)); exact HO_10.out)) k_ hk, Kd.fresh' (Kd.R_lt (by (with_reducible repeat (fail)); exact HO181.out)) k_ hk⟩)); (case aO => exact (by (with_reducible repeat (fail)); exact Kd.R_mono HO184.out (fun _ hk => ⟨hk.1.1.1.2, ⟨hk.1.1.2, ⟨hk.1.2, hk.2⟩⟩⟩))); (case aS => exact (below_size (by repeat ((with_reducible first | exact HB.out))))); (case aL => have := LMc15.out; omega); intro v186 w21 ho hb hg hat; rw [← Ny185.out] at ho; have n0_ := Aside0.mk (Kd.R_after (ok := (fun k_ => some k_ ≠ (.slice Ao11 t172.length co11 : Value).ownBlock ∧ some k_ ≠ (v176 : Value).ownBlock ∧ some k_ ≠ (v180 : Value).ownBlock)) (by (with_reducible repeat (fail)); exact Kd.R_mono HO_8.out (fun _ hk => ⟨⟨hk.1.1.1, ⟨hk.1.1.2, hk.1.2⟩⟩, hk.2⟩)) hg hat); have n1_ := Aside0.mk (Kd.R_after (ok := (fun k_ => some k_ ≠ (u8 : Value).ownBlock ∧ some k_ ≠ (v176 : Value).ownBlock ∧ some k_ ≠ (v180 : Value).ownBlock)) (by (with_reducible repeat (fail)); exact Kd.R_mono HO_9.out (fun _ hk => ⟨⟨hk.1.1.1, ⟨hk.1.1.2, hk.1.2⟩⟩, hk.2⟩)) hg hat); have n2_ := Aside0.mk (Kd.R_after (ok := (fun k_ => some k_ ≠ (u8 : Value).ownBlock ∧ some k_ ≠ (.slice Ao11 t172.length co11 : Value).ownBlock ∧ some k_ ≠ (v180 : Value).ownBlock)) (by (with_reducible repeat (fail)); exact Kd.R_mono HO_10.out (fun _ hk => ⟨⟨hk.1.1.1, ⟨hk.1.1.2, hk.1.2⟩⟩, hk.2⟩)) hg hat); have n3_ := Aside0.mk (Kd.R_after (ok := (fun k_ => some k_ ≠ (u8 : Value).ownBlock ∧ some k_ ≠ (.slice Ao11 t172.length co11 : Value).ownBlock ∧ some k_ ≠ (v176 : Value).ownBlock)) (by (with_reducible repeat (fail)); exact Kd.R_mono HO181.out (fun _ hk => ⟨⟨hk.1.1.1.2, ⟨hk.1.1.2, hk.1.2⟩⟩, hk.2⟩)) hg hat); have n4_ := Aside0.mk (hb); have n5_ := Aside0.mk (ho); clear HO_8; clear HO_9; clear HO_10; clear HO181; clear HB; clear HO184; have HO_8 := n0_; have HO_9 := n1_; have HO_10 := n2_; have HO181 := n3_; have HB := n4_; have HO187 := n5_; clear n0_ n1_ n2_ n3_ n4_ n5_; clear ho hb hg hat; obtain ⟨Ao23, co23, eo23⟩ := Kd.R_slice HO181.out; subst eo23) | ((with_reducible refine gate_builtin (b := .append) (xs := #[.tmp 49, .tmp 50]) rfl ?_); (try (refine gate_guard (by rfl) ?_; dsimp only)); at_builtin; refine Kd.R_append_rows (Kd.int .u8) (w0 := w) w.heap.size rfl (.tmp 49) (.tmp 50) 22 5 (.int .u8 0) 1 rfl Try.underlying22 info5 rfl (by decide) (by omega) v186 y185 t178 _ _ _ (fun k_ => some k_ ≠ (u8 : Value).ownBlock ∧ some k_ ≠ (.slice Ao11 t172.length co11 : Value).ownBlock ∧ some k_ ≠ (v176 : Value).ownBlock ∧ some k_ ≠ (.slice Ao23 t178.length co23 : Value).ownBlock) (fun _ => False) rfl rfl ?aO ?aR (fun _ _ h => h) (fun _ h => h.elim) ?aF ?aB ?aS ?aL ?_; (case aR => repeat (exact (Kd.R_reads' HO181.out).2.2)); (case aB => exact (by repeat ((with_reducible first | exact HB.out)))); (case aF => exact (fun k_ hk => ⟨Kd.fresh' (Kd.R_lt (by (with_reducible repeat (fail)); exact HO_8.out)) k_ hk, Kd.fresh' (Kd.R_lt (by (with_reducible repeat (fail)); exact HO_9.out)) k_ hk, Kd.fresh' (Kd.R_lt (by (with_reducible repeat (fail)); exact HO_10.out)) k_ hk, Kd.fresh' (Kd.R_lt (by (with_reducible repeat (fail)); exact HO181.out)) k_ hk⟩)); (case aO => exact (by (with_reducible repeat (fail)); exact HO187.out)); (case aS => exact (below_size (by repeat ((with_reducible first | exact HB.out))))); (case aL => have := LMc16.out; omega); intro v189 w22 ho hb hg hat; rw [← Ny188.out] at ho; have n0_ := Aside0.mk (Kd.R_after (ok := (fun k_ => some k_ ≠ (.slice Ao11 t172.length co11 : Value).ownBlock ∧ some k_ ≠ (v176 : Value).ownBlock ∧ some k_ ≠ (.slice Ao23 t178.length co23 : Value).ownBlock)) (by (with_reducible repeat (fail)); exact HO_8.out) hg hat); have n1_ := Aside0.mk (Kd.R_after (ok := (fun k_ => some k_ ≠ (u8 : Value).ownBlock ∧ some k_ ≠ (v176 : Value).ownBlock ∧ some k_ ≠ (.slice Ao23 t178.length co23 : Value).ownBlock)) (by (with_reducible repeat (fail)); exact HO_9.out) hg hat); have n2_ := Aside0.mk (Kd.R_after (ok := (fun k_ => some k_ ≠ (u8 : Value).ownBlock ∧ some k_ ≠ (.slice Ao11 t172.length co11 : Value).ownBlock ∧ some k_ ≠ (.slice Ao23 t178.length co23 : Value).ownBlock)) (by (with_reducible repeat (fail)); exact HO_10.out) hg hat); have n3_ := Aside0.mk (Kd.R_after (ok := (fun k_ => some k_ ≠ (u8 : Value).ownBlock ∧ some k_ ≠ (.slice Ao11 t172.length co11 : Value).ownBlock ∧ some k_ ≠ (v176 : Value).ownBlock)) (by (with_reducible repeat (fail)); exact HO181.out) hg hat); have n4_ := Aside0.mk (hb); have n5_ := Aside0.mk (ho); clear HO_8; clear HO_9; clear HO_10; clear HO181; clear HB; clear HO187; have HO_8 := n0_; have HO_9 := n1_; have HO_10 := n2_; have HO181 := n3_; have HB := n4_; have HO190 := n5_; clear n0_ n1_ n2_ n3_ n4_ n5_; clear ho hb hg hat; obtain ⟨Ao24, co24, eo24⟩ := Kd.R_slice HO_10.out; subst eo24; obtain ⟨Ao25, co25, eo25⟩ := Kd.R_slice HO190.out; subst eo25) | ((with_reducible refine gate_callee (f := 55) rfl ?_); refine goesL_ (some 52) rfl rfl Try.func55 (by kernel_rfl) rfl #[.slice Ao24 t175.length co24, .slice Ao11 t172.length co11, .slice Ao25 y188.length co25] rfl (by (try simp only [List.map_toArray, List.map_cons, List.map_nil]); first | rfl) ?_; (with_reducible refine (pyxref05_lock.calls k2 _ _ t175 _ _ t172 _ _ y188 t191 _ ?side1 ?side2 ?side3 ?side4 ?side5 ?side6 A17.out).mono ?_); (case side1 => repeat (exact (Kd.R_reads' HO_10.out).2.2)); (case side2 => exact (Kd.R_reads' HO_10.out).2.1); (case side3 => repeat (exact (Kd.R_reads' HO_9.out).2.2)); (case side4 => exact (Kd.R_reads' HO_9.out).2.1); (case side5 => repeat (exact (Kd.R_reads' HO190.out).2.2)); (case side6 => exact (Kd.R_reads' HO190.out).2.1); rintro e w26 ⟨v192, rfl, ho0, hb⟩; refine ⟨_, rfl, ?_⟩; have n0_ := Aside0.mk (Kd.R_elder' (by (with_reducible repeat (fail)); exact HO_8.out) (Kd.R_base ho0) hb); have n1_ := Aside0.mk (Kd.R_elder' (by (with_reducible repeat (fail)); exact HO_9.out) (Kd.R_base ho0) hb); have n2_ := Aside0.mk (Kd.R_elder' (by (with_reducible repeat (fail)); exact HO_10.out) (Kd.R_base ho0) hb); have n3_ := Aside0.mk (Kd.R_elder' (by (with_reducible repeat (fail)); exact HO181.out) (Kd.R_base ho0) hb); have n4_ := Aside0.mk (Kd.R_elder' (by (with_reducible repeat (fail)); exact HO190.out) (Kd.R_base ho0) hb); have n5_ := Aside0.mk (Kd.R_lower (Kd.R_new' (Kd.R_new' (Kd.R_new' (Kd.R_new' (Kd.R_new' ho0 (Kd.R_lt (by (with_reducible repeat (fail)); exact HO_8.out))) (Kd.R_lt (by (with_reducible repeat (fail)); exact HO_9.out))) (Kd.R_lt (by (with_reducible repeat (fail)); exact HO_10.out))) (Kd.R_lt (by (with_reducible repeat (fail)); exact HO181.out))) (Kd.R_lt (by (with_reducible repeat (fail)); exact HO190.out))) (below_size (by repeat ((with_reducible first | exact HB.out))))); have n6_ := Aside0.mk (below_step (by repeat ((with_reducible first | exact HB.out))) hb); clear HO_8; clear HO_9; clear HO_10; clear HO181; clear HO190; clear HB; have HO_8 := n0_; have HO_9 := n1_; have HO_10 := n2_; have HO181 := n3_; have HO190 := n4_; have HO193 := n5_; have HB := n6_; clear n0_ n1_ n2_ n3_ n4_ n5_ n6_; (try clear hb); (try clear ho0)))
      go_loopg [8, 15] k2 (fun kq v8 v15 w' => ∃ (x8_3 : List Int) (x15_3 : Int), v15 = .int .i64 x15_3 ∧ Aside0 (pyxref05_Stream.l1 kq l1 l2 x8_3 t172 t175 x11_2 t191 x15_3 = some (r1, r2)) ∧ Aside0 (kq ≤ k2) ∧ Aside0 (Kd.R (Kd.int .u8) 5 w' w.heap.size (fun k_ => some k_ ≠ ((.slice Ao11 t172.length co11) : Value).ownBlock ∧ some k_ ≠ ((.slice Ao24 t175.length co24) : Value).ownBlock ∧ some k_ ≠ (v192 : Value).ownBlock) v8 x8_3) ∧ Aside0 (Kd.R (Kd.int .u8) 5 w' w.heap.size (fun k_ => some k_ ≠ (v8 : Value).ownBlock ∧ some k_ ≠ ((.slice Ao24 t175.length co24) : Value).ownBlock ∧ some k_ ≠ (v192 : Value).ownBlock) (.slice Ao11 t172.length co11) t172) ∧ Aside0 (Kd.R (Kd.int .u8) 5 w' w.heap.size (fun k_ => some k_ ≠ (v8 : Value).ownBlock ∧ some k_ ≠ ((.slice Ao11 t172.length co11) : Value).ownBlock ∧ some k_ ≠ (v192 : Value).ownBlock) (.slice Ao24 t175.length co24) t175) ∧ Aside0 (Kd.R (Kd.int .u8) 5 w' w.heap.size (fun k_ => some k_ ≠ (v8 : Value).ownBlock ∧ some k_ ≠ ((.slice Ao11 t172.length co11) : Value).ownBlock ∧ some k_ ≠ ((.slice Ao24 t175.length co24) : Value).ownBlock) v192 t191) ∧ Aside0 (Below w.heap.size w w'))
      case atStart => exact ⟨(x8_2), (x11_2), (by first | rfl), H', ⟨Nat.le_refl _⟩, ⟨by (with_reducible repeat (fail)); exact Kd.R_mono HO_8.out (fun _ hk => ⟨hk.1.1.1, ⟨hk.1.1.2.1, hk.2⟩⟩)⟩, ⟨by (with_reducible repeat (fail)); exact Kd.R_mono HO_9.out (fun _ hk => ⟨hk.1.1.1, ⟨hk.1.1.2.1, hk.2⟩⟩)⟩, ⟨by (with_reducible repeat (fail)); exact Kd.R_mono HO_10.out (fun _ hk => ⟨hk.1.1.1, ⟨hk.1.1.2.1, hk.2⟩⟩)⟩, ⟨by (with_reducible repeat (fail)); exact Kd.R_mono HO193.out (fun _ hk => ⟨hk.1.1.1.1.2, ⟨hk.1.1.1.2, hk.1.1.2⟩⟩)⟩, ⟨by repeat ((with_reducible first | exact HB.out))⟩⟩
      clear H'
      skip
      skip
      skip
      skip
      skip
      skip
      skip
      skip
      skip
      skip
      skip
      skip
      skip
      try clear c13b0
      skip
      skip
      skip
      skip
      obtain ⟨x8_3, x15_3, rfl, HA, HK3, HO_8, HO_9, HO_10, HO_14, HB⟩ := hrel
      cases gk with
      | zero => exact absurd HA.out (by simp [pyxref05_Stream.l1])
      | succ k3 =>
        have H := HA.out
        clear HA
        simp only [pyxref05_Stream.l1] at H
        by_cases c27 : x15_3 < (wrap64 (x11_2 + 16))
        rotate_left
        · rw [if_neg c27] at H
          have c27b0 : decide (x15_3 < (wrap64 (x11_2 + 16))) = false := decide_eq_false c27
          clear c27
          have H' := Aside0.mk H
          clear H
          go_wp2
          go_roundg k3
          case measure => have := HJ3.out; have := HK2.out; have := HK3.out; omega
          case rel => exact ⟨(x8_3), (wrap64 (x11_2 + 16)), (by first | rfl), H', ⟨by have := HJ3.out; have := HK2.out; have := HK3.out; omega⟩, ⟨by (with_reducible repeat (fail)); exact Kd.R_mono HO_8.out (fun _ hk => ⟨hk.1, hk.2.1⟩)⟩, ⟨by (with_reducible repeat (fail)); exact Kd.R_mono HO_9.out (fun _ hk => ⟨hk.1, hk.2.1⟩)⟩, ⟨by (with_reducible repeat (fail)); exact Kd.R_mono HO_10.out (fun _ hk => ⟨hk.1, hk.2.1⟩)⟩, ⟨by repeat ((with_reducible first | exact HB.out))⟩⟩
        rw [if_pos c27] at H
        have c27b0 : decide (x15_3 < (wrap64 (x11_2 + 16))) = true := decide_eq_true c27
        clear c27
        by_cases c28 : x15_3 < (l2.length : Int)
        rotate_left
        · rw [if_neg c28] at H
          have c28b0 : decide (x15_3 < (l2.length : Int)) = false := decide_eq_false c28
          clear c28
          have H' := Aside0.mk H
          clear H
          go_wp2
          go_roundg k3
          case measure => have := HJ3.out; have := HK2.out; have := HK3.out; omega
          case rel => exact ⟨(x8_3), (wrap64 (x11_2 + 16)), (by first | rfl), H', ⟨by have := HJ3.out; have := HK2.out; have := HK3.out; omega⟩, ⟨by (with_reducible repeat (fail)); exact Kd.R_mono HO_8.out (fun _ hk => ⟨hk.1, hk.2.1⟩)⟩, ⟨by (with_reducible repeat (fail)); exact Kd.R_mono HO_9.out (fun _ hk => ⟨hk.1, hk.2.1⟩)⟩, ⟨by (with_reducible repeat (fail)); exact Kd.R_mono HO_10.out (fun _ hk => ⟨hk.1, hk.2.1⟩)⟩, ⟨by repeat ((with_reducible first | exact HB.out))⟩⟩
        rw [if_pos c28] at H
        have c28b0 : decide (x15_3 < (l2.length : Int)) = true := decide_eq_true c28
        clear c28
        by_cases c29 : 0 ≤ x15_3
        rotate_left
        · rw [if_neg c29] at H
          exact absurd H (by simp)
        rw [if_pos c29] at H
        have c29b0 : decide (0 ≤ x15_3) = true := decide_eq_true c29
        clear c29
        obtain ⟨ji30, hji30⟩ : ∃ j_ : Int, (wrap64 (x15_3 - x11_2)) = j_ := ⟨_, rfl⟩
        replace H : (if 0 ≤ (ji30) then (if (ji30) < (t191.length : Int) then (if x8_3.length < 140737488355328 then (pyxref05_Stream.l1 k3 l1 l2 (x8_3 ++ [Go.bits .xor .u8 (rd l2 x15_3) (rd t191 (ji30))]) t172 t175 x11_2 t191 (wrap64 (x15_3 + 1))) else (none)) else (none)) else (none)) = some (r1, r2) := by first | (rw [hji30] at H; exact H)
        have hji30w : (IntKind.i64.wrap (x15_3 - x11_2)) = ji30 := (i64_w _).trans hji30
        by_cases c31 : 0 ≤ (ji30)
        rotate_left
        · rw [if_neg c31] at H
          exact absurd H (by simp)
        rw [if_pos c31] at H
        have c31b0 : decide (0 ≤ (ji30)) = true := decide_eq_true c31
        clear c31
        by_cases c32 : (ji30) < (t191.length : Int)
        rotate_left
        · rw [if_neg c32] at H
          exact absurd H (by simp)
        rw [if_pos c32] at H
        have c32b0 : decide ((ji30) < (t191.length : Int)) = true := decide_eq_true c32
        clear c32
        by_cases c33 : x8_3.length < 140737488355328
        rotate_left
        · rw [if_neg c33] at H
          exact absurd H (by simp)
        rw [if_pos c33] at H
        have LMc33 := Aside0.mk c33
        clear c33
        obtain ⟨y196, hy196⟩ : ∃ y_ : List Int, y_ = (x8_3 ++ [Go.bits .xor .u8 (rd l2 x15_3) (rd t191 (ji30))]) := ⟨_, rfl⟩
        replace H : (pyxref05_Stream.l1 k3 l1 l2 y196 t172 t175 x11_2 t191 (wrap64 (x15_3 + 1))) = some (r1, r2) := by first | (rw [hy196]; with_reducible exact H)
        have Ny196 := Aside0.mk hy196
        clear hy196
        have H' := Aside0.mk H
        clear H
        try go_wp2
        have n0_ := Aside0.mk (Kd.R_drew HO_8.out)
        have n1_ := Aside0.mk (Kd.R_drew HO_9.out)
        have n2_ := Aside0.mk (Kd.R_drew HO_10.out)
        have n3_ := Aside0.mk (Kd.R_drew HO_14.out)
        have n4_ := Aside0.mk (below_drew1 HB.out)
        clear HO_8
        clear HO_9
        clear HO_10
        clear HO_14
        clear HB
        have HO_8 := n0_
        have HO_9 := n1_
        have HO_10 := n2_
        have HO_14 := n3_
        have HB := n4_
        clear n0_ n1_ n2_ n3_ n4_
        have p194 : 0 ≤ (x15_3 : Int) := of_decide_eq_true (by first | (with_reducible assumption))
        have q194 : x15_3 < (l2.length : Int) := of_decide_eq_true (by first | (with_reducible assumption))
        obtain ⟨ad194, e194, hx194_0⟩ := Kd.at_int HR2.out x15_3 p194 q194
        have hw194_0 := hx194_0
        cases e194
        replace hx194_0 := (HB.out.cell (World.block_lt_of_cell? w _ hx194_0)).trans hx194_0
        replace p194 := eq_true p194
        replace q194 := eq_true q194
        obtain ⟨Ao35, co35, eo35⟩ := Kd.R_slice HO_14.out
        (subst eo35)
        have p195 : 0 ≤ ((ji30) : Int) := of_decide_eq_true (by first | (with_reducible assumption))
        have q195 : (ji30) < (t191.length : Int) := of_decide_eq_true (by first | (with_reducible assumption))
        obtain ⟨ad195, e195, hx195_0⟩ := Kd.at_int (Kd.R_reads' HO_14.out).2.2 (ji30) p195 q195
        cases e195
        replace p195 := eq_true p195
        replace q195 := eq_true q195
        refine start_ (n := 15) (S := fun w' => w'.cell? (ad194.add (x15_3).toNat) = some (.int .u8 (rd l2 x15_3)) ∧ w'.cell? (ad195.add ((ji30)).toNat) = some (.int .u8 (rd t191 (ji30)))) (ds := [12, 13]) #[false, false, false, false, false, false, false, false, false, false, false, false, false, false, false] (by kernel_rfl) rfl rfl ⟨((HB.out.cell (World.block_lt_of_cell? w _ hw194_0)).trans hw194_0), hx195_0⟩ (fun hHeld => ?_); refine with_tabW pyxref05_Stream.tab16 pyxref05_Stream.bits16 (fun HT_ HW_ => ?_)
        generalize wr.drew = w34 at HO_8 HO_9 HO_10 HO_14 HB hx194_0 hx195_0 hHeld ⊢
        refine pure_ (i := 0) (N := some 66) (v := ?_) (a' := ?_) #[true, false, false, false, false, false, false, false, false, false, false, false, false, false, false] rfl rfl (any_of HT_.out (by kernel_rfl)) (fun _ _ _ h => h) (Or.inl ⟨by rfl, ?_⟩) ?_ ?_
        rotate_left
        · intro w'
          go_simp
          with_reducible rfl
        rotate_left
        · simp only [Act.put, List.setIfInBounds_toArray, List.set_cons_zero, List.set_cons_succ, i64_w, i32_w]
          rfl
        refine pure_ (i := 1) (N := some 67) (v := ?_) (a' := ?_) #[true, true, false, false, false, false, false, false, false, false, false, false, false, false, false] rfl rfl (any_of HT_.out (by kernel_rfl)) (fun _ _ _ h => h) (Or.inl ⟨by rfl, ?_⟩) ?_ ?_
        rotate_left
        · intro w'
          go_simp
          with_reducible rfl
        rotate_left
        · simp only [Act.put, List.setIfInBounds_toArray, List.set_cons_zero, List.set_cons_succ, i64_w, i32_w]
          rfl
        refine pure_ (i := 2) (N := some 68) (v := ?_) (a' := ?_) #[true, true, true, false, false, false, false, false, false, false, false, false, false, false, false] rfl rfl (any_of HT_.out (by kernel_rfl)) (fun _ _ _ h => h) (Or.inl ⟨by rfl, ?_⟩) ?_ ?_
        rotate_left
        · intro w'
          go_simp
          with_reducible rfl
        rotate_left
        · simp only [Act.put, List.setIfInBounds_toArray, List.set_cons_zero, List.set_cons_succ, i64_w, i32_w]
          rfl
        refine pure_ (i := 3) (N := some 69) (v := ?_) (a' := ?_) #[true, true, true, true, false, false, false, false, false, false, false, false, false, false, false] rfl rfl (any_of HT_.out (by kernel_rfl)) (fun _ _ _ h => h) (Or.inl ⟨by rfl, ?_⟩) ?_ ?_
        rotate_left
        · intro w'
          go_simp
          with_reducible rfl
        rotate_left
        · simp only [Act.put, List.setIfInBounds_toArray, List.set_cons_zero, List.set_cons_succ, i64_w, i32_w]
          rfl
        refine pure_ (i := 5) (N := some 71) (v := ?_) (a' := ?_) #[true, true, true, true, false, true, false, false, false, false, false, false, false, false, false] rfl rfl (any_of HT_.out (by kernel_rfl)) (fun _ _ _ h => h) (Or.inl ⟨by rfl, ?_⟩) ?_ ?_
        rotate_left
        · intro w'
          go_simp
          with_reducible rfl
        rotate_left
        · simp only [Act.put, List.setIfInBounds_toArray, List.set_cons_zero, List.set_cons_succ, i64_w, i32_w]
          rfl
        refine pure_ (i := 6) (N := some 72) (v := ?_) (a' := ?_) #[true, true, true, true, false, true, true, false, false, false, false, false, false, false, false] rfl rfl (any_of HT_.out (by kernel_rfl)) (fun _ _ _ h => h) (Or.inl ⟨by rfl, ?_⟩) ?_ ?_
        rotate_left
        · intro w'
          go_simp
          with_reducible rfl
        rotate_left
        · simp only [Act.put, List.setIfInBounds_toArray, List.set_cons_zero, List.set_cons_succ, i64_w, i32_w]
          rfl
        refine pure_ (i := 7) (N := some 73) (v := ?_) (a' := ?_) #[true, true, true, true, false, true, true, true, false, false, false, false, false, false, false] rfl rfl (any_of HT_.out (by kernel_rfl)) (fun _ _ _ h => h) (Or.inl ⟨by rfl, ?_⟩) ?_ ?_
        rotate_left
        · intro w'
          go_simp
          with_reducible rfl
        rotate_left
        · simp only [Act.put, List.setIfInBounds_toArray, List.set_cons_zero, List.set_cons_succ, i64_w, i32_w]
          rfl
        refine pure_ (i := 8) (N := some 74) (v := ?_) (a' := ?_) #[true, true, true, true, false, true, true, true, true, false, false, false, false, false, false] rfl rfl (any_of HT_.out (by kernel_rfl)) (fun _ _ _ h => h) (Or.inl ⟨by rfl, ?_⟩) ?_ ?_
        rotate_left
        · intro w'
          go_simp
          with_reducible rfl
        rotate_left
        · simp only [Act.put, List.setIfInBounds_toArray, List.set_cons_zero, List.set_cons_succ, i64_w, i32_w]
          rfl
        refine pure_ (i := 9) (N := some 75) (v := ?_) (a' := ?_) #[true, true, true, true, false, true, true, true, true, true, false, false, false, false, false] rfl rfl (any_of HT_.out (by kernel_rfl)) (fun _ _ _ h => h) (Or.inl ⟨by rfl, ?_⟩) ?_ ?_
        rotate_left
        · intro w'
          go_simp
          with_reducible rfl
        rotate_left
        · simp only [Act.put, List.setIfInBounds_toArray, List.set_cons_zero, List.set_cons_succ, i64_w, i32_w]
          rfl
        refine take_ (i := 4) (N := some 70) (v := ?_) (a' := ?_) #[true, true, true, true, true, true, true, true, true, true, false, false, false, false, false] rfl rfl (take_ofW HT_.out HW_.out (by kernel_rfl)) (fun _ _ _ h => h) (Or.inl ⟨by rfl, ?_⟩) hHeld ?_ ?_
        rotate_left
        · rintro w' ⟨s0, s1⟩
          go_simp
          with_reducible rfl
        rotate_left
        · simp only [Act.put, List.setIfInBounds_toArray, List.set_cons_zero, List.set_cons_succ, i64_w, i32_w]
          rfl
        refine take_ (i := 10) (N := some 76) (v := ?_) (a' := ?_) #[true, true, true, true, true, true, true, true, true, true, true, false, false, false, false] rfl rfl (take_ofW HT_.out HW_.out (by kernel_rfl)) (fun _ _ _ h => h) (Or.inl ⟨by rfl, ?_⟩) hHeld ?_ ?_
        rotate_left
        · rintro w' ⟨s0, s1⟩
          go_simp
          with_reducible rfl
        rotate_left
        · simp only [Act.put, List.setIfInBounds_toArray, List.set_cons_zero, List.set_cons_succ, i64_w, i32_w]
          rfl
        refine pure_ (i := 11) (N := some 77) (v := ?_) (a' := ?_) #[true, true, true, true, true, true, true, true, true, true, true, true, false, false, false] rfl rfl (any_of HT_.out (by kernel_rfl)) (fun _ _ _ h => h) (Or.inl ⟨by rfl, ?_⟩) ?_ ?_
        rotate_left
        · intro w'
          go_simp
          with_reducible rfl
        rotate_left
        · simp only [Act.put, List.setIfInBounds_toArray, List.set_cons_zero, List.set_cons_succ, i64_w, i32_w]
          rfl
        refine last_ (i := 12) (N := some 78) #[true, true, true, true, true, true, true, true, true, true, true, true, true, false, false] rfl rfl (one_of HT_.out (by kernel_rfl)) (by decide) (fun K hK => ?_)
        refine value_ (w1 := ?_) (v := ?_) (by rfl) rfl ?_ ?_
        rotate_left 2
        · go_simp
          constructor
          · rfl
          · rfl
        refine hK.out _ _ ?_
        clear hK K
        refine norm_ (a' := ?_) ?_ ?_
        rotate_left
        · show Act.put _ (some 78) _ = _
          simp only [Act.put, List.setIfInBounds_toArray, List.set_cons_zero, List.set_cons_succ, i64_w, i32_w]
          rfl
        refine last_ (i := 13) (N := some 79) #[true, true, true, true, true, true, true, true, true, true, true, true, true, true, false] rfl rfl (one_of HT_.out (by kernel_rfl)) (by decide) (fun K hK => ?_)
        refine Kd.R_append_step (Kd.int .u8) (w0 := w) w.heap.size (by rfl) (.tmp 66) (.tmp 78) 22 5 (.int .u8 0) 1 rfl Try.underlying22 info5 rfl (by decide) (by omega) u8 x8_3 (Go.bits .xor .u8 (rd l2 x15_3) (rd t191 (ji30))) [.int .u8 (Go.bits .xor .u8 (rd l2 x15_3) (rd t191 (ji30)))] (fun k_ => some k_ ≠ (.slice Ao11 t172.length co11 : Value).ownBlock ∧ some k_ ≠ (.slice Ao24 t175.length co24 : Value).ownBlock ∧ some k_ ≠ (.slice (some ad195) t191.length co35 : Value).ownBlock) (fun _ => False) rfl rfl ?aP (fun _ hk => hk.elim) ?aF ?aO ?aB ?aS ?aL ?_
        (case aP => exact rfl)
        (case aB => exact (by repeat ((with_reducible first | exact HB.out))))
        (case aF => exact (fun k_ hk => ⟨Kd.fresh' (Kd.R_lt (by (with_reducible repeat (fail)); exact HO_9.out)) k_ hk, Kd.fresh' (Kd.R_lt (by (with_reducible repeat (fail)); exact HO_10.out)) k_ hk, Kd.fresh' (Kd.R_lt (by (with_reducible repeat (fail)); exact HO_14.out)) k_ hk⟩))
        (case aO => exact (by (with_reducible repeat (fail)); exact HO_8.out))
        (case aS => exact (below_size (by repeat ((with_reducible first | exact HB.out)))))
        (case aL => have := LMc33.out; omega)
        intro v197 w36 ho hb hg hat
        rw [← Ny196.out] at ho
        have n0_ := Aside0.mk (Kd.R_after (ok := (fun k_ => some k_ ≠ (.slice Ao24 t175.length co24 : Value).ownBlock ∧ some k_ ≠ (.slice (some ad195) t191.length co35 : Value).ownBlock)) (by (with_reducible repeat (fail)); exact Kd.R_mono HO_9.out (fun _ hk => ⟨⟨hk.2.1, hk.2.2⟩, hk.1⟩)) hg hat)
        have n1_ := Aside0.mk (Kd.R_after (ok := (fun k_ => some k_ ≠ (.slice Ao11 t172.length co11 : Value).ownBlock ∧ some k_ ≠ (.slice (some ad195) t191.length co35 : Value).ownBlock)) (by (with_reducible repeat (fail)); exact Kd.R_mono HO_10.out (fun _ hk => ⟨⟨hk.2.1, hk.2.2⟩, hk.1⟩)) hg hat)
        have n2_ := Aside0.mk (Kd.R_after (ok := (fun k_ => some k_ ≠ (.slice Ao11 t172.length co11 : Value).ownBlock ∧ some k_ ≠ (.slice Ao24 t175.length co24 : Value).ownBlock)) (by (with_reducible repeat (fail)); exact Kd.R_mono HO_14.out (fun _ hk => ⟨⟨hk.2.1, hk.2.2⟩, hk.1⟩)) hg hat)
        have n3_ := Aside0.mk (hb)
        have n4_ := Aside0.mk (ho)
        clear HO_9
        clear HO_10
        clear HO_14
        clear HB
        clear HO_8
        have HO_9 := n0_
        have HO_10 := n1_
        have HO_14 := n2_
        have HB := n3_
        have HO198 := n4_
        clear n0_ n1_ n2_ n3_ n4_
        clear ho hb hg hat
        refine hK.out _ _ ?_
        clear hK K
        refine norm_ (a' := ?_) ?_ ?_
        rotate_left
        · show Act.put _ (some 79) _ = _
          simp only [Act.put, List.setIfInBounds_toArray, List.set_cons_zero, List.set_cons_succ, i64_w, i32_w]
          rfl
        refine pure_ (i := 14) (N := some 8) (v := ?_) (a' := ?_) #[true, true, true, true, true, true, true, true, true, true, true, true, true, true, true] rfl rfl (any_of HT_.out (by kernel_rfl)) (fun _ _ _ h => h) (Or.inl ⟨by rfl, ?_⟩) ?_ ?_
        rotate_left
        · intro w'
          go_simp
          with_reducible rfl
        rotate_left
        · simp only [Act.put, List.setIfInBounds_toArray, List.set_cons_zero, List.set_cons_succ, i64_w, i32_w]
          rfl
        refine done_ (done_of HT_.out (by kernel_rfl)) ?_
        try go_wp2
        go_roundg k3
        case measure => have := HJ3.out; have := HK2.out; have := HK3.out; omega
        case rel => exact ⟨(y196), (wrap64 (x15_3 + 1)), (by first | rfl), H', ⟨by have := HJ3.out; have := HK2.out; have := HK3.out; omega⟩, ⟨by (with_reducible repeat (fail)); exact HO198.out⟩, ⟨by (with_reducible repeat (fail)); exact Kd.R_mono HO_9.out (fun _ hk => ⟨hk.2, ⟨hk.1.1, hk.1.2⟩⟩)⟩, ⟨by (with_reducible repeat (fail)); exact Kd.R_mono HO_10.out (fun _ hk => ⟨hk.2, ⟨hk.1.1, hk.1.2⟩⟩)⟩, ⟨by (with_reducible repeat (fail)); exact Kd.R_mono HO_14.out (fun _ hk => ⟨hk.2, ⟨hk.1.1, hk.1.2⟩⟩)⟩, ⟨by repeat ((with_reducible first | exact HB.out))⟩⟩
end Go.Proofs.Ytifpdpfjhjoieaa.C
