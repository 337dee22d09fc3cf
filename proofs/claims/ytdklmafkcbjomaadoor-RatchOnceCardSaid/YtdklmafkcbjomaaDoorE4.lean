/-
 The lower layers, walked and in closed forms, part 4: MathB, RatB, U0, U1, RatC, R0, RatD, RatE, RatG, RatH, RatI, RatJ, RatF, RatK, RatL, RatM.
-/
import Derived.Test.YtdklmafkcbjomaaDoorE0
import Derived.Test.YtdklmafkcbjomaaDoorE1
import Derived.Test.YtdklmafkcbjomaaDoorE3
import Derived.Test.YtdklmafkcbjomaaDoorProg
import Derived.Test.YtdklmafkcbjomaaDoorFWords
import Derived.Test.YtdklmafkcbjomaaDoorFLast
import Derived.Test.YtdklmafkcbjomaaDoorFMore
import Derived.Test.YtdklmafkcbjomaaDoorFRepsOne
import Derived.Test.YtdklmafkcbjomaaDoorFApart
import Derived.Below
import Derived.Deep.Draws
import Derived.Deep.AppendLies
import Derived.Maps.AppendAt
import Derived.OwnWalk
import Derived.Laws.BytesArg
import Derived.Laws.MakeOwn
import Derived.Laws.OwnMore
import Derived.Deep.OwnRows
import Derived.Tactics
import Derived.Lib.ConvBytes
import Derived.Laws.Slices
import Derived.WalkKit
import Derived.KernelRfl
import Derived.RowKit3
import Derived.Deep.LoopGhost
import Derived.Deep.QuietTactic
import Derived.BigQuiet
import Derived.WideLaws
import Derived.Deep.DeepCutAuto
import Derived.Deep.CutBlock
import Derived.Deep.RegionHeld3
import Derived.Laws.Rows
import Derived.Lib.AppendStr
import Derived.ArgAppend
import Derived.Laws.IdiomCopy
import Derived.OrdersHeld
import Derived.Laws.BitsLemmas
import Derived.RowKit
import Derived.Deep.RegionLaw
import Derived.IntWalk
import Derived.Laws.ResultCell
/-! MathB -/
namespace Go.Proofs.YtdklmafkcbjomaaDoor
set_option linter.unusedVariables false
set_option linter.unusedSimpArgs false
open Go.RowKit Go.Proofs.YtdklmafkcbjomaaDoorW.PrintWords Go.Proofs.YtdklmafkcbjomaaDoorW.PrintLast
attribute [local go_sem] Oper.semAt_some
theorem TabOk.below {B : Nat} {w w' : World} (h : TabOk w) (hb : Below B w w') (hB : 2 ≤ B) : TabOk w' :=
 ⟨Nat.le_trans h.1 hb.size, fun i hi => by
  have e := h.2 i hi
  unfold World.cell? at e ⊢
  rw [hb.block 1 (by omega)]
  exact e⟩
theorem levF_node : ∀ f k j, k < f → levF f (nodeAt k j) = k
 | 0, _, _, h => by omega
 | f + 1, 0, j, _ => by
  rw [nodeAt_leaf]
  unfold levF
  rw [if_neg (by omega)]
 | f + 1, k + 1, j, h => by
  have h1 := nodeAt_odd k j
  have h2 : nodeAt (k + 1) j / 2 = nodeAt k j := by
   have e1 := nodeAt_succ (k + 1) j
   have e2 := nodeAt_succ k j
   rw [Nat.pow_succ, Nat.mul_assoc, Nat.mul_left_comm] at e1
   omega
  unfold levF
  rw [if_pos h1, h2, levF_node f k j (by omega)]
theorem lev_node (k j : Nat) (h : k ≤ 10) : lev (nodeAt k j) = k := levF_node 11 k j (by omega)
set_option maxRecDepth 100000 in
set_option maxHeartbeats 1000000 in
theorem child_calls (x sd r : Int) (k : Nat) (w : World) (hc : Calls Tryd.prog 59 #[.int .i64 x] w fun e w' => e = .returned (.int .i64 ((k + 1 : Nat) : Int)) ∧ Below w.heap.size w w') (hk : k < 20) (hr : wrap64 (x + wrap64 (sd * 2 ^ k)) = r) :
  Calls Tryd.prog 48 #[.int .i64 x, .int .i64 sd] w fun e w' => e = .returned (.tuple #[.int .i64 r, .int .i64 0]) ∧ Below w.heap.size w w' := by
 have d0 : ((k : Int) + 1 == 0) = false := by simp; omega
 have H := Lib.hid hc
 have HR := Lib.hid hr
 clear hc hr
 go_enter Tryd.func48, Tryd.ntmps48
 go_wp2_with fail
 refine H.out.mono ?_
 rintro e w1 ⟨rfl, hb⟩
 go_wp2
 go_ret2
 exact ⟨by rw [HR.out]; rfl, hb⟩
theorem child_left (k j : Nat) (hk : k < 10) : wrap64 ((nodeAt (k + 1) j : Int) + wrap64 (-1 * 2 ^ k)) = (nodeAt k (2 * j) : Int) ∨ 2000000 ≤ nodeAt (k + 1) j := by
 by_cases hb : 2000000 ≤ nodeAt (k + 1) j
 ·exact .inr hb
 have h := node_left k j
 have hp : ((2 : Int) ^ k) = ((2 ^ k : Nat) : Int) := by simp
 have h2 : 2 ^ k ≤ 1024 := Nat.pow_le_pow_right (by decide) (show k ≤ 10 by omega)
 rw [hp]
 generalize 2 ^ k = q at *
 left
 unfold wrap64
 omega
theorem child_right (k j : Nat) (hk : k < 10) : wrap64 ((nodeAt (k + 1) j : Int) + wrap64 (1 * 2 ^ k)) = (nodeAt k (2 * j + 1) : Int) ∨ 2000000 ≤ nodeAt (k + 1) j := by
 by_cases hb : 2000000 ≤ nodeAt (k + 1) j
 ·exact .inr hb
 have h := node_right k j
 have hp : ((2 : Int) ^ k) = ((2 ^ k : Nat) : Int) := by simp
 have h2 : 2 ^ k ≤ 1024 := Nat.pow_le_pow_right (by decide) (show k ≤ 10 by omega)
 rw [hp]
 generalize 2 ^ k = q at *
 left
 unfold wrap64
 omega
theorem level_node (k j : Nat) (w : World) (h : nodeAt (k + 1) j < 2047) (hk : k < 10) (hT : TabOk w) : Calls Tryd.prog 59 #[.int .i64 (nodeAt (k + 1) j : Int)] w fun e w' => e = .returned (.int .i64 ((k + 1 : Nat) : Int)) ∧ Below w.heap.size w w' := by
 have := level_calls (nodeAt (k + 1) j) w h hT
 rwa [lev_node (k + 1) j (by omega)] at this
set_option maxRecDepth 100000 in
set_option maxHeartbeats 1000000 in
theorem left_calls (k j : Nat) (w : World) (h : nodeAt (k + 1) j < 2047) (hk : k < 10) (hT : TabOk w) :
  Calls Tryd.prog 30 #[.int .i64 (nodeAt (k + 1) j : Int)] w fun e w' => e = .returned (.tuple #[.int .i64 (nodeAt k (2 * j) : Int), .int .i64 0]) ∧ Below w.heap.size w w' := by
 have H := Lib.hid (child_calls _ (-1) _ k w (level_node k j w h hk hT) (by omega) ((child_left k j hk).resolve_right (by omega)))
 clear h hT
 generalize (nodeAt (k + 1) j : Int) = x at *
 generalize (nodeAt k (2 * j) : Int) = y at *
 go_enter Tryd.func30, Tryd.ntmps30
 go_wp2_with fail
 refine H.out.mono ?_
 rintro e w1 ⟨rfl, hb⟩
 go_wp2
 go_ret2
 exact ⟨rfl, hb⟩
set_option maxRecDepth 100000 in
set_option maxHeartbeats 1000000 in
theorem right_calls (k j : Nat) (w : World) (h : nodeAt (k + 1) j < 2047) (hk : k < 10) (hT : TabOk w) :
  Calls Tryd.prog 31 #[.int .i64 (nodeAt (k + 1) j : Int)] w fun e w' => e = .returned (.tuple #[.int .i64 (nodeAt k (2 * j + 1) : Int), .int .i64 0]) ∧ Below w.heap.size w w' := by
 have H := Lib.hid (child_calls _ 1 _ k w (level_node k j w h hk hT) (by omega) ((child_right k j hk).resolve_right (by omega)))
 clear h hT
 generalize (nodeAt (k + 1) j : Int) = x at *
 generalize (nodeAt k (2 * j + 1) : Int) = y at *
 go_enter Tryd.func31, Tryd.ntmps31
 go_wp2_with fail
 refine H.out.mono ?_
 rintro e w1 ⟨rfl, hb⟩
 go_wp2
 go_ret2
 exact ⟨rfl, hb⟩
/-- Is it a number of leaves? -/
def isT (n : Int) : Bool := decide (1 ≤ n) && decide (n ≤ 1024) && (bits BinOp.and IntKind.i64 n (n - 1) == 0)
set_option maxRecDepth 100000 in
theorem isT_all : (List.range 1025).all (fun n => !isT (n : Int) || (List.range 11).any (fun K => n == 2 ^ K)) = true := by decide +kernel
set_option maxRecDepth 100000 in
theorem isT_pow : ∀ K, K ≤ 10 → isT ((2 ^ K : Nat) : Int) = true := by decide +kernel
theorem isT_two (n : Int) (h : isT n = true) : ∃ K, K ≤ 10 ∧ n = ((2 ^ K : Nat) : Int) := by
 have h' := h
 simp only [isT, Bool.and_eq_true, decide_eq_true_eq] at h'
 obtain ⟨m, rfl⟩ := Int.eq_ofNat_of_zero_le (show 0 ≤ n by omega)
 have ha := List.all_eq_true.1 isT_all m (List.mem_range.2 (by omega))
 rw [h] at ha
 simp only [Bool.not_true, Bool.false_or, List.any_eq_true, List.mem_range, beq_iff_eq] at ha
 obtain ⟨K, h1, h2⟩ := ha
 exact ⟨K, by omega, by rw [h2]⟩
set_option maxRecDepth 100000 in
set_option maxHeartbeats 1000000 in
theorem isTree_calls (n : Int) (w : World) (hn : -9223372036854775808 ≤ n) (hn2 : n < 9223372036854775808) :
  Calls Tryd.prog 46 #[.int .i64 n] w fun e w' => e = .returned (.bool (isT n)) ∧ Below w.heap.size w w' := by
 by_cases h1 : 1 ≤ n
 case neg =>
  have d0 : decide (1 ≤ n) = false := by simp; omega
  have e : isT n = false := by unfold isT; rw [d0]; rfl
  rw [e]
  go_enter Tryd.func46, Tryd.ntmps46
  go_wp2
  go_ret
  exact ⟨rfl, Below.refl _ _⟩
 have d0 : decide (1 ≤ n) = true := by simp; omega
 by_cases h2 : n ≤ 1024
 case neg =>
  have d1 : decide (n ≤ 1024) = false := by simp; omega
  have e : isT n = false := by unfold isT; rw [d0, d1]; rfl
  rw [e]
  go_enter Tryd.func46, Tryd.ntmps46
  go_wp2
  go_ret
  exact ⟨rfl, Below.refl _ _⟩
 have d1 : decide (n ≤ 1024) = true := by simp; omega
 have e : isT n = (bits BinOp.and IntKind.i64 n (n - 1) == 0) := by unfold isT; rw [d0, d1]; rfl
 rw [e]
 go_enter Tryd.func46, Tryd.ntmps46
 go_wp2
 go_ret
 exact ⟨rfl, Below.refl _ _⟩
end Go.Proofs.YtdklmafkcbjomaaDoor

/-! RatB -/
namespace Go.Proofs.YtdklmafkcbjomaaDoor
set_option linter.unusedVariables false
set_option linter.unusedSimpArgs false
open Go.RowKit Go.Shelf Iter Go.Proofs.YtdklmafkcbjomaaDoorW.PrintWords Go.Proofs.YtdklmafkcbjomaaDoorW.PrintLast
attribute [local go_sem] Oper.semAt_some
set_option maxRecDepth 100000 in
set_option maxHeartbeats 1000000 in
theorem part_calls (lab : ByteArray) (n : Nat) (m : Int) (hm : m = (n : Int)) (hn : n ≤ 8160) (hl : lab.size ≤ 100000) (A0 : Option Addr) (c0 : Nat) (key : List Int) (A1 : Option Addr) (c1 : Nat) (info : List Int) (w : World) (ho : byteOk key = true) (hk : key.length ≤ 900000) (oi : byteOk info = true) (li : info.length ≤ 100000)
  (hr : Kd.C (Kd.int .u8) w A0 key.length key) (hc : key.length ≤ c0) (hr1 : Kd.C (Kd.int .u8) w A1 info.length info) (hc1 : info.length ≤ c1) :
  Calls Tryd.prog 29 #[.slice A0 key.length c0, .string lab, .slice A1 info.length c1, .int .i64 m] w fun e w' => ∃ v, e = .returned v ∧ Kd.R (Kd.int .u8) 5 w' w.heap.size (fun _ => True) v (labelOf key lab info n) ∧ Below w.heap.size w w' := by
 have hL := Lib.hid (show P.kdf_Label.f key lab info m = some (labelOf key lab info n, 0) by rw [hm]; exact label_some key lab info n hn ho oi hk hl li)
 have HK := Lib.hid (And.intro hr hr1)
 clear hm ho oi hr hr1
 go_enter Tryd.func29, Tryd.ntmps29
 go_wp2_with fail
 refine (P.kdf_Label.calls A0 c0 key lab A1 c1 info m (labelOf key lab info n) 0 w HK.out.1 hc HK.out.2 hc1 hL.out).mono ?_
 rintro e w' ⟨v, rfl, hR, hb⟩
 have HR := Lib.hid (And.intro hR hb)
 clear hR hb
 go_wp2
 go_ret
 exact ⟨_, rfl, HR.out⟩
theorem part_nil (lab : ByteArray) (hl : lab.size ≤ 100000) (A0 : Option Addr) (c0 : Nat) (key : List Int) (w : World) (ho : byteOk key = true) (hk : key.length ≤ 900000) (hr : Kd.C (Kd.int .u8) w A0 key.length key) (hc : key.length ≤ c0) :
  Calls Tryd.prog 29 #[.slice A0 key.length c0, .string lab, .slice none 0 0, .int .i64 32] w fun e w' => ∃ v, e = .returned v ∧ Kd.R (Kd.int .u8) 5 w' w.heap.size (fun _ => True) v (labelOf key lab [] 32) ∧ Below w.heap.size w w' :=
 part_calls lab 32 32 rfl (by decide) hl A0 c0 key none 0 [] w ho hk rfl (by decide) hr hc ⟨rfl, by decide, fun h => absurd h (by decide)⟩ (Nat.le_refl _)
set_option maxRecDepth 100000 in
set_option maxHeartbeats 1000000 in
theorem width_calls (n r : Int) (w : World) (hn : isT n = true) (hr : wrap64 (wrap64 (2 * n) - 1) = r) :
  Calls Tryd.prog 28 #[.int .i64 n] w fun e w' => e = .returned (.tuple #[.int .i64 r, .int .i64 0]) ∧ Below w.heap.size w w' := by
 obtain ⟨K, hK, rfl⟩ := isT_two n hn
 have h2 : 2 ^ K ≤ 1024 := Nat.pow_le_pow_right (by decide) hK
 generalize 2 ^ K = q at *
 obtain ⟨n, hq⟩ : ∃ n : Int, (q : Int) = n := ⟨_, rfl⟩
 have H := Lib.hid (isTree_calls n w (by omega) (by omega))
 rw [hq] at hn hr ⊢
 rw [hn] at H
 have HR := Lib.hid hr
 clear hn hr h2 hq
 go_enter Tryd.func28, Tryd.ntmps28
 go_wp2_with fail
 refine H.out.mono ?_
 rintro e w1 ⟨rfl, hb⟩
 go_wp2
 go_ret2
 exact ⟨by rw [HR.out]; rfl, hb⟩
theorem node_lt (K k i : Nat) (hK : K ≤ 10) (hi : i < 2 ^ K) (hk : k ≤ K) : nodeAt k (i / 2 ^ k) < 2047 := by
 have h1 := nodeAt_succ k (i / 2 ^ k)
 have hp : 2 ^ K ≤ 1024 := Nat.pow_le_pow_right (by decide) hK
 have hm := Nat.two_pow_pos k
 have e : 2 ^ K = 2 ^ k * 2 ^ (K - k) := by rw [← Nat.pow_add]; congr 1; omega
 have hj : i / 2 ^ k < 2 ^ (K - k) := Nat.div_lt_of_lt_mul (by rw [← e]; exact hi)
 generalize i / 2 ^ k = j at *
 have h2 : 2 ^ k * (j + 1) ≤ 2 ^ k * 2 ^ (K - k) := Nat.mul_le_mul_left _ hj
 have h3 : 2 ^ k * (2 * j + 1) + 2 ^ k = 2 * (2 ^ k * (j + 1)) := by rw [← Nat.mul_succ, Nat.mul_left_comm]; congr 1
 omega
theorem downS_right (i k : Nat) (s : List Int) (h : i / 2 ^ k % 2 = 1) : downS i (k + 1) s = downS i k (labelOf s labRight [] 32) := by rw [downS, if_pos h]
theorem downS_left (i k : Nat) (s : List Int) (h : ¬ i / 2 ^ k % 2 = 1) : downS i (k + 1) s = downS i k (labelOf s labLeft [] 32) := by rw [downS, if_neg h]
set_option maxRecDepth 100000 in
set_option maxHeartbeats 4000000 in
theorem leaf_calls (A0 : Option Addr) (c0 : Nat) (l0 : List Int) (K i : Nat) (w : World) (hT : TabOk w) (hK : K ≤ 10) (hi : i < 2 ^ K) (h32 : l0.length = 32) (o0 : byteOk l0 = true) (hr0 : Kd.C (Kd.int .u8) w A0 l0.length l0) (hc0 : l0.length ≤ c0) :
  Calls Tryd.prog 12 #[.slice A0 l0.length c0, .int .i64 ((2 ^ K : Nat) : Int), .int .i64 (i : Int)] w fun e w' => ∃ v, e = .returned (.tuple #[v, .int .i64 0]) ∧ Kd.R (Kd.int .u8) 5 w' w.heap.size (fun _ => True) v (leafS l0 K i) ∧ Below w.heap.size w w' := by
 have hp : 2 ^ K ≤ 1024 := Nat.pow_le_pow_right (by decide) hK
 have H32 := Lib.hid h32
 have HK := Lib.hid (And.intro hr0 (And.intro hT o0))
 have HI := Lib.hid (And.intro hi hp)
 obtain ⟨M, hM⟩ : ∃ M : Int, ((2 ^ K : Nat) : Int) = M := ⟨_, rfl⟩
 obtain ⟨Y, hY⟩ : ∃ Y : Int, ((2 * i : Nat) : Int) = Y := ⟨_, rfl⟩
 obtain ⟨I, hI⟩ : ∃ I : Int, (i : Int) = I := ⟨_, rfl⟩
 have HW := Lib.hid (width_calls M _ w (by rw [← hM]; exact isT_pow K hK) rfl)
 have q1 : wrap64 (2 * I) = Y := by rw [← hI, ← hY]; unfold wrap64; omega
 have q2 : wrap64 (M - 1) = (nodeAt K 0 : Int) := by
  have := nodeAt_root K
  rw [← hM]
  generalize 2 ^ K = q at *
  unfold wrap64
  omega
 have d0 : ((l0.length : Int) != 32) = false := by rw [h32]; rfl
 have d1 : decide (I < 0) = false := by rw [← hI]; simp
 have d2 : decide (M ≤ I) = false := by
  rw [← hI, ← hM]
  generalize 2 ^ K = q at *
  simp
  omega
 rw [hM, hI]
 clear hr0 hT o0 hi hp h32
 go_enter Tryd.func12, Tryd.ntmps12
 go_wp2_with fail
 refine HW.out.mono ?_
 rintro e W1 ⟨rfl, hb1⟩
 have H1 := Lib.hid hb1
 clear hb1 HW
 go_wp2_with fail
 refine (part_nil labTree (by decide) A0 c0 l0 W1 HK.out.2.2 (by rw [H32.out]; decide) (Kd.C_below HK.out.1 H1.out) hc0).mono ?_
 rintro e W2 ⟨v2, rfl, hR2, hb2⟩
 have H2 := Lib.hid (And.intro (Kd.R_lower hR2 H1.out.size) (H1.out.trans (hb2.mono H1.out.size)))
 clear hR2 hb2 H1
 go_wp2_with fail
 obtain ⟨s0, hs0⟩ : ∃ s0, labelOf l0 labTree [] 32 = s0 := ⟨_, rfl⟩
 have HS0 := Lib.hid (show s0.length = 32 ∧ byteOk s0 = true ∧ downS i K s0 = leafS l0 K i from ⟨by rw [← hs0]; exact labelOf_length _ _ _ _, by rw [← hs0]; exact byteOk_labelOf _ _ _ _, by rw [← hs0]; rfl⟩)
 rw [hs0] at H2
 clear hs0
 obtain ⟨G, hG⟩ : ∃ G, leafS l0 K i = G := ⟨_, rfl⟩
 rw [hG] at HS0
 have hi0 : i / 2 ^ K = 0 := Nat.div_eq_of_lt HI.out.1
 go_loopw [10, 11] (fun vs vx wr => ∃ (k : Nat) (s : List Int), k ≤ K ∧ vx = .int .i64 (nodeAt k (i / 2 ^ k) : Int) ∧ Hid (Kd.R (Kd.int .u8) 5 wr w.heap.size (fun _ => True) vs s ∧ s.length = 32 ∧ byteOk s = true ∧ downS i k s = G) ∧ Hid (Below w.heap.size w wr)) (fun _ vx _ => lev (intOf vx).toNat)
 case atStart => exact ⟨K, s0, Nat.le_refl _, by rw [hi0, q2], Lib.hid ⟨H2.out.1, HS0.out⟩, Lib.hid H2.out.2⟩
 clear H2 HS0 q2 hi0
 obtain ⟨k, s, hk, rfl, HS, HB⟩ := hrel
 cases k with
 | zero =>
  have hx : (nodeAt 0 (i / 2 ^ 0) : Int) = Y := by rw [Nat.pow_zero, Nat.div_one, nodeAt_leaf, hY]
  have hs : s = G := HS.out.2.2.2
  rw [hx]
  have dne : (Y != Y) = false := bne_self_eq_false _
  clear hx
  go_wp2
  go_ret2
  exact ⟨_, rfl, by rw [hG, ← hs]; exact HS.out.1, HB.out⟩
 | succ k =>
 have hlt := node_lt K (k + 1) i hK HI.out.1 hk
 have hodd := nodeAt_odd k (i / 2 ^ (k + 1))
 have hsd := node_side i k
 have hup := half_up i k
 have hlev := lev_node (k + 1) (i / 2 ^ (k + 1)) (by omega)
 have hlev2 := lev_node k (i / 2 ^ k) (by omega)
 obtain ⟨X, hX⟩ : ∃ X : Int, (nodeAt (k + 1) (i / 2 ^ (k + 1)) : Int) = X := ⟨_, rfl⟩
 obtain ⟨Z, hZ⟩ : ∃ Z : Int, (nodeAt k (i / 2 ^ k) : Int) = Z := ⟨_, rfl⟩
 have HM := Lib.hid (show lev (intOf (.int .i64 Z)).toNat < lev (intOf (.int .i64 X)).toNat by
  simp only [intOf]
  rw [← hX, ← hZ, Int.toNat_natCast, Int.toNat_natCast, hlev, hlev2]
  omega)
 have dne : (X != Y) = true := by
  rw [← hX, ← hY]
  simp only [bne_iff_ne, ne_eq, Int.natCast_inj]
  omega
 obtain ⟨As, cs, rfl, hcs, hCs⟩ := Kd.R_reads HS.out.1
 have HC := Lib.hid hCs
 clear hCs
 by_cases hb : i / 2 ^ k % 2 = 1
 ·have dlt : decide (X < Y) = true := by
   rw [← hX, ← hY]
   simp only [decide_eq_true_eq]
   have := hsd.2 hb
   omega
  have HC2 := Lib.hid (show ∀ W : World, TabOk W → Calls Tryd.prog 31 #[.int .i64 X] W fun e w' => e = .returned (.tuple #[.int .i64 Z, .int .i64 0]) ∧ Below W.heap.size W w' from fun W hT => by
   rw [← hX, ← hZ, show i / 2 ^ k = 2 * (i / 2 ^ (k + 1)) + 1 by omega]
   exact right_calls k (i / 2 ^ (k + 1)) W hlt (by omega) hT)
  rw [hX]
  clear hlt hodd hsd hup hlev hlev2 
  go_wp2_with fail
  refine (part_nil labRight (by decide) As cs s wr HS.out.2.2.1 (by rw [HS.out.2.1]; decide) HC.out hcs).mono ?_
  rintro e W3 ⟨v3, rfl, hR3, hb3⟩
  have H3 := Lib.hid (And.intro (Kd.R_lower hR3 HB.out.size) (HB.out.trans (hb3.mono HB.out.size)))
  clear hR3 hb3
  go_wp2_with fail
  refine (HC2.out W3 (HK.out.2.1.below H3.out.2 HK.out.2.1.1)).mono ?_
  rintro e W4 ⟨rfl, hb4⟩
  have H4 := Lib.hid (And.intro (Kd.R_below H3.out.1 hb4) (H3.out.2.trans (hb4.mono H3.out.2.size)))
  clear hb4 H3
  go_wp2
  exact ⟨⟨k, _, by omega, by rw [hZ], Lib.hid ⟨H4.out.1, labelOf_length _ _ _ _, byteOk_labelOf _ _ _ _, by rw [← HS.out.2.2.2]; exact (downS_right i k s hb).symm⟩, Lib.hid H4.out.2⟩, HM.out⟩
 have dlt : decide (X < Y) = false := by
  rw [← hX, ← hY]
  simp only [decide_eq_false_iff_not]
  intro h
  exact hb (hsd.1 (by omega))
 have HC2 := Lib.hid (show ∀ W : World, TabOk W → Calls Tryd.prog 30 #[.int .i64 X] W fun e w' => e = .returned (.tuple #[.int .i64 Z, .int .i64 0]) ∧ Below W.heap.size W w' from fun W hT => by
  rw [← hX, ← hZ, show i / 2 ^ k = 2 * (i / 2 ^ (k + 1)) by omega]
  exact left_calls k (i / 2 ^ (k + 1)) W hlt (by omega) hT)
 rw [hX]
 clear hlt hodd hsd hup hlev hlev2 
 go_wp2_with fail
 refine (part_nil labLeft (by decide) As cs s wr HS.out.2.2.1 (by rw [HS.out.2.1]; decide) HC.out hcs).mono ?_
 rintro e W3 ⟨v3, rfl, hR3, hb3⟩
 have H3 := Lib.hid (And.intro (Kd.R_lower hR3 HB.out.size) (HB.out.trans (hb3.mono HB.out.size)))
 clear hR3 hb3
 go_wp2_with fail
 refine (HC2.out W3 (HK.out.2.1.below H3.out.2 HK.out.2.1.1)).mono ?_
 rintro e W4 ⟨rfl, hb4⟩
 have H4 := Lib.hid (And.intro (Kd.R_below H3.out.1 hb4) (H3.out.2.trans (hb4.mono H3.out.2.size)))
 clear hb4 H3
 go_wp2
 exact ⟨⟨k, _, by omega, by rw [hZ], Lib.hid ⟨H4.out.1, labelOf_length _ _ _ _, byteOk_labelOf _ _ _ _, by rw [← HS.out.2.2.2]; exact (downS_left i k s hb).symm⟩, Lib.hid H4.out.2⟩, HM.out⟩
end Go.Proofs.YtdklmafkcbjomaaDoor

/-! U0 -/
namespace Go.Proofs.YtdklmafkcbjomaaDoor.U
open Go.Proofs.YtdklmafkcbjomaaDoor.P
open Go.RowKit Go.Proofs.YtdklmafkcbjomaaDoorW.PrintWords Go.Proofs.YtdklmafkcbjomaaDoorW.PrintLast Go.Proofs.YtdklmafkcbjomaaDoorW.PrintMore
attribute [local go_sem] max2_int min2_int max_two min_two max_three min_three max_four min_four   -- for this text's walks alone
set_option linter.unusedVariables false
set_option linter.unusedSimpArgs false
def errW : Option Int → Value
 | none => .nilIface
 | some c => .iface 0 (.int .i64 c)
theorem errW_none : errW none = .nilIface := rfl
theorem errW_some (c : Int) : errW (some c) = .iface 0 (.int .i64 c) := rfl
-- the values' own types
end Go.Proofs.YtdklmafkcbjomaaDoor.U

/-! U1 -/
namespace Go.Proofs.YtdklmafkcbjomaaDoor.U
open Go.Proofs.YtdklmafkcbjomaaDoor.P
open Go.RowKit Go.Proofs.YtdklmafkcbjomaaDoorW.PrintWords Go.Proofs.YtdklmafkcbjomaaDoorW.PrintLast Go.Proofs.YtdklmafkcbjomaaDoorW.PrintMore
attribute [local go_sem] max2_int min2_int max_two min_two max_three min_three max_four min_four   -- for this text's walks alone
set_option linter.unusedVariables false
set_option linter.unusedSimpArgs false
-- NOT PRINTED: function 77 (byt_wide)
-- NOT PRINTED: function 66 (byt_Len)
-- NOT PRINTED: function 57 (byt_Row)
-- NOT PRINTED: function 67 (kdf_first)
-- NOT PRINTED: function 58 (kdf_Expand)
/-! ### ratch_part: function 29 -/
def ratch_part.f (l0 : List Int) (a1 : ByteArray) (l2 : List Int) (a3 : Int) : Option (List Int) := (kdf_Label.f l0 a1 l2 a3).bind fun bt101 => (some bt101.1)
set_option maxHeartbeats 8000000 in
set_option maxRecDepth 100000 in
theorem ratch_part.calls (A0 : Option Addr) (c0 : Nat) (l0 : List Int) (a1 : ByteArray) (A2 : Option Addr) (c2 : Nat) (l2 : List Int) (a3 : Int) (r : List Int) (w : World) (hr0 : Kd.C (Kd.int .u8) w A0 l0.length l0) (hc0 : l0.length ≤ c0) (hr2 : Kd.C (Kd.int .u8) w A2 l2.length l2) (hc2 : l2.length ≤ c2) (h : ratch_part.f l0 a1 l2 a3 = some r) :
  Calls Tryd.prog 29 #[.slice A0 l0.length c0, .string a1, .slice A2 l2.length c2, .int .i64 a3] w fun e w' => ∃ v0_ : Value, e = .returned (v0_) ∧ Kd.R (Kd.int .u8) 5 w' w.heap.size (fun _ => True) v0_ r ∧ Below w.heap.size w w' := by
 have HR0 := Aside0.mk hr0
 have HC0 := Aside0.mk hc0
 clear hr0 hc0
 have HR2 := Aside0.mk hr2
 have HC2 := Aside0.mk hc2
 clear hr2 hc2
 have HB := Aside0.mk (Below.refl w.heap.size w)
 have H : ((kdf_Label.f l0 a1 l2 a3).bind fun bt101 => (some bt101.1)) = some r := h
 clear h
 replace H := Option.bind_eq_some_iff.mp H
 obtain ⟨⟨t101, t102⟩, A50, H⟩ := H
 replace H : (some t101) = some r := H
 have A5 := Aside0.mk A50
 clear A50
 obtain rfl := Option.some.inj H
 go_enter Tryd.func29, Tryd.ntmps29
 go_wp2_with (first | ((with_reducible refine gate_callee (f := 47) rfl ?_); refine goesL_ (some 16) rfl rfl Tryd.func47 (by kernel_rfl) rfl #[.slice A0 l0.length c0, .string a1, .slice A2 l2.length c2, .int .i64 a3] rfl (by (try simp only [List.map_toArray, List.map_cons, List.map_nil]); first | done | rfl | (simp only [List.length_drop, List.length_take]; rfl)) ?_; (with_reducible refine (kdf_Label.calls _ _ l0 a1 _ _ l2 a3 t101 t102 _ ?side1 ?side2 ?side3 ?side4 A5.out).mono ?_); (case side1 => repeat (first | exact HR0.out | (with_reducible refine Kd.C_alloc ?_ _) | (with_reducible refine Kd.C_drewN ?_ _) | (with_reducible refine Kd.C_drew ?_))); (case side2 => exact HC0.out); (case side3 => repeat (first | exact HR2.out | (with_reducible refine Kd.C_alloc ?_ _) | (with_reducible refine Kd.C_drewN ?_ _) | (with_reducible refine Kd.C_drew ?_))); (case side4 => exact HC2.out); rintro e w6 ⟨v103, rfl, ho0, hb⟩; refine ⟨_, rfl, ?_⟩; have n0_ := Aside0.mk (Kd.R_lower ho0 (below_size (by repeat (first | (with_reducible first | exact HB.out | apply below_alloc | apply pw_below_drewN | apply below_drew1) | exact HB.out)))); have n1_ := Aside0.mk (below_step (by repeat (first | (with_reducible first | exact HB.out | apply below_alloc | apply pw_below_drewN | apply below_drew1) | exact HB.out)) hb); clear HB; have HO104 := n0_; have HB := n1_; clear n0_ n1_; (try clear hb); (try clear hb2); (try clear hk); (try clear hi); (try clear ho0)))
 go_ret
 exact ⟨_, by first | rfl | (simp [errW_none, errW_some] <;> rfl) | (simp [*, errW_none, errW_some] <;> rfl), by (with_reducible repeat (first | apply Kd.R_alloc | apply Kd.R_drewN | apply Kd.R_drew)); exact HO104.out, by repeat (first | (with_reducible first | exact HB.out | apply below_alloc | apply pw_below_drewN | apply below_drew1) | exact HB.out)⟩
/-! ### ratch_place: function 52 -/
def ratch_place.f (a0 : Int) : Option (List Int) := (byt_Num.f a0 4).bind fun bt105 => (some bt105.1)
set_option maxHeartbeats 8000000 in
set_option maxRecDepth 100000 in
theorem ratch_place.calls (a0 : Int) (r : List Int) (w : World) (h : ratch_place.f a0 = some r) :
  Calls Tryd.prog 52 #[.int .i64 a0] w fun e w' => ∃ v0_ : Value, e = .returned (v0_) ∧ Kd.R (Kd.int .u8) 5 w' w.heap.size (fun _ => True) v0_ r ∧ Below w.heap.size w w' := by
 have HB := Aside0.mk (Below.refl w.heap.size w)
 have H : ((byt_Num.f a0 4).bind fun bt105 => (some bt105.1)) = some r := h
 clear h
 replace H := Option.bind_eq_some_iff.mp H
 obtain ⟨⟨t105, t106⟩, A20, H⟩ := H
 replace H : (some t105) = some r := H
 have A2 := Aside0.mk A20
 clear A20
 obtain rfl := Option.some.inj H
 go_enter Tryd.func52, Tryd.ntmps52
 go_wp2_with (first | ((with_reducible refine gate_callee (f := 56) rfl ?_); refine goesL_ (some 7) rfl rfl Tryd.func56 (by kernel_rfl) rfl #[.int .i64 a0, .int .i64 4] rfl (by (try simp only [List.map_toArray, List.map_cons, List.map_nil]); first | done | rfl | (simp only [List.length_drop, List.length_take]; rfl)) ?_; (with_reducible refine (byt_Num.calls a0 4 t105 t106 _ A2.out).mono ?_); rintro e w3 ⟨v107, rfl, ho0, hb⟩; refine ⟨_, rfl, ?_⟩; have n0_ := Aside0.mk (Kd.R_lower ho0 (below_size (by repeat (first | (with_reducible first | exact HB.out | apply below_alloc | apply pw_below_drewN | apply below_drew1) | exact HB.out)))); have n1_ := Aside0.mk (below_step (by repeat (first | (with_reducible first | exact HB.out | apply below_alloc | apply pw_below_drewN | apply below_drew1) | exact HB.out)) hb); clear HB; have HO108 := n0_; have HB := n1_; clear n0_ n1_; (try clear hb); (try clear hb2); (try clear hk); (try clear hi); (try clear ho0)))
 go_ret
 exact ⟨_, by first | rfl | (simp [errW_none, errW_some] <;> rfl) | (simp [*, errW_none, errW_some] <;> rfl), by (with_reducible repeat (first | apply Kd.R_alloc | apply Kd.R_drewN | apply Kd.R_drew)); exact HO108.out, by repeat (first | (with_reducible first | exact HB.out | apply below_alloc | apply pw_below_drewN | apply below_drew1) | exact HB.out)⟩
/-! ### ratch_lock: function 41 -/
def ratch_lock.f (l0 : List Int) (a1 : Int) : Option (Int × List Int × List Int) := (ratch_place.f a1).bind fun t110 => ((ratch_part.f l0 (⟨#[107, 101, 121]⟩ : ByteArray) t110 32).bind fun t113 => ((ratch_place.f a1).bind fun t116 => ((ratch_part.f l0 (⟨#[110, 111, 110, 99, 101]⟩ : ByteArray) t116 12).bind fun t119 => (some (a1, t113, t119)))))
set_option maxHeartbeats 8000000 in
set_option maxRecDepth 100000 in
theorem ratch_lock.calls (A0 : Option Addr) (c0 : Nat) (l0 : List Int) (a1 : Int) (r1 : Int) (r2 : List Int) (r3 : List Int) (w : World) (hr0 : Kd.C (Kd.int .u8) w A0 l0.length l0) (hc0 : l0.length ≤ c0) (h : ratch_lock.f l0 a1 = some (r1, r2, r3)) :
  Calls Tryd.prog 41 #[.slice A0 l0.length c0, .int .i64 a1] w fun e w' => ∃ v1_ v2_ : Value, e = .returned (.agg #[.int .i64 r1, v1_, v2_]) ∧ Kd.R (Kd.int .u8) 5 w' w.heap.size (fun k_ => some k_ ≠ (v2_ : Value).ownBlock) v1_ r2 ∧ Kd.R (Kd.int .u8) 5 w' w.heap.size (fun k_ => some k_ ≠ (v1_ : Value).ownBlock) v2_ r3 ∧ Below w.heap.size w w' := by
 have hu43 := Tryd.underlying43
 have HR0 := Aside0.mk hr0
 have HC0 := Aside0.mk hc0
 clear hr0 hc0
 have HB := Aside0.mk (Below.refl w.heap.size w)
 have H : ((ratch_place.f a1).bind fun t110 => ((ratch_part.f l0 (⟨#[107, 101, 121]⟩ : ByteArray) t110 32).bind fun t113 => ((ratch_place.f a1).bind fun t116 => ((ratch_part.f l0 (⟨#[110, 111, 110, 99, 101]⟩ : ByteArray) t116 12).bind fun t119 => (some (a1, t113, t119)))))) = some (r1, r2, r3) := h
 clear h
 replace H := Option.bind_eq_some_iff.mp H
 obtain ⟨t110, A30, H⟩ := H
 replace H : ((ratch_part.f l0 (⟨#[107, 101, 121]⟩ : ByteArray) t110 32).bind fun t113 => ((ratch_place.f a1).bind fun t116 => ((ratch_part.f l0 (⟨#[110, 111, 110, 99, 101]⟩ : ByteArray) t116 12).bind fun t119 => (some (a1, t113, t119))))) = some (r1, r2, r3) := H
 have A3 := Aside0.mk A30
 clear A30
 replace H := Option.bind_eq_some_iff.mp H
 obtain ⟨t113, A40, H⟩ := H
 replace H : ((ratch_place.f a1).bind fun t116 => ((ratch_part.f l0 (⟨#[110, 111, 110, 99, 101]⟩ : ByteArray) t116 12).bind fun t119 => (some (a1, t113, t119)))) = some (r1, r2, r3) := H
 have A4 := Aside0.mk A40
 clear A40
 replace H := Option.bind_eq_some_iff.mp H
 obtain ⟨t116, A50, H⟩ := H
 replace H : ((ratch_part.f l0 (⟨#[110, 111, 110, 99, 101]⟩ : ByteArray) t116 12).bind fun t119 => (some (a1, t113, t119))) = some (r1, r2, r3) := H
 have A5 := Aside0.mk A50
 clear A50
 replace H := Option.bind_eq_some_iff.mp H
 obtain ⟨t119, A60, H⟩ := H
 replace H : (some (a1, t113, t119)) = some (r1, r2, r3) := H
 have A6 := Aside0.mk A60
 clear A60
 simp only [Option.some.injEq, Prod.mk.injEq] at H
 obtain ⟨rfl, rfl, rfl⟩ := H
 go_enter Tryd.func41, Tryd.ntmps41
 go_wp2_with (first | ((with_reducible refine gate_dst (N := 4) rfl ?_); refine box_event ?hg (N := 4) ?hd (cs := #[.int .i64 0, .slice none 0 0, .slice none 0 0]) (t := 43) ?hr ?_; (case hd => rfl); (case hg => rfl); (case hr => first | (go_simp; done) | (go_simp; rfl)); intro gb109 hg w7 hbox hb; have n0_ := Aside0.mk (below_step (by repeat (first | (with_reducible first | exact HB.out | apply below_alloc | apply pw_below_drewN | apply below_drew1) | exact HB.out)) hb); have n1_ := Aside0.mk (hbox); have n2_ := Aside0.mk ((by rw [hg]; exact (below_size (by repeat (first | (with_reducible first | exact HB.out | apply below_alloc | apply pw_below_drewN | apply below_drew1) | exact HB.out))) : w.heap.size ≤ gb109)); have n3_ := Aside0.mk ((by rw [hg]; exact (below_size (by repeat (first | (with_reducible first | exact HB.out | apply below_alloc | apply pw_below_drewN | apply below_drew1) | exact HB.out))) : w.heap.size ≤ gb109)); clear HB; have HB := n0_; have BK109 := n1_; have GW109 := n2_; have GE109 := n3_; clear n0_ n1_ n2_ n3_; clear hb hbox hg) | ((with_reducible refine gate_callee (f := 52) rfl ?_); refine goesL_ (some 8) rfl rfl Tryd.func52 (by kernel_rfl) rfl #[.int .i64 a1] rfl (by (try simp only [List.map_toArray, List.map_cons, List.map_nil]); first | done | rfl | (simp only [List.length_drop, List.length_take]; rfl)) ?_; (with_reducible refine (ratch_place.calls a1 t110 _ A3.out).mono ?_); rintro e w8 ⟨v111, rfl, ho0, hb⟩; refine ⟨_, rfl, ?_⟩; have n0_ := Aside0.mk (Kd.R_lower ho0 (below_size (by repeat (first | (with_reducible first | exact HB.out | apply below_alloc | apply pw_below_drewN | apply below_drew1 | refine below_set ?_ GE109.out) | exact HB.out)))); have n1_ := Aside0.mk (blk_below (g := gb109) (o := .cells #[.int .i64 0, .slice none 0 0, .slice none 0 0] 43 (0, 0)) (by (with_reducible repeat (first | refine blk_drewN ?_ _ | refine blk_drew ?_ | refine blk_alloc ?_ _)); exact BK109.out) hb); have n2_ := Aside0.mk (below_step (by repeat (first | (with_reducible first | exact HB.out | apply below_alloc | apply pw_below_drewN | apply below_drew1 | refine below_set ?_ GE109.out) | exact HB.out)) hb); clear BK109; clear HB; have HO112 := n0_; have BK109 := n1_; have HB := n2_; clear n0_ n1_ n2_; (try clear hb); (try clear hb2); (try clear hk); (try clear hi); (try clear ho0); obtain ⟨Ao9, co9, eo9⟩ := Kd.R_slice HO112.out; subst eo9) | ((with_reducible refine gate_callee (f := 29) rfl ?_); refine goesL_ (some 9) rfl rfl Tryd.func29 (by kernel_rfl) rfl #[.slice A0 l0.length c0, .string (⟨#[107, 101, 121]⟩ : ByteArray), .slice Ao9 t110.length co9, .int .i64 32] rfl (by (try simp only [List.map_toArray, List.map_cons, List.map_nil]); first | done | rfl | (simp only [List.length_drop, List.length_take]; rfl)) ?_; (with_reducible refine (ratch_part.calls _ _ l0 (⟨#[107, 101, 121]⟩ : ByteArray) _ _ t110 32 t113 _ ?side1 ?side2 ?side3 ?side4 A4.out).mono ?_); (case side1 => repeat (first | exact (Kd.C_below HR0.out HB.out) | (with_reducible refine Kd.C_alloc ?_ _) | (with_reducible refine Kd.C_drewN ?_ _) | (with_reducible refine Kd.C_drew ?_))); (case side2 => exact HC0.out); (case side3 => repeat (first | exact (Kd.R_reads' HO112.out).2.2 | (with_reducible refine Kd.C_alloc ?_ _) | (with_reducible refine Kd.C_drewN ?_ _) | (with_reducible refine Kd.C_drew ?_))); (case side4 => exact (Kd.R_reads' HO112.out).2.1); rintro e w10 ⟨v114, rfl, ho0, hb⟩; refine ⟨_, rfl, ?_⟩; have n0_ := Aside0.mk (Kd.R_elder' (by (with_reducible repeat (first | apply Kd.R_alloc | apply Kd.R_drewN | apply Kd.R_drew)); exact HO112.out) (Kd.R_base ho0) hb); have n1_ := Aside0.mk (Kd.R_lower (Kd.R_new' ho0 (Kd.R_lt (by (with_reducible repeat (first | apply Kd.R_alloc | apply Kd.R_drewN | apply Kd.R_drew)); exact HO112.out))) (below_size (by repeat (first | (with_reducible first | exact HB.out | apply below_alloc | apply pw_below_drewN | apply below_drew1 | refine below_set ?_ GE109.out) | exact HB.out)))); have n2_ := Aside0.mk (blk_below (g := gb109) (o := .cells #[.int .i64 0, .slice none 0 0, .slice none 0 0] 43 (0, 0)) (by (with_reducible repeat (first | refine blk_drewN ?_ _ | refine blk_drew ?_ | refine blk_alloc ?_ _)); exact BK109.out) hb); have n3_ := Aside0.mk (below_step (by repeat (first | (with_reducible first | exact HB.out | apply below_alloc | apply pw_below_drewN | apply below_drew1 | refine below_set ?_ GE109.out) | exact HB.out)) hb); clear HO112; clear BK109; clear HB; have HO112 := n0_; have HO115 := n1_; have BK109 := n2_; have HB := n3_; clear n0_ n1_ n2_ n3_; (try clear hb); (try clear hb2); (try clear hk); (try clear hi); (try clear ho0)) | ((with_reducible refine gate_callee (f := 52) rfl ?_); refine goesL_ (some 12) rfl rfl Tryd.func52 (by kernel_rfl) rfl #[.int .i64 a1] rfl (by (try simp only [List.map_toArray, List.map_cons, List.map_nil]); first | done | rfl | (simp only [List.length_drop, List.length_take]; rfl)) ?_; (with_reducible refine (ratch_place.calls a1 t116 _ A5.out).mono ?_); rintro e w11 ⟨v117, rfl, ho0, hb⟩; refine ⟨_, rfl, ?_⟩; have n0_ := Aside0.mk (Kd.R_elder' (by (with_reducible repeat (first | apply Kd.R_alloc | apply Kd.R_drewN | apply Kd.R_drew)); exact HO112.out) (Kd.R_base ho0) hb); have n1_ := Aside0.mk (Kd.R_elder' (by (with_reducible repeat (first | apply Kd.R_alloc | apply Kd.R_drewN | apply Kd.R_drew)); exact HO115.out) (Kd.R_base ho0) hb); have n2_ := Aside0.mk (Kd.R_lower (Kd.R_new' (Kd.R_new' ho0 (Kd.R_lt (by (with_reducible repeat (first | apply Kd.R_alloc | apply Kd.R_drewN | apply Kd.R_drew)); exact HO112.out))) (Kd.R_lt (by (with_reducible repeat (first | apply Kd.R_alloc | apply Kd.R_drewN | apply Kd.R_drew)); exact HO115.out))) (below_size (by repeat (first | (with_reducible first | exact HB.out | apply below_alloc | apply pw_below_drewN | apply below_drew1 | refine below_set ?_ GE109.out) | exact HB.out)))); have n3_ := Aside0.mk (blk_below (g := gb109) (o := .cells #[.int .i64 0, .slice none 0 0, .slice none 0 0] 43 (0, 0)) (by (with_reducible repeat (first | refine blk_drewN ?_ _ | refine blk_drew ?_ | refine blk_alloc ?_ _)); exact BK109.out) hb); have n4_ := Aside0.mk (below_step (by repeat (first | (with_reducible first | exact HB.out | apply below_alloc | apply pw_below_drewN | apply below_drew1 | refine below_set ?_ GE109.out) | exact HB.out)) hb); clear HO112; clear HO115; clear BK109; clear HB; have HO112 := n0_; have HO115 := n1_; have HO118 := n2_; have BK109 := n3_; have HB := n4_; clear n0_ n1_ n2_ n3_ n4_; (try clear hb); (try clear hb2); (try clear hk); (try clear hi); (try clear ho0); obtain ⟨Ao12, co12, eo12⟩ := Kd.R_slice HO118.out; subst eo12) | ((with_reducible refine gate_callee (f := 29) rfl ?_); refine goesL_ (some 13) rfl rfl Tryd.func29 (by kernel_rfl) rfl #[.slice A0 l0.length c0, .string (⟨#[110, 111, 110, 99, 101]⟩ : ByteArray), .slice Ao12 t116.length co12, .int .i64 12] rfl (by (try simp only [List.map_toArray, List.map_cons, List.map_nil]); first | done | rfl | (simp only [List.length_drop, List.length_take]; rfl)) ?_; (with_reducible refine (ratch_part.calls _ _ l0 (⟨#[110, 111, 110, 99, 101]⟩ : ByteArray) _ _ t116 12 t119 _ ?side1 ?side2 ?side3 ?side4 A6.out).mono ?_); (case side1 => repeat (first | exact (Kd.C_below HR0.out HB.out) | (with_reducible refine Kd.C_alloc ?_ _) | (with_reducible refine Kd.C_drewN ?_ _) | (with_reducible refine Kd.C_drew ?_))); (case side2 => exact HC0.out); (case side3 => repeat (first | exact (Kd.R_reads' HO118.out).2.2 | (with_reducible refine Kd.C_alloc ?_ _) | (with_reducible refine Kd.C_drewN ?_ _) | (with_reducible refine Kd.C_drew ?_))); (case side4 => exact (Kd.R_reads' HO118.out).2.1); rintro e w13 ⟨v120, rfl, ho0, hb⟩; refine ⟨_, rfl, ?_⟩; have n0_ := Aside0.mk (Kd.R_elder' (by (with_reducible repeat (first | apply Kd.R_alloc | apply Kd.R_drewN | apply Kd.R_drew)); exact HO112.out) (Kd.R_base ho0) hb); have n1_ := Aside0.mk (Kd.R_elder' (by (with_reducible repeat (first | apply Kd.R_alloc | apply Kd.R_drewN | apply Kd.R_drew)); exact HO115.out) (Kd.R_base ho0) hb); have n2_ := Aside0.mk (Kd.R_elder' (by (with_reducible repeat (first | apply Kd.R_alloc | apply Kd.R_drewN | apply Kd.R_drew)); exact HO118.out) (Kd.R_base ho0) hb); have n3_ := Aside0.mk (Kd.R_lower (Kd.R_new' (Kd.R_new' (Kd.R_new' ho0 (Kd.R_lt (by (with_reducible repeat (first | apply Kd.R_alloc | apply Kd.R_drewN | apply Kd.R_drew)); exact HO112.out))) (Kd.R_lt (by (with_reducible repeat (first | apply Kd.R_alloc | apply Kd.R_drewN | apply Kd.R_drew)); exact HO115.out))) (Kd.R_lt (by (with_reducible repeat (first | apply Kd.R_alloc | apply Kd.R_drewN | apply Kd.R_drew)); exact HO118.out))) (below_size (by repeat (first | (with_reducible first | exact HB.out | apply below_alloc | apply pw_below_drewN | apply below_drew1 | refine below_set ?_ GE109.out) | exact HB.out)))); have n4_ := Aside0.mk (blk_below (g := gb109) (o := .cells #[.int .i64 0, .slice none 0 0, .slice none 0 0] 43 (0, 0)) (by (with_reducible repeat (first | refine blk_drewN ?_ _ | refine blk_drew ?_ | refine blk_alloc ?_ _)); exact BK109.out) hb); have n5_ := Aside0.mk (below_step (by repeat (first | (with_reducible first | exact HB.out | apply below_alloc | apply pw_below_drewN | apply below_drew1 | refine below_set ?_ GE109.out) | exact HB.out)) hb); clear HO112; clear HO115; clear HO118; clear BK109; clear HB; have HO112 := n0_; have HO115 := n1_; have HO118 := n2_; have HO121 := n3_; have BK109 := n4_; have HB := n5_; clear n0_ n1_ n2_ n3_ n4_ n5_; (try clear hb); (try clear hb2); (try clear hk); (try clear hi); (try clear ho0); obtain ⟨Ao14, co14, eo14⟩ := Kd.R_slice HO121.out; subst eo14; obtain ⟨Ao15, co15, eo15⟩ := Kd.R_slice HO115.out; subst eo15; have hcz16_0 : w13.cell? ⟨gb109, 0, none⟩ = some (.int .i64 0) := (blk_cell BK109.out 0).trans rfl; have hcz16_1 : w13.cell? ⟨gb109, 1, none⟩ = some (.slice none 0 0) := (blk_cell BK109.out 1).trans rfl; have hcz16_2 : w13.cell? ⟨gb109, 2, none⟩ = some (.slice none 0 0) := (blk_cell BK109.out 2).trans rfl; have hfz16_0 := blk_frozen BK109.out 0; have hfz16_1 := blk_frozen BK109.out 1; have hfz16_2 := blk_frozen BK109.out 2))
 refine bodyPost_ret (results_cell_row rfl _ _ gb109 43 #[.int .i64 a1, .slice Ao15 t113.length co15, .slice Ao14 t119.length co14] (0, 0) _ rfl (by (with_reducible repeat (first | refine blk_drewN ?_ _ | refine blk_drew ?_ | refine blk_alloc ?_ _)); refine blk_put (cs := #[.int .i64 a1, .slice Ao15 t113.length co15, .slice none 0 0]) ?_ 2 _ rfl; (with_reducible repeat (first | refine blk_drewN ?_ _ | refine blk_drew ?_ | refine blk_alloc ?_ _)); refine blk_put (cs := #[.int .i64 a1, .slice none 0 0, .slice none 0 0]) ?_ 1 _ rfl; (with_reducible repeat (first | refine blk_drewN ?_ _ | refine blk_drew ?_ | refine blk_alloc ?_ _)); refine blk_put (cs := #[.int .i64 0, .slice none 0 0, .slice none 0 0]) ?_ 0 _ rfl; (with_reducible repeat (first | refine blk_drewN ?_ _ | refine blk_drew ?_ | refine blk_alloc ?_ _)); exact BK109.out) Tryd.underlying43 rfl (by kernel_rfl)) rfl ?_
 exact ⟨_, _, by first | rfl | (simp [errW_none, errW_some] <;> rfl) | (simp [*, errW_none, errW_some] <;> rfl), by (with_reducible repeat (first | apply Kd.R_alloc | apply Kd.R_drewN | apply Kd.R_drew)); exact Kd.R_mono (Kd.R_far (p := ⟨gb109, 2, none⟩) (Kd.R_far (p := ⟨gb109, 1, none⟩) (Kd.R_far (p := ⟨gb109, 0, none⟩) (Kd.R_types HO115.out BK109.out (by decide)) (fun _ hk => hk.2) (.int .i64 a1)) (fun _ hk => hk.2) (.slice Ao15 t113.length co15)) (fun _ hk => hk.2) (.slice Ao14 t119.length co14)) (fun _ hk => hk.1.2), by (with_reducible repeat (first | apply Kd.R_alloc | apply Kd.R_drewN | apply Kd.R_drew)); exact Kd.R_mono (Kd.R_far (p := ⟨gb109, 2, none⟩) (Kd.R_far (p := ⟨gb109, 1, none⟩) (Kd.R_far (p := ⟨gb109, 0, none⟩) (Kd.R_types HO121.out BK109.out (by decide)) (fun _ hk => hk.2) (.int .i64 a1)) (fun _ hk => hk.2) (.slice Ao15 t113.length co15)) (fun _ hk => hk.2) (.slice Ao14 t119.length co14)) (fun _ hk => hk.1.1.2), by repeat (first | (with_reducible first | exact HB.out | apply below_alloc | apply pw_below_drewN | apply below_drew1 | refine below_set ?_ GE109.out) | exact HB.out)⟩
end Go.Proofs.YtdklmafkcbjomaaDoor.U

/-! RatC -/
namespace Go.Proofs.YtdklmafkcbjomaaDoor
set_option linter.unusedVariables false
set_option linter.unusedSimpArgs false
open Go.RowKit Go.Proofs.YtdklmafkcbjomaaDoorW.PrintWords Go.Proofs.YtdklmafkcbjomaaDoorW.PrintLast Go.Proofs.YtdklmafkcbjomaaDoorW.PrintMore Iter
attribute [local go_sem] Oper.semAt_some
theorem place_some (n : Nat) (h : n < 4294967296) : U.ratch_place.f (n : Int) = some (numB n 4) := by
 unfold U.ratch_place.f P.byt_Num.f
 rw [show ((4 : Int)) = ((4 : Nat) : Int) from rfl, numOf_small n 4 (by omega) (by omega) (by omega), Option.bind_some]
/-- An element: a place, and its secret, which lies ahead of B or was laid since the mark. -/
def SEl (s : List Int) (n0 B : Nat) (k m : Nat) (args : Array Value) (W : World) : Prop :=
 ∃ A c, args = #[.int .i64 ((n0 + k : Nat) : Int), .slice A (secS s n0 k).length c] ∧ (secS s n0 k).length ≤ c ∧ Kd.C (Kd.int .u8) W A (secS s n0 k).length (secS s n0 k) ∧ ∀ a, A = some a → a.block < B ∨ m ≤ a.block
theorem SEl_kept (s : List Int) (n0 B : Nat) (k m : Nat) (args : Array Value) (W W' : World) (h : SEl s n0 B k m args W) (hk : KeepsCells W W') : SEl s n0 B k m args W' := by
 obtain ⟨A, c, e, hc, hC, hm⟩ := h
 exact ⟨A, c, e, hc, C_kept hC hk, hm⟩
def SKp (args : Array Value) (W W' : World) : Prop := ∀ x A n c xs, args = #[x, .slice A n c] → Kd.C (Kd.int .u8) W A n xs → Kd.C (Kd.int .u8) W' A n xs
theorem SKp_kept (args : Array Value) (A A' C C' : World) (h1 : KeepsCells A A') (h2 : KeepsCells C C') (h : SKp args A' C) : SKp args A C' :=
 fun x B n c xs e hC => C_kept (h x B n c xs e (C_kept hC h1)) h2
/-- The chain's box, and its secret's row. -/
def PreC (gp : Nat) (n0 : Nat) (A : Option Addr) (c : Nat) (s : List Int) (sp : Value) (W : World) : Prop :=
 Blk W gp 25 #[.int .i64 (n0 : Int), .slice A s.length c, sp] ∧ Kd.C (Kd.int .u8) W A s.length s
set_option maxRecDepth 100000 in
set_option maxHeartbeats 2000000 in
theorem places_seq (s : List Int) (n0 N B gp : Nat) (A0 : Option Addr) (c0 : Nat) (sp : Value) (w0 : World) (h32 : s.length = 32) (os : byteOk s = true) (hN : n0 + N ≤ 4294967296) (hc0 : s.length ≤ c0) (hN0 : 0 < N) (hB0 : B ≤ w0.heap.size) (hA0 : ∀ a, A0 = some a → a.block < B) :
  SeqMarkP (PreC gp n0 A0 c0 s sp) Tryd.prog 51 #[.pointer (some ⟨gp, 0, none⟩)] (SEl s n0 B) N B SKp w0 := by
 intro n l J Jx W hW hpre hJ hJx hY h0
 obtain ⟨bp, rs⟩ := hpre
 have HJ := Lib.hid (And.intro hJ hY)
 have HS := Lib.hid (And.intro h32 (And.intro os hN))
 have x0 : W.cell? ⟨gp, 0, none⟩ = some (.int .i64 (n0 : Int)) := bp.cell 0
 have x1 : W.cell? ⟨gp, 1, none⟩ = some (.slice A0 s.length c0) := bp.cell 1
 clear hJ hY h32 os hN bp
 refine callsIn_of_wp Tryd.func51 rfl trivial ?_ rfl
 simp only [Tryd.ntmps51, List.size_toArray, List.length_cons, List.length_nil, Nat.reduceAdd, Nat.reduceSub, Array.replicate_succ, Array.replicate_zero, List.push_toArray, List.append_toArray, List.nil_append, List.cons_append]
 gi_wp2
 refine wpIn_wide.2 ?_
 go_quiet (fail)
 obtain ⟨W1, hW1⟩ : ∃ W1, W.drewN nq = W1 := ⟨_, rfl⟩
 have hbd : ∀ m, Below m W W1 := fun m => by rw [← hW1]; exact pw_below_drewN (Below.refl _ _) nq
 have hsz : W1.heap.size = W.heap.size := by rw [← hW1]; simp
 rw [hW1]
 have h1 := HJ.out.1 0 _ _ W1 h0 (hbd _)
 have h2 : Kd.C (Kd.int .u8) W1 A0 s.length s := Kd.C_below rs (hbd _)
 have h3 : Below B w0 W1 := hW.trans (hbd _)
 clear hbd h0 rs hW hW1 x0 x1
 gi_wp2
 gi_loopw [3, 4] (fun i t wr => ∃ (k m : Nat) (A : Option Addr) (c : Nat), k < N ∧ i = .int .i64 ((n0 + k : Nat) : Int) ∧ t = .slice A (secS s n0 k).length c ∧ (secS s n0 k).length ≤ c ∧ Aside0 (Kd.C (Kd.int .u8) wr A (secS s n0 k).length (secS s n0 k)) ∧ m ≤ wr.heap.size ∧ (∀ a, A = some a → a.block < B ∨ m ≤ a.block) ∧ Aside0 (J k m wr) ∧ Below B w0 wr) (fun i _ _ => n0 + N - (intOf i).toNat)
 case atStart => exact ⟨0, W.heap.size, A0, c0, hN0, rfl, rfl, hc0, ⟨h2⟩, by omega, fun a ha => .inl (hA0 a ha), ⟨h1⟩, h3⟩
 clear h1 h2 h3 hsz hA0 hc0
 obtain ⟨k, m, A, c, hk, rfl, rfl, hlc, hC, hm, hA, hj, hb⟩ := hrel
 have hEl : SEl s n0 B k m #[.int .i64 ((n0 + k : Nat) : Int), .slice A (secS s n0 k).length c] wr := ⟨A, c, rfl, hlc, hC.out, hA⟩
 obtain ⟨fn, tmps, assign, body, hy, hRnd⟩ := HJ.out.2 k m _ wr hk hj.out hm hEl hb
 have hpl := place_some (n0 + k) (by have := HS.out.2.2; omega)
 have hmeas : n0 + N - (intOf (.int .i64 ((n0 + (k + 1) : Nat) : Int))).toNat < n0 + N - (intOf (.int .i64 ((n0 + k : Nat) : Int))).toNat := by simp [intOf]; omega
 obtain ⟨S, hS⟩ : ∃ S, secS s n0 k = S := ⟨_, rfl⟩
 have hSn : secS s n0 (k + 1) = nextS S (n0 + k) := by rw [← hS]; rfl
 have hS32 : S.length = 32 := by rw [← hS]; exact secS_length s n0 HS.out.1 k
 have hSo : byteOk S = true := by rw [← hS]; exact byteOk_secS s n0 HS.out.2.1 k
 have hi1 : wrap64 (((n0 + k : Nat) : Int) + 1) = ((n0 + (k + 1) : Nat) : Int) := by have := HS.out.2.2; unfold wrap64; omega
 rw [hS] at hy hRnd hlc hC ⊢
 have HP := Lib.hid (And.intro hpl (And.intro hSn (And.intro hS32 (And.intro hSo (And.intro hC.out (And.intro hlc hmeas))))))
 have HI1 := Lib.hid hi1
 clear hpl hSn hS32 hSo hC hlc hEl hmeas hi1
 have hbb := Lib.hid hb
 clear hb hj hA
 obtain ⟨X, hX⟩ : ∃ X : Int, ((n0 + k : Nat) : Int) = X := ⟨_, rfl⟩
 rw [hX] at hy hRnd ⊢
 gi_wp2
 refine hRnd.mono ?_
 rintro e W' (⟨rfl, hk1, hj', hb', hkp⟩ | ⟨rfl, hx⟩)
 rotate_left
 ·gi_wp2
  go_end0
  exact ⟨⟨_, rfl⟩, k, hx⟩
 gi_wp2_with fail
 refine ⟨trivial, (callsIn_wide.2 (U.ratch_place.calls X _ W' (by rw [← hX]; exact HP.out.1))).mono ?_⟩
 rintro e W2 ⟨v2, rfl, hR2, hb2⟩
 obtain ⟨A2, c2, rfl, hl2, hC2⟩ := Kd.R_reads hR2
 have hBW : B ≤ W'.heap.size := by have h1 := hbb.out.size; have h2 := hb'.size; omega
 have hs2 := hb2.size
 have hCs : Kd.C (Kd.int .u8) W2 A S.length S := Kd.C_below (hkp _ _ _ _ _ rfl HP.out.2.2.2.2.1) hb2
 have H2 := Lib.hid (And.intro hC2 (And.intro hCs (And.intro (HJ.out.1 _ _ _ _ hj' hb2) (And.intro ((hbb.out.trans hb').trans (hb2.mono hBW)) (And.intro hb2 hl2)))))
 clear hR2 hC2 hCs hj' hb' hkp hb2 hl2
 gi_wp2_with fail
 refine ⟨trivial, (callsIn_wide.2 (part_calls labNext 32 32 rfl (by decide) (by decide) A c S A2 c2 (numB (n0 + k) 4) W2 HP.out.2.2.2.1 (by rw [HP.out.2.2.1]; decide) (byteOk_numB _ _) (by rw [numB_length]; decide) H2.out.2.1 HP.out.2.2.2.2.2.1 H2.out.1 H2.out.2.2.2.2.2)).mono ?_⟩
 rintro e W3 ⟨v3, rfl, hR3, hb3⟩
 have hl3 := labelOf_length S labNext (numB (n0 + k) 4) 32
 obtain ⟨g3, c3, rfl, hg3, -⟩ := Kd.R_form hR3 (by rw [hl3]; decide)
 obtain ⟨A3, c3', e3, hc3, hC3⟩ := Kd.R_reads hR3
 injection e3 with ea _ ec
 subst ea
 subst ec
 have hs3 := hb3.size
 have e5 : secS s n0 (k + 1) = labelOf S labNext (numB (n0 + k) 4) 32 := HP.out.2.1
 have H3 := Lib.hid (And.intro hC3 (And.intro hc3 (And.intro (HJ.out.1 _ _ _ _ H2.out.2.2.1 (hb3.mono hs2)) (And.intro (H2.out.2.2.2.1.trans (hb3.mono (Nat.le_trans hBW hs2))) (And.intro e5 (show W'.heap.size ≤ g3 by omega))))))
 have hmm : W'.heap.size ≤ W3.heap.size := by omega
 clear hR3 hC3 hc3 hb3 H2 hl3 e5 hg3 hs2 hs3 hBW
 gi_wp2
 go_roundw
 case rel => exact ⟨k + 1, W'.heap.size, some ⟨g3, 0, none⟩, c3, hk1, by rw [← hX]; exact congrArg _ HI1.out, by rw [H3.out.2.2.2.2.1], by rw [H3.out.2.2.2.2.1]; exact H3.out.2.1, by rw [H3.out.2.2.2.2.1]; exact ⟨H3.out.1⟩, hmm, fun a ha => by cases ha; exact .inr H3.out.2.2.2.2.2, ⟨H3.out.2.2.1⟩, H3.out.2.2.2.1⟩
 case measure => rw [← hX, HI1.out]; exact HP.out.2.2.2.2.2.2
end Go.Proofs.YtdklmafkcbjomaaDoor

/-! R0 -/
namespace Go.Proofs.YtdklmafkcbjomaaDoor.R
open Go.Proofs.YtdklmafkcbjomaaDoor.P
open Go.RowKit Go.Proofs.YtdklmafkcbjomaaDoorW.PrintWords Go.Proofs.YtdklmafkcbjomaaDoorW.PrintLast Go.Proofs.YtdklmafkcbjomaaDoorW.PrintMore
attribute [local go_sem] max2_int min2_int max_two min_two max_three min_three max_four min_four   -- for this text's walks alone
set_option linter.unusedVariables false
set_option linter.unusedSimpArgs false
def errW : Option Int → Value
 | none => .nilIface
 | some c => .iface 0 (.int .i64 c)
theorem errW_none : errW none = .nilIface := rfl
theorem errW_some (c : Int) : errW (some c) = .iface 0 (.int .i64 c) := rfl
-- the values' own types
/-! #### struct type 43 -/
structure S43 where
 f0 : Int
 f1 : (List Int)
 f2 : (List Int)
def z43 : S43 := ⟨(0 : Int), ([] : List Int), ([] : List Int)⟩
def k43 : Kd S43 := Kd.iso (Kd.pair (Kd.int .i64) (Kd.pair (Kd.slice 5 (Kd.int .u8)) (Kd.slice 5 (Kd.int .u8)))) (fun x : S43 => (x.f0, x.f1, x.f2))
theorem k43_open {w : World} {x : S43} {cs : List Value} (h : k43.K w x cs) : ∃ A1 c1 A2 c2, cs = [.int .i64 x.f0, .slice A1 x.f1.length c1, .slice A2 x.f2.length c2] ∧ x.f1.length ≤ c1 ∧ (Kd.int .u8).C w A1 x.f1.length x.f1 ∧ x.f2.length ≤ c2 ∧ (Kd.int .u8).C w A2 x.f2.length x.f2 := by
 obtain ⟨_, _, rfl, rfl, ⟨_, _, rfl, ⟨A1, c1, rfl, l1, g1⟩, ⟨A2, c2, rfl, l2, g2⟩⟩⟩ := h
 exact ⟨A1, c1, A2, c2, rfl, l1, g1, l2, g2⟩
theorem k43_mk (w : World) (x : S43) {A1 : Option Addr} {c1 : Nat} (l1 : x.f1.length ≤ c1) (g1 : (Kd.int .u8).C w A1 x.f1.length x.f1) {A2 : Option Addr} {c2 : Nat} (l2 : x.f2.length ≤ c2) (g2 : (Kd.int .u8).C w A2 x.f2.length x.f2) : k43.K w x [.int .i64 x.f0, .slice A1 x.f1.length c1, .slice A2 x.f2.length c2] := ⟨[.int .i64 x.f0], [.slice A1 x.f1.length c1, .slice A2 x.f2.length c2], rfl, rfl, ⟨[.slice A1 x.f1.length c1], [.slice A2 x.f2.length c2], rfl, ⟨A1, c1, rfl, l1, g1⟩, ⟨A2, c2, rfl, l2, g2⟩⟩⟩
def rd_T43 (xs : List S43) (i : Int) : S43 := xs.getD i.toNat z43
theorem at_T43 {w : World} {A : Option Addr} {n : Nat} {xs : List S43} (h : Kd.C k43 w A n xs) (i : Int) (h0 : 0 ≤ i) (h1 : i < n) : ∃ ad A1 c1 A2 c2, A = some ad ∧ w.cell? (ad.add (i.toNat * 3)) = some (.int .i64 (rd_T43 xs i).f0) ∧ w.cell? ⟨(ad.add (i.toNat * 3)).block, (ad.add (i.toNat * 3)).off + 1, none⟩ = some (.slice A1 (rd_T43 xs i).f1.length c1) ∧ w.cell? ⟨(ad.add (i.toNat * 3)).block, (ad.add (i.toNat * 3)).off + 2, none⟩ = some (.slice A2 (rd_T43 xs i).f2.length c2) ∧ (rd_T43 xs i).f1.length ≤ c1 ∧ (Kd.int .u8).C w A1 (rd_T43 xs i).f1.length (rd_T43 xs i).f1 ∧ (rd_T43 xs i).f2.length ≤ c2 ∧ (Kd.int .u8).C w A2 (rd_T43 xs i).f2.length (rd_T43 xs i).f2 := by
 obtain ⟨ad, c, e, _, hK, hc0⟩ := Kd.C_get h z43 i h0 h1
 have hc : ∀ j u, c[j]? = some u → w.cell? (ad.add (i.toNat * 3 + j)) = some u := hc0
 obtain ⟨A1, c1, A2, c2, rfl, l1, g1, l2, g2⟩ := k43_open hK
 exact ⟨ad, A1, c1, A2, c2, e, hc 0 _ rfl, by rw [← add_field _ _ 1 (by omega)]; exact hc 1 _ rfl, by rw [← add_field _ _ 2 (by omega)]; exact hc 2 _ rfl, l1, g1, l2, g2⟩
end Go.Proofs.YtdklmafkcbjomaaDoor.R

/-! RatD -/
namespace Go.Proofs.YtdklmafkcbjomaaDoor
set_option linter.unusedVariables false
set_option linter.unusedSimpArgs false
open Go.RowKit Go.Proofs.YtdklmafkcbjomaaDoorW.PrintWords Go.Proofs.YtdklmafkcbjomaaDoorW.PrintLast Go.Proofs.YtdklmafkcbjomaaDoorW.PrintMore Iter
attribute [local go_sem] Oper.semAt_some
/-- Which of the locks is that of a place. -/
def idxL : List R.S43 → Int → Option Nat
 | [], _ => none
 | x :: xs, at_ => if x.f0 = at_ then some 0 else (idxL xs at_).map (· + 1)
def idxI (L : List R.S43) (at_ : Int) : Int := match idxL L at_ with | none => -1 | some k => (k : Int)
theorem idxL_drop (L : List R.S43) (at_ : Int) : ∀ k, k ≤ L.length → (∀ j, j < k → (L.getD j R.z43).f0 ≠ at_) → idxL L at_ = (idxL (L.drop k) at_).map (· + k) := by
 induction L with
 | nil => intro k hk _; simp at hk; subst hk; simp [idxL]
 | cons x xs ih =>
  intro k hk h
  cases k with
  | zero => simp
  | succ k =>
   have h0 := h 0 (by omega)
   have h1 := ih k (by simpa using hk) (fun j hj => by have := h (j + 1) (by omega); simpa using this)
   simp only [List.getD_cons_zero] at h0
   rw [idxL, if_neg h0, h1, List.drop_succ_cons, Option.map_map]
   congr 1
theorem idxL_none (L : List R.S43) (at_ : Int) (h : ∀ j, j < L.length → (L.getD j R.z43).f0 ≠ at_) : idxL L at_ = none := by
 rw [idxL_drop L at_ L.length (Nat.le_refl _) h, List.drop_length]
 rfl
theorem idxL_some (L : List R.S43) (at_ : Int) (k : Nat) (hk : k < L.length) (h : ∀ j, j < k → (L.getD j R.z43).f0 ≠ at_) (he : (L.getD k R.z43).f0 = at_) : idxL L at_ = some k := by
 rw [idxL_drop L at_ k (by omega) h, List.drop_eq_getElem_cons hk, idxL, if_pos (by rw [← he, List.getD_eq_getElem?_getD, List.getElem?_eq_getElem hk]; rfl)]
 simp
set_option maxRecDepth 100000 in
set_option maxHeartbeats 1000000 in
theorem take1_calls (a at_ : Int) (v1 v2 : Value) (ga : Nat) (w : World) (hb : Blk w ga 3 #[.int .i64 at_]) :
  Calls Tryd.prog 38 #[.agg #[.int .i64 a, v1, v2], .pointer (some ⟨ga, 0, none⟩)] w fun e w' => e = .returned (.bool (a == at_)) ∧ Below w.heap.size w w' := by
 have x0 : (w.alloc (.cells #[.int .i64 a, v1, v2] 43)).cell? ⟨ga, 0, none⟩ = some (.int .i64 at_) := (hb.alloc _).cell 0
 have x1 : (w.alloc (.cells #[.int .i64 a, v1, v2] 43)).cell? ⟨w.heap.size, 0, none⟩ = some (.int .i64 a) := (Blk.new w _ _).cell 0
 have hbl := (Below.refl w.heap.size w).alloc (Nat.le_refl _) (.cells #[.int .i64 a, v1, v2] 43)
 go_enter Tryd.func38, Tryd.ntmps38
 go_wp2
 go_ret
 exact ⟨rfl, hbl⟩
set_option maxRecDepth 100000 in
set_option maxHeartbeats 2000000 in
theorem index_calls (A : Option Addr) (c : Nat) (L : List R.S43) (ga : Nat) (at_ : Int) (w : World) (hl : L.length ≤ 1000) (hC : Kd.C R.k43 w A L.length L) (hb : Blk w ga 3 #[.int .i64 at_]) (hga : ga < w.heap.size) :
  Calls Tryd.prog 37 #[.slice A L.length c, .func (.func 38) #[] #[.pointer (some ⟨ga, 0, none⟩)]] w fun e w' => e = .returned (.int .i64 (idxI L at_)) ∧ Below w.heap.size w w' := by
 have HK := Lib.hid (And.intro hC (And.intro hb hga))
 have HL := Lib.hid hl
 clear hC hb hga hl
 go_enter Tryd.func37, Tryd.ntmps37
 go_wp2
 go_loopw [8] (fun i wr => ∃ k : Nat, k ≤ L.length ∧ i = .int .i64 (k : Int) ∧ Hid (∀ j, j < k → (L.getD j R.z43).f0 ≠ at_) ∧ Hid (Below w.heap.size w wr)) (fun i _ => L.length - (intOf i).toNat)
 case atStart => exact ⟨0, Nat.zero_le _, rfl, Lib.hid (fun j hj => by omega), Lib.hid (Below.refl _ _)⟩
 obtain ⟨k, hk, rfl, HN, HB⟩ := hrel
 by_cases hlt : k < L.length
 rotate_left
 ·obtain rfl : k = L.length := by omega
  have d0 : decide ((L.length : Int) < (L.length : Int)) = false := by simp
  have hx : idxI L at_ = -1 := by unfold idxI; rw [idxL_none L at_ HN.out]
  go_wp2
  go_ret
  exact ⟨by rw [hx]; rfl, HB.out⟩
 have d0 : decide ((k : Int) < (L.length : Int)) = true := by simp; exact hlt
 have p0 : (0 : Int) ≤ (k : Int) := Int.natCast_nonneg _
 have p1 : (k : Int) < (L.length : Int) := by omega
 obtain ⟨ad, A1, c1, A2, c2, rfl, x0, x1, x2, -, -, -, -⟩ := R.at_T43 (Kd.C_below HK.out.1 HB.out) (k : Int) p0 p1
 have hw : wrap64 ((k : Int) + 1) = ((k + 1 : Nat) : Int) := by have := HL.out; unfold wrap64; omega
 have hf : R.rd_T43 L (k : Int) = L.getD k R.z43 := by unfold R.rd_T43; rw [Int.toNat_natCast]
 rw [hf] at x0 x1 x2
 rw [Int.toNat_natCast] at x0 x1 x2
 have HM := Lib.hid (show L.length - (intOf (.int .i64 ((k + 1 : Nat) : Int))).toNat < L.length - (intOf (.int .i64 (k : Int))).toNat by simp [intOf]; omega)
 have HX := Lib.hid (show (L.getD k R.z43).f0 = at_ → idxI L at_ = (k : Int) from fun e => by unfold idxI; rw [idxL_some L at_ k hlt HN.out e])
 have HW := Lib.hid hw
 clear hw hf
 generalize hF : (L.getD k R.z43).f0 = F at *
 generalize (L.getD k R.z43).f1 = F1 at *
 generalize (L.getD k R.z43).f2 = F2 at *
 go_wp2_with fail
 refine (take1_calls F at_ _ _ ga wr (HK.out.2.1.below HB.out HK.out.2.2)).mono ?_
 rintro e W1 ⟨rfl, hb1⟩
 have HB1 := Lib.hid (HB.out.trans (hb1.mono HB.out.size))
 clear hb1
 by_cases he : F = at_
 ·have d1 : (F == at_) = true := by rw [he]; exact beq_self_eq_true _
  go_wp2
  go_ret
  exact ⟨by rw [HX.out he]; rfl, HB1.out⟩
 ·have d1 : (F == at_) = false := beq_eq_false_iff_ne.mpr he
  go_wp2
  refine ⟨⟨k + 1, hlt, by rw [HW.out], Lib.hid (fun j hj => ?_), HB1⟩, by rw [HW.out]; exact HM.out⟩
  by_cases hjk : j = k
  ·rw [hjk, hF]; exact he
  ·exact HN.out j (by omega)
end Go.Proofs.YtdklmafkcbjomaaDoor

/-! RatE -/
namespace Go.Proofs.YtdklmafkcbjomaaDoor
set_option linter.unusedVariables false
set_option linter.unusedSimpArgs false
open Go.RowKit Go.Proofs.YtdklmafkcbjomaaDoorW.PrintWords Go.Proofs.YtdklmafkcbjomaaDoorW.PrintLast Go.Proofs.YtdklmafkcbjomaaDoorW.PrintMore Iter
attribute [local go_sem] Oper.semAt_some
namespace R
theorem info43 : (Tryd.prog.info? 43).map (fun i => (i.zero, i.size, i.bytes)) = some (some (.agg #[(.int .i64 0), (.slice none 0 0), (.slice none 0 0)]), 3, 56) := by kernel_rfl
end R
/-- Cells of locks. -/
def RawOf (W : World) (L : List R.S43) (xs : List (List Value)) : Prop := xs.length = L.length ∧ ∀ j, j < L.length → R.k43.K W (L.getD j R.z43) (xs.getD j [])
theorem RawOf.below {W W' : World} {L : List R.S43} {xs : List (List Value)} (h : RawOf W L xs) (hb : Below W.heap.size W W') : RawOf W' L xs := ⟨h.1, fun j hj => R.k43.K_below hb (h.2 j hj)⟩
theorem RawOf.nil (W : World) : RawOf W [] [] := ⟨rfl, fun j hj => by simp at hj⟩
theorem RawOf.snoc {W : World} {L : List R.S43} {xs : List (List Value)} (h : RawOf W L xs) (x : R.S43) (c : List Value) (hc : R.k43.K W x c) : RawOf W (L ++ [x]) (xs ++ [c]) := by
 refine ⟨by rw [List.length_append, List.length_append, h.1]; rfl, fun j hj => ?_⟩
 rw [List.length_append] at hj
 simp only [List.length_cons, List.length_nil] at hj
 by_cases hl : j < L.length
 ·have := h.2 j hl
  rw [List.getD_eq_getElem?_getD, List.getD_eq_getElem?_getD, List.getElem?_append_left hl, List.getElem?_append_left (by rw [h.1]; exact hl), ← List.getD_eq_getElem?_getD, ← List.getD_eq_getElem?_getD]
  exact this
 ·have e : j = L.length := by omega
  rw [List.getD_eq_getElem?_getD, List.getD_eq_getElem?_getD, List.getElem?_append_right (by omega), List.getElem?_append_right (by rw [h.1]; omega), h.1, e, Nat.sub_self]
  exact hc
theorem RawOf.drop {W : World} {L : List R.S43} {xs : List (List Value)} (h : RawOf W L xs) (m : Nat) : RawOf W (L.drop m) (xs.drop m) := by
 refine ⟨by rw [List.length_drop, List.length_drop, h.1], fun j hj => ?_⟩
 rw [List.length_drop] at hj
 rw [List.getD_eq_getElem?_getD, List.getD_eq_getElem?_getD, List.getElem?_drop, List.getElem?_drop, ← List.getD_eq_getElem?_getD, ← List.getD_eq_getElem?_getD]
 exact h.2 (m + j) (by omega)
theorem raw_of_C {W : World} {A : Option Addr} {n : Nat} {L : List R.S43} (h : Kd.C R.k43 W A n L) : ∃ xs, Kd.C (Kd.raw 3) W A n xs ∧ RawOf W L xs := by
 by_cases h0 : 0 < n
 rotate_left
 ·have hn : n = 0 := by omega
  have hL : L = [] := List.eq_nil_of_length_eq_zero (by rw [h.1, hn])
  subst hL
  exact ⟨[], ⟨by rw [hn]; rfl, h.2.1, fun hh => absurd hh h0⟩, RawOf.nil W⟩
 obtain ⟨ad, e, hc⟩ := h.2.2 h0
 have hf : ∀ j, ∃ c : List Value, j < L.length → (c.length = 3 ∧ R.k43.K W (L.getD j R.z43) c ∧ ∀ i u, c[i]? = some u → W.cell? (ad.add (j * 3 + i)) = some u) := fun j => by
  by_cases hj : j < L.length
  ·obtain ⟨c, h1, h2, h3⟩ := hc j _ (List.getElem?_eq_getElem hj)
   exact ⟨c, fun _ => ⟨h1, by rw [List.getD_eq_getElem?_getD, List.getElem?_eq_getElem hj]; exact h2, h3⟩⟩
  ·exact ⟨[], fun hh => absurd hh hj⟩
 obtain ⟨f, hf⟩ := Classical.axiomOfChoice hf
 refine ⟨(List.range L.length).map f, ⟨by simp [h.1], h.2.1, fun _ => ⟨ad, e, fun j p hj => ?_⟩⟩, by simp, fun j hj => ?_⟩
 ·have hj' : j < L.length := by
   have := (List.getElem?_eq_some_iff.1 hj).1
   simpa using this
  have ep : p = f j := by
   rw [List.getElem?_map, List.getElem?_range hj'] at hj
   exact (Option.some.inj hj).symm
  obtain ⟨h1, h2, h3⟩ := hf j hj'
  exact ⟨f j, h1, ⟨ep.symm, h1, R.k43.K_one h2⟩, h3⟩
 ·rw [List.getD_eq_getElem?_getD (l := (List.range L.length).map f), List.getElem?_map, List.getElem?_range hj]
  exact (hf j hj).2.1
theorem C_of_raw {W : World} {A : Option Addr} {n : Nat} {L : List R.S43} {xs : List (List Value)} (h : Kd.C (Kd.raw 3) W A n xs) (hr : RawOf W L xs) : Kd.C R.k43 W A n L := by
 refine ⟨by rw [← hr.1]; exact h.1, h.2.1, fun h0 => ?_⟩
 obtain ⟨ad, e, hc⟩ := h.2.2 h0
 refine ⟨ad, e, fun j p hj => ?_⟩
 have hj' := (List.getElem?_eq_some_iff.1 hj).1
 have hx : j < xs.length := by rw [hr.1]; exact hj'
 obtain ⟨c, h1, ⟨h2, -, -⟩, h3⟩ := hc j _ (List.getElem?_eq_getElem hx)
 have hk := hr.2 j hj'
 rw [List.getD_eq_getElem?_getD, List.getD_eq_getElem?_getD, hj, List.getElem?_eq_getElem hx] at hk
 exact ⟨c, h1, by rw [h2]; exact hk, h3⟩
theorem raw_lit (w : World) (base : Nat) (hb : base ≤ w.heap.size) : Kd.R (Kd.raw 3) 43 (w.alloc (.cells #[] 43)) base (fun _ => True) (.slice (some ⟨w.heap.size, 0, none⟩) 0 0) [] :=
 ⟨fun _ _ => trivial, OwnRow.lit w base (inner := []) (Reps.none _ _) hb (by decide)⟩
set_option maxRecDepth 100000 in
set_option maxHeartbeats 1000000 in
theorem cloneL_some (ad : Addr) (c n : Nat) (xs : List (List Value)) (w : World) (hC : Kd.C (Kd.raw 3) w (some ad) n xs) (hl : n ≤ 1000) :
  Calls Tryd.prog 39 #[.slice (some ad) n c] w fun e w' => ∃ v, e = .returned v ∧ Kd.R (Kd.raw 3) 43 w' w.heap.size (fun _ => True) v xs ∧ Below w.heap.size w w' := by
 have hq := fun w' => Lib.run_eql_slice_nil (P := Tryd.prog) w' 23 43 (some ad) n c 0 0 Tryd.underlying23
 have Hb0 := (Below.refl w.heap.size w).alloc (Nat.le_refl _) (Obj.cells #[] 43)
 have HC := Lib.hid (Kd.C_alloc hC (Obj.cells #[] 43))
 have HX := Lib.hid (raw_lit w w.heap.size (Nat.le_refl _))
 clear hC
 go_enter Tryd.func39, Tryd.ntmps39
 go_wp2_with (first | ((with_reducible refine gate_builtin (b := .append) (xs := #[.tmp 5, .tmp 6]) rfl ?_); at_builtin; refine Kd.R_append_rows (Kd.raw 3) (w0 := w) w.heap.size rfl (.tmp 5) (.tmp 6) 23 43 _ 56 rfl Tryd.underlying23 R.info43 rfl (by decide) (by omega) (.slice (some ⟨w.heap.size, 0, none⟩) 0 0) [] xs _ _ _ (fun _ => True) (fun _ => False) rfl rfl HX.out HC.out (fun _ _ h => h) (fun _ h => h.elim) (fun _ _ => trivial) Hb0 Hb0.size (by simp; omega) ?_; intro v7 W7 ho7 hb7 hg7 hat7))
 go_ret
 exact ⟨v7, rfl, by rw [List.nil_append] at ho7; exact ho7, hb7⟩
set_option maxRecDepth 100000 in
theorem cloneL_nil (c : Nat) (w : World) :
  Calls Tryd.prog 39 #[.slice none 0 c] w fun e w' => e = .returned (.slice none 0 0) ∧ Below w.heap.size w w' := by
 have hq := fun w' => Lib.run_eql_slice_nil (P := Tryd.prog) w' 23 43 none 0 c 0 0 Tryd.underlying23
 go_enter Tryd.func39, Tryd.ntmps39
 go_wp2
 go_ret
 exact ⟨rfl, Below.refl _ _⟩
end Go.Proofs.YtdklmafkcbjomaaDoor

/-! RatG -/
namespace Go.Proofs.YtdklmafkcbjomaaDoor
set_option linter.unusedVariables false
set_option linter.unusedSimpArgs false
open Go.RowKit Go.Shelf Go.Proofs.YtdklmafkcbjomaaDoorW.PrintWords Go.Proofs.YtdklmafkcbjomaaDoorW.PrintLast Go.Proofs.YtdklmafkcbjomaaDoorW.PrintMore Iter
theorem C_sub {W W' : World} {A : Option Addr} {n : Nat} {xs : List Int} (h : Kd.C (Kd.int .u8) W A n xs) (hs : 0 < n → ∀ a, A = some a → W'.heap[a.block]? = W.heap[a.block]?) : Kd.C (Kd.int .u8) W' A n xs := by
 by_cases h0 : 0 < n
 ·obtain ⟨ad, e, -⟩ := h.2.2 h0
  subst e
  exact C_same h (hs h0 ad rfl)
 ·exact ⟨h.1, h.2.1, fun hh => absurd hh h0⟩
/-- A lock in three cells; its rows lie in blocks of which ok holds. -/
def LockIn (ok : Nat → Prop) (W : World) (x : R.S43) (cs : List Value) : Prop :=
 ∃ A1 c1 A2 c2, cs = [.int .i64 x.f0, .slice A1 x.f1.length c1, .slice A2 x.f2.length c2] ∧ x.f1.length ≤ c1 ∧ Kd.C (Kd.int .u8) W A1 x.f1.length x.f1 ∧ x.f2.length ≤ c2 ∧ Kd.C (Kd.int .u8) W A2 x.f2.length x.f2 ∧
  (0 < x.f1.length → ∀ a, A1 = some a → ok a.block) ∧ (0 < x.f2.length → ∀ a, A2 = some a → ok a.block)
theorem LockIn.sub {ok : Nat → Prop} {W W' : World} {x : R.S43} {cs : List Value} (h : LockIn ok W x cs) (hs : ∀ b, ok b → W'.heap[b]? = W.heap[b]?) : LockIn ok W' x cs := by
 obtain ⟨A1, c1, A2, c2, e, l1, h1, l2, h2, b1, b2⟩ := h
 exact ⟨A1, c1, A2, c2, e, l1, C_sub h1 (fun h0 a ha => hs _ (b1 h0 a ha)), l2, C_sub h2 (fun h0 a ha => hs _ (b2 h0 a ha)), b1, b2⟩
theorem LockIn.kept {ok : Nat → Prop} {W W' : World} {x : R.S43} {cs : List Value} (h : LockIn ok W x cs) (hk : KeepsCells W W') : LockIn ok W' x cs := by
 obtain ⟨A1, c1, A2, c2, e, l1, h1, l2, h2, b1, b2⟩ := h
 exact ⟨A1, c1, A2, c2, e, l1, C_kept h1 hk, l2, C_kept h2 hk, b1, b2⟩
theorem LockIn.mono {ok ok' : Nat → Prop} {W : World} {x : R.S43} {cs : List Value} (h : LockIn ok W x cs) (hm : ∀ b, ok b → ok' b) : LockIn ok' W x cs := by
 obtain ⟨A1, c1, A2, c2, e, l1, h1, l2, h2, b1, b2⟩ := h
 exact ⟨A1, c1, A2, c2, e, l1, h1, l2, h2, fun h0 a ha => hm _ (b1 h0 a ha), fun h0 a ha => hm _ (b2 h0 a ha)⟩
theorem LockIn.K {ok : Nat → Prop} {W : World} {x : R.S43} {cs : List Value} (h : LockIn ok W x cs) : R.k43.K W x cs := by
 obtain ⟨A1, c1, A2, c2, rfl, l1, h1, l2, h2, -, -⟩ := h
 exact R.k43_mk W x l1 h1 l2 h2
theorem LockIn.of_K {W : World} {x : R.S43} {cs : List Value} (h : R.k43.K W x cs) : LockIn (· < W.heap.size) W x cs := by
 obtain ⟨A1, c1, A2, c2, e, l1, h1, l2, h2⟩ := R.k43_open h
 refine ⟨A1, c1, A2, c2, e, l1, h1, l2, h2, fun h0 a ha => ?_, fun h0 a ha => ?_⟩
 ·obtain ⟨ad, e1, hl⟩ := C_some h1 h0
  rw [ha] at e1
  cases e1
  exact hl
 ·obtain ⟨ad, e1, hl⟩ := C_some h2 h0
  rw [ha] at e1
  cases e1
  exact hl
/-- Many locks. -/
def RawIn (ok : Nat → Prop) (W : World) (L : List R.S43) (xs : List (List Value)) : Prop := xs.length = L.length ∧ ∀ j, j < L.length → LockIn ok W (L.getD j R.z43) (xs.getD j [])
theorem RawIn.sub {ok : Nat → Prop} {W W' : World} {L : List R.S43} {xs : List (List Value)} (h : RawIn ok W L xs) (hs : ∀ b, ok b → W'.heap[b]? = W.heap[b]?) : RawIn ok W' L xs := ⟨h.1, fun j hj => (h.2 j hj).sub hs⟩
theorem RawIn.kept {ok : Nat → Prop} {W W' : World} {L : List R.S43} {xs : List (List Value)} (h : RawIn ok W L xs) (hk : KeepsCells W W') : RawIn ok W' L xs := ⟨h.1, fun j hj => (h.2 j hj).kept hk⟩
theorem RawIn.mono {ok ok' : Nat → Prop} {W : World} {L : List R.S43} {xs : List (List Value)} (h : RawIn ok W L xs) (hm : ∀ b, ok b → ok' b) : RawIn ok' W L xs := ⟨h.1, fun j hj => (h.2 j hj).mono hm⟩
theorem RawIn.of {W : World} {L : List R.S43} {xs : List (List Value)} (h : RawOf W L xs) : RawIn (· < W.heap.size) W L xs := ⟨h.1, fun j hj => LockIn.of_K (h.2 j hj)⟩
theorem RawIn.to {ok : Nat → Prop} {W : World} {L : List R.S43} {xs : List (List Value)} (h : RawIn ok W L xs) : RawOf W L xs := ⟨h.1, fun j hj => (h.2 j hj).K⟩
theorem RawIn.snoc {ok : Nat → Prop} {W : World} {L : List R.S43} {xs : List (List Value)} (h : RawIn ok W L xs) (x : R.S43) (c : List Value) (hc : LockIn ok W x c) : RawIn ok W (L ++ [x]) (xs ++ [c]) := by
 refine ⟨by rw [List.length_append, List.length_append, h.1]; rfl, fun j hj => ?_⟩
 rw [List.length_append] at hj
 simp only [List.length_cons, List.length_nil] at hj
 by_cases hl : j < L.length
 ·have := h.2 j hl
  rw [List.getD_eq_getElem?_getD, List.getD_eq_getElem?_getD, List.getElem?_append_left hl, List.getElem?_append_left (by rw [h.1]; exact hl), ← List.getD_eq_getElem?_getD, ← List.getD_eq_getElem?_getD]
  exact this
 ·have e : j = L.length := by omega
  rw [List.getD_eq_getElem?_getD, List.getD_eq_getElem?_getD, List.getElem?_append_right (by omega), List.getElem?_append_right (by rw [h.1]; omega), h.1, e, Nat.sub_self]
  exact hc
/-- Blocks ahead of Take's own, and those of bytes that were made since. -/
def okT (g g10 m : Nat) (W : World) (b : Nat) : Prop := b < g ∨ (g10 < b ∧ b < m ∧ ∃ cells, W.heap[b]? = some (.cells cells 5 (0, 0)))
theorem okT_lt {g g10 m : Nat} {W : World} {b : Nat} (h : okT g g10 m W b) (hg : g ≤ m) : b < m := by
 rcases h with h | h
 ·omega
 ·exact h.2.1
theorem okT_mono {g g10 m m' : Nat} {W : World} (hm : m ≤ m') : ∀ b, okT g g10 m W b → okT g g10 m' W b := fun b h => by
 rcases h with h | ⟨h1, h2, h3⟩
 ·exact .inl h
 ·exact .inr ⟨h1, by omega, h3⟩
theorem okT_kept {g g10 m : Nat} {W W' : World} (hk : KeepsCells W W') : ∀ b, okT g g10 m W b → okT g g10 m W' b := fun b h => by
 rcases h with h | ⟨h1, h2, cells, h3⟩
 ·exact .inl h
 ·exact .inr ⟨h1, h2, cells, hk.same _ _ h3 rfl⟩
theorem okT_same {g g10 m : Nat} {W W' : World} (hs : ∀ b, okT g g10 m W b → W'.heap[b]? = W.heap[b]?) : ∀ b, okT g g10 m W b → okT g g10 m W' b := fun b h => by
 have e := hs b h
 rcases h with h | ⟨h1, h2, cells, h3⟩
 ·exact .inl h
 ·exact .inr ⟨h1, h2, cells, e.trans h3⟩
theorem LockIn.keptT {g g10 m : Nat} {W W' : World} {x : R.S43} {cs : List Value} (h : LockIn (okT g g10 m W) W x cs) (hk : KeepsCells W W') : LockIn (okT g g10 m W') W' x cs := (h.kept hk).mono (okT_kept hk)
theorem LockIn.subT {g g10 m : Nat} {W W' : World} {x : R.S43} {cs : List Value} (h : LockIn (okT g g10 m W) W x cs) (hs : ∀ b, okT g g10 m W b → W'.heap[b]? = W.heap[b]?) : LockIn (okT g g10 m W') W' x cs := (h.sub hs).mono (okT_same hs)
theorem RawIn.keptT {g g10 m : Nat} {W W' : World} {L : List R.S43} {xs : List (List Value)} (h : RawIn (okT g g10 m W) W L xs) (hk : KeepsCells W W') : RawIn (okT g g10 m W') W' L xs := (h.kept hk).mono (okT_kept hk)
theorem RawIn.subT {g g10 m : Nat} {W W' : World} {L : List R.S43} {xs : List (List Value)} (h : RawIn (okT g g10 m W) W L xs) (hs : ∀ b, okT g g10 m W b → W'.heap[b]? = W.heap[b]?) : RawIn (okT g g10 m W') W' L xs := (h.sub hs).mono (okT_same hs)
/-- A copy of a row of locks: the same cells. -/
theorem cloneR_calls (A : Option Addr) (c n : Nat) (xs : List (List Value)) (w : World) (hC : Kd.C (Kd.raw 3) w A n xs) (hl : n ≤ 1000) :
  Calls Tryd.prog 39 #[.slice A n c] w fun e w' => ∃ v, e = .returned v ∧ Kd.R (Kd.raw 3) 43 w' w.heap.size (fun _ => True) v xs ∧ Below w.heap.size w w' := by
 cases A with
 | some ad => exact cloneL_some ad c n xs w hC hl
 | none =>
  have h0 : n = 0 := by
   by_cases h : 0 < n
   ·obtain ⟨ad, e, -⟩ := hC.2.2 h
    cases e
   ·omega
  subst h0
  have hx : xs = [] := List.eq_nil_of_length_eq_zero hC.1
  subst hx
  refine (cloneL_nil c w).mono ?_
  rintro e w' ⟨rfl, hb⟩
  exact ⟨_, rfl, Kd.R_nil _ _ _ _ _, hb⟩
/-- The locks that are passed over, and the one that is taken. -/
def labKeyR : ByteArray := ⟨#[107, 101, 121]⟩
def labNonceR : ByteArray := ⟨#[110, 111, 110, 99, 101]⟩
def lockS (s : List Int) (n : Nat) : R.S43 := ⟨(n : Int), labelOf s labKeyR (numB n 4) 32, labelOf s labNonceR (numB n 4) 12⟩
def lockN (s : List Int) (n k : Nat) : R.S43 := lockS (secS s n k) (n + k)
def passed (s : List Int) (n k : Nat) : List R.S43 := (List.range k).map (lockN s n)
theorem passed_succ (s : List Int) (n k : Nat) : passed s n (k + 1) = passed s n k ++ [lockN s n k] := by simp [passed, List.range_succ]
theorem passed_length (s : List Int) (n k : Nat) : (passed s n k).length = k := by simp [passed]
theorem lock_some (s : List Int) (n : Nat) (h : n < 4294967296) (h32 : s.length = 32) (os : byteOk s = true) : U.ratch_lock.f s (n : Int) = some ((n : Int), labelOf s labKeyR (numB n 4) 32, labelOf s labNonceR (numB n 4) 12) := by
 have e1 : U.ratch_part.f s (⟨#[107, 101, 121]⟩ : ByteArray) (numB n 4) 32 = some (labelOf s labKeyR (numB n 4) 32) := by
  unfold U.ratch_part.f
  rw [show P.kdf_Label.f s (⟨#[107, 101, 121]⟩ : ByteArray) (numB n 4) 32 = some (labelOf s labKeyR (numB n 4) 32, 0) from label_some s labKeyR (numB n 4) 32 (by decide) os (byteOk_numB _ _) (by rw [h32]; decide) (by decide) (by rw [numB_length]; decide), Option.bind_some]
 have e2 : U.ratch_part.f s (⟨#[110, 111, 110, 99, 101]⟩ : ByteArray) (numB n 4) 12 = some (labelOf s labNonceR (numB n 4) 12) := by
  unfold U.ratch_part.f
  rw [show P.kdf_Label.f s (⟨#[110, 111, 110, 99, 101]⟩ : ByteArray) (numB n 4) 12 = some (labelOf s labNonceR (numB n 4) 12, 0) from label_some s labNonceR (numB n 4) 12 (by decide) os (byteOk_numB _ _) (by rw [h32]; decide) (by decide) (by rw [numB_length]; decide), Option.bind_some]
 unfold U.ratch_lock.f
 rw [place_some n h, Option.bind_some, e1, Option.bind_some, Option.bind_some, e2, Option.bind_some]
end Go.Proofs.YtdklmafkcbjomaaDoor

/-! RatH -/
namespace Go.Proofs.YtdklmafkcbjomaaDoor
set_option linter.unusedVariables false
set_option linter.unusedSimpArgs false
open Go Go.RowKit Go.Shelf Go.Proofs.YtdklmafkcbjomaaDoorW.PrintWords Go.Proofs.YtdklmafkcbjomaaDoorW.PrintLast Go.Proofs.YtdklmafkcbjomaaDoorW.PrintMore Iter
theorem keepsOthers_of_below {W W' : World} (h : Below W.heap.size W W') : KeepsOthers W W' := ⟨h.size, fun k o hk _ => (h.block k (Array.getElem?_eq_some_iff.1 hk).1).trans hk⟩
theorem Rraw_kept {W W' : World} {base : Nat} {ok : Nat → Prop} {v : Value} {xs : List (List Value)} (h : Kd.R (Kd.raw 3) 43 W base ok v xs) (hk : KeepsCells W W') : Kd.R (Kd.raw 3) 43 W' base ok v xs :=
 Kd.R_mono (Kd.R_move (Kd.R_bound h) (fun k hb => by obtain ⟨_, _, _, q, _, cells, hc⟩ := hb; exact (hk.same _ _ hc rfl).trans hc.symm)) (fun _ hb => hb.1)
/-- The boxes that Take holds: the chain, the place, and the results. -/
def TakeC (g : Nat) (C : Array Value) (at_ : Int) (W : World) : Prop :=
 Blk W g 25 C ∧ Blk W (g + 1) 3 #[.int .i64 at_] ∧ Blk W (g + 2) 25 #[.int .i64 0, .slice none 0 0, .slice none 0 0] ∧ Blk W (g + 3) 43 #[.int .i64 0, .slice none 0 0, .slice none 0 0]
theorem TakeC.kept {g : Nat} {C : Array Value} {at_ : Int} {W W' : World} (h : TakeC g C at_ W) (hk : KeepsCells W W') : TakeC g C at_ W' := ⟨h.1.kept hk, h.2.1.kept hk, h.2.2.1.kept hk, h.2.2.2.kept hk⟩
theorem TakeC.below {g m : Nat} {C : Array Value} {at_ : Int} {W W' : World} (h : TakeC g C at_ W) (hb : Below m W W') (hm : g + 3 < m) : TakeC g C at_ W' := ⟨h.1.below hb (by omega), h.2.1.below hb (by omega), h.2.2.1.below hb (by omega), h.2.2.2.below hb hm⟩
/-- The lock in out: the last one, behind the last round but one. -/
def OutIn (g g9 g10 m : Nat) (last : Prop) (x : R.S43) (W : World) : Prop := ∃ a0 a1 a2, Blk W g9 43 #[a0, a1, a2] ∧ (last → LockIn (okT g g10 m W) W x [a0, a1, a2])
/-- The locks in spare. -/
def SpareIn (g g9 g10 B m : Nat) (M : List R.S43) (W : World) : Prop := ∃ v xs, Blk W g10 23 #[v] ∧ Kd.R (Kd.raw 3) 43 W B (fun b => b < m ∧ g9 < b ∧ b ≠ g10) v xs ∧ RawIn (okT g g10 m W) W M xs
theorem OutIn.kept {g g9 g10 m : Nat} {last : Prop} {x : R.S43} {W W' : World} (h : OutIn g g9 g10 m last x W) (hk : KeepsCells W W') : OutIn g g9 g10 m last x W' := by
 obtain ⟨a0, a1, a2, hb, hl⟩ := h
 exact ⟨a0, a1, a2, hb.kept hk, fun hh => (hl hh).keptT hk⟩
theorem OutIn.below {g g9 g10 m : Nat} {last : Prop} {x : R.S43} {W W' : World} (h : OutIn g g9 g10 m last x W) (hb : Below m W W') (hm : g9 < m) (hg : g ≤ m) : OutIn g g9 g10 m last x W' := by
 obtain ⟨a0, a1, a2, h1, hl⟩ := h
 exact ⟨a0, a1, a2, h1.below hb hm, fun hh => (hl hh).subT (fun b h => hb.block b (okT_lt h hg))⟩
theorem OutIn.mono {g g9 g10 m m' : Nat} {last : Prop} {x : R.S43} {W : World} (h : OutIn g g9 g10 m last x W) (hm : m ≤ m') : OutIn g g9 g10 m' last x W := by
 obtain ⟨a0, a1, a2, h1, hl⟩ := h
 exact ⟨a0, a1, a2, h1, fun hh => (hl hh).mono (okT_mono hm)⟩
theorem SpareIn.kept {g g9 g10 B m : Nat} {M : List R.S43} {W W' : World} (h : SpareIn g g9 g10 B m M W) (hk : KeepsCells W W') : SpareIn g g9 g10 B m M W' := by
 obtain ⟨v, xs, h1, h2, h3⟩ := h
 exact ⟨v, xs, h1.kept hk, Rraw_kept h2 hk, h3.keptT hk⟩
theorem SpareIn.below {g g9 g10 B m : Nat} {M : List R.S43} {W W' : World} (h : SpareIn g g9 g10 B m M W) (hb : Below m W W') (hm : g10 < m) (hg : g ≤ m) : SpareIn g g9 g10 B m M W' := by
 obtain ⟨v, xs, h1, h2, h3⟩ := h
 exact ⟨v, xs, h1.below hb hm, Kd.R_step h2 (fun b hk _ => hb.block b hk.1), h3.subT (fun b h => hb.block b (okT_lt h hg))⟩
theorem SpareIn.mono {g g9 g10 B m m' : Nat} {M : List R.S43} {W : World} (h : SpareIn g g9 g10 B m M W) (hm : m ≤ m') : SpareIn g g9 g10 B m' M W := by
 obtain ⟨v, xs, h1, h2, h3⟩ := h
 exact ⟨v, xs, h1, Kd.R_mono h2 (fun b hb => ⟨Nat.lt_of_lt_of_le hb.1 hm, hb.2⟩), h3.mono (okT_mono hm)⟩
/-- Between rounds. -/
def ITake (g g9 g10 B : Nat) (C : Array Value) (at_ : Int) (s : List Int) (n d : Nat) (L : List R.S43) (k m : Nat) (W : World) : Prop :=
 TakeC g C at_ W ∧ g + 3 < g9 ∧ g9 < g10 ∧ g10 < m ∧ OutIn g g9 g10 m (k = d + 1) (lockN s n d) W ∧ SpareIn g g9 g10 B m (L ++ passed s n (min k d)) W
theorem ITake_kept (g g9 g10 B : Nat) (C : Array Value) (at_ : Int) (s : List Int) (n d : Nat) (L : List R.S43) (k m : Nat) (W W' : World) (h : ITake g g9 g10 B C at_ s n d L k m W) (hk : KeepsCells W W') : ITake g g9 g10 B C at_ s n d L k m W' :=
 ⟨h.1.kept hk, h.2.1, h.2.2.1, h.2.2.2.1, h.2.2.2.2.1.kept hk, h.2.2.2.2.2.kept hk⟩
theorem ITake_below (g g9 g10 B : Nat) (C : Array Value) (at_ : Int) (s : List Int) (n d : Nat) (L : List R.S43) (k m : Nat) (W W' : World) (h : ITake g g9 g10 B C at_ s n d L k m W) (hb : Below m W W') : ITake g g9 g10 B C at_ s n d L k m W' :=
 ⟨h.1.below hb (by have := h.2; omega), h.2.1, h.2.2.1, h.2.2.2.1, h.2.2.2.2.1.below hb (by have := h.2; omega) (by have := h.2; omega), h.2.2.2.2.2.below hb (by have := h.2; omega) (by have := h.2; omega)⟩
theorem ITake_mono (g g9 g10 B : Nat) (C : Array Value) (at_ : Int) (s : List Int) (n d : Nat) (L : List R.S43) (k m m' : Nat) (W : World) (h : ITake g g9 g10 B C at_ s n d L k m W) (hm : m ≤ m') : ITake g g9 g10 B C at_ s n d L k m' W :=
 ⟨h.1, h.2.1, h.2.2.1, by have := h.2.2.2.1; omega, h.2.2.2.2.1.mono hm, h.2.2.2.2.2.mono hm⟩
/-- The range is left behind the place behind the one that is taken. -/
def XTake (g g9 g10 B : Nat) (sp : Value) (at_ : Int) (s : List Int) (n d : Nat) (L : List R.S43) (c : Code) (k : Nat) (W : World) : Prop :=
 c = .exit 1 ∧ ∃ m A cs, TakeC g #[.int .i64 ((n + (d + 1) : Nat) : Int), .slice A (secS s n (d + 1)).length cs, sp] at_ W ∧ (secS s n (d + 1)).length ≤ cs ∧ Kd.C (Kd.int .u8) W A (secS s n (d + 1)).length (secS s n (d + 1)) ∧ g + 3 < g9 ∧ g9 < g10 ∧ OutIn g g9 g10 m True (lockN s n d) W ∧ SpareIn g g9 g10 B m (L ++ passed s n d) W
theorem XTake_own (g g9 g10 B : Nat) (sp : Value) (at_ : Int) (s : List Int) (n d : Nat) (L : List R.S43) (c : Code) : CellOwn (XTake g g9 g10 B sp at_ s n d L c) := by
 rintro k W W' ⟨e, m, A, cs, h1, h2, h3, h4, h5, h6, h7⟩ hk
 exact ⟨e, m, A, cs, h1.kept hk, h2, C_kept h3 hk, h4, h5, h6.kept hk, h7.kept hk⟩
theorem okT_ne {g g10 m : Nat} {W : World} {b : Nat} (h : okT g g10 m W b) (hg : g < g10) : b ≠ g := by
 rcases h with h | h
 ·omega
 ·have := h.1; omega
theorem heap_set2 (W : World) (g : Nat) (u v : Value) (b : Nat) (h : b ≠ g) : ((W.setCell ⟨g, 0, none⟩ u).setCell ⟨g, 1, none⟩ v).heap[b]? = W.heap[b]? := by
 rw [Below.heap_setCell _ ⟨g, 1, none⟩ v b h, Below.heap_setCell _ ⟨g, 0, none⟩ u b h]
/-- The place behind the one that is taken: the chain's box is written, and the range is left. -/
theorem take_leave (g g9 g10 : Nat) (at_ : Int) (s : List Int) (n d : Nat) (L : List R.S43) (m : Nat) (W : World) (N0 : Int) (As : Option Addr) (cs : Nat) (sp : Value) (A : Option Addr) (c : Nat) (S : List Int) (hS : secS s n (d + 1) = S)
  (hI : ITake g g9 g10 g #[.int .i64 N0, .slice As s.length cs, sp] at_ s n d L (d + 1) m W) (hlc : S.length ≤ c) (hCe : Kd.C (Kd.int .u8) W A S.length S) (hAe : ∀ a, A = some a → a.block < g ∨ m ≤ a.block) :
  KeepsOthers W ((W.setCell ⟨g, 0, none⟩ (.int .i64 ((n + (d + 1) : Nat) : Int))).setCell ⟨g, 1, none⟩ (.slice A S.length c)) ∧
  XTake g g9 g10 g sp at_ s n d L (.exit 1) (d + 1) ((W.setCell ⟨g, 0, none⟩ (.int .i64 ((n + (d + 1) : Nat) : Int))).setCell ⟨g, 1, none⟩ (.slice A S.length c)) ∧
  Below g W ((W.setCell ⟨g, 0, none⟩ (.int .i64 ((n + (d + 1) : Nat) : Int))).setCell ⟨g, 1, none⟩ (.slice A S.length c)) := by
 obtain ⟨⟨b0, b1, b2, b3⟩, hg9, hg10, hgm, ⟨a0, a1, a2, ho, hl⟩, ⟨v, xs, hv, hR, hx⟩⟩ := hI
 have hs := heap_set2 W g (.int .i64 ((n + (d + 1) : Nat) : Int)) (.slice A S.length c)
 have hmin : min (d + 1) d = d := by omega
 rw [hmin] at hx
 refine ⟨(KeepsOthers.setCell _ _ _).trans (KeepsOthers.setCell _ _ _), ⟨rfl, m, A, c, ?_, ?_, ?_, hg9, hg10, ?_, ?_⟩, ((Below.refl g W).setCell (p := ⟨g, 0, none⟩) (Nat.le_refl g) _).setCell (p := ⟨g, 1, none⟩) (Nat.le_refl g) _⟩
 ·rw [hS]
  exact ⟨(b0.set_ 0 _).set_ 1 _, (b1.far (p := ⟨g, 0, none⟩) (by show g + 1 ≠ g; omega) _).far (p := ⟨g, 1, none⟩) (by show g + 1 ≠ g; omega) _, (b2.far (p := ⟨g, 0, none⟩) (by show g + 2 ≠ g; omega) _).far (p := ⟨g, 1, none⟩) (by show g + 2 ≠ g; omega) _, (b3.far (p := ⟨g, 0, none⟩) (by show g + 3 ≠ g; omega) _).far (p := ⟨g, 1, none⟩) (by show g + 3 ≠ g; omega) _⟩
 ·rw [hS]; exact hlc
 ·rw [hS]
  exact C_sub hCe (fun _ a ha => hs _ (by have := hAe a ha; omega))
 ·exact ⟨a0, a1, a2, (ho.far (p := ⟨g, 0, none⟩) (by show g9 ≠ g; omega) _).far (p := ⟨g, 1, none⟩) (by show g9 ≠ g; omega) _, fun _ => (hl rfl).subT (fun b hb => hs b (okT_ne hb (by omega)))⟩
 ·exact ⟨v, xs, (hv.far (p := ⟨g, 0, none⟩) (by show g10 ≠ g; omega) _).far (p := ⟨g, 1, none⟩) (by show g10 ≠ g; omega) _, Kd.R_step hR (fun b hk _ => hs b (by have := hk.2.1; omega)), hx.subT (fun b hb => hs b (okT_ne hb (by omega)))⟩
/-- The frame in which a round of Take's range begins. -/
def aT (a : Act) (args : Array Value) : Act := { tmps := (((a.tmps.setIfInBounds 72 (args.getD 0 undef)).setIfInBounds 73 (args.getD 1 undef)).setIfInBounds 11 (args.getD 0 undef)).setIfInBounds 12 (args.getD 1 undef), defers := [] }
theorem wpIn_range_take {P : Program} {n : Nat} {g : Operand} {ps : Array Tmp} {assign body : Code} {Q : Exit → Act → World → Prop} {a : Act} {w : World}
  {gf : Nat} {lb : Array Value} (hg : a.eval g = .func (.func gf) #[] lb) (eg : ∀ args w, (callFunc gf args).run P w = .ok (.enter gf args) w)
  {El : Nat → Nat → Array Value → World → Prop} {N B : Nat} {Kp : Array Value → World → World → Prop} {w0 : World}
  {Pre : World → Prop} (hseq : SeqMarkP Pre P gf lb El N B Kp w0) (hPre : ∀ W', Below w.heap.size w W' → Pre W') (hb0 : Below B w0 w) (hB : B ≤ w.heap.size)
  (hps : ∀ k m args W, El k m args W → args.size = ps.size)
  (hEl : ∀ k m args W W', El k m args W → KeepsCells W W' → El k m args W')
  (hKp : ∀ args A A' C C', KeepsCells A A' → KeepsCells C C' → Kp args A' C → Kp args A C')
  (I : Nat → Nat → World → Prop) (Ix : Code → Nat → World → Prop) (hI : ∀ k m W W', I k m W → KeepsCells W W' → I k m W') (hIb : ∀ k m W W', I k m W → Below m W W' → I k m W') (hIm : ∀ k m m' W, I k m W → m ≤ m' → I k m' W) (hIx : ∀ c, CellOwn (Ix c)) (h0 : I 0 w.heap.size w)
  (hassign : ∀ (l k m : Nat) (args : Array Value) (W : World) (K : Act → World → Prop), El k m args W → K (aT a args) W →
   assign.wpIn (Fence.wide.inRound l) n P (Exit.then K (fun _ _ _ => False)) { tmps := (ps.zip args).foldl (fun t (p, v) => t.setIfInBounds p v) a.tmps, defers := [] } W)
  (hbody : ∀ (l k m : Nat) (args : Array Value) (W : World), k < N → I k m W → m ≤ W.heap.size → El k m args W → Below B w0 W → body.wpIn (Fence.wide.inRound l) n P (markPost N B Kp I Ix k args W) (aT a args) W)
  (hstop : ∀ (D : Nat) (c : Code) (k : Nat) (W : World), Ix c k W → Below B w0 W → W.heap[D]? = some (.deferred (some [])) → w.heap.size ≤ D →
   c.wpIn Fence.wide (n + 2) P Q { a with defers := { target := .collected D, args := #[] } :: a.defers } W) :
  (Code.rangeFunc g ps assign body).wpIn Fence.wide (n + 2) P Q a w :=
 wpIn_range_markP hg eg hseq hPre hb0 hB hps hEl hKp I Ix hI hIb hIm hIx h0 (aT a) hassign hbody hstop
end Go.Proofs.YtdklmafkcbjomaaDoor

/-! RatI -/
namespace Go.Proofs.YtdklmafkcbjomaaDoor
set_option linter.unusedVariables false
set_option linter.unusedSimpArgs false
open Go Go.RowKit Go.Shelf Go.Proofs.YtdklmafkcbjomaaDoorW.PrintWords Go.Proofs.YtdklmafkcbjomaaDoorW.PrintLast Go.Proofs.YtdklmafkcbjomaaDoorW.PrintMore Iter
theorem lock_info : ∃ i0, Tryd.prog.info? 43 = some i0 ∧ i0.zero = some (.agg #[(.int .i64 0), (.slice none 0 0), (.slice none 0 0)]) ∧ i0.size = 3 ∧ i0.bytes = 56 := by
 obtain ⟨i0, hi, hz⟩ := Option.map_eq_some_iff.1 R.info43
 simp only [Prod.mk.injEq] at hz
 exact ⟨i0, hi, hz⟩
set_option maxRecDepth 100000 in
set_option maxHeartbeats 1000000 in
theorem wpListIn_append_lock {F : Fence} {n : Nat} {ops : Array Oper} {rest : List Oper} {o : Oper} {a : Act} {Q : Exit → Act → World → Prop} (W : World) (hgd : o.guard = none) (s x : Operand)
  (ho : o.op = Op.call { callee := Callee.builtin Builtin.append, args := #[s, x], argTypes := #[23, 23] })
  (base : Nat) (v : Value) (xs : List (List Value)) (q0 q1 q2 : Value) (ad : Addr) (c : Nat) (ok : Nat → Prop) (hs : a.eval s = v) (hx : a.eval x = .slice (some ad) 1 c)
  (HO : Kd.R (Kd.raw 3) 43 W base ok v xs) (HC : ∀ j u, [q0, q1, q2][j]? = some u → W.cell? (ad.add j) = some u) (hone : ∀ u ∈ [q0, q1, q2], u.oneCell' = true) (hfresh : ∀ k, W.heap.size ≤ k → ok k) (hbase : base ≤ W.heap.size) (hl : xs.length ≤ 1000)
  (h : ∀ v1 w1, Kd.R (Kd.raw 3) 43 w1 base ok v1 (xs ++ [[q0, q1, q2]]) → W.grownBy w1 v.ownBlock → wpListIn F n Tryd.prog ops Q rest (a.put o.dst v1) w1) :
  wpListIn F n Tryd.prog ops Q (o :: rest) a W := by
 obtain ⟨i0, hi, hz0, hz1, hz2⟩ := lock_info
 obtain ⟨hok, inner, hown, hr⟩ := HO
 obtain ⟨v', w', hrun, r1, r2, r3, r4⟩ := run_append_own_at (P := Tryd.prog) W base 23 o.type 43 i0 _ 3 56 Tryd.underlying23 hi hz0 hz1 hz2 rfl (by omega) v xs.length inner hown ad 1 c [q0, q1, q2] rfl HC hone (by simp only [maxLen]; omega) (by omega) hbase
 refine wpListIn_plain hgd fun K hK' => ?_
 unfold Oper.wpIn
 refine ⟨?_, ?_⟩
 ·simp [Oper.about, ho, resolve, Target.leads, Sem.run_pure]
 rw [Oper.semAt_plain F _ _ (by rw [ho]; intro c hc'; cases hc')]
 simp [execOp, ho, resolve, invoke, builtin, hs, hx, hrun, Result.andThen]
 refine hK' _ _ (h v' w' ⟨?_, inner ++ [q0, q1, q2], ?_, ?_⟩ r2)
 ·intro k hk
  rcases r4 with r4 | r4
  ·exact hok k (by rw [← r4]; exact hk)
  ·rw [r4] at hk
   injection hk with hk
   exact hfresh k (by omega)
 ·rw [List.length_append]
  exact r1
 ·exact Reps.snoc (R := fun x cs => cs = x ∧ cs.length = 3 ∧ ∀ u ∈ cs, u.oneCell' = true) hr ⟨rfl, rfl, hone⟩ rfl
theorem heap_set3 (W : World) (g : Nat) (u v t : Value) (b : Nat) (h : b ≠ g) : (((W.setCell ⟨g, 0, none⟩ u).setCell ⟨g, 1, none⟩ v).setCell ⟨g, 2, none⟩ t).heap[b]? = W.heap[b]? := by
 rw [Below.heap_setCell _ ⟨g, 2, none⟩ t b h, heap_set2 W g u v b h]
/-- Behind the lock: out holds it; all else is as it was. -/
def OutSet (g g9 g10 : Nat) (C : Array Value) (at_ : Int) (M : List R.S43) (x : R.S43) (q0 q1 q2 : Value) (m : Nat) (W W2 : World) : Prop :=
 TakeC g C at_ W2 ∧ Blk W2 g9 43 #[q0, q1, q2] ∧ LockIn (okT g g10 W2.heap.size W2) W2 x [q0, q1, q2] ∧
 (∃ v xs, Blk W2 g10 23 #[v] ∧ Kd.R (Kd.raw 3) 43 W2 g (fun b => b < m ∧ g9 < b ∧ b ≠ g10) v xs ∧ RawIn (okT g g10 W2.heap.size W2) W2 M xs) ∧
 KeepsOthers W W2 ∧ Below g W W2 ∧ W.heap.size ≤ W2.heap.size ∧ ∀ b, b < W.heap.size → b ≠ g9 → W2.heap[b]? = W.heap[b]?
theorem okT_ne9 {g g9 g10 m : Nat} {W : World} {b : Nat} (h : okT g g10 m W b) (h1 : g < g9) (h2 : g9 < g10) : b ≠ g9 := by
 rcases h with h | h
 ·omega
 ·have := h.1; omega
theorem take_out (g g9 g10 : Nat) (C : Array Value) (at_ : Int) (s : List Int) (n d : Nat) (L : List R.S43) (k m : Nat) (W W1 : World) (x : R.S43) (q0 q1 q2 : Value)
  (hI : ITake g g9 g10 g C at_ s n d L k m W) (hmW : m ≤ W.heap.size) (hb1 : Below W.heap.size W W1) (hl : LockIn (okT g g10 W1.heap.size W1) W1 x [q0, q1, q2]) :
  OutSet g g9 g10 C at_ (L ++ passed s n (min k d)) x q0 q1 q2 m W (((W1.setCell ⟨g9, 0, none⟩ q0).setCell ⟨g9, 1, none⟩ q1).setCell ⟨g9, 2, none⟩ q2) := by
 obtain ⟨⟨b0, b1, b2, b3⟩, hg9, hg10, hgm, ⟨a0, a1, a2, ho, -⟩, ⟨v, xs, hv, hR, hx⟩⟩ := hI
 have hs := heap_set3 W1 g9 q0 q1 q2
 have hsz : (((W1.setCell ⟨g9, 0, none⟩ q0).setCell ⟨g9, 1, none⟩ q1).setCell ⟨g9, 2, none⟩ q2).heap.size = W1.heap.size := by simp [World.setCell]
 have hs1 := hb1.size
 have hbm : Below m W W1 := hb1.mono hmW
 unfold OutSet
 rw [hsz]
 refine ⟨⟨(hs _ (by omega)).trans (b0.below hb1 (by omega)), (hs _ (by omega)).trans (b1.below hb1 (by omega)), (hs _ (by omega)).trans (b2.below hb1 (by omega)), (hs _ (by omega)).trans (b3.below hb1 (by omega))⟩, (((ho.below hb1 (by omega)).set_ 0 q0).set_ 1 q1).set_ 2 q2, hl.subT (fun b hb => hs b (okT_ne9 hb (by omega) hg10)), ⟨v, xs, (hs _ (by omega)).trans (hv.below hb1 (by omega)), ?_, ?_⟩, ?_, ?_, hs1, ?_⟩
 ·exact Kd.R_step (Kd.R_step hR (fun b hk _ => hbm.block b hk.1)) (fun b hk _ => hs b (by have := hk.2.1; omega))
 ·exact ((hx.subT (fun b hb => hbm.block b (okT_lt hb (by omega)))).mono (okT_mono (by omega))).subT (fun b hb => hs b (okT_ne9 hb (by omega) hg10))
 ·exact (((keepsOthers_of_below hb1).trans (KeepsOthers.setCell _ _ _)).trans (KeepsOthers.setCell _ _ _)).trans (KeepsOthers.setCell _ _ _)
 ·exact (((hb1.mono (by omega)).setCell (p := ⟨g9, 0, none⟩) (show g ≤ g9 by omega) _).setCell (p := ⟨g9, 1, none⟩) (show g ≤ g9 by omega) _).setCell (p := ⟨g9, 2, none⟩) (show g ≤ g9 by omega) _
 ·exact fun b hb hne => (hs b hne).trans (hb1.block b hb)
theorem SKp_of {W W' : World} {A : Option Addr} {n c : Nat} {x : Value} (h : ∀ ys, Kd.C (Kd.int .u8) W A n ys → 0 < n → ∀ a, A = some a → W'.heap[a.block]? = W.heap[a.block]?) : SKp #[x, .slice A n c] W W' := by
 intro x' A' n' c' ys e hC
 injection e with e
 injection e with e1 e
 injection e with e e2
 injection e with e3 e4 e5
 subst e3 e4
 exact C_sub hC (fun h0 a ha => h ys hC h0 a ha)
/-- The last place: the round ends with the lock in out. -/
theorem take_end (g g9 g10 : Nat) (C : Array Value) (at_ : Int) (s : List Int) (n d : Nat) (L : List R.S43) (m : Nat) (W W2 : World) (q0 q1 q2 P : Value) (A : Option Addr) (c z : Nat) (hmW : m ≤ W.heap.size)
  (hI : ITake g g9 g10 g C at_ s n d L d m W) (h : OutSet g g9 g10 C at_ (L ++ passed s n (min d d)) (lockN s n d) q0 q1 q2 m W W2) (hA : ∀ a, A = some a → a.block < g ∨ m ≤ a.block) :
  KeepsOthers W W2 ∧ d + 1 < d + 2 ∧ ITake g g9 g10 g C at_ s n d L (d + 1) W2.heap.size W2 ∧ Below g W W2 ∧ SKp #[P, .slice A z c] W W2 := by
 obtain ⟨h1, h2, h3, ⟨v, xs, h4, h5, h6⟩, h7, h8, h9, h10⟩ := h
 have hg9 := hI.2.1
 have hg10 := hI.2.2.1
 have hgm := hI.2.2.2.1
 rw [Nat.min_self] at h6
 refine ⟨h7, by omega, ⟨h1, hg9, hg10, by omega, ⟨q0, q1, q2, h2, fun _ => h3⟩, ?_⟩, h8, SKp_of (fun ys hC h0 a ha => ?_)⟩
 ·rw [show min (d + 1) d = d by omega]
  exact ⟨v, xs, h4, Kd.R_mono h5 (fun b hb => ⟨by omega, hb.2⟩), h6⟩
 ·obtain ⟨ad, e, hlt⟩ := C_some hC h0
  rw [ha] at e
  cases e
  exact h10 _ hlt (by have := hA a ha; omega)
/-- A place that is passed over: its lock is laid behind the spares. -/
theorem take_pass (g g9 g10 : Nat) (C : Array Value) (at_ : Int) (s : List Int) (n d : Nat) (L : List R.S43) (k m : Nat) (W W2 W4 : World) (q0 q1 q2 P v v4 : Value) (xs : List (List Value)) (A : Option Addr) (c z : Nat) (hmW : m ≤ W.heap.size) (hk : k < d)
  (hI : ITake g g9 g10 g C at_ s n d L k m W) (h1 : TakeC g C at_ W2) (h2 : Blk W2 g9 43 #[q0, q1, q2]) (h3 : LockIn (okT g g10 W2.heap.size W2) W2 (lockN s n k) [q0, q1, q2])
  (h4 : Blk W2 g10 23 #[v]) (h5 : Kd.R (Kd.raw 3) 43 W2 g (fun b => b < m ∧ g9 < b ∧ b ≠ g10) v xs) (h6 : RawIn (okT g g10 W2.heap.size W2) W2 (L ++ passed s n (min k d)) xs)
  (h7 : KeepsOthers W W2) (h8 : Below g W W2) (h9 : W.heap.size ≤ W2.heap.size) (h10 : ∀ b, b < W.heap.size → b ≠ g9 → W2.heap[b]? = W.heap[b]?)
  (hR : Kd.R (Kd.raw 3) 43 W4 g (fun b => g9 < b ∧ b ≠ g10) v4 (xs ++ [[q0, q1, q2]])) (hg : (W2.alloc (.cells #[q0, q1, q2] 43)).grownBy W4 v.ownBlock) (hA : ∀ a, A = some a → a.block < g ∨ m ≤ a.block) :
  KeepsOthers W (W4.setCell ⟨g10, 0, none⟩ v4) ∧ k + 1 < d + 2 ∧ ITake g g9 g10 g C at_ s n d L (k + 1) (W4.setCell ⟨g10, 0, none⟩ v4).heap.size (W4.setCell ⟨g10, 0, none⟩ v4) ∧ Below g W (W4.setCell ⟨g10, 0, none⟩ v4) ∧ SKp #[P, .slice A z c] W (W4.setCell ⟨g10, 0, none⟩ v4) := by
 have hg9 := hI.2.1
 have hg10 := hI.2.2.1
 have hgm := hI.2.2.2.1
 have hv := Kd.R_bound h5
 have hsz3 : (W2.alloc (.cells #[q0, q1, q2] 43)).heap.size = W2.heap.size + 1 := by simp
 have hsz5 : (W4.setCell ⟨g10, 0, none⟩ v4).heap.size = W4.heap.size := by simp [World.setCell]
 have hsz4 := hg.size
 have hal : Below W2.heap.size W2 (W2.alloc (.cells #[q0, q1, q2] 43)) := (Below.refl _ W2).alloc (Nat.le_refl _) _
 have hs : ∀ b, b < W2.heap.size → some b ≠ v.ownBlock → b ≠ g10 → (W4.setCell ⟨g10, 0, none⟩ v4).heap[b]? = W2.heap[b]? := fun b hb hne h => by
  rw [Below.heap_setCell W4 ⟨g10, 0, none⟩ v4 b h]
  exact (hg.block b (by omega) hne).trans (hal.block b hb)
 have hown : ∀ b, v.ownBlock = some b → g ≤ b ∧ b < m ∧ g9 < b ∧ b ≠ g10 ∧ ∃ cells, W2.heap[b]? = some (.cells cells 43 (0, 0)) := fun b hb => by
  obtain ⟨⟨p1, p2, p3⟩, p4, -, q, hq, cells, hc⟩ := hv.1 b hb
  refine ⟨p4, p1, p2, p3, cells, ?_⟩
  have : q = 43 := by simpa [Kd.raw] using hq
  rw [this] at hc
  exact hc
 have hok : ∀ b, okT g g10 W2.heap.size W2 b → (W4.setCell ⟨g10, 0, none⟩ v4).heap[b]? = W2.heap[b]? := fun b hb => by
  refine hs b (okT_lt hb (by omega)) (fun e => ?_) ?_
  ·obtain ⟨p1, p2, p3, p4, cells, p5⟩ := hown b e.symm
   rcases hb with hb | ⟨-, -, cells', hb⟩
   ·omega
   ·rw [p5] at hb
    injection hb with hb
    injection hb with _ hb
    exact absurd hb (by decide)
  ·rcases hb with hb | hb
   ·omega
   ·have := hb.1; omega
 have hne : ∀ b, b ≤ g9 → some b ≠ v.ownBlock := fun b hb e => by have := (hown b e.symm).2.2.1; omega
 have hle : g10 < W2.heap.size := by omega
 refine ⟨?_, by omega, ⟨⟨(hs _ (by omega) (hne _ (by omega)) (by omega)).trans h1.1, (hs _ (by omega) (hne _ (by omega)) (by omega)).trans h1.2.1, (hs _ (by omega) (hne _ (by omega)) (by omega)).trans h1.2.2.1, (hs _ (by omega) (hne _ (by omega)) (by omega)).trans h1.2.2.2⟩, hg9, hg10, by omega, ⟨q0, q1, q2, (hs _ (by omega) (hne _ (Nat.le_refl _)) (by omega)).trans h2, fun e => by omega⟩, ?_⟩, ?_, ?_⟩
 ·refine ((h7.trans (KeepsOthers.alloc _ _)).trans (KeepsOthers.of_grownBy hg ?_)).trans (KeepsOthers.setCell _ _ _)
  intro j o hj ho
  obtain ⟨-, p2, -, -, cells, p5⟩ := hown j hj
  rw [hal.block j (by omega), p5] at ho
  injection ho with ho
  rw [← ho]
  rfl
 ·rw [show min (k + 1) d = min k d + 1 by omega, passed_succ, ← List.append_assoc]
  have hg10b : Blk W4 g10 23 #[v] := (hg.block g10 (by omega) (fun e => (hown g10 e.symm).2.2.2.1 rfl)).trans ((hal.block g10 hle).trans h4)
  refine ⟨v4, xs ++ [[q0, q1, q2]], hg10b.set_ 0 v4, ?_, ?_⟩
  ·have hR2 := Kd.R_far (p := ⟨g10, 0, none⟩) hR (fun b hb => hb.2) v4
   exact Kd.R_mono (Kd.R_bound hR2) (fun b hb => ⟨hb.2.2.1, hb.1⟩)
  ·have hsz : W2.heap.size ≤ (W4.setCell ⟨g10, 0, none⟩ v4).heap.size := by omega
   have e : min k d = k := by omega
   rw [e] at h6 ⊢
   exact ((h6.subT hok).mono (okT_mono hsz)).snoc _ _ ((h3.subT hok).mono (okT_mono hsz))
 ·refine ⟨?_, ?_, ?_, ?_, ?_⟩
  ·exact ((hg.os).trans (hal.os)).trans h8.os
  ·exact ((hg.tape).trans (hal.tape)).trans h8.tape
  ·exact ((hg.output).trans (hal.output)).trans h8.output
  ·omega
  ·intro b hb
   exact (hs b (by omega) (fun e => by have := (hown b e.symm).1; omega) (by omega)).trans (h8.block b hb)
 ·refine SKp_of (fun ys hC h0 a ha => ?_)
  obtain ⟨ad, e, hlt⟩ := C_some hC h0
  rw [ha] at e
  cases e
  have ha' := hA a ha
  exact (hs _ (by omega) (fun e => by have := hown _ e.symm; omega) (by omega)).trans (h10 _ hlt (by omega))
theorem take_box (g9 g10 m : Nat) (W2 W4 : World) (o : Array Value) (v : Value) (xs : List (List Value)) {B : Nat} (h4 : Blk W2 g10 23 #[v]) (h5 : Kd.R (Kd.raw 3) 43 W2 B (fun b => b < m ∧ g9 < b ∧ b ≠ g10) v xs) (hg : (W2.alloc (.cells o 43)).grownBy W4 v.ownBlock) : Blk W4 g10 23 #[v] := by
 have hal : Below W2.heap.size W2 (W2.alloc (.cells o 43)) := (Below.refl _ W2).alloc (Nat.le_refl _) _
 have hsz3 : (W2.alloc (.cells o 43)).heap.size = W2.heap.size + 1 := by simp
 have hlt := h4.lt
 exact (hg.block g10 (by omega) (fun e => ((h5.1 g10 e.symm).2.2 rfl))).trans ((hal.block g10 hlt).trans h4)
theorem gate_append_in {F : Fence} {n : Nat} {ops : Array Oper} {rest : List Oper} {o : Oper} {a : Act} {Q : Exit → Act → World → Prop} {W : World} {xs : Array Operand} {ts : Array TypeId}
  (_ho : o.op = Op.call { callee := Callee.builtin Builtin.append, args := xs, argTypes := ts }) (h : wpListIn F n Tryd.prog ops Q (o :: rest) a W) : wpListIn F n Tryd.prog ops Q (o :: rest) a W := h
/-- Behind the spares that are kept: the boxes. -/
def TakeF (g g9 : Nat) (N0 : Int) (A : Option Addr) (z cs : Nat) (sp : Value) (a0 a1 a2 : Value) (at_ : Int) (W' : World) : Prop :=
 TakeC g #[.int .i64 N0, .slice A z cs, sp] at_ W' ∧ Blk W' g9 43 #[a0, a1, a2]
theorem take_after {F : Fence} {n : Nat} {c : Code} {Q : Exit → Act → World → Prop} {a : Act} (g g9 : Nat) (N0 : Int) (A : Option Addr) (z cs : Nat) (sp sp' : Value) (a0 a1 a2 : Value) (at_ : Int) (W : World) (h1 : TakeC g #[.int .i64 N0, .slice A z cs, sp] at_ W) (h9 : Blk W g9 43 #[a0, a1, a2]) (hg : g + 3 < g9)
  (h : ∀ W', W' = W.setCell ⟨g, 2, none⟩ sp' → TakeF g g9 N0 A z cs sp' a0 a1 a2 at_ W' → c.wpIn F n Tryd.prog Q a W') : c.wpIn F n Tryd.prog Q a (W.setCell ⟨g, 2, none⟩ sp') :=
 h _ rfl ⟨⟨h1.1.set_ 2 sp', h1.2.1.far (p := ⟨g, 2, none⟩) (by show g + 1 ≠ g; omega) _, h1.2.2.1.far (p := ⟨g, 2, none⟩) (by show g + 2 ≠ g; omega) _, h1.2.2.2.far (p := ⟨g, 2, none⟩) (by show g + 3 ≠ g; omega) _⟩, h9.far (p := ⟨g, 2, none⟩) (by show g9 ≠ g; omega) _⟩
theorem results_cells_eq {fn : Func} {p p2 u : Tmp} {ty ty2 : TypeId} (h : fn.results = #[.cell p ty, .cell p2 ty2, .tmp u]) (tmps : Array Value) (P : Program) (w : World) :
  (results fn tmps).run P w =
   ((asAddr (tmps.getD p undef)).run P w).andThen fun a w₁ => ((loadVar ty a).run P w₁).andThen fun v w₂ => ((asAddr (tmps.getD p2 undef)).run P w₂).andThen fun a2 w₃ => ((loadVar ty2 a2).run P w₃).andThen fun v2 w₄ => .ok (.tuple #[v, v2, tmps.getD u undef]) w₄ := by
 simp only [results, h]
 simp [Sem.run_bind, Result.andThen]
 repeat (first | rfl | (split <;> try rfl))
theorem results_cells_tmp {P : Program} {fn : Func} {p p2 u : Tmp} {ty ty2 : TypeId} (h : fn.results = #[.cell p ty, .cell p2 ty2, .tmp u]) (tmps : Array Value) (w : World)
  (g : Nat) (t : TypeId) (cs : Array Value) (fr : Nat × Nat) (d : TypeDesc) (hp : tmps.getD p undef = .pointer (some ⟨g, 0, none⟩)) (hg : w.heap[g]? = some (.cells cs t fr))
  (hu : P.underlying ty = some d) (hd : (match d with | .struct _ | .array _ _ => true | _ => false) = true) (hi : (P.info? ty).map (·.size) = some cs.size)
  (g2 : Nat) (t2 : TypeId) (cs2 : Array Value) (fr2 : Nat × Nat) (d2 : TypeDesc) (hp2 : tmps.getD p2 undef = .pointer (some ⟨g2, 0, none⟩)) (hg2 : w.heap[g2]? = some (.cells cs2 t2 fr2))
  (hu2 : P.underlying ty2 = some d2) (hd2 : (match d2 with | .struct _ | .array _ _ => true | _ => false) = true) (hi2 : (P.info? ty2).map (·.size) = some cs2.size) :
  (results fn tmps).run P w = .ok (.tuple #[.agg cs, .agg cs2, tmps.getD u undef]) w := by
 rw [results_cells_eq h, hp, hp2]
 simp [asAddr, Result.andThen, run_loadVar_row w g t ty cs fr d hg hu hd hi, run_loadVar_row w g2 t2 ty2 cs2 fr2 d2 hg2 hu2 hd2 hi2]
/-- The results are laid. -/
theorem take_fin (g g9 : Nat) (N0 : Int) (A : Option Addr) (z cs : Nat) (sp a0 a1 a2 : Value) (at_ : Int) (W' : World) (hF : TakeF g g9 N0 A z cs sp a0 a1 a2 at_ W') (u0 u1 u2 v0 v1 v2 : Value) (W2 : World)
  (hW : W2 = ((((((W'.setCell ⟨g + 2, 0, none⟩ u0).setCell ⟨g + 2, 1, none⟩ u1).setCell ⟨g + 2, 2, none⟩ u2).setCell ⟨g + 3, 0, none⟩ v0).setCell ⟨g + 3, 1, none⟩ v1).setCell ⟨g + 3, 2, none⟩ v2).drew) :
  Blk W2 (g + 2) 25 #[u0, u1, u2] ∧ Blk W2 (g + 3) 43 #[v0, v1, v2] ∧ (∀ b, b ≠ g + 2 → b ≠ g + 3 → W2.heap[b]? = W'.heap[b]?) ∧ Below g W' W2 := by
 have hs1 := heap_set3 W' (g + 2) u0 u1 u2
 have hV : Blk (((W'.setCell ⟨g + 2, 0, none⟩ u0).setCell ⟨g + 2, 1, none⟩ u1).setCell ⟨g + 2, 2, none⟩ u2) (g + 2) 25 #[u0, u1, u2] := ((hF.1.2.2.1.set_ 0 u0).set_ 1 u1).set_ 2 u2
 have h3 : Blk (((W'.setCell ⟨g + 2, 0, none⟩ u0).setCell ⟨g + 2, 1, none⟩ u1).setCell ⟨g + 2, 2, none⟩ u2) (g + 3) 43 #[.int .i64 0, .slice none 0 0, .slice none 0 0] := (hs1 (g + 3) (by omega)).trans hF.1.2.2.2
 have hb : Below g W' (((W'.setCell ⟨g + 2, 0, none⟩ u0).setCell ⟨g + 2, 1, none⟩ u1).setCell ⟨g + 2, 2, none⟩ u2) := (((Below.refl g W').setCell (p := ⟨g + 2, 0, none⟩) (show g ≤ g + 2 by omega) u0).setCell (p := ⟨g + 2, 1, none⟩) (show g ≤ g + 2 by omega) u1).setCell (p := ⟨g + 2, 2, none⟩) (show g ≤ g + 2 by omega) u2
 generalize ((W'.setCell ⟨g + 2, 0, none⟩ u0).setCell ⟨g + 2, 1, none⟩ u1).setCell ⟨g + 2, 2, none⟩ u2 = V at *
 have hs2 := heap_set3 V (g + 3) v0 v1 v2
 have h4 : Blk (((V.setCell ⟨g + 3, 0, none⟩ v0).setCell ⟨g + 3, 1, none⟩ v1).setCell ⟨g + 3, 2, none⟩ v2) (g + 3) 43 #[v0, v1, v2] := ((h3.set_ 0 v0).set_ 1 v1).set_ 2 v2
 have hb2 : Below g W' (((V.setCell ⟨g + 3, 0, none⟩ v0).setCell ⟨g + 3, 1, none⟩ v1).setCell ⟨g + 3, 2, none⟩ v2) := ((hb.setCell (p := ⟨g + 3, 0, none⟩) (show g ≤ g + 3 by omega) v0).setCell (p := ⟨g + 3, 1, none⟩) (show g ≤ g + 3 by omega) v1).setCell (p := ⟨g + 3, 2, none⟩) (show g ≤ g + 3 by omega) v2
 generalize ((V.setCell ⟨g + 3, 0, none⟩ v0).setCell ⟨g + 3, 1, none⟩ v1).setCell ⟨g + 3, 2, none⟩ v2 = U at *
 subst hW
 exact ⟨(hs2 (g + 2) (by omega)).trans hV, h4, fun b h2 h3 => (hs2 b h3).trans (hs1 b h2), below_drew hb2⟩
end Go.Proofs.YtdklmafkcbjomaaDoor

/-! RatJ -/
namespace Go.Proofs.YtdklmafkcbjomaaDoor
set_option linter.unusedVariables false
set_option linter.unusedSimpArgs false
open Go Go.RowKit Go.Shelf Go.Proofs.YtdklmafkcbjomaaDoorW.PrintWords Go.Proofs.YtdklmafkcbjomaaDoorW.PrintLast Go.Proofs.YtdklmafkcbjomaaDoorW.PrintMore Iter
/-- Bytes lie in no box that holds none. -/
theorem C_apart {W : World} {a : Addr} {n : Nat} {xs : List Int} (h : Kd.C (Kd.int .u8) W (some a) n xs) (h0 : 0 < n) {g : Nat} {t : TypeId} {cs : Array Value} (hb : Blk W g t cs) (hne : ∀ x, Value.int .u8 x ∉ cs) : a.block ≠ g := by
 intro e
 obtain ⟨ad, e1, hc⟩ := h.2.2 h0
 have e1 : a = ad := Option.some.inj e1
 subst e1
 have hx : 0 < xs.length := by rw [h.1]; exact h0
 obtain ⟨c, hl, hr, hcell⟩ := hc 0 _ (List.getElem?_eq_getElem hx)
 have hr : c = [Value.int .u8 xs[0]] := hr
 have h2 := hcell 0 (Value.int .u8 xs[0]) (by rw [hr]; rfl)
 have hbl : ∀ k, (a.add k).block = a.block := fun k => by unfold Addr.add; split <;> rfl
 unfold World.cell? at h2
 rw [hbl, e, show W.heap[g]? = _ from hb] at h2
 dsimp only at h2
 split at h2
 ·exact absurd h2 (by simp)
 ·exact hne _ (Array.mem_of_getElem? h2)
/-- What Take comes to: a chain that reads so, a lock, and an error. -/
def TakePost (w : World) (n' : Int) (s' : List Int) (L' : List R.S43) (x : R.S43) (er : Int) (e : Ending) (w' : World) : Prop :=
 ∃ As cs Ap cp Ak ck An cn, e = .returned (.tuple #[.agg #[.int .i64 n', .slice As s'.length cs, .slice Ap L'.length cp], .agg #[.int .i64 x.f0, .slice Ak x.f1.length ck, .slice An x.f2.length cn], .int .i64 er]) ∧
  s'.length ≤ cs ∧ Kd.C (Kd.int .u8) w' As s'.length s' ∧ L'.length ≤ cp ∧ Kd.C R.k43 w' Ap L'.length L' ∧ x.f1.length ≤ ck ∧ Kd.C (Kd.int .u8) w' Ak x.f1.length x.f1 ∧ x.f2.length ≤ cn ∧ Kd.C (Kd.int .u8) w' An x.f2.length x.f2 ∧ Below w.heap.size w w'
theorem take_post (w W W' W2 : World) (g9 g10 m n d : Nat) (s : List Int) (L : List R.S43) (C0 : Array Value) (X N Nf F0 : Int) (A Av Ak An A2 : Option Addr) (cs' q cv ck cn q2 c2 z1 z2 D : Nat) (ys : List (List Value)) (sp : Value)
  (hbW : Below w.heap.size w W) (hT : TakeC w.heap.size C0 X W) (hC0 : ∀ x, Value.int .u8 x ∉ C0) (hlc : (secS s n (d + 1)).length ≤ cs') (hC : Kd.C (Kd.int .u8) W A (secS s n (d + 1)).length (secS s n (d + 1)))
  (hg9 : w.heap.size + 3 < g9) (hg10 : g9 < g10) (hR : Kd.R (Kd.raw 3) 43 W w.heap.size (fun b => b < m ∧ g9 < b ∧ b ≠ g10) (.slice Av q cv) ys) (hx : RawIn (okT w.heap.size g10 m W) W (L ++ passed s n d) ys) (hq : q = L.length + d)
  (hz1 : z1 = (lockN s n d).f1.length) (hz2 : z2 = (lockN s n d).f2.length) (hlk : z1 ≤ ck) (hk1 : Kd.C (Kd.int .u8) W Ak z1 (lockN s n d).f1) (hln : z2 ≤ cn) (hn1 : Kd.C (Kd.int .u8) W An z2 (lockN s n d).f2)
  (hD : W.heap[D]? = some (.deferred (some []))) (hDg : g10 + 2 ≤ D)
  (hW' : W' = W.setCell ⟨w.heap.size, 2, none⟩ sp) (hF : TakeF w.heap.size g9 Nf A (secS s n (d + 1)).length cs' sp (.int .i64 F0) (.slice Ak z1 ck) (.slice An z2 cn) X W') (hN : N = ((n + (d + 1) : Nat) : Int)) (hF0 : F0 = (lockN s n d).f0)
  (h2 : (q < 32 ∧ A2 = Av ∧ q2 = q ∧ c2 = cv) ∨ (32 ≤ q ∧ A2 = (if cv = q - 32 then Av else Av.map (·.add ((q - 32) * 3))) ∧ q2 = q - (q - 32) ∧ c2 = cv - (q - 32)))
  (hW : W2 = ((((((W'.setCell ⟨w.heap.size + 2, 0, none⟩ (.int .i64 N)).setCell ⟨w.heap.size + 2, 1, none⟩ (.slice A (secS s n (d + 1)).length cs')).setCell ⟨w.heap.size + 2, 2, none⟩ (.slice A2 q2 c2)).setCell ⟨w.heap.size + 3, 0, none⟩ (.int .i64 F0)).setCell ⟨w.heap.size + 3, 1, none⟩ (.slice Ak z1 ck)).setCell ⟨w.heap.size + 3, 2, none⟩ (.slice An z2 cn)).drew) :
  W2.heap[D]? = some (.deferred (some [])) ∧ Blk (W2.putObj D (.deferred none)) (w.heap.size + 2) 25 #[.int .i64 N, .slice A (secS s n (d + 1)).length cs', .slice A2 q2 c2] ∧ Blk (W2.putObj D (.deferred none)) (w.heap.size + 3) 43 #[.int .i64 F0, .slice Ak z1 ck, .slice An z2 cn] ∧
  TakePost w ((n + (d + 1) : Nat) : Int) (secS s n (d + 1)) ((L ++ passed s n d).drop (L.length + d - 32)) (lockN s n d) 0 (.returned (.tuple #[.agg #[.int .i64 N, .slice A (secS s n (d + 1)).length cs', .slice A2 q2 c2], .agg #[.int .i64 F0, .slice Ak z1 ck, .slice An z2 cn], .int .i64 0])) (W2.putObj D (.deferred none)) := by
 obtain ⟨f1, f2, f3, f4⟩ := take_fin w.heap.size g9 Nf A _ cs' sp _ _ _ X W' hF _ _ _ _ _ _ W2 hW
 clear hW
 have hs : ∀ b, b ≠ w.heap.size → b ≠ w.heap.size + 2 → b ≠ w.heap.size + 3 → W2.heap[b]? = W.heap[b]? := fun b h0 h2 h3 => by
  rw [f3 b h2 h3, hW', Below.heap_setCell W ⟨w.heap.size, 2, none⟩ sp b h0]
 have hD2 : W2.heap[D]? = some (.deferred (some [])) := (hs D (by omega) (by omega) (by omega)).trans hD
 have hK : KeepsCells W2 (W2.putObj D (.deferred none)) := KeepsCells.putObj _ hD2 rfl
 have hCs : ∀ {A : Option Addr} {n : Nat} {xs : List Int}, Kd.C (Kd.int .u8) W A n xs → Kd.C (Kd.int .u8) (W2.putObj D (.deferred none)) A n xs := fun {A n xs} h => by
  refine C_kept (C_sub h (fun h0 a ha => ?_)) hK
  subst ha
  exact hs _ (C_apart h h0 hT.1 hC0) (C_apart h h0 hT.2.2.1 (by simp)) (C_apart h h0 hT.2.2.2 (by simp))
 have hR2 : Kd.R (Kd.raw 3) 43 W2 w.heap.size (fun b => b < m ∧ g9 < b ∧ b ≠ g10) (.slice Av q cv) ys := Kd.R_step hR (fun b hb _ => hs b (by omega) (by omega) (by omega))
 have hR3 := Rraw_kept hR2 hK
 have hx2 : RawOf (W2.putObj D (.deferred none)) (L ++ passed s n d) ys := ((hx.sub (W' := W2) (fun b hb => hs b (okT_ne hb (by omega)) (by rcases hb with hb | hb <;> omega) (by rcases hb with hb | hb <;> omega))).kept hK).to
 obtain ⟨e3, l3, c3⟩ := Kd.R_reads' hR3
 have hbF : Below w.heap.size w (W2.putObj D (.deferred none)) := by
  refine (hbW.trans ?_).trans (below_putObj _ (by omega))
  have : Below w.heap.size W W' := by rw [hW']; exact (Below.refl _ W).setCell (p := ⟨w.heap.size, 2, none⟩) (Nat.le_refl _) _
  exact this.trans f4
 have hsp : q2 = ((L ++ passed s n d).drop (L.length + d - 32)).length ∧ q2 ≤ c2 ∧ Kd.C R.k43 (W2.putObj D (.deferred none)) A2 ((L ++ passed s n d).drop (L.length + d - 32)).length ((L ++ passed s n d).drop (L.length + d - 32)) := by
  rw [← hq, List.length_drop, List.length_append, passed_length, ← hq]
  rcases h2 with ⟨h2, rfl, rfl, rfl⟩ | ⟨h2, rfl, rfl, rfl⟩
  ·rw [show q2 - 32 = 0 by omega, List.drop_zero]
   refine ⟨rfl, by omega, C_of_raw (xs := ys) ?_ hx2⟩
   rw [Nat.sub_zero]
   rw [← e3] at c3
   exact c3
  ·refine ⟨rfl, by omega, C_of_raw (xs := ys.drop (q - 32)) ?_ (hx2.drop (q - 32))⟩
   have := Kd.C_drop (m := q - 32) (c := cv) c3 (by omega) (by omega)
   rw [List.length_drop, ← e3] at this
   exact this
 refine ⟨hD2, f1.kept hK, f2.kept hK, A, cs', A2, c2, Ak, ck, An, cn, ?_, hlc, hCs hC, by rw [← hsp.1]; exact hsp.2.1, hsp.2.2, by rw [← hz1]; exact hlk, by rw [← hz1]; exact hCs hk1, by rw [← hz2]; exact hln, by rw [← hz2]; exact hCs hn1, hbF⟩
 rw [← hsp.1, hN, hF0, ← hz1, ← hz2]
set_option maxRecDepth 100000 in
theorem take_ret {R : Ending → World → Prop} (W2 : World) (D g : Nat) (c0 c1 c2 d0 d1 d2 u : Value) (tmps : Array Value)
  (h : W2.heap[D]? = some (.deferred (some [])) ∧ Blk (W2.putObj D (.deferred none)) (g + 2) 25 #[c0, c1, c2] ∧ Blk (W2.putObj D (.deferred none)) (g + 3) 43 #[d0, d1, d2] ∧ R (.returned (.tuple #[.agg #[c0, c1, c2], .agg #[d0, d1, d2], u])) (W2.putObj D (.deferred none)))
  (t4 : tmps.getD 4 undef = .pointer (some ⟨g + 2, 0, none⟩)) (t5 : tmps.getD 5 undef = .pointer (some ⟨g + 3, 0, none⟩)) (t6 : tmps.getD 6 undef = u) :
  bodyPostM Fence.wide 5 Tryd.prog Tryd.f21 R .ret { tmps := tmps, defers := [{ target := .collected D, args := #[] }] } W2 := by
 refine ⟨by simp, .inl ⟨_, _, rfl, run_takeDeferred h.1, ?_⟩⟩
 refine ⟨_, results_cells_tmp (p := 4) (p2 := 5) (u := 6) rfl tmps _ (g + 2) _ _ _ _ t4 h.2.1 rfl rfl rfl (g + 3) _ _ _ _ t5 h.2.2.1 rfl rfl rfl, ?_⟩
 rw [t6]
 exact h.2.2.2
def chainV (n : Int) (As : Option Addr) (s : List Int) (cs : Nat) (Ap : Option Addr) (L : List R.S43) (cp : Nat) : Array Value := #[.int .i64 n, .slice As s.length cs, .slice Ap L.length cp]
def chain0 : Array Value := #[.int .i64 0, .slice none 0 0, .slice none 0 0]
/-- The world in which Take begins: the chain, the place, and room for two results. -/
def takeW (w : World) (C : Array Value) (at_ : Int) : World :=
 (((w.alloc (.cells C 25)).alloc (.cells #[.int .i64 at_] 3)).alloc (.cells chain0 25)).alloc (.cells chain0 43)
/-- What Take holds in its boxes. -/
def TakeB (w : World) (C : Array Value) (at_ : Int) (c1 c2 : Array Value) (W : World) : Prop :=
 Blk W w.heap.size 25 C ∧ Blk W (w.heap.size + 1) 3 #[.int .i64 at_] ∧ Blk W (w.heap.size + 2) 25 c1 ∧ Blk W (w.heap.size + 3) 43 c2 ∧ Below w.heap.size w W
theorem takeB_start (w : World) (C : Array Value) (at_ : Int) : TakeB w C at_ chain0 chain0 (takeW w C at_) := by
 unfold takeW
 have b0 := ((Blk.new w 25 C).alloc (.cells #[.int .i64 at_] 3)).alloc (.cells chain0 25)
 have b1 := (Blk.new (w.alloc (.cells C 25)) 3 #[.int .i64 at_]).alloc (.cells chain0 25)
 have b2 := Blk.new ((w.alloc (.cells C 25)).alloc (.cells #[.int .i64 at_] 3)) 25 chain0
 have b3 := Blk.new (((w.alloc (.cells C 25)).alloc (.cells #[.int .i64 at_] 3)).alloc (.cells chain0 25)) 43 chain0
 simp only [World.size_alloc] at b0 b1 b2 b3
 exact ⟨b0.alloc _, b1.alloc _, b2.alloc _, b3, ((((Below.refl _ w).alloc (Nat.le_refl _) _).alloc (by simp) _).alloc (by simp; omega) _).alloc (by simp; omega) _⟩
theorem TakeB.below {w : World} {C : Array Value} {at_ : Int} {c1 c2 : Array Value} {W W' : World} (h : TakeB w C at_ c1 c2 W) (hb : Below W.heap.size W W') : TakeB w C at_ c1 c2 W' :=
 ⟨h.1.below hb h.1.lt, h.2.1.below hb h.2.1.lt, h.2.2.1.below hb h.2.2.1.lt, h.2.2.2.1.below hb h.2.2.2.1.lt, h.2.2.2.2.trans (hb.mono h.2.2.2.2.size)⟩
end Go.Proofs.YtdklmafkcbjomaaDoor

/-! RatF -/
namespace Go.Proofs.YtdklmafkcbjomaaDoor
set_option linter.unusedVariables false
set_option linter.unusedSimpArgs false
open Go.RowKit Go.Shelf Go.Proofs.YtdklmafkcbjomaaDoorW.PrintWords Go.Proofs.YtdklmafkcbjomaaDoorW.PrintLast Go.Proofs.YtdklmafkcbjomaaDoorW.PrintMore Iter
attribute [local go_sem] Oper.semAt_some
attribute [local go_sem] max2_int min2_int max_two min_two
set_option maxRecDepth 100000 in
theorem places_calls (n : Int) (v1 v2 : Value) (w : World) :
  Calls Tryd.prog 40 #[.agg #[.int .i64 n, v1, v2]] w fun e w' => e = .returned (.func (.func 51) #[] #[.pointer (some ⟨w.heap.size, 0, none⟩)]) ∧ w' = w.alloc (.cells #[.int .i64 n, v1, v2] 25) := by
 go_enter Tryd.func40, Tryd.ntmps40
 go_wp2
 go_ret
 exact ⟨rfl, rfl⟩
set_option maxRecDepth 100000 in
set_option maxHeartbeats 4000000 in
theorem take_adv_in (n d : Nat) (As : Option Addr) (s : List Int) (cs : Nat) (Ap : Option Addr) (L : List R.S43) (cp : Nat) (w : World) (hrs : Kd.C (Kd.int .u8) w As s.length s) (hcs : s.length ≤ cs) (hrp : Kd.C R.k43 w Ap L.length L) (hcp : L.length ≤ cp)
  (h32 : s.length = 32) (os : byteOk s = true) (hL : L.length ≤ 32) (hd : d ≤ 100) (hm : n + d < 4294967294) (hx : idxL L ((n + d : Nat) : Int) = none) :
  CallsIn Fence.wide 5 Tryd.prog 21 #[.agg (chainV n As s cs Ap L cp), .int .i64 ((n + d : Nat) : Int)] w (TakePost w ((n + (d + 1) : Nat) : Int) (secS s n (d + 1)) ((L ++ passed s n d).drop (L.length + d - 32)) (lockN s n d) 0) := by
 obtain ⟨xs, hxs, hrx⟩ := raw_of_C hrp
 have HXS := Lib.hid (And.intro hxs (RawIn.of hrx))
 clear hxs hrx
 have H32 := Lib.hid h32
 clear h32
 obtain ⟨C, hC⟩ : ∃ C, chainV n As s cs Ap L cp = C := ⟨_, rfl⟩
 obtain ⟨X, hX⟩ : ∃ X : Int, ((n + d : Nat) : Int) = X := ⟨_, rfl⟩
 have HB := Lib.hid (takeB_start w C X)
 have HI := Lib.hid (fun W hl hc hb hg => index_calls Ap cp L (w.heap.size + 1) X W hl hc hb hg)
 have hxi : idxI L X = -1 := by unfold idxI; rw [← hX, hx]
 have x2 : (takeW w C X).cell? ⟨w.heap.size, 2, none⟩ = some (.slice Ap L.length cp) := by
  have := HB.out.1.cell 2
  rw [← hC] at this
  rw [← hC]
  exact this
 rw [hC, hX]
 unfold takeW chain0 at x2
 refine callsIn_of_wp_marks Tryd.func21 rfl trivial ?_ rfl
 simp only [Tryd.ntmps21, List.size_toArray, List.length_cons, List.length_nil, Nat.reduceAdd, Nat.reduceSub, Array.replicate_succ, Array.replicate_zero, List.push_toArray, List.append_toArray, List.nil_append, List.cons_append]
 gi_wp2_with (first | (refine wpIn_scope ?_) | (refine wpIn_label ?_))
 refine ⟨trivial, ?_⟩
 change CallsIn _ _ _ _ _ (takeW w C X) _
 clear x2
 generalize takeW w C X = W0 at *
 have hg1 : w.heap.size + 1 < W0.heap.size := HB.out.2.1.lt
 refine (callsIn_wide.2 (HI.out W0 (by omega) (Kd.C_below hrp HB.out.2.2.2.2) HB.out.2.1 hg1)).mono ?_
 rintro e W1 ⟨rfl, hb1⟩
 rw [hxi]
 have H1 := Lib.hid (HB.out.below hb1)
 have HR := Lib.hid (And.intro hrs (And.intro hrp (And.intro os (And.intro hcs (And.intro hcp hL)))))
 have x0 : W1.cell? ⟨w.heap.size, 0, none⟩ = some (.int .i64 (n : Int)) := by
  have := H1.out.1.cell 0
  rw [← hC] at this
  exact this
 have x2 : W1.cell? ⟨w.heap.size, 2, none⟩ = some (.slice Ap L.length cp) := by
  have := H1.out.1.cell 2
  rw [← hC] at this
  exact this
 have xa : W1.cell? ⟨w.heap.size + 1, 0, none⟩ = some (.int .i64 X) := H1.out.2.1.cell 0
 have x2b : (W1.alloc (.cells #[.int .i64 0, .slice none 0 0, .slice none 0 0] 43)).cell? ⟨w.heap.size, 2, none⟩ = some (.slice Ap L.length cp) := by
  have := (H1.out.1.alloc (.cells #[.int .i64 0, .slice none 0 0, .slice none 0 0] 43)).cell 2
  rw [← hC] at this
  exact this
 have dX0 : decide (X < 0) = false := by rw [decide_eq_false_iff_not]; omega
 have dX1 : decide (4294967294 < X) = false := by rw [decide_eq_false_iff_not]; omega
 have dX2 : decide (X < (n : Int)) = false := by rw [decide_eq_false_iff_not]; omega
 have dX3 : wrap64 (X - (n : Int)) = (d : Int) := by rw [← hX]; unfold wrap64; omega
 have dX4 : decide (100 < (d : Int)) = false := by rw [decide_eq_false_iff_not]; omega
 have dX5 : decide (4294967294 ≤ X) = false := by rw [decide_eq_false_iff_not]; omega
 have HX := Lib.hid (And.intro hX (And.intro hd hm))
 have HC := Lib.hid hC
 clear HB hb1 hg1 HI hxi hx hrs hrp os hcs hcp hX hC
 gi_wp2_with (first | (refine wpIn_scope ?_) | (refine wpIn_label ?_))
 have HL := Lib.hid hL
 have B9 := Blk.new W1 43 #[.int .i64 0, .slice none 0 0, .slice none 0 0]
 have hbl : Below W1.heap.size W1 (W1.alloc (.cells #[.int .i64 0, .slice none 0 0, .slice none 0 0] 43)) := (Below.refl _ W1).alloc (Nat.le_refl _) _
 have H2 := Lib.hid (And.intro (H1.out.below hbl) (And.intro B9 (H1.out.2.2.2.2.trans (hbl.mono H1.out.2.2.2.2.size))))
 have hs2 : (W1.alloc (.cells #[.int .i64 0, .slice none 0 0, .slice none 0 0] 43)).heap.size = W1.heap.size + 1 := by simp
 obtain ⟨g9, hg9⟩ : ∃ g, W1.heap.size = g := ⟨_, rfl⟩
 have hg9a : w.heap.size + 3 < g9 := by rw [← hg9]; exact H1.out.2.2.2.1.lt
 rw [hg9] at H2 hs2
 generalize W1.alloc (.cells #[.int .i64 0, .slice none 0 0, .slice none 0 0] 43) = W2 at *
 rw [hg9]
 clear x0 x2 x2b xa B9 hbl H1 dX0 dX1 dX2 dX3 dX4 dX5 hg9
 refine ⟨trivial, (callsIn_wide.2 (cloneR_calls Ap cp L.length xs W2 (Kd.C_below HXS.out.1 H2.out.2.2) (by have := HL.out; omega))).mono ?_⟩
 rintro e W3 ⟨v3, rfl, hR3, hb3⟩
 have hR3' := hR3
 obtain ⟨A3, c3, rfl, -, -⟩ := Kd.R_reads hR3'
 clear hR3'
 have H3 := Lib.hid (And.intro (H2.out.1.below hb3) (And.intro (H2.out.2.1.below hb3 H2.out.2.1.lt) hR3))
 have hs3 := hb3.size
 clear hR3 hb3 H2
 obtain ⟨N0, hN0⟩ : ∃ N0 : Int, (n : Int) = N0 := ⟨_, rfl⟩
 have HA := Lib.hid (H3.out.1.1.alloc (.cells #[.slice A3 xs.length c3] 23))
 have y0 : (W3.alloc (.cells #[.slice A3 xs.length c3] 23)).cell? ⟨w.heap.size, 0, none⟩ = some (.int .i64 N0) := by
  have := HA.out.cell 0
  rw [← HC.out, ← hN0] at *
  exact this
 have y1 : (W3.alloc (.cells #[.slice A3 xs.length c3] 23)).cell? ⟨w.heap.size, 1, none⟩ = some (.slice As s.length cs) := by
  have := HA.out.cell 1
  rw [← HC.out] at this
  exact this
 have y2 : (W3.alloc (.cells #[.slice A3 xs.length c3] 23)).cell? ⟨w.heap.size, 2, none⟩ = some (.slice Ap L.length cp) := by
  have := HA.out.cell 2
  rw [← HC.out] at this
  exact this
 gi_wp2_with (first | (refine wpIn_scope ?_) | (refine wpIn_label ?_))
 refine ⟨trivial, (callsIn_wide.2 (places_calls N0 _ _ _)).mono ?_⟩
 rintro e W5 ⟨rfl, rfl⟩
 gi_wp2_with (first | (refine wpIn_scope ?_) | (refine wpIn_label ?_))
 have b10 := (Blk.new W3 23 #[.slice A3 xs.length c3]).alloc (.cells #[.int .i64 N0, .slice As s.length cs, .slice Ap L.length cp] 25)
 have bgp := Blk.new (W3.alloc (.cells #[.slice A3 xs.length c3] 23)) 25 #[.int .i64 N0, .slice As s.length cs, .slice Ap L.length cp]
 have hsz : (W3.alloc (.cells #[.slice A3 xs.length c3] 23)).heap.size = W3.heap.size + 1 := by simp
 rw [hsz] at bgp
 have hbl5 : Below W3.heap.size W3 ((W3.alloc (.cells #[.slice A3 xs.length c3] 23)).alloc (.cells #[.int .i64 N0, .slice As s.length cs, .slice Ap L.length cp] 25)) := ((Below.refl _ W3).alloc (Nat.le_refl _) _).alloc (by rw [hsz]; omega) _
 have hsz5 : ((W3.alloc (.cells #[.slice A3 xs.length c3] 23)).alloc (.cells #[.int .i64 N0, .slice As s.length cs, .slice Ap L.length cp] 25)).heap.size = W3.heap.size + 2 := by simp
 have hBW3 := H3.out.1.2.2.2.2
 have hb5 : Below w.heap.size w ((W3.alloc (.cells #[.slice A3 xs.length c3] 23)).alloc (.cells #[.int .i64 N0, .slice As s.length cs, .slice Ap L.length cp] 25)) := hBW3.trans (hbl5.mono hBW3.size)
 have hI0 : ITake w.heap.size g9 W3.heap.size w.heap.size C X s n d L 0 (W3.heap.size + 2) ((W3.alloc (.cells #[.slice A3 xs.length c3] 23)).alloc (.cells #[.int .i64 N0, .slice As s.length cs, .slice Ap L.length cp] 25)) := by
  refine ⟨⟨H3.out.1.1.below hbl5 H3.out.1.1.lt, H3.out.1.2.1.below hbl5 H3.out.1.2.1.lt, H3.out.1.2.2.1.below hbl5 H3.out.1.2.2.1.lt, H3.out.1.2.2.2.1.below hbl5 H3.out.1.2.2.2.1.lt⟩, hg9a, by omega, by omega, ⟨_, _, _, H3.out.2.1.below hbl5 H3.out.2.1.lt, fun h => by omega⟩, ⟨_, xs, b10, ?_, ?_⟩⟩
  ·refine Kd.R_mono (Kd.R_lower (Kd.R_below (Kd.R_bound H3.out.2.2) hbl5) (show w.heap.size ≤ W2.heap.size by omega)) ?_
   rintro b ⟨-, h1, h2, -⟩
   exact ⟨by omega, by omega, by omega⟩
  ·rw [Nat.zero_min, show passed s n 0 = [] from rfl, List.append_nil]
   exact (HXS.out.2.sub (fun b h => hb5.block b h)).mono (fun b h => .inl h)
 have hA0 : ∀ a, As = some a → a.block < w.heap.size := fun a ha => by
  obtain ⟨ad, e1, hl⟩ := C_some HR.out.1 (by rw [H32.out]; decide)
  rw [ha] at e1
  cases e1
  exact hl
 have HS := Lib.hid (And.intro H32.out HR.out.2.2.1)
 have hsec : Kd.C (Kd.int .u8) ((W3.alloc (.cells #[.slice A3 xs.length c3] 23)).alloc (.cells #[.int .i64 N0, .slice As s.length cs, .slice Ap L.length cp] 25)) As s.length s := Kd.C_below HR.out.1 hb5
 generalize (W3.alloc (.cells #[.slice A3 xs.length c3] 23)).alloc (.cells #[.int .i64 N0, .slice As s.length cs, .slice Ap L.length cp] 25) = W5 at *
 have hg10 : g9 < W3.heap.size := by omega
 generalize W3.heap.size = g10 at *
 have hseq := places_seq s n (d + 2) w.heap.size (g10 + 1) As cs (.slice Ap L.length cp) w HS.out.1 HS.out.2 (by have := HX.out.2.2; omega) HR.out.2.2.2.1 (by omega) (Nat.le_refl _) hA0
 have eg : ∀ (args : Array Value) (w : World), (callFunc 51 args).run Tryd.prog w = .ok (.enter 51 args) w := fun args w => enters_of Tryd.func51 (by kernel_rfl) rfl args w
 have hpre : ∀ W', Below W5.heap.size W5 W' → PreC (g10 + 1) n As cs s (.slice Ap L.length cp) W' := fun W' hb => ⟨by rw [hN0]; exact bgp.below hb bgp.lt, Kd.C_below hsec hb⟩
 have hB5 : w.heap.size ≤ W5.heap.size := hb5.size
 rw [← hsz5] at hI0
 have HH := Lib.hid (And.intro hseq (And.intro hpre (And.intro hb5 hI0)))
 clear hseq hpre hb5 hI0 hsec bgp b10 hbl5 hBW3 y0 y1 y2 HA H3
 refine wpIn_range_take (n := 3) (gf := 51) (lb := #[.pointer (some ⟨g10 + 1, 0, none⟩)]) rfl eg HH.out.1 HH.out.2.1 HH.out.2.2.1 hB5 (fun k m args W h => by obtain ⟨A, c, e, _⟩ := h; rw [e]; rfl) (SEl_kept s n _) SKp_kept
  (ITake w.heap.size g9 g10 w.heap.size C X s n d L) (XTake w.heap.size g9 g10 w.heap.size (.slice Ap L.length cp) X s n d L) (ITake_kept _ _ _ _ _ _ _ _ _ _) (ITake_below _ _ _ _ _ _ _ _ _ _) (ITake_mono _ _ _ _ _ _ _ _ _ _) (XTake_own _ _ _ _ _ _ _ _ _ _) HH.out.2.2.2 ?assign ?body ?stop
 case assign =>
  rintro l k m args W K ⟨A, c, rfl, -⟩ hK
  clear hN0
  obtain ⟨P, hP⟩ : ∃ P : Int, ((n + k : Nat) : Int) = P := ⟨_, rfl⟩
  rw [hP] at hK ⊢
  gi_wp2
  exact hK
 case body =>
  rintro l k m args W hk hI hmW ⟨A, c, rfl, hlc, hCe, hAe⟩ hbW
  clear hN0
  obtain ⟨P, hP⟩ : ∃ P : Int, ((n + k : Nat) : Int) = P := ⟨_, rfl⟩
  obtain ⟨S, hS⟩ : ∃ S, secS s n k = S := ⟨_, rfl⟩
  rw [hP]
  rw [hS] at hlc hCe ⊢
  have HE := Lib.hid (And.intro hlc (And.intro hCe (And.intro hAe (And.intro hI (And.intro hmW hbW)))))
  have hXX : (n : Int) + d = X := by rw [← HX.out.1]; omega
  have hPX : P = (n : Int) + k := by rw [← hP]; omega
  have xa : W.cell? ⟨w.heap.size + 1, 0, none⟩ = some (.int .i64 X) := hI.1.2.1.cell 0
  clear hlc hCe hAe hI hmW hbW HH
  simp only [aT, List.setIfInBounds_toArray, List.set_cons_zero, List.set_cons_succ]
  rw [show (#[Value.int IntKind.i64 P, Value.slice A S.length c] : Array Value).getD 0 undef = Value.int IntKind.i64 P from rfl, show (#[Value.int IntKind.i64 P, Value.slice A S.length c] : Array Value).getD 1 undef = Value.slice A S.length c from rfl]
  by_cases hkd : k = d + 1
  ·have dX : decide (X < P) = true := by rw [decide_eq_true_eq]; omega
   clear hXX hPX
   subst hkd
   have hCe' : C = #[.int .i64 (n : Int), .slice As s.length cs, .slice Ap L.length cp] := HC.out.symm
   have HT := Lib.hid (take_leave w.heap.size g9 g10 X s n d L m W (n : Int) As cs (.slice Ap L.length cp) A c S hS (by rw [← hCe']; exact HE.out.2.2.2.1) HE.out.1 HE.out.2.1 HE.out.2.2.1)
   rw [hP] at HT
   have bC : Blk W w.heap.size 25 #[.int .i64 (n : Int), .slice As s.length cs, .slice Ap L.length cp] := by rw [← hCe']; exact HE.out.2.2.2.1.1.1
   have c0 : W.cell? ⟨w.heap.size, 0, none⟩ = some (.int .i64 (n : Int)) := bC.cell 0
   have f0 : W.frozen? ⟨w.heap.size, 0, none⟩ = false := bC.frozen 0
   have bC1 := bC.set_ 0 (.int .i64 P)
   have c1 : (W.setCell ⟨w.heap.size, 0, none⟩ (.int .i64 P)).cell? ⟨w.heap.size, 1, none⟩ = some (.slice As s.length cs) := bC1.cell 1
   have f1 : (W.setCell ⟨w.heap.size, 0, none⟩ (.int .i64 P)).frozen? ⟨w.heap.size, 1, none⟩ = false := bC1.frozen 1
   clear bC bC1 hCe' hP hS
   gi_wp2_with (first | (refine wpIn_scope ?_) | (refine wpIn_label ?_))
   exact HT.out
  have dX : decide (X < P) = false := by rw [decide_eq_false_iff_not]; omega
  clear hXX hPX
  have hkd' : k ≤ d := by omega
  have hS32 : S.length = 32 := by rw [← hS]; exact secS_length s n HS.out.1 k
  have hSo : byteOk S = true := by rw [← hS]; exact byteOk_secS s n HS.out.2 k
  have hlk : U.ratch_lock.f S P = some (P, (lockN s n k).f1, (lockN s n k).f2) := by
   rw [← hP]
   have := lock_some S (n + k) (by have := HX.out; omega) hS32 hSo
   rw [this, ← hS]
   rfl
  have hf0 : (lockN s n k).f0 = P := hP
  have l1 : 0 < (lockN s n k).f1.length := by rw [show (lockN s n k).f1.length = 32 from labelOf_length _ _ _ _]; decide
  have l2 : 0 < (lockN s n k).f2.length := by rw [show (lockN s n k).f2.length = 12 from labelOf_length _ _ _ _]; decide
  have HLK := Lib.hid (And.intro hlk (And.intro hf0 (And.intro l1 l2)))
  clear hlk hf0 l1 l2 hS32 hSo hP hS
  gi_wp2_with (first | (refine wpIn_scope ?_) | (refine wpIn_label ?_))
  refine ⟨trivial, (CallsIn.inRound l (callsIn_wide.2 (U.ratch_lock.calls A c S P P (lockN s n k).f1 (lockN s n k).f2 W HE.out.2.1 HE.out.1 HLK.out.1))).mono ?_⟩
  rintro e W1 ⟨v1, v2, rfl, hRk, hRn, hb1⟩
  obtain ⟨gk, ck, rfl, hgk, hgk2, tk⟩ := Kd.R_form hRk HLK.out.2.2.1
  obtain ⟨gn, cn, rfl, hgn, hgn2, tn⟩ := Kd.R_form hRn HLK.out.2.2.2
  obtain ⟨-, lk1, hk1⟩ := Kd.R_reads' hRk
  obtain ⟨-, lk2, hk2⟩ := Kd.R_reads' hRn
  obtain ⟨a0, a1, a2, ho, -⟩ := HE.out.2.2.2.1.2.2.2.2.1
  have hg9m : g9 < W.heap.size := by have := HE.out.2.2.2.1.2.2.2.1; have := HE.out.2.2.2.2.1; omega
  have hg10m : g10 < W.heap.size := by have := HE.out.2.2.2.1.2.2.2.1; have := HE.out.2.2.2.2.1; omega
  have bo : Blk W1 g9 43 #[a0, a1, a2] := ho.below hb1 hg9m
  have HL1 := Lib.hid (show LockIn (okT w.heap.size g10 W1.heap.size W1) W1 (lockN s n k) [.int .i64 P, .slice (some ⟨gk, 0, none⟩) (lockN s n k).f1.length ck, .slice (some ⟨gn, 0, none⟩) (lockN s n k).f2.length cn] from
   ⟨_, _, _, _, by rw [HLK.out.2.1], lk1, hk1, lk2, hk2, fun _ a ha => by cases ha; exact .inr ⟨by show g10 < gk; omega, hgk2, tk⟩, fun _ a ha => by cases ha; exact .inr ⟨by show g10 < gn; omega, hgn2, tn⟩⟩)
  have HB1 := Lib.hid (And.intro hb1 (And.intro hgk hgn))
  clear tk tn hRk hRn hk1 hk2 lk1 lk2 ho hb1 hgk hgn hgk2 hgn2 xa
  generalize (lockN s n k).f1.length = z1 at *
  generalize (lockN s n k).f2.length = z2 at *
  have c0 : W1.cell? ⟨g9, 0, none⟩ = some a0 := bo.cell 0
  have f0 : W1.frozen? ⟨g9, 0, none⟩ = false := bo.frozen 0
  have bo1 := bo.set_ 0 (.int .i64 P)
  have c1 : (W1.setCell ⟨g9, 0, none⟩ (.int .i64 P)).cell? ⟨g9, 1, none⟩ = some a1 := bo1.cell 1
  have f1 : (W1.setCell ⟨g9, 0, none⟩ (.int .i64 P)).frozen? ⟨g9, 1, none⟩ = false := bo1.frozen 1
  have bo2 := bo1.set_ 1 (.slice (some ⟨gk, 0, none⟩) z1 ck)
  have c2 : ((W1.setCell ⟨g9, 0, none⟩ (.int .i64 P)).setCell ⟨g9, 1, none⟩ (.slice (some ⟨gk, 0, none⟩) z1 ck)).cell? ⟨g9, 2, none⟩ = some a2 := bo2.cell 2
  have f2 : ((W1.setCell ⟨g9, 0, none⟩ (.int .i64 P)).setCell ⟨g9, 1, none⟩ (.slice (some ⟨gk, 0, none⟩) z1 ck)).frozen? ⟨g9, 2, none⟩ = false := bo2.frozen 2
  have HO := Lib.hid (take_out w.heap.size g9 g10 C X s n d L k m W W1 (lockN s n k) (.int .i64 P) (.slice (some ⟨gk, 0, none⟩) z1 ck) (.slice (some ⟨gn, 0, none⟩) z2 cn) HE.out.2.2.2.1 HE.out.2.2.2.2.1 HB1.out.1 HL1.out)
  have xa2 : (((W1.setCell ⟨g9, 0, none⟩ (.int .i64 P)).setCell ⟨g9, 1, none⟩ (.slice (some ⟨gk, 0, none⟩) z1 ck)).setCell ⟨g9, 2, none⟩ (.slice (some ⟨gn, 0, none⟩) z2 cn)).cell? ⟨w.heap.size + 1, 0, none⟩ = some (.int .i64 X) := HO.out.1.2.1.cell 0
  by_cases hkd2 : k = d
  ·have dP : decide (P < X) = false := by rw [decide_eq_false_iff_not]; have h1 := HLK.out.2.1; have h2 := HX.out.1; rw [hkd2] at h1; have h3 : ((n + d : Nat) : Int) = P := h1; omega
   subst hkd2
   gi_wp2_with (first | (refine wpIn_scope ?_) | (refine wpIn_label ?_))
   exact take_end w.heap.size g9 g10 C X s n k L m W _ (.int .i64 P) (.slice (some ⟨gk, 0, none⟩) z1 ck) (.slice (some ⟨gn, 0, none⟩) z2 cn) (.int .i64 P) A c S.length HE.out.2.2.2.2.1 HE.out.2.2.2.1 HO.out HE.out.2.2.1
  have dP : decide (P < X) = true := by rw [decide_eq_true_eq]; have h1 := HLK.out.2.1; have h2 := HX.out.1; have h3 : ((n + k : Nat) : Int) = P := h1; omega
  obtain ⟨v, ys, hv, hRv, hxv⟩ := HO.out.2.2.2.1
  have hRv' := hRv
  obtain ⟨Av, cv, rfl, -, -⟩ := Kd.R_reads hRv'
  clear hRv'
  have y10 : (((W1.setCell ⟨g9, 0, none⟩ (.int .i64 P)).setCell ⟨g9, 1, none⟩ (.slice (some ⟨gk, 0, none⟩) z1 ck)).setCell ⟨g9, 2, none⟩ (.slice (some ⟨gn, 0, none⟩) z2 cn)).cell? ⟨g10, 0, none⟩ = some (.slice Av ys.length cv) := hv.cell 0
  have o0 : (((W1.setCell ⟨g9, 0, none⟩ (.int .i64 P)).setCell ⟨g9, 1, none⟩ (.slice (some ⟨gk, 0, none⟩) z1 ck)).setCell ⟨g9, 2, none⟩ (.slice (some ⟨gn, 0, none⟩) z2 cn)).cell? ⟨g9, 0, none⟩ = some (.int .i64 P) := HO.out.2.1.cell 0
  have o1 : (((W1.setCell ⟨g9, 0, none⟩ (.int .i64 P)).setCell ⟨g9, 1, none⟩ (.slice (some ⟨gk, 0, none⟩) z1 ck)).setCell ⟨g9, 2, none⟩ (.slice (some ⟨gn, 0, none⟩) z2 cn)).cell? ⟨g9, 1, none⟩ = some (.slice (some ⟨gk, 0, none⟩) z1 ck) := HO.out.2.1.cell 1
  have o2 : (((W1.setCell ⟨g9, 0, none⟩ (.int .i64 P)).setCell ⟨g9, 1, none⟩ (.slice (some ⟨gk, 0, none⟩) z1 ck)).setCell ⟨g9, 2, none⟩ (.slice (some ⟨gn, 0, none⟩) z2 cn)).cell? ⟨g9, 2, none⟩ = some (.slice (some ⟨gn, 0, none⟩) z2 cn) := HO.out.2.1.cell 2
  have HV := Lib.hid (And.intro hv (And.intro hRv hxv))
  clear hv hRv hxv
  have hszW : (((W1.setCell ⟨g9, 0, none⟩ (.int .i64 P)).setCell ⟨g9, 1, none⟩ (.slice (some ⟨gk, 0, none⟩) z1 ck)).setCell ⟨g9, 2, none⟩ (.slice (some ⟨gn, 0, none⟩) z2 cn)).heap.size = W1.heap.size := by simp [World.setCell]
  have bn := Blk.new (((W1.setCell ⟨g9, 0, none⟩ (.int .i64 P)).setCell ⟨g9, 1, none⟩ (.slice (some ⟨gk, 0, none⟩) z1 ck)).setCell ⟨g9, 2, none⟩ (.slice (some ⟨gn, 0, none⟩) z2 cn)) 43 #[.int .i64 P, .slice (some ⟨gk, 0, none⟩) z1 ck, .slice (some ⟨gn, 0, none⟩) z2 cn]
  rw [hszW] at bn
  have HC3 := Lib.hid (show ∀ j u, [Value.int .i64 P, .slice (some ⟨gk, 0, none⟩) z1 ck, .slice (some ⟨gn, 0, none⟩) z2 cn][j]? = some u → ((((W1.setCell ⟨g9, 0, none⟩ (.int .i64 P)).setCell ⟨g9, 1, none⟩ (.slice (some ⟨gk, 0, none⟩) z1 ck)).setCell ⟨g9, 2, none⟩ (.slice (some ⟨gn, 0, none⟩) z2 cn)).alloc (.cells #[.int .i64 P, .slice (some ⟨gk, 0, none⟩) z1 ck, .slice (some ⟨gn, 0, none⟩) z2 cn] 43)).cell? ((⟨W1.heap.size, 0, none⟩ : Addr).add j) = some u from fun j u hu => by
   rw [add_plain]
   exact (bn.cell j).trans (by simpa using hu))
  have HR3 := Lib.hid (Kd.R_mono (Kd.R_alloc HV.out.2.1 (.cells #[.int .i64 P, .slice (some ⟨gk, 0, none⟩) z1 ck, .slice (some ⟨gn, 0, none⟩) z2 cn] 43)) (ok' := fun b => g9 < b ∧ b ≠ g10) (fun b hb => hb.2))
  have hle1 : W.heap.size ≤ W1.heap.size := HB1.out.1.size
  have hwW : w.heap.size ≤ W.heap.size := HE.out.2.2.2.2.2.size
  have hlen : ys.length ≤ 1000 := by rw [HV.out.2.2.1, List.length_append, passed_length]; omega
  have hsz3 : ((((W1.setCell ⟨g9, 0, none⟩ (.int .i64 P)).setCell ⟨g9, 1, none⟩ (.slice (some ⟨gk, 0, none⟩) z1 ck)).setCell ⟨g9, 2, none⟩ (.slice (some ⟨gn, 0, none⟩) z2 cn)).alloc (.cells #[.int .i64 P, .slice (some ⟨gk, 0, none⟩) z1 ck, .slice (some ⟨gn, 0, none⟩) z2 cn] 43)).heap.size = W1.heap.size + 1 := by rw [World.size_alloc, hszW]
  have HZ := Lib.hid (And.intro hle1 (And.intro hwW (And.intro hlen (And.intro hsz3 hszW))))
  clear bn hle1 hwW hlen hsz3 hszW hkd hg9m
  have hklt : k < d := by omega
  have HKL := Lib.hid hklt
  clear hklt hkd' hkd2
  gi_wp2_with (first | (refine wpIn_scope ?_) | (refine wpIn_label ?_) | ((with_reducible refine gate_append_in (xs := #[Operand.tmp 87, Operand.tmp 89]) rfl ?_); (refine wpListIn_append_lock _ rfl (.tmp 87) (.tmp 89) rfl w.heap.size (.slice Av ys.length cv) ys (.int .i64 P) (.slice (some ⟨gk, 0, none⟩) z1 ck) (.slice (some ⟨gn, 0, none⟩) z2 cn) ⟨W1.heap.size, 0, none⟩ 1 (fun b => g9 < b ∧ b ≠ g10) rfl rfl HR3.out HC3.out (by intro u hu; simp at hu; rcases hu with rfl | rfl | rfl <;> rfl) (fun b hb => by have h1 := HZ.out.2.2.2.1; have h2 := HZ.out.1; omega) (by have h1 := HZ.out.2.2.2.1; have h2 := HZ.out.1; have h3 := HZ.out.2.1; omega) HZ.out.2.2.1 ?_); intro v4 W4 hv4 hg4; (have hv4' := hv4); obtain ⟨A4, c4, rfl, -, -⟩ := Kd.R_reads hv4'; clear hv4'; (have HP := Lib.hid (take_pass w.heap.size g9 g10 C X s n d L k m W (((W1.setCell ⟨g9, 0, none⟩ (.int .i64 P)).setCell ⟨g9, 1, none⟩ (.slice (some ⟨gk, 0, none⟩) z1 ck)).setCell ⟨g9, 2, none⟩ (.slice (some ⟨gn, 0, none⟩) z2 cn)) W4 (.int .i64 P) (.slice (some ⟨gk, 0, none⟩) z1 ck) (.slice (some ⟨gn, 0, none⟩) z2 cn) (.int .i64 P) (.slice Av ys.length cv) _ ys A c S.length HE.out.2.2.2.2.1 HKL.out HE.out.2.2.2.1 HO.out.1 HO.out.2.1 HO.out.2.2.1 HV.out.1 HV.out.2.1 HV.out.2.2 HO.out.2.2.2.2.1 HO.out.2.2.2.2.2.1 HO.out.2.2.2.2.2.2.1 HO.out.2.2.2.2.2.2.2 hv4 hg4 HE.out.2.2.1)); (have b10 : Blk W4 g10 23 #[.slice Av ys.length cv] := take_box _ _ _ _ _ _ _ _ HV.out.1 HV.out.2.1 hg4); (have u10 : W4.cell? ⟨g10, 0, none⟩ = some (.slice Av ys.length cv) := b10.cell 0); (have f10 : W4.frozen? ⟨g10, 0, none⟩ = false := b10.frozen 0); (obtain ⟨z4, hz4⟩ : ∃ z : Nat, (ys ++ [[Value.int IntKind.i64 P, .slice (some ⟨gk, 0, none⟩) z1 ck, .slice (some ⟨gn, 0, none⟩) z2 cn]]).length = z := ⟨_, rfl⟩); (rw [hz4] at HP ⊢); clear hz4 b10 hv4 hg4))
  exact HP.out
 rintro D c k W ⟨rfl, m, A, cs', h1, h2, h3, h4, h5, h6, ⟨v, ys, hv, hRv, hxv⟩⟩ hbW hD hDB
 clear hN0
 have hRv' := hRv
 obtain ⟨Av, cv, rfl, hlv, hCv⟩ := Kd.R_reads hRv'
 clear hRv'
 have hyl : ys.length = L.length + d := by rw [hxv.1, List.length_append, passed_length]
 have y10 : W.cell? ⟨g10, 0, none⟩ = some (.slice Av ys.length cv) := hv.cell 0
 have e1 : wrap64 ((ys.length : Int) - 32) = (ys.length : Int) - 32 := by unfold wrap64; omega
 have c2 : W.cell? ⟨w.heap.size, 2, none⟩ = some (.slice Ap L.length cp) := h1.1.cell 2
 have f2 : W.frozen? ⟨w.heap.size, 2, none⟩ = false := h1.1.frozen 2
 have HU := Lib.hid (And.intro h1 (And.intro h2 (And.intro h3 (And.intro h4 (And.intro h5 (And.intro h6 (And.intro hv (And.intro hRv (And.intro hxv (And.intro hlv (And.intro hCv hyl)))))))))))
 have HD := Lib.hid (And.intro hbW (And.intro hD hDB))
 clear h1 h2 h3 h6 hv hRv hxv hlv hCv hyl hbW hD hDB HH
 generalize ys.length = q at *
 gi_wp2_with (first | (refine wpIn_scope ?_) | (refine wpIn_label ?_))
 all_goals
  obtain ⟨a0, a1, a2, h9, hl9⟩ := HU.out.2.2.2.2.2.1
  obtain ⟨Ak, ck, An, cn, he, lk, hk1, ln, hn1, -, -⟩ := hl9 trivial
  obtain ⟨rfl, rfl, rfl⟩ : a0 = .int .i64 (lockN s n d).f0 ∧ a1 = .slice Ak (lockN s n d).f1.length ck ∧ a2 = .slice An (lockN s n d).f2.length cn := by simpa using he
  have HK2 := Lib.hid (And.intro lk (And.intro hk1 (And.intro ln hn1)))
  clear he lk hk1 ln hn1 hl9
  refine take_after w.heap.size g9 _ A _ cs' _ _ _ _ _ X W HU.out.1 h9 HU.out.2.2.2.1 (fun W' hW' hF => ?_)
  have HWq := Lib.hid hW'
  clear hW' h9
  generalize hgF : (lockN s n d).f0 = F0 at *
  generalize hgz1 : (lockN s n d).f1.length = z1 at *
  generalize hgz2 : (lockN s n d).f2.length = z2 at *
  have HG := Lib.hid (And.intro hgF (And.intro hgz1 (And.intro hgz2 hF)))
  clear hgF hgz1 hgz2
  have i0 : W'.cell? ⟨w.heap.size, 0, none⟩ = some (.int .i64 ((n + (d + 1) : Nat) : Int)) := hF.1.1.cell 0
  have i1 : W'.cell? ⟨w.heap.size, 1, none⟩ = some (.slice A (secS s n (d + 1)).length cs') := hF.1.1.cell 1
  have i2 := hF.1.1.cell 2
  simp only [List.getElem?_toArray, List.getElem?_cons_succ, List.getElem?_cons_zero] at i2
  have j0 : W'.cell? ⟨g9, 0, none⟩ = some (.int .i64 F0) := hF.2.cell 0
  have j1 : W'.cell? ⟨g9, 1, none⟩ = some (.slice Ak z1 ck) := hF.2.cell 1
  have j2 : W'.cell? ⟨g9, 2, none⟩ = some (.slice An z2 cn) := hF.2.cell 2
  have r0 : W'.frozen? ⟨w.heap.size + 2, 0, none⟩ = false := hF.1.2.2.1.frozen 0
  have r1 : W'.frozen? ⟨w.heap.size + 2, 1, none⟩ = false := hF.1.2.2.1.frozen 1
  have r2 : W'.frozen? ⟨w.heap.size + 2, 2, none⟩ = false := hF.1.2.2.1.frozen 2
  have s0 : W'.frozen? ⟨w.heap.size + 3, 0, none⟩ = false := hF.1.2.2.2.frozen 0
  have s1 : W'.frozen? ⟨w.heap.size + 3, 1, none⟩ = false := hF.1.2.2.2.frozen 1
  have s2 : W'.frozen? ⟨w.heap.size + 3, 2, none⟩ = false := hF.1.2.2.2.frozen 2
  have k0 : W'.cell? ⟨w.heap.size + 2, 0, none⟩ = some (.int .i64 0) := hF.1.2.2.1.cell 0
  have k1 : W'.cell? ⟨w.heap.size + 2, 1, none⟩ = some (.slice none 0 0) := hF.1.2.2.1.cell 1
  have k2 : W'.cell? ⟨w.heap.size + 2, 2, none⟩ = some (.slice none 0 0) := hF.1.2.2.1.cell 2
  have l0 : W'.cell? ⟨w.heap.size + 3, 0, none⟩ = some (.int .i64 0) := hF.1.2.2.2.cell 0
  have l1 : W'.cell? ⟨w.heap.size + 3, 1, none⟩ = some (.slice none 0 0) := hF.1.2.2.2.cell 1
  have l2 : W'.cell? ⟨w.heap.size + 3, 2, none⟩ = some (.slice none 0 0) := hF.1.2.2.2.cell 2
  refine wpIn_wide.2 ?_
  go_region
  gi_wp2_with (first | (refine wpIn_scope ?_) | (refine wpIn_label ?_))
  show bodyPostM Fence.wide 5 _ _ _ .ret _ _
  refine take_ret _ D w.heap.size _ _ _ _ _ _ _ _ (take_post w W W' _ g9 g10 m n d s L _ X _ _ _ _ _ _ _ _ cs' q cv ck cn _ _ _ _ D ys _ HD.out.1 HU.out.1 (by simp) HU.out.2.1 HU.out.2.2.1 h4 h5 HU.out.2.2.2.2.2.2.2.1 HU.out.2.2.2.2.2.2.2.2.1 HU.out.2.2.2.2.2.2.2.2.2.2.2 HG.out.2.1.symm HG.out.2.2.1.symm HK2.out.1 HK2.out.2.1 HK2.out.2.2.1 HK2.out.2.2.2 HD.out.2.1 (by rw [← hsz5]; exact HD.out.2.2) HWq.out HG.out.2.2.2 (by omega) HG.out.1.symm ?_ rfl) rfl rfl rfl
 ·exact .inl ⟨by omega, rfl, rfl, rfl⟩
 ·exfalso
  have := HU.out.2.2.2.2.2.2.2.2.2.1
  omega
 ·exact .inr ⟨by omega, by rw [if_neg (by omega)], rfl, rfl⟩
end Go.Proofs.YtdklmafkcbjomaaDoor

/-! RatK -/
namespace Go.Proofs.YtdklmafkcbjomaaDoor
set_option linter.unusedVariables false
set_option linter.unusedSimpArgs false
open Go.RowKit Go.Shelf Go.Proofs.YtdklmafkcbjomaaDoorW.PrintWords Go.Proofs.YtdklmafkcbjomaaDoorW.PrintLast Go.Proofs.YtdklmafkcbjomaaDoorW.PrintMore Iter
attribute [local go_sem] Oper.semAt_some
/-- Two results' boxes are written. -/
theorem fin6 (g : Nat) (t2 t3 : TypeId) (a0 a1 a2 b0 b1 b2 : Value) (W' : World) (h2 : Blk W' (g + 2) t2 #[a0, a1, a2]) (h3 : Blk W' (g + 3) t3 #[b0, b1, b2]) (u0 u1 u2 v0 v1 v2 : Value) (W2 : World)
  (hW : W2 = (((((W'.setCell ⟨g + 2, 0, none⟩ u0).setCell ⟨g + 2, 1, none⟩ u1).setCell ⟨g + 2, 2, none⟩ u2).setCell ⟨g + 3, 0, none⟩ v0).setCell ⟨g + 3, 1, none⟩ v1).setCell ⟨g + 3, 2, none⟩ v2) :
  Blk W2 (g + 2) t2 #[u0, u1, u2] ∧ Blk W2 (g + 3) t3 #[v0, v1, v2] ∧ (∀ b, b ≠ g + 2 → b ≠ g + 3 → W2.heap[b]? = W'.heap[b]?) ∧ Below g W' W2 := by
 have hs1 := heap_set3 W' (g + 2) u0 u1 u2
 have hV : Blk (((W'.setCell ⟨g + 2, 0, none⟩ u0).setCell ⟨g + 2, 1, none⟩ u1).setCell ⟨g + 2, 2, none⟩ u2) (g + 2) t2 #[u0, u1, u2] := ((h2.set_ 0 u0).set_ 1 u1).set_ 2 u2
 have h3 : Blk (((W'.setCell ⟨g + 2, 0, none⟩ u0).setCell ⟨g + 2, 1, none⟩ u1).setCell ⟨g + 2, 2, none⟩ u2) (g + 3) t3 #[b0, b1, b2] := (hs1 (g + 3) (by omega)).trans h3
 have hb : Below g W' (((W'.setCell ⟨g + 2, 0, none⟩ u0).setCell ⟨g + 2, 1, none⟩ u1).setCell ⟨g + 2, 2, none⟩ u2) := (((Below.refl g W').setCell (p := ⟨g + 2, 0, none⟩) (show g ≤ g + 2 by omega) u0).setCell (p := ⟨g + 2, 1, none⟩) (show g ≤ g + 2 by omega) u1).setCell (p := ⟨g + 2, 2, none⟩) (show g ≤ g + 2 by omega) u2
 generalize ((W'.setCell ⟨g + 2, 0, none⟩ u0).setCell ⟨g + 2, 1, none⟩ u1).setCell ⟨g + 2, 2, none⟩ u2 = V at *
 have hs2 := heap_set3 V (g + 3) v0 v1 v2
 have h4 : Blk (((V.setCell ⟨g + 3, 0, none⟩ v0).setCell ⟨g + 3, 1, none⟩ v1).setCell ⟨g + 3, 2, none⟩ v2) (g + 3) t3 #[v0, v1, v2] := ((h3.set_ 0 v0).set_ 1 v1).set_ 2 v2
 have hb2 : Below g W' (((V.setCell ⟨g + 3, 0, none⟩ v0).setCell ⟨g + 3, 1, none⟩ v1).setCell ⟨g + 3, 2, none⟩ v2) := ((hb.setCell (p := ⟨g + 3, 0, none⟩) (show g ≤ g + 3 by omega) v0).setCell (p := ⟨g + 3, 1, none⟩) (show g ≤ g + 3 by omega) v1).setCell (p := ⟨g + 3, 2, none⟩) (show g ≤ g + 3 by omega) v2
 subst hW
 exact ⟨(hs2 (g + 2) (by omega)).trans hV, h4, fun b h2 h3 => (hs2 b h3).trans (hs1 b h2), hb2⟩
set_option maxRecDepth 100000 in
theorem take_ret0 {R : Ending → World → Prop} (W2 : World) (g : Nat) (c0 c1 c2 d0 d1 d2 u : Value) (tmps : Array Value)
  (h : Blk W2 (g + 2) 25 #[c0, c1, c2] ∧ Blk W2 (g + 3) 43 #[d0, d1, d2] ∧ R (.returned (.tuple #[.agg #[c0, c1, c2], .agg #[d0, d1, d2], u])) W2)
  (t4 : tmps.getD 4 undef = .pointer (some ⟨g + 2, 0, none⟩)) (t5 : tmps.getD 5 undef = .pointer (some ⟨g + 3, 0, none⟩)) (t6 : tmps.getD 6 undef = u) :
  bodyPostM Fence.wide 5 Tryd.prog Tryd.f21 R .ret { tmps := tmps, defers := [] } W2 := by
 refine ⟨_, results_cells_tmp (p := 4) (p2 := 5) (u := 6) rfl tmps _ (g + 2) _ _ _ _ t4 h.1 rfl rfl rfl (g + 3) _ _ _ _ t5 h.2.1 rfl rfl rfl, ?_⟩
 rw [t6]
 exact h.2.2
/-- The results where nothing is taken. -/
theorem take_err_post (w W1 W2 : World) (n er : Int) (As : Option Addr) (s : List Int) (cs : Nat) (Ap : Option Addr) (L : List R.S43) (cp : Nat) (hrs : Kd.C (Kd.int .u8) w As s.length s) (hcs : s.length ≤ cs) (hrp : Kd.C R.k43 w Ap L.length L) (hcp : L.length ≤ cp)
  (C : Array Value) (X : Int) (hB : TakeB w C X chain0 chain0 W1)
  (hW : W2 = (((((W1.setCell ⟨w.heap.size + 2, 0, none⟩ (.int .i64 n)).setCell ⟨w.heap.size + 2, 1, none⟩ (.slice As s.length cs)).setCell ⟨w.heap.size + 2, 2, none⟩ (.slice Ap L.length cp)).setCell ⟨w.heap.size + 3, 0, none⟩ (.int .i64 0)).setCell ⟨w.heap.size + 3, 1, none⟩ (.slice none 0 0)).setCell ⟨w.heap.size + 3, 2, none⟩ (.slice none 0 0)) :
  Blk W2 (w.heap.size + 2) 25 #[.int .i64 n, .slice As s.length cs, .slice Ap L.length cp] ∧ Blk W2 (w.heap.size + 3) 43 #[.int .i64 0, .slice none 0 0, .slice none 0 0] ∧
  TakePost w n s L R.z43 er (.returned (.tuple #[.agg #[.int .i64 n, .slice As s.length cs, .slice Ap L.length cp], .agg #[.int .i64 0, .slice none 0 0, .slice none 0 0], .int .i64 er])) W2 := by
 obtain ⟨f1, f2, f3, f4⟩ := fin6 w.heap.size _ _ _ _ _ _ _ _ W1 hB.2.2.1 hB.2.2.2.1 _ _ _ _ _ _ W2 hW
 have hb : Below w.heap.size w W2 := hB.2.2.2.2.trans f4
 exact ⟨f1, f2, As, cs, Ap, cp, none, 0, none, 0, rfl, hcs, Kd.C_below hrs hb, hcp, Kd.C_below hrp hb, Nat.le_refl _, ⟨rfl, by decide, fun h => absurd h (by decide)⟩, Nat.le_refl _, ⟨rfl, by decide, fun h => absurd h (by decide)⟩, hb⟩
set_option maxRecDepth 100000 in
set_option maxHeartbeats 2000000 in
theorem take_err_in (n X er : Int) (As : Option Addr) (s : List Int) (cs : Nat) (Ap : Option Addr) (L : List R.S43) (cp : Nat) (w : World) (hrs : Kd.C (Kd.int .u8) w As s.length s) (hcs : s.length ≤ cs) (hrp : Kd.C R.k43 w Ap L.length L) (hcp : L.length ≤ cp) (hL : L.length ≤ 1000) (C : Array Value) (hC : chainV n As s cs Ap L cp = C)
  (h : X < 0 ∧ er = 1 ∨ (0 ≤ X ∧ 4294967294 < X) ∧ er = 1 ∨ (0 ≤ X ∧ X ≤ 4294967294 ∧ idxL L X = none) ∧ (X < n ∧ er = 9 ∨ n ≤ X ∧ 0 ≤ n ∧ (100 < X - n ∧ er = 4 ∨ X - n ≤ 100 ∧ 4294967294 ≤ X ∧ er = 4))) :
  CallsIn Fence.wide 5 Tryd.prog 21 #[.agg C, .int .i64 X] w (TakePost w n s L R.z43 er) := by
 have HB := Lib.hid (takeB_start w C X)
 have HI := Lib.hid (fun W hl hc hb hg => index_calls Ap cp L (w.heap.size + 1) X W hl hc hb hg)
 have x2 : (takeW w C X).cell? ⟨w.heap.size, 2, none⟩ = some (.slice Ap L.length cp) := by
  have := HB.out.1.cell 2
  rw [← hC] at this
  rw [← hC]
  exact this
 unfold takeW chain0 at x2
 refine callsIn_of_wp_marks Tryd.func21 rfl trivial ?_ rfl
 simp only [Tryd.ntmps21, List.size_toArray, List.length_cons, List.length_nil, Nat.reduceAdd, Nat.reduceSub, Array.replicate_succ, Array.replicate_zero, List.push_toArray, List.append_toArray, List.nil_append, List.cons_append]
 have HH := Lib.hid h
 have HX := Lib.hid (And.intro hrs (And.intro hcs (And.intro hrp (And.intro hcp hL))))
 have HC := Lib.hid hC
 clear h hrs hcs hrp hcp hL hC
 gi_wp2_with (first | (refine wpIn_scope ?_) | (refine wpIn_label ?_))
 refine ⟨trivial, ?_⟩
 change CallsIn _ _ _ _ _ (takeW w C X) _
 clear x2
 generalize takeW w C X = W0 at *
 have hg1 : w.heap.size + 1 < W0.heap.size := HB.out.2.1.lt
 refine (callsIn_wide.2 (HI.out W0 HX.out.2.2.2.2 (Kd.C_below HX.out.2.2.1 HB.out.2.2.2.2) HB.out.2.1 hg1)).mono ?_
 rintro e W1 ⟨rfl, hb1⟩
 have H1 := Lib.hid (HB.out.below hb1)
 have HP := Lib.hid (fun W2 hW => take_err_post w W1 W2 n er As s cs Ap L cp HX.out.1 HX.out.2.1 HX.out.2.2.1 HX.out.2.2.2.1 C X H1.out hW)
 have xa : W1.cell? ⟨w.heap.size + 1, 0, none⟩ = some (.int .i64 X) := H1.out.2.1.cell 0
 have x0 : W1.cell? ⟨w.heap.size, 0, none⟩ = some (.int .i64 n) := by
  have := H1.out.1.cell 0
  rw [← HC.out] at this
  exact this
 have x1 : W1.cell? ⟨w.heap.size, 1, none⟩ = some (.slice As s.length cs) := by
  have := H1.out.1.cell 1
  rw [← HC.out] at this
  exact this
 have x2 : W1.cell? ⟨w.heap.size, 2, none⟩ = some (.slice Ap L.length cp) := by
  have := H1.out.1.cell 2
  rw [← HC.out] at this
  exact this
 have r0 : W1.frozen? ⟨w.heap.size + 2, 0, none⟩ = false := H1.out.2.2.1.frozen 0
 have r1 : W1.frozen? ⟨w.heap.size + 2, 1, none⟩ = false := H1.out.2.2.1.frozen 1
 have r2 : W1.frozen? ⟨w.heap.size + 2, 2, none⟩ = false := H1.out.2.2.1.frozen 2
 have s0 : W1.frozen? ⟨w.heap.size + 3, 0, none⟩ = false := H1.out.2.2.2.1.frozen 0
 have s1 : W1.frozen? ⟨w.heap.size + 3, 1, none⟩ = false := H1.out.2.2.2.1.frozen 1
 have s2 : W1.frozen? ⟨w.heap.size + 3, 2, none⟩ = false := H1.out.2.2.2.1.frozen 2
 have k0 : W1.cell? ⟨w.heap.size + 2, 0, none⟩ = some (.int .i64 0) := H1.out.2.2.1.cell 0
 have k1 : W1.cell? ⟨w.heap.size + 2, 1, none⟩ = some (.slice none 0 0) := H1.out.2.2.1.cell 1
 have k2 : W1.cell? ⟨w.heap.size + 2, 2, none⟩ = some (.slice none 0 0) := H1.out.2.2.1.cell 2
 have l0 : W1.cell? ⟨w.heap.size + 3, 0, none⟩ = some (.int .i64 0) := H1.out.2.2.2.1.cell 0
 have l1 : W1.cell? ⟨w.heap.size + 3, 1, none⟩ = some (.slice none 0 0) := H1.out.2.2.2.1.cell 1
 have l2 : W1.cell? ⟨w.heap.size + 3, 2, none⟩ = some (.slice none 0 0) := H1.out.2.2.2.1.cell 2
 obtain ⟨K, hK⟩ : ∃ K, idxI L X = K := ⟨_, rfl⟩
 have HK := Lib.hid hK
 rw [hK]
 clear hK HB HI hb1 hg1 H1 HX HC
 rcases HH.out with ⟨h1, rfl⟩ | ⟨⟨h0, h1⟩, rfl⟩ | ⟨⟨h0, h1, h2⟩, h3⟩
 ·have d0 : decide (X < 0) = true := by simpa using h1
  clear h1 HH HK
  gi_wp2_with (first | (refine wpIn_scope ?_) | (refine wpIn_label ?_))
  show bodyPostM Fence.wide 5 _ _ _ .ret _ _
  exact take_ret0 _ w.heap.size _ _ _ _ _ _ _ _ (HP.out _ rfl) rfl rfl rfl
 ·have d0 : decide (X < 0) = false := by rw [decide_eq_false_iff_not]; omega
  have d1 : decide (4294967294 < X) = true := by simpa using h1
  clear h0 h1 HH HK
  gi_wp2_with (first | (refine wpIn_scope ?_) | (refine wpIn_label ?_))
  show bodyPostM Fence.wide 5 _ _ _ .ret _ _
  exact take_ret0 _ w.heap.size _ _ _ _ _ _ _ _ (HP.out _ rfl) rfl rfl rfl
 have d0 : decide (X < 0) = false := by rw [decide_eq_false_iff_not]; omega
 have d1 : decide (4294967294 < X) = false := by rw [decide_eq_false_iff_not]; omega
 obtain rfl : K = -1 := by rw [← HK.out]; unfold idxI; rw [h2]
 clear h2 HK
 rcases h3 with ⟨h3, rfl⟩ | ⟨h3, hn, ⟨h4, rfl⟩ | ⟨h4, h5, rfl⟩⟩
 ·have d2 : decide (X < n) = true := by simpa using h3
  clear h0 h1 h3 HH
  gi_wp2_with (first | (refine wpIn_scope ?_) | (refine wpIn_label ?_))
  show bodyPostM Fence.wide 5 _ _ _ .ret _ _
  exact take_ret0 _ w.heap.size _ _ _ _ _ _ _ _ (HP.out _ rfl) rfl rfl rfl
 ·have d2 : decide (X < n) = false := by rw [decide_eq_false_iff_not]; omega
  have d3 : wrap64 (X - n) = X - n := by unfold wrap64; omega
  have d4 : decide (100 < X - n) = true := by simpa using h4
  clear h0 h1 h3 h4 hn HH
  gi_wp2_with (first | (refine wpIn_scope ?_) | (refine wpIn_label ?_))
  show bodyPostM Fence.wide 5 _ _ _ .ret _ _
  exact take_ret0 _ w.heap.size _ _ _ _ _ _ _ _ (HP.out _ rfl) rfl rfl rfl
 have d2 : decide (X < n) = false := by rw [decide_eq_false_iff_not]; omega
 have d3 : wrap64 (X - n) = X - n := by unfold wrap64; omega
 have d4 : decide (100 < X - n) = false := by rw [decide_eq_false_iff_not]; omega
 have d5 : decide (4294967294 ≤ X) = true := by simpa using h5
 clear h0 h1 h3 h4 h5 hn HH
 gi_wp2_with (first | (refine wpIn_scope ?_) | (refine wpIn_label ?_))
 show bodyPostM Fence.wide 5 _ _ _ .ret _ _
 exact take_ret0 _ w.heap.size _ _ _ _ _ _ _ _ (HP.out _ rfl) rfl rfl rfl
end Go.Proofs.YtdklmafkcbjomaaDoor

/-! RatL -/
namespace Go.Proofs.YtdklmafkcbjomaaDoor
set_option linter.unusedVariables false
set_option linter.unusedSimpArgs false
open Go.RowKit Go.Shelf Go.Proofs.YtdklmafkcbjomaaDoorW.PrintWords Go.Proofs.YtdklmafkcbjomaaDoorW.PrintLast Go.Proofs.YtdklmafkcbjomaaDoorW.PrintMore Iter
attribute [local go_sem] Oper.semAt_some
/-- 'append(l[:k:k], m...)' of locks' cells. -/
theorem run_spare (W : World) (ad ad2 : Addr) (k m c2 : Nat) (xs ys : List (List Value)) (hx : Kd.C (Kd.raw 3) W (some ad) k xs) (hy : Kd.C (Kd.raw 3) W (some ad2) m ys) (hk : k ≤ 1000) (hm : m ≤ 1000) :
  ∃ A' c' w', (Builtin.append_ #[23, 23] 23 #[.slice (some ad) k k, .slice (some ad2) m c2]).run Tryd.prog W = .ok (.slice A' (k + m) c') w' ∧ k + m ≤ c' ∧ Kd.C (Kd.raw 3) w' A' (k + m) (xs ++ ys) ∧ Below W.heap.size W w' ∧ (∀ a, A' = some a → a = ad ∨ W.heap.size ≤ a.block) := by
 obtain ⟨i0, hi, hz0, hz1, hz2⟩ := lock_info
 by_cases h0 : m = 0
 ·subst h0
  have hy0 : ys = [] := List.eq_nil_of_length_eq_zero hy.1
  subst hy0
  refine ⟨some ad, k, W, ?_, Nat.le_refl _, by rw [List.append_nil]; exact hx, Below.refl _ _, fun a ha => .inl (Option.some.inj ha).symm⟩
  simp [Builtin.append_, run_underlying Tryd.underlying23, sizeOf, typeInfo, hi, Builtin.lenOf, Builtin.firstCells, loadCells, loadCellsFrom, storeCells]
 obtain ⟨olds, ho, hoc⟩ := ReadsRow.inner_ hx
 obtain ⟨news, hn, hnc⟩ := ReadsRow.inner_ hy
 obtain ⟨v', w', hrun, hown, hg⟩ := run_append_arg_grows (P := Tryd.prog) (w := W) 23 23 43 i0 _ 3 56 Tryd.underlying23 hi hz0 hz1 hz2 rfl (by omega) ad k k olds (by rw [ho.1, hx.1]; rfl) hoc ad2 m c2 news (by rw [hn.1, hy.1]; rfl) hnc (by omega) (by simp only [maxLen]; omega) (by omega)
 have hlen : (xs ++ ys).length = k + m := by rw [List.length_append, hx.1, hy.1]
 have hR : Kd.R (Kd.raw 3) 43 w' W.heap.size (fun _ => True) v' (xs ++ ys) := ⟨fun _ _ => trivial, olds ++ news, by rw [hlen]; exact hown, Kd.reps_append (ho.imp_ (fun _ _ hq => hq)) (hn.imp_ (fun _ _ hq => hq))⟩
 obtain ⟨g, c', rfl, hb, hg2, -⟩ := Kd.R_form hR (by rw [hlen]; omega)
 obtain ⟨-, hl, hC⟩ := Kd.R_reads' hR
 rw [hlen] at hrun hl hC
 exact ⟨_, c', w', hrun, hl, hC, (Below.refl _ W).grown hg (Nat.le_refl _) (fun k hk => by simp at hk), fun a ha => .inr (by rw [← Option.some.inj ha]; exact hb)⟩
theorem step_run {P : Program} {ops : Array Oper} {o : Oper} {a : Act} {w : World} {K : Act → World → Prop} {Q : Exit → Act → World → Prop} {E : Prop}
  (hg : o.guard = none) (s x : Operand) (t : TypeId) (hop : o.op = Op.call { callee := Callee.builtin Builtin.append, args := #[s, x], argTypes := #[t, t] })
  (v1 x1 v : Value) (w' : World) (hs : a.eval s = v1) (hx : a.eval x = x1) (hrun : (Builtin.append_ #[t, t] o.type #[v1, x1]).run P w = .ok v w') (hK : K (a.put o.dst v) w') :
  if Region.wanted o (yielded ops a.tmps) = true then Oper.wp P o a w K Q else E := by
 have hw : Region.wanted o (yielded ops a.tmps) = true := by simp [Region.wanted, hg]
 rw [if_pos hw]
 unfold Oper.wp
 simp [execOp, hop, resolve, invoke, builtin, hs, hx, hrun, Result.andThen]
 exact hK
theorem idxL_lt (L : List R.S43) (at_ : Int) : ∀ k, idxL L at_ = some k → k < L.length ∧ (L.getD k R.z43).f0 = at_ := by
 induction L with
 | nil => intro k h; simp [idxL] at h
 | cons x xs ih =>
  intro k h
  rw [idxL] at h
  split at h
  ·cases h
   exact ⟨by simp, by assumption⟩
  ·obtain ⟨j, hj, rfl⟩ := Option.map_eq_some_iff.1 h
   have := ih j hj
   exact ⟨by simp; exact this.1, by simpa using this.2⟩
theorem RawOf.take {W : World} {L : List R.S43} {xs : List (List Value)} (h : RawOf W L xs) (m : Nat) : RawOf W (L.take m) (xs.take m) := by
 refine ⟨by rw [List.length_take, List.length_take, h.1], fun j hj => ?_⟩
 rw [List.length_take] at hj
 rw [List.getD_eq_getElem?_getD, List.getD_eq_getElem?_getD, List.getElem?_take, List.getElem?_take, if_pos (by omega), if_pos (by omega), ← List.getD_eq_getElem?_getD, ← List.getD_eq_getElem?_getD]
 exact h.2 j (by omega)
theorem RawOf.append {W : World} {L M : List R.S43} {xs ys : List (List Value)} (h : RawOf W L xs) (h' : RawOf W M ys) : RawOf W (L ++ M) (xs ++ ys) := by
 refine ⟨by rw [List.length_append, List.length_append, h.1, h'.1], fun j hj => ?_⟩
 rw [List.length_append] at hj
 rw [List.getD_eq_getElem?_getD, List.getD_eq_getElem?_getD]
 by_cases hl : j < L.length
 ·rw [List.getElem?_append_left hl, List.getElem?_append_left (by rw [h.1]; exact hl), ← List.getD_eq_getElem?_getD, ← List.getD_eq_getElem?_getD]
  exact h.2 j hl
 ·rw [List.getElem?_append_right (by omega), List.getElem?_append_right (by rw [h.1]; omega), h.1, ← List.getD_eq_getElem?_getD, ← List.getD_eq_getElem?_getD]
  exact h'.2 _ (by omega)
theorem Craw_same {W W' : World} {A : Option Addr} {n : Nat} {xs : List (List Value)} (h : Kd.C (Kd.raw 3) W A n xs) (hs : 0 < n → ∀ a, A = some a → W'.heap[a.block]? = W.heap[a.block]?) : Kd.C (Kd.raw 3) W' A n xs := by
 refine ⟨h.1, h.2.1, fun h0 => ?_⟩
 obtain ⟨ad, e, hc⟩ := h.2.2 h0
 refine ⟨ad, e, fun j p hj => ?_⟩
 obtain ⟨c, h1, h2, h3⟩ := hc j p hj
 refine ⟨c, h1, h2, fun i u hu => ?_⟩
 have := h3 i u hu
 have hbl : ∀ k, (ad.add k).block = ad.block := fun k => by unfold Addr.add; split <;> rfl
 unfold World.cell? at this ⊢
 rw [hbl, hs h0 ad e]
 rw [hbl] at this
 exact this
/-- What Take comes to where a spare is taken. -/
theorem take_spare_post (w W3 W' W2 : World) (g8 : Nat) (n X F0 : Int) (As : Option Addr) (s : List Int) (cs : Nat) (ad : Addr) (k m : Nat) (xs : List (List Value)) (L : List R.S43) (A4 : Option Addr) (c4 : Nat) (A1 A2 : Option Addr) (c1 c2 z1 z2 : Nat) (sp : Value)
  (hrs : Kd.C (Kd.int .u8) w As s.length s) (hcs : s.length ≤ cs) (hb3 : Below w.heap.size w W3) (hxr : RawOf w L xs) (h4 : Kd.C (Kd.raw 3) W3 A4 m (xs.take k ++ xs.drop (k + 1))) (hl4 : m ≤ c4) (ha4 : ∀ a, A4 = some a → a = ad ∨ w.heap.size + 3 < a.block) (had : ad.block < w.heap.size)
  (hF0 : (L.getD k R.z43).f0 = F0) (hz1 : (L.getD k R.z43).f1.length = z1) (hz2 : (L.getD k R.z43).f2.length = z2) (hl1 : z1 ≤ c1) (hr1 : Kd.C (Kd.int .u8) w A1 z1 (L.getD k R.z43).f1) (hl2 : z2 ≤ c2) (hr2 : Kd.C (Kd.int .u8) w A2 z2 (L.getD k R.z43).f2)
  (hW' : W' = W3.setCell ⟨w.heap.size, 2, none⟩ (.slice A4 m c4)) (hF : TakeF w.heap.size g8 n As s.length cs sp (.int .i64 F0) (.slice A1 z1 c1) (.slice A2 z2 c2) X W')
  (hW : W2 = ((((((W'.setCell ⟨w.heap.size + 2, 0, none⟩ (.int .i64 n)).setCell ⟨w.heap.size + 2, 1, none⟩ (.slice As s.length cs)).setCell ⟨w.heap.size + 2, 2, none⟩ (.slice A4 m c4)).setCell ⟨w.heap.size + 3, 0, none⟩ (.int .i64 F0)).setCell ⟨w.heap.size + 3, 1, none⟩ (.slice A1 z1 c1)).setCell ⟨w.heap.size + 3, 2, none⟩ (.slice A2 z2 c2)).drew) :
  Blk W2 (w.heap.size + 2) 25 #[.int .i64 n, .slice As s.length cs, .slice A4 m c4] ∧ Blk W2 (w.heap.size + 3) 43 #[.int .i64 F0, .slice A1 z1 c1, .slice A2 z2 c2] ∧
  TakePost w n s (L.take k ++ L.drop (k + 1)) (L.getD k R.z43) 0 (.returned (.tuple #[.agg #[.int .i64 n, .slice As s.length cs, .slice A4 m c4], .agg #[.int .i64 F0, .slice A1 z1 c1, .slice A2 z2 c2], .int .i64 0])) W2 := by
 obtain ⟨f1, f2, f3, f4⟩ := take_fin w.heap.size g8 n As _ cs sp _ _ _ X W' hF _ _ _ _ _ _ W2 hW
 clear hW
 have hb' : Below w.heap.size W3 W' := by rw [hW']; exact (Below.refl _ W3).setCell (p := ⟨w.heap.size, 2, none⟩) (Nat.le_refl _) _
 have hb : Below w.heap.size w W2 := (hb3.trans hb').trans f4
 have hR := (hxr.below hb).take k |>.append ((hxr.below hb).drop (k + 1))
 have hm : m = (L.take k ++ L.drop (k + 1)).length := by rw [← hR.1]; exact h4.1.symm
 have h4' : Kd.C (Kd.raw 3) W2 A4 m (xs.take k ++ xs.drop (k + 1)) := Craw_same h4 (fun _ a ha => by
  have hne : a.block ≠ w.heap.size ∧ a.block ≠ w.heap.size + 2 ∧ a.block ≠ w.heap.size + 3 := by
   rcases ha4 a ha with h | h
   ·rw [h]; omega
   ·omega
  rw [f3 _ hne.2.1 hne.2.2, hW', Below.heap_setCell W3 ⟨w.heap.size, 2, none⟩ _ _ hne.1])
 refine ⟨f1, f2, As, cs, A4, c4, A1, c1, A2, c2, ?_, hcs, Kd.C_below hrs hb, by rw [← hm]; exact hl4, by rw [← hm]; exact C_of_raw h4' hR, by rw [hz1]; exact hl1, by rw [hz1]; exact Kd.C_below hr1 hb, by rw [hz2]; exact hl2, by rw [hz2]; exact Kd.C_below hr2 hb, hb⟩
 rw [← hm, hF0, hz1, hz2]
set_option maxRecDepth 100000 in
set_option maxHeartbeats 4000000 in
theorem take_spare_in (n X : Int) (k : Nat) (As : Option Addr) (s : List Int) (cs : Nat) (Ap : Option Addr) (L : List R.S43) (cp : Nat) (w : World) (hrs : Kd.C (Kd.int .u8) w As s.length s) (hcs : s.length ≤ cs) (hrp : Kd.C R.k43 w Ap L.length L) (hcp : L.length ≤ cp) (hL : L.length ≤ 1000) (C : Array Value) (hC : chainV n As s cs Ap L cp = C)
  (hX0 : 0 ≤ X) (hX1 : X ≤ 4294967294) (hk : idxL L X = some k) :
  CallsIn Fence.wide 5 Tryd.prog 21 #[.agg C, .int .i64 X] w (TakePost w n s (L.take k ++ L.drop (k + 1)) (L.getD k R.z43) 0) := by
 have HB := Lib.hid (takeB_start w C X)
 have HI := Lib.hid (fun W hl hc hb hg => index_calls Ap cp L (w.heap.size + 1) X W hl hc hb hg)
 have x2 : (takeW w C X).cell? ⟨w.heap.size, 2, none⟩ = some (.slice Ap L.length cp) := by
  have := HB.out.1.cell 2
  rw [← hC] at this
  rw [← hC]
  exact this
 unfold takeW chain0 at x2
 refine callsIn_of_wp_marks Tryd.func21 rfl trivial ?_ rfl
 simp only [Tryd.ntmps21, List.size_toArray, List.length_cons, List.length_nil, Nat.reduceAdd, Nat.reduceSub, Array.replicate_succ, Array.replicate_zero, List.push_toArray, List.append_toArray, List.nil_append, List.cons_append]
 have HX := Lib.hid (And.intro hrs (And.intro hcs (And.intro hrp (And.intro hcp hL))))
 have HC := Lib.hid hC
 have HXX := Lib.hid (And.intro hX0 hX1)
 have HK := Lib.hid hk
 clear hrs hcs hrp hcp hL hC hX0 hX1 hk
 gi_wp2_with (first | (refine wpIn_scope ?_) | (refine wpIn_label ?_))
 refine ⟨trivial, ?_⟩
 change CallsIn _ _ _ _ _ (takeW w C X) _
 clear x2
 generalize takeW w C X = W0 at *
 have hg1 : w.heap.size + 1 < W0.heap.size := HB.out.2.1.lt
 refine (callsIn_wide.2 (HI.out W0 HX.out.2.2.2.2 (Kd.C_below HX.out.2.2.1 HB.out.2.2.2.2) HB.out.2.1 hg1)).mono ?_
 rintro e W1 ⟨rfl, hb1⟩
 have H1 := Lib.hid (HB.out.below hb1)
 have ei : idxI L X = (k : Int) := by unfold idxI; rw [HK.out]
 rw [ei]
 obtain ⟨hkl, hkf⟩ := idxL_lt L X k HK.out
 have p0 : (0 : Int) ≤ (k : Int) := Int.natCast_nonneg _
 obtain ⟨xs, hxs, hrx⟩ := raw_of_C HX.out.2.2.1
 obtain ⟨A1, c1, A2, c2, ecs, hz1, hr1, hz2, hr2⟩ := R.k43_open (hrx.2 k hkl)
 have hx1 := Kd.C_below hxs H1.out.2.2.2.2
 obtain ⟨ad, ead, hcell⟩ := hx1.2.2 (by omega)
 subst ead
 have hxl : k < xs.length := by rw [hrx.1]; exact hkl
 obtain ⟨c, -, ⟨ec, -⟩, hcell⟩ := hcell k _ (List.getElem?_eq_getElem hxl)
 have egc : xs.getD k [] = xs[k] := by rw [List.getD_eq_getElem?_getD, List.getElem?_eq_getElem hxl]; rfl
 rw [← egc, ecs] at ec
 subst ec
 have had : ad.block < w.heap.size := by
  obtain ⟨ad', e', hc'⟩ := hxs.2.2 (by omega)
  cases e'
  obtain ⟨c', hl', ⟨ec', -⟩, hcell'⟩ := hc' k _ (List.getElem?_eq_getElem hxl)
  rw [← egc, ecs] at ec'
  have hcc := hcell' 0 (.int .i64 (L.getD k R.z43).f0) (by rw [ec']; rfl)
  have hbl : ∀ k, (ad.add k).block = ad.block := fun k => by unfold Addr.add; split <;> rfl
  unfold World.cell? at hcc
  rw [hbl] at hcc
  by_cases hlt : ad.block < w.heap.size
  ·exact hlt
  ·rw [Array.getElem?_eq_none (by omega)] at hcc
   simp at hcc
 have y0 : W1.cell? (ad.add (k * 3)) = some (.int .i64 (L.getD k R.z43).f0) := hcell 0 _ rfl
 have y1 : W1.cell? ⟨(ad.add (k * 3)).block, (ad.add (k * 3)).off + 1, none⟩ = some (.slice A1 (L.getD k R.z43).f1.length c1) := by
  rw [← add_field _ _ 1 (by omega)]; exact hcell 1 _ rfl
 have y2 : W1.cell? ⟨(ad.add (k * 3)).block, (ad.add (k * 3)).off + 2, none⟩ = some (.slice A2 (L.getD k R.z43).f2.length c2) := by
  rw [← add_field _ _ 2 (by omega)]; exact hcell 2 _ rfl
 have xa : W1.cell? ⟨w.heap.size + 1, 0, none⟩ = some (.int .i64 X) := H1.out.2.1.cell 0
 have x2 : W1.cell? ⟨w.heap.size, 2, none⟩ = some (.slice (some ad) L.length cp) := by
  have := H1.out.1.cell 2
  rw [← HC.out] at this
  exact this
 have d0 : decide (X < 0) = false := by rw [decide_eq_false_iff_not]; have := HXX.out.1; omega
 have d1 : decide (4294967294 < X) = false := by rw [decide_eq_false_iff_not]; have := HXX.out.2; omega
 obtain ⟨q, hq⟩ : ∃ q, L.length = q := ⟨_, rfl⟩
 have hkq : k < q := by omega
 have hq9 : q ≤ 1000 := by have := HX.out.2.2.2.2; omega
 have hcq : q ≤ cp := by have := HX.out.2.2.2.1; omega
 have p1 : (k : Int) < (q : Int) := by omega
 have HL := Lib.hid (And.intro hz1 (And.intro hr1 (And.intro hz2 (And.intro hr2 (And.intro hx1 (And.intro hrx (And.intro hq had)))))))
 have hI1 : IntKind.i64.wrap ((k : Int) + 1) = (k : Int) + 1 := by
  have h1 : (0 : Int) ≤ (k : Int) + 1 := by omega
  have h2 : (k : Int) + 1 ≤ 1000 := by omega
  exact IntWalk.i64_in _ ⟨by omega, by omega⟩
 have HW := Lib.hid (show IntKind.i64.wrap ((k : Int) + 1) = (k : Int) + 1 ∧ (0 : Int) ≤ (k : Int) + 1 ∧ ((k : Int) + 1).toNat = k + 1 ∧ (k : Int) + 1 ≤ (q : Int) from ⟨hI1, by omega, by omega, by omega⟩)
 rw [hq] at x2
 clear HB HI hb1 hg1 ei hz1 hz2 hr1 hr2 hxs hx1 hrx hkl hkf hI1 hcell egc hxl ecs had
 generalize hgF : (L.getD k R.z43).f0 = F0 at *
 generalize hgz1 : (L.getD k R.z43).f1.length = z1 at *
 generalize hgz2 : (L.getD k R.z43).f2.length = z2 at *
 have HG := Lib.hid (And.intro hgF (And.intro hgz1 hgz2))
 rw [hq]
 clear hgF hgz1 hgz2 hq
 gi_wp2_with (first | (refine wpIn_scope ?_) | (refine wpIn_label ?_))
 have b8 := Blk.new W1 43 #[.int .i64 F0, .slice A1 z1 c1, .slice A2 z2 c2]
 have hbl : Below W1.heap.size W1 (W1.alloc (.cells #[.int .i64 F0, .slice A1 z1 c1, .slice A2 z2 c2] 43)) := (Below.refl _ W1).alloc (Nat.le_refl _) _
 have h18 : w.heap.size + 3 < W1.heap.size := H1.out.2.2.2.1.lt
 have H2 := Lib.hid (And.intro (H1.out.below hbl) (And.intro b8 (And.intro (Kd.C_below HL.out.2.2.2.2.1 hbl) (by simp : (W1.alloc (.cells #[.int .i64 F0, .slice A1 z1 c1, .slice A2 z2 c2] 43)).heap.size = W1.heap.size + 1))))
 generalize W1.alloc (.cells #[.int .i64 F0, .slice A1 z1 c1, .slice A2 z2 c2] 43) = W2 at *
 obtain ⟨g8, hg8⟩ : ∃ g, W1.heap.size = g := ⟨_, rfl⟩
 rw [hg8] at H2 h18 ⊢
 have hxq : xs.length = q := by rw [HL.out.2.2.2.2.2.1.1]; exact HL.out.2.2.2.2.2.2.1
 have hCd : Kd.C (Kd.raw 3) W2.drew (some ad) xs.length xs := by
  have h1 := H2.out.2.2.1
  have h2 := HL.out.2.2.2.2.2.2.1
  rw [h2, ← hxq] at h1
  exact Kd.C_below h1 (below_drew (Below.refl _ _))
 obtain ⟨A4, c4, W3, hrun, hl4, hC4, hb4, ha4⟩ := run_spare W2.drew ad (if cp = k + 1 then ad else ad.add ((k + 1) * 3)) k (q - (k + 1)) (cp - (k + 1)) (xs.take k) (xs.drop (k + 1))
  (by have := Kd.C_take hCd (m := k) (by omega); rw [List.length_take, show min k xs.length = k by omega] at this; exact this)
  (by have := Kd.C_drop (m := k + 1) (c := cp) hCd (by omega) (by omega); rw [List.length_drop, hxq] at this; split <;> rename_i hh <;> simp only [hh, if_true, if_false] at this <;> exact this)
  (by omega) (by omega)
 have hs2 : W2.drew.heap.size = W2.heap.size := rfl
 have hbW : Below W2.heap.size W2 W3 := (below_drew (Below.refl _ _)).trans hb4
 have HT := H2.out.1.below hbW
 have b8' := H2.out.2.1.below hbW H2.out.2.1.lt
 obtain ⟨m, hm⟩ : ∃ m, k + (q - (k + 1)) = m := ⟨_, rfl⟩
 rw [hm] at hrun hl4 hC4
 have m2 : W2.cell? ⟨w.heap.size, 2, none⟩ = some (.slice (some ad) q cp) := by
  have := H2.out.1.1.cell 2
  rw [← HC.out] at this
  have hq := HL.out.2.2.2.2.2.2.1
  rw [← hq]
  exact this
 have hT3 : TakeC w.heap.size #[.int .i64 n, .slice As s.length cs, .slice (some ad) q cp] X W3 := by
  refine ⟨?_, HT.2.1, HT.2.2.1, HT.2.2.2.1⟩
  have := HT.1
  rw [← HC.out] at this
  unfold chainV at this
  rw [HL.out.2.2.2.2.2.2.1] at this
  exact this
 have H4 := Lib.hid (And.intro hl4 (And.intro hC4 (And.intro HT.2.2.2.2 (And.intro (fun a ha => (ha4 a ha).imp id (fun h => by have := H2.out.2.2.2; omega) : ∀ a, A4 = some a → a = ad ∨ w.heap.size + 3 < a.block) (And.intro hT3 b8')))))
 have fr : W3.frozen? ⟨w.heap.size, 2, none⟩ = false := hT3.1.frozen 2
 have mr : W3.cell? ⟨w.heap.size, 2, none⟩ = some (.slice (some ad) q cp) := hT3.1.cell 2
 have H18 := Lib.hid h18
 clear hl4 hC4 hb4 ha4 b8 hbl hg8 xa x2 d0 d1 y0 y1 y2 hxq hCd hs2 hbW HT b8' hT3 h18 hm
 refine wpIn_wide.2 ?_
 refine wp_region_noPanic ?_
 by_cases hck : cp = k + 1
 all_goals
  first
   | rw [if_pos hck, show cp - (k + 1) = 0 by omega] at hrun
   | rw [if_neg hck] at hrun
  obtain ⟨hw1, hw2, hw3, hw4⟩ := HW.out
  have e1 : (k : Int) ≤ (k : Int) + 1 := by omega
  have e2 : k ≤ cp := by omega
  go_region_law (refine step_run rfl (.tmp 38) (.tmp 43) 23 rfl _ _ _ _ rfl rfl hrun ?_)
  all_goals
   refine NoPanic.normal ?_
   gi_wp2_with (first | (refine wpIn_scope ?_) | (refine wpIn_label ?_))
   refine take_after w.heap.size g8 n As s.length cs _ _ _ _ _ X W3 H4.out.2.2.2.2.1 H4.out.2.2.2.2.2 H18.out (fun W' hW' hF => ?_)
   have HWq := Lib.hid (And.intro hW' hF)
   clear hW' fr mr hrun m2
   have i0 : W'.cell? ⟨w.heap.size, 0, none⟩ = some (.int .i64 n) := hF.1.1.cell 0
   have i1 : W'.cell? ⟨w.heap.size, 1, none⟩ = some (.slice As s.length cs) := hF.1.1.cell 1
   have i2 : W'.cell? ⟨w.heap.size, 2, none⟩ = some (.slice A4 m c4) := hF.1.1.cell 2
   have j0 : W'.cell? ⟨g8, 0, none⟩ = some (.int .i64 F0) := hF.2.cell 0
   have j1 : W'.cell? ⟨g8, 1, none⟩ = some (.slice A1 z1 c1) := hF.2.cell 1
   have j2 : W'.cell? ⟨g8, 2, none⟩ = some (.slice A2 z2 c2) := hF.2.cell 2
   have r0 : W'.frozen? ⟨w.heap.size + 2, 0, none⟩ = false := hF.1.2.2.1.frozen 0
   have r1 : W'.frozen? ⟨w.heap.size + 2, 1, none⟩ = false := hF.1.2.2.1.frozen 1
   have r2 : W'.frozen? ⟨w.heap.size + 2, 2, none⟩ = false := hF.1.2.2.1.frozen 2
   have s0 : W'.frozen? ⟨w.heap.size + 3, 0, none⟩ = false := hF.1.2.2.2.frozen 0
   have s1 : W'.frozen? ⟨w.heap.size + 3, 1, none⟩ = false := hF.1.2.2.2.frozen 1
   have s2 : W'.frozen? ⟨w.heap.size + 3, 2, none⟩ = false := hF.1.2.2.2.frozen 2
   have k0 : W'.cell? ⟨w.heap.size + 2, 0, none⟩ = some (.int .i64 0) := hF.1.2.2.1.cell 0
   have k1 : W'.cell? ⟨w.heap.size + 2, 1, none⟩ = some (.slice none 0 0) := hF.1.2.2.1.cell 1
   have k2 : W'.cell? ⟨w.heap.size + 2, 2, none⟩ = some (.slice none 0 0) := hF.1.2.2.1.cell 2
   have l0 : W'.cell? ⟨w.heap.size + 3, 0, none⟩ = some (.int .i64 0) := hF.1.2.2.2.cell 0
   have l1 : W'.cell? ⟨w.heap.size + 3, 1, none⟩ = some (.slice none 0 0) := hF.1.2.2.2.cell 1
   have l2 : W'.cell? ⟨w.heap.size + 3, 2, none⟩ = some (.slice none 0 0) := hF.1.2.2.2.cell 2
   clear hF
   have h18 := H18.out
   refine wpIn_wide.2 ?_
   go_region
   gi_wp2_with (first | (refine wpIn_scope ?_) | (refine wpIn_label ?_))
   show bodyPostM Fence.wide 5 _ _ _ .ret _ _
   exact take_ret0 _ w.heap.size _ _ _ _ _ _ _ _ (take_spare_post w W3 W' _ g8 n X F0 As s cs ad k m xs L A4 c4 A1 A2 c1 c2 z1 z2 _ HX.out.1 HX.out.2.1 H4.out.2.2.1 HL.out.2.2.2.2.2.1 H4.out.2.1 H4.out.1 H4.out.2.2.2.1 HL.out.2.2.2.2.2.2.2 HG.out.1 HG.out.2.1 HG.out.2.2 HL.out.1 HL.out.2.1 HL.out.2.2.1 HL.out.2.2.2.1 HWq.out.1 HWq.out.2 rfl) rfl rfl rfl
end Go.Proofs.YtdklmafkcbjomaaDoor

/-! RatM -/
namespace Go.Proofs.YtdklmafkcbjomaaDoor
set_option linter.unusedVariables false
set_option linter.unusedSimpArgs false
open Go.RowKit Go.Shelf Go.Proofs.YtdklmafkcbjomaaDoorW.PrintWords Go.Proofs.YtdklmafkcbjomaaDoorW.PrintLast Go.Proofs.YtdklmafkcbjomaaDoorW.PrintMore Iter
attribute [local go_sem] Oper.semAt_some
/-- What Take comes to: the next place, its secret, the spares, a lock, an error. -/
def takeF (n : Nat) (s : List Int) (L : List R.S43) (X : Int) : Nat × List Int × List R.S43 × R.S43 × Int :=
 if X < 0 ∨ 4294967294 < X then (n, s, L, R.z43, 1) else
 match idxL L X with
 | some k => (n, s, L.take k ++ L.drop (k + 1), L.getD k R.z43, 0)
 | none => if X < (n : Int) then (n, s, L, R.z43, 9) else if 100 < X - (n : Int) ∨ 4294967294 ≤ X then (n, s, L, R.z43, 4) else
  (n + ((X - (n : Int)).toNat + 1), secS s n ((X - (n : Int)).toNat + 1), (L ++ passed s n (X - (n : Int)).toNat).drop (L.length + (X - (n : Int)).toNat - 32), lockN s n (X - (n : Int)).toNat, 0)
def TakeR (w : World) (r : Nat × List Int × List R.S43 × R.S43 × Int) (e : Ending) (w' : World) : Prop := TakePost w (r.1 : Int) r.2.1 r.2.2.1 r.2.2.2.1 r.2.2.2.2 e w'
theorem take_calls (n : Nat) (X : Int) (As : Option Addr) (s : List Int) (cs : Nat) (Ap : Option Addr) (L : List R.S43) (cp : Nat) (w : World) (hrs : Kd.C (Kd.int .u8) w As s.length s) (hcs : s.length ≤ cs) (hrp : Kd.C R.k43 w Ap L.length L) (hcp : L.length ≤ cp)
  (h32 : s.length = 32) (os : byteOk s = true) (hL : L.length ≤ 32) (hn : n ≤ 4294967294) :
  Calls Tryd.prog 21 #[.agg #[.int .i64 (n : Int), .slice As s.length cs, .slice Ap L.length cp], .int .i64 X] w (TakeR w (takeF n s L X)) := by
 refine (callsIn_wide (n := 5)).1 ?_
 by_cases h1 : X < 0 ∨ 4294967294 < X
 ·rw [show takeF n s L X = (n, s, L, R.z43, 1) by unfold takeF; rw [if_pos h1]]
  exact take_err_in n X 1 As s cs Ap L cp w hrs hcs hrp hcp (by omega) _ rfl (by rcases h1 with h | h; exact .inl ⟨h, rfl⟩; by_cases h0 : X < 0; exact .inl ⟨h0, rfl⟩; exact .inr (.inl ⟨⟨by omega, h⟩, rfl⟩))
 have h0 : 0 ≤ X := by omega
 have h4 : X ≤ 4294967294 := by omega
 cases hk : idxL L X with
 | some k =>
  rw [show takeF n s L X = (n, s, L.take k ++ L.drop (k + 1), L.getD k R.z43, 0) by unfold takeF; rw [if_neg h1, hk]]
  exact take_spare_in n X k As s cs Ap L cp w hrs hcs hrp hcp (by omega) _ rfl h0 h4 hk
 | none =>
  by_cases h2 : X < (n : Int)
  ·rw [show takeF n s L X = (n, s, L, R.z43, 9) by unfold takeF; rw [if_neg h1, hk]; dsimp only; rw [if_pos h2]]
   exact take_err_in n X 9 As s cs Ap L cp w hrs hcs hrp hcp (by omega) _ rfl (.inr (.inr ⟨⟨h0, h4, hk⟩, .inl ⟨h2, rfl⟩⟩))
  by_cases h3 : 100 < X - (n : Int) ∨ 4294967294 ≤ X
  ·rw [show takeF n s L X = (n, s, L, R.z43, 4) by unfold takeF; rw [if_neg h1, hk]; dsimp only; rw [if_neg h2, if_pos h3]]
   refine take_err_in n X 4 As s cs Ap L cp w hrs hcs hrp hcp (by omega) _ rfl (.inr (.inr ⟨⟨h0, h4, hk⟩, .inr ⟨by omega, by omega, ?_⟩⟩))
   by_cases h5 : 100 < X - (n : Int)
   ·exact .inl ⟨h5, rfl⟩
   ·exact .inr ⟨by omega, by omega, rfl⟩
  obtain ⟨d, hd⟩ : ∃ d : Nat, (X - (n : Int)).toNat = d := ⟨_, rfl⟩
  obtain rfl : X = ((n + d : Nat) : Int) := by omega
  rw [show takeF n s L ((n + d : Nat) : Int) = (n + (d + 1), secS s n (d + 1), (L ++ passed s n d).drop (L.length + d - 32), lockN s n d, 0) by unfold takeF; rw [if_neg h1, hk]; dsimp only; rw [if_neg h2, if_neg h3, hd]]
  exact take_adv_in n d As s cs Ap L cp w hrs hcs hrp hcp h32 os hL (by omega) (by omega) hk
theorem results_chain_tmp {P : Program} {fn : Func} {p u : Tmp} {ty : TypeId} (h : fn.results = #[.cell p ty, .tmp u]) (tmps : Array Value) (w : World) (g : Nat) (t : TypeId) (cs : Array Value) (fr : Nat × Nat) (d : TypeDesc)
  (hp : tmps.getD p undef = .pointer (some ⟨g, 0, none⟩)) (hg : w.heap[g]? = some (.cells cs t fr))
  (hu : P.underlying ty = some d) (hd : (match d with | .struct _ | .array _ _ => true | _ => false) = true) (hi : (P.info? ty).map (·.size) = some cs.size) :
  (results fn tmps).run P w = .ok (.tuple #[.agg cs, tmps.getD u undef]) w := by
 rw [results_cell_tmp h, hp]
 simp [asAddr, run_loadVar_row w g t ty cs fr d hg hu hd hi, Result.andThen]
set_option maxRecDepth 100000 in
set_option maxHeartbeats 1000000 in
theorem start_calls (A0 : Option Addr) (c0 : Nat) (l0 : List Int) (K i : Nat) (M I : Int) (hM : ((2 ^ K : Nat) : Int) = M) (hI : (i : Int) = I) (w : World) (hT : TabOk w) (hK : K ≤ 10) (hi : i < 2 ^ K) (h32 : l0.length = 32) (o0 : byteOk l0 = true) (hr0 : Kd.C (Kd.int .u8) w A0 l0.length l0) (hc0 : l0.length ≤ c0) :
  Calls Tryd.prog 14 #[.slice A0 l0.length c0, .int .i64 M, .int .i64 I] w fun e w' => ∃ A c, e = .returned (.tuple #[.agg #[.int .i64 0, .slice A (leafS l0 K i).length c, .slice none 0 0], .int .i64 0]) ∧ (leafS l0 K i).length ≤ c ∧ Kd.C (Kd.int .u8) w' A (leafS l0 K i).length (leafS l0 K i) ∧ Below w.heap.size w w' := by
 have b0 := Blk.new w 25 #[.int .i64 0, .slice none 0 0, .slice none 0 0]
 have hbl := (Below.refl w.heap.size w).alloc (Nat.le_refl _) (Obj.cells #[.int .i64 0, .slice none 0 0, .slice none 0 0] 25)
 have hT1 : TabOk (w.alloc (Obj.cells #[.int .i64 0, .slice none 0 0, .slice none 0 0] 25)) := hT.below hbl hT.1
 have HL := Lib.hid (leaf_calls A0 c0 l0 K i _ hT1 hK hi h32 o0 (Kd.C_alloc hr0 (Obj.cells #[.int .i64 0, .slice none 0 0, .slice none 0 0] 25)) hc0)
 rw [hM, hI] at HL
 have HB := Lib.hid (And.intro b0 hbl)
 clear b0 hbl hT1 hT hK hi h32 o0 hr0 hc0 hM hI
 obtain ⟨S, hS⟩ : ∃ S, leafS l0 K i = S := ⟨_, rfl⟩
 rw [hS] at HL ⊢
 clear hS
 go_enter Tryd.func14, Tryd.ntmps14
 go_wp2_with fail
 refine HL.out.mono ?_
 rintro e W1 ⟨v, rfl, hR, hb1⟩
 obtain ⟨A, c, rfl, hl, hC⟩ := Kd.R_reads hR
 have b1 := HB.out.1.below hb1 HB.out.1.lt
 have f0 := b1.frozen 0
 have f1 := b1.frozen 1
 have f2 := b1.frozen 2
 have c0' := b1.cell 0
 have c1' := b1.cell 1
 have c2' := b1.cell 2
 simp only [List.getElem?_toArray, List.getElem?_cons_succ, List.getElem?_cons_zero] at c0' c1' c2'
 have hbf := HB.out.2.trans (hb1.mono HB.out.2.size)
 have hg : ∀ a, A = some a → 0 < S.length → a.block ≠ w.heap.size := fun a ha h0 => by
  obtain ⟨g, cap, e, hg, -⟩ := Kd.R_form hR h0
  injection e with e
  rw [ha] at e
  injection e with e
  rw [e]
  have := hg
  simp at this
  show g ≠ w.heap.size
  omega
 have H1 := Lib.hid (And.intro hl (And.intro hC (And.intro b1 (And.intro hbf hg))))
 clear hR hb1 hl hC b1 hbf hg HL
 go_wp2
 have hbs : Below w.heap.size w (((W1.setCell ⟨w.heap.size, 0, none⟩ (.int .i64 0)).setCell ⟨w.heap.size, 1, none⟩ (.slice A S.length c)).setCell ⟨w.heap.size, 2, none⟩ (.slice none 0 0)) :=
  ((H1.out.2.2.2.1.setCell (p := ⟨w.heap.size, 0, none⟩) (Nat.le_refl _) _).setCell (p := ⟨w.heap.size, 1, none⟩) (Nat.le_refl _) _).setCell (p := ⟨w.heap.size, 2, none⟩) (Nat.le_refl _) _
 exact bodyPost_ret (results_chain_tmp rfl _ _ w.heap.size 25 #[.int .i64 0, .slice A S.length c, .slice none 0 0] (0, 0) _ rfl (((H1.out.2.2.1.set_ 0 _).set_ 1 _).set_ 2 _) Tryd.underlying25 rfl (by kernel_rfl)) rfl ⟨A, c, rfl, H1.out.1, C_sub H1.out.2.1 (fun h0 a ha => heap_set3 W1 w.heap.size _ _ _ _ (H1.out.2.2.2.2 a ha h0)), hbs⟩
end Go.Proofs.YtdklmafkcbjomaaDoor
