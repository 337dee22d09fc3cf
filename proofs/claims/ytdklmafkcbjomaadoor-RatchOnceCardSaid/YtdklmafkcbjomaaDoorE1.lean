/-
 The lower layers, walked and in closed forms, part 1: L0, L1, B0, B1, B2.
-/
import Derived.Test.YtdklmafkcbjomaaDoorProg
import Derived.Test.YtdklmafkcbjomaaDoorFWords
import Derived.Test.YtdklmafkcbjomaaDoorFLast
import Derived.Test.YtdklmafkcbjomaaDoorFMore
import Derived.Test.YtdklmafkcbjomaaDoorFRepsOne
import Derived.Below
import Derived.Deep.Draws
import Derived.Deep.AppendLies
import Derived.Maps.AppendAt
import Derived.OwnWalk
import Derived.Laws.BytesArg
import Derived.Laws.MakeOwn
import Derived.Laws.OwnMore
import Derived.Deep.OwnRows
import Derived.Tactics
import Derived.Lib.ConvBytes
import Derived.Laws.Slices
import Derived.WalkKit
import Derived.KernelRfl
import Derived.RowKit3
import Derived.Deep.LoopGhost
import Derived.Deep.QuietTactic
import Derived.BigQuiet
import Derived.WideLaws
import Derived.Deep.DeepCutAuto
import Derived.Deep.CutBlock
import Derived.Deep.RegionHeld3
import Derived.Laws.Rows
import Derived.Lib.AppendStr
import Derived.ArgAppend
import Derived.Laws.IdiomCopy
import Derived.OrdersHeld
import Derived.Laws.BitsLemmas
import Derived.RowKit
/-! L0 -/
namespace Go.Proofs.YtdklmafkcbjomaaDoor.L
open Go.RowKit Go.Proofs.YtdklmafkcbjomaaDoorW.PrintWords Go.Proofs.YtdklmafkcbjomaaDoorW.PrintLast Go.Proofs.YtdklmafkcbjomaaDoorW.PrintMore
attribute [local go_sem] max2_int min2_int max_two min_two max_three min_three max_four min_four   -- for this text's walks alone
set_option linter.unusedVariables false
set_option linter.unusedSimpArgs false
def errW : Option Int → Value
 | none => .nilIface
 | some c => .iface 0 (.int .i64 c)
theorem errW_none : errW none = .nilIface := rfl
theorem errW_some (c : Int) : errW (some c) = .iface 0 (.int .i64 c) := rfl
theorem info5 : (Tryd.prog.info? 5).map (fun i => (i.zero, i.size, i.bytes)) = some (some (.int .u8 0), 1, 1) := by kernel_rfl
-- the values' own types
end Go.Proofs.YtdklmafkcbjomaaDoor.L

/-! L1 -/
namespace Go.Proofs.YtdklmafkcbjomaaDoor.L
open Go.RowKit Go.Proofs.YtdklmafkcbjomaaDoorW.PrintWords Go.Proofs.YtdklmafkcbjomaaDoorW.PrintLast Go.Proofs.YtdklmafkcbjomaaDoorW.PrintMore
attribute [local go_sem] max2_int min2_int max_two min_two max_three min_three max_four min_four   -- for this text's walks alone
set_option linter.unusedVariables false
set_option linter.unusedSimpArgs false
/-! ### sha_Pad: function 92 -/
mutual
def sha_Pad.j0 : Nat → Int → Bool → Option (List Int)
 | 0, _, _ => none
 | k + 1, x0, x10 => if x10 = true then (some ([] : List Int)) else (if 0 ≤ (wrap64 (1 + (Int.tmod (wrap64 (119 - (Int.tmod x0 64))) 64))) then (if (wrap64 (1 + (Int.tmod (wrap64 (119 - (Int.tmod x0 64))) 64)) : Int).toNat ≤ 281474976710656 then ((some (List.replicate (wrap64 (1 + (Int.tmod (wrap64 (119 - (Int.tmod x0 64))) 64)) : Int).toNat 0 : List Int)).bind fun y101 => (if 0 < (y101.length : Int) then (sha_Pad.l0 k x0 (y101.set (0 : Int).toNat 128) 56) else (none))) else (none)) else (none))
def sha_Pad.l0 : Nat → Int → List Int → Int → Option (List Int)
 | 0, _, _, _ => none
 | k + 1, x0, x3, x4 => if x4 ≥ 0 then (if 0 ≤ x4 then (if x3.length < 140737488355328 then (sha_Pad.l0 k x0 (x3 ++ [(shr .i64 (wrap64 (x0 * 8)) x4) % 256]) (wrap64 (x4 - 8))) else (none)) else (none)) else (some x3)
end
def sha_Pad.f (k : Nat) (a0 : Int) : Option (List Int) := if a0 < 0 then (sha_Pad.j0 k a0 true) else (sha_Pad.j0 k a0 (decide (a0 > 1125899906842624)))
set_option maxHeartbeats 8000000 in
set_option maxRecDepth 100000 in
theorem sha_Pad.calls (k : Nat) (a0 : Int) (r : List Int) (w : World) (h : sha_Pad.f k a0 = some r) :
  Calls Tryd.prog 92 #[.int .i64 a0] w fun e w' => ∃ v0_ : Value, e = .returned (v0_) ∧ Kd.R (Kd.int .u8) 5 w' w.heap.size (fun _ => True) v0_ r ∧ Below w.heap.size w w' := by
 have HB := Aside0.mk (Below.refl w.heap.size w)
 have H : (if a0 < 0 then (sha_Pad.j0 k a0 true) else (sha_Pad.j0 k a0 (decide (a0 > 1125899906842624)))) = some r := h
 clear h
 have HC2 := Aside0.mk H
 clear H
 go_enter Tryd.func92, Tryd.ntmps92
 go_upto_region 1 with (fail)
 go_cut [10] (fun v10 wc => ∃ (kq : Nat) (x10_1 : Bool), v10 = .bool x10_1 ∧ Aside0 (sha_Pad.j0 kq a0 x10_1 = some r) ∧ Aside0 (kq ≤ k) ∧ Aside0 (Below w.heap.size w wc))
 case first =>
  have H := HC2.out
  clear HC2
  by_cases c3 : a0 < 0
  ·rw [if_pos c3] at H
   have c3b0 : decide (a0 < 0) = true := decide_eq_true c3
   clear c3
   (first | rw [c3b0] | (simp only [i64_w, i32_w]; rw [c3b0]) | skip)
   have H' := Aside0.mk H
   clear H
   go_wp2
   go_meet
   case rel => exact ⟨_, (true), (by first | rfl | (simp; done) | (simp [*]; done)), H', ⟨by first | omega | exact Nat.le_refl _⟩, ⟨by repeat (first | (with_reducible first | exact HB.out | apply below_alloc | apply pw_below_drewN | apply below_drew1) | exact HB.out)⟩⟩
  rw [if_neg c3] at H
  have c3b0 : decide (a0 < 0) = false := decide_eq_false c3
  clear c3
  (first | rw [c3b0] | (simp only [i64_w, i32_w]; rw [c3b0]) | skip)
  have H' := Aside0.mk H
  clear H
  go_wp2
  go_meet
  case rel => exact ⟨_, (decide (a0 > 1125899906842624)), (by first | rfl | (simp; done) | (simp [*]; done)), H', ⟨by first | omega | exact Nat.le_refl _⟩, ⟨by repeat (first | (with_reducible first | exact HB.out | apply below_alloc | apply pw_below_drewN | apply below_drew1) | exact HB.out)⟩⟩
 clear HC2
 try clear p2
 try clear c3
 try clear c3b0
 obtain ⟨kq, x10_1, rfl, HA, HJ1, HB⟩ := hcut
 cases kq with
 | zero => exact absurd HA.out (by simp [sha_Pad.j0])
 | succ kj1 =>
  have H := HA.out
  clear HA
  simp only [sha_Pad.j0] at H
  by_cases c4 : x10_1 = true
  ·subst c4
   have H1 : (some ([] : List Int)) = some r := by rw [if_pos rfl] at H; exact H
   clear H
   have H := H1
   clear H1
   obtain rfl := Option.some.inj H
   go_wp2
   go_ret
   exact ⟨_, by first | rfl | (simp [errW_none, errW_some] <;> rfl) | (simp [*, errW_none, errW_some] <;> rfl), by first | exact Kd.R_nil _ _ _ _ _ | exact Kd.N_nil _ _ _ _ _ | exact Kd.V_nil _ _ _ _ _ | exact Kd.Q_nil _ _ _ _ _ | exact Kd.S_nil _ _ _ _ _, by repeat (first | (with_reducible first | exact HB.out | apply below_alloc | apply pw_below_drewN | apply below_drew1) | exact HB.out)⟩
  replace c4 := Bool.eq_false_iff.mpr c4
  subst c4
  have H1 : (if 0 ≤ (wrap64 (1 + (Int.tmod (wrap64 (119 - (Int.tmod a0 64))) 64))) then (if (wrap64 (1 + (Int.tmod (wrap64 (119 - (Int.tmod a0 64))) 64)) : Int).toNat ≤ 281474976710656 then ((some (List.replicate (wrap64 (1 + (Int.tmod (wrap64 (119 - (Int.tmod a0 64))) 64)) : Int).toNat 0 : List Int)).bind fun y101 => (if 0 < (y101.length : Int) then (sha_Pad.l0 kj1 a0 (y101.set (0 : Int).toNat 128) 56) else (none))) else (none)) else (none)) = some r := by rw [if_neg (show ¬ (false = true) by decide)] at H; exact H
  clear H
  have H := H1
  clear H1
  obtain ⟨ji5, hji5⟩ : ∃ j_ : Int, (wrap64 (1 + (Int.tmod (wrap64 (119 - (Int.tmod a0 64))) 64))) = j_ := ⟨_, rfl⟩
  replace H : (if 0 ≤ (ji5) then (if (ji5 : Int).toNat ≤ 281474976710656 then ((some (List.replicate (ji5 : Int).toNat 0 : List Int)).bind fun y101 => (if 0 < (y101.length : Int) then (sha_Pad.l0 kj1 a0 (y101.set (0 : Int).toNat 128) 56) else (none))) else (none)) else (none)) = some r := by first | (rw [hji5] at H; exact H) | (simp only [hji5] at H ⊢; exact H)
  have hji5w : (IntKind.i64.wrap (1 + (Int.tmod (wrap64 (119 - (Int.tmod a0 64))) 64))) = ji5 := (i64_w _).trans hji5
  by_cases c6 : 0 ≤ (ji5)
  rotate_left
  ·rw [if_neg c6] at H
   exact absurd H (by simp)
  rw [if_pos c6] at H
  have c6b0 := eq_true c6
  have c6b1 : decide (0 ≤ (ji5)) = true := decide_eq_true c6
  clear c6
  by_cases c7 : (ji5 : Int).toNat ≤ 281474976710656
  rotate_left
  ·rw [if_neg c7] at H
   exact absurd H (by simp)
  rw [if_pos c7] at H
  have c7b0 := eq_true c7
  have c7b1 : decide ((ji5 : Int).toNat ≤ 281474976710656) = true := decide_eq_true c7
  clear c7
  obtain ⟨y101, hy101⟩ : ∃ y_ : List Int, y_ = (List.replicate (ji5 : Int).toNat 0) := ⟨_, rfl⟩
  replace H : (if 0 < (y101.length : Int) then (sha_Pad.l0 kj1 a0 (y101.set (0 : Int).toNat 128) 56) else (none)) = some r := by first | (rw [hy101]; with_reducible exact H) | (have H2_ := (Option.bind_some _ _).symm.trans H; rw [hy101]; with_reducible exact H2_) | (have H2_ := (Option.bind_some _ _).symm.trans H; with_reducible exact H2_) | with_reducible exact H | (rw [hy101]; exact H) | exact H
  have Ny101 := Aside0.mk hy101
  clear hy101
  by_cases c8 : 0 < (y101.length : Int)
  rotate_left
  ·rw [if_neg c8] at H
   exact absurd H (by simp)
  rw [if_pos c8] at H
  have c8b0 : decide (0 < (y101.length : Int)) = true := decide_eq_true c8
  have c8b1 : decide (0 < y101.length) = true := decide_eq_true (by omega)
  clear c8
  obtain ⟨y104, hy104⟩ : ∃ y_ : List Int, y_ = (y101.set (0 : Int).toNat 128) := ⟨_, rfl⟩
  replace H : (sha_Pad.l0 kj1 a0 y104 56) = some r := by first | (rw [hy104]; with_reducible exact H) | (have H2_ := (Option.bind_some _ _).symm.trans H; rw [hy104]; with_reducible exact H2_) | (have H2_ := (Option.bind_some _ _).symm.trans H; with_reducible exact H2_) | with_reducible exact H | (rw [hy104]; exact H) | exact H
  have Ny104 := Aside0.mk hy104
  clear hy104
  have H' := Aside0.mk H
  clear H
  go_wp2_with (first | ((with_reducible refine gate_dst (N := 16) rfl ?_); refine Kd.R_make (Kd.int .u8) _ 5 rfl (N := 16) rfl 22 _ _ rfl ji5 rfl rfl Tryd.underlying22 (.int .u8 0) 1 info5 rfl (by decide) (by omega) 0 (ok := fun _ => True) (okp := fun _ => True) rfl (fun _ hk => hk) trivial (of_decide_eq_true (by first | (with_reducible assumption) | assumption)) (Nat.le_trans (Nat.mul_le_mul_right _ (of_decide_eq_true (by first | (with_reducible assumption) | assumption) : ji5.toNat ≤ 281474976710656)) (by omega)) (Below.refl _ _) (Nat.le_refl _) ?_; intro v102 w10 ho11 hb hg_ hnew_; clear hg_ hnew_; (first | rw [← Ny101.out] at ho11 | (simp only [Int.reduceToNat] at ho11; rw [← Ny101.out] at ho11)); have n0_ := Aside0.mk (Kd.R_lower ho11 (below_size (by repeat (first | (with_reducible first | exact HB.out | apply below_alloc | apply pw_below_drewN | apply below_drew1) | exact HB.out)))); have n1_ := Aside0.mk (below_step (by repeat (first | (with_reducible first | exact HB.out | apply below_alloc | apply pw_below_drewN | apply below_drew1) | exact HB.out)) hb); clear HB; have HO103 := n0_; have HB := n1_; clear n0_ n1_; clear hb ho11; have p9 : 0 ≤ (0 : Int) := (by omega); have q9 : (0 : Int) < ((y101.length : Int) : Int) := of_decide_eq_true (by first | (with_reducible assumption) | assumption); have qi9 : (0 < y101.length) = True := eq_true (by omega); obtain ⟨go9, co9, eo9, gb9, gl9, cl9, HG9⟩ := Kd.R_form HO103.out (by omega); (first | cases eo9 | (injection eo9 with ea_ en_ ec_; (first | subst ea_ | (injection ea_ with ea_; subst ea_)); subst ec_; clear en_)); have GB9 := Aside0.mk gb9; have GG9 := Aside0.mk HG9; clear gb9 gl9 HG9; obtain ⟨hx9_0, hf9_0⟩ := Kd.R_celln 0 HO103.out (0 : Int) p9 q9; (try rw [show ((0 : Int)).toNat = 0 from rfl] at hx9_0); (try simp only [Nat.reduceMul, Nat.zero_mul, Nat.zero_add, Nat.reduceAdd] at hx9_0); (try rw [show ((0 : Int)).toNat = 0 from rfl] at hf9_0); (try simp only [Nat.reduceMul, Nat.zero_mul, Nat.zero_add, Nat.reduceAdd] at hf9_0); replace p9 := eq_true p9; replace q9 := eq_true q9; obtain ⟨hy12_, hz12_⟩ := Kd.R_celln 0 HO103.out (0 : Int) (by omega) (of_decide_eq_true (by first | (with_reducible assumption) | assumption)); (try simp only [Int.reduceToNat, Int.toNat_zero, Int.toNat_ofNat, Nat.reduceMul, Nat.zero_mul, Nat.zero_add] at hy12_ hz12_); (try rw [show ((0 : Int)).toNat = 0 from rfl] at hy12_); (try rw [show ((0 : Int)).toNat = 0 from rfl] at hz12_); have HP12 := Kd.R_putg HO103.out (0 : Int) 128) | ((with_reducible refine gate_store (t := 5) (p := 18) rfl ?_); refine store_event (t := 5) (p := 18) (v := ?vo_w13) (w1 := (w10.setCell ⟨go9, (0 : Int).toNat, none⟩ (.int .u8 128))) ?hg ?ho ?hn ?hr ?_; (case ho => rfl); (case hg => rfl); (case hn => rfl); (case hr => first | (go_simp; done) | (go_simp; rfl)); intro w13 hw; have hg : w10.grownBy w13 (some go9) := (by rw [hw]; exact HP12.2); have hp_ : Kd.R (Kd.int .u8) 5 w13 w.heap.size (fun _ => True) (.slice (some ⟨go9, 0, none⟩) y101.length co9) y104 := (by rw [hw, Ny104.out]; exact HP12.1); clear HP12; have n0_ := Aside0.mk (hp_); have n1_ := Aside0.mk ((by rw [hw]; exact below_set (HB.out) GB9.out : Below w.heap.size w w13)); clear HO103; clear HB; have HO103 := n0_; have HB := n1_; clear n0_ n1_; clear hg hw hp_))
  go_loopg [3, 4] kj1 (fun kq v3 v4 w' => ∃ (x3_2 : List Int) (x4_2 : Int), v4 = .int .i64 x4_2 ∧ Aside0 (sha_Pad.l0 kq a0 x3_2 x4_2 = some r) ∧ Aside0 (kq ≤ kj1) ∧ Aside0 (Kd.R (Kd.int .u8) 5 w' w.heap.size (fun _ => True) v3 x3_2) ∧ Aside0 (Below w.heap.size w w'))
  case atStart => exact ⟨(y104), (56), (by first | rfl | (simp; done) | (simp [*]; done)), H', ⟨Nat.le_refl _⟩, ⟨by (with_reducible repeat (first | apply Kd.R_alloc | apply Kd.R_drewN | apply Kd.R_drew)); exact HO103.out⟩, ⟨by repeat (first | (with_reducible first | exact HB.out | apply below_alloc | apply pw_below_drewN | apply below_drew1) | exact HB.out)⟩⟩
  clear H'
  try clear p2
  try clear c3
  try clear c3b0
  try clear c4
  try clear c6
  try clear c6b0
  try clear c6b1
  try clear p6
  try clear c7
  try clear c7b0
  try clear c7b1
  try clear c8
  try clear c8b0
  try clear c8b1
  try clear c9
  try clear p9
  try clear q9
  try clear hx9
  try clear qi9
  try clear hf9
  try clear hx9_0
  try clear p2
  try clear p9
  try clear q9
  obtain ⟨x3_2, x4_2, rfl, HA, HK2, HO_3, HB⟩ := hrel
  cases gk with
  | zero => exact absurd HA.out (by simp [sha_Pad.l0])
  | succ k2 =>
   have H := HA.out
   clear HA
   simp only [sha_Pad.l0] at H
   by_cases c14 : x4_2 ≥ 0
   rotate_left
   ·rw [if_neg c14] at H
    have c14b0 : decide (0 ≤ x4_2) = false := decide_eq_false c14
    clear c14
    obtain rfl := Option.some.inj H
    go_wp2
    go_ret
    exact ⟨_, by first | rfl | (simp [errW_none, errW_some] <;> rfl) | (simp only [← hji5]; first | rfl | (simp [errW_none, errW_some] <;> rfl)) | (simp [*, errW_none, errW_some] <;> rfl), by (with_reducible repeat (first | apply Kd.R_alloc | apply Kd.R_drewN | apply Kd.R_drew)); exact HO_3.out, by repeat (first | (with_reducible first | exact HB.out | apply below_alloc | apply pw_below_drewN | apply below_drew1) | exact HB.out)⟩
   rw [if_pos c14] at H
   have c14b0 : decide (0 ≤ x4_2) = true := decide_eq_true c14
   clear c14
   by_cases c15 : 0 ≤ x4_2
   rotate_left
   ·rw [if_neg c15] at H
    exact absurd H (by simp)
   rw [if_pos c15] at H
   have c15b0 := eq_true c15
   have c15b1 : decide (0 ≤ x4_2) = true := decide_eq_true c15
   clear c15
   obtain ⟨ji16, hji16⟩ : ∃ j_ : Int, (shr .i64 (wrap64 (a0 * 8)) x4_2) = j_ := ⟨_, rfl⟩
   replace H : (if x3_2.length < 140737488355328 then (sha_Pad.l0 k2 a0 (x3_2 ++ [(ji16) % 256]) (wrap64 (x4_2 - 8))) else (none)) = some r := by first | (rw [hji16] at H; exact H) | (simp only [hji16] at H ⊢; exact H)
   have hji16_ : ((wrap64 (a0 * 8)) / 2 ^ min x4_2.toNat 64) = ji16 := hji16
   have hji16z : x4_2 ≤ 64 → ((wrap64 (a0 * 8)) / 2 ^ x4_2.toNat) = ji16 := shr_small hji16
   by_cases c17 : x3_2.length < 140737488355328
   rotate_left
   ·rw [if_neg c17] at H
    exact absurd H (by simp)
   rw [if_pos c17] at H
   have LMc17 := Aside0.mk c17
   clear c17
   obtain ⟨y105, hy105⟩ : ∃ y_ : List Int, y_ = (x3_2 ++ [(ji16) % 256]) := ⟨_, rfl⟩
   replace H : (sha_Pad.l0 k2 a0 y105 (wrap64 (x4_2 - 8))) = some r := by first | (rw [hy105]; with_reducible exact H) | (have H2_ := (Option.bind_some _ _).symm.trans H; rw [hy105]; with_reducible exact H2_) | (have H2_ := (Option.bind_some _ _).symm.trans H; with_reducible exact H2_) | with_reducible exact H | (rw [hy105]; exact H) | exact H
   have Ny105 := Aside0.mk hy105
   clear hy105
   have H' := Aside0.mk H
   clear H
   go_wp2_with (first | ((with_reducible refine gate_builtin (b := .append) (xs := #[.tmp 23, .tmp 29]) rfl ?_); at_builtin; refine Kd.R_append (Kd.int .u8) (w0 := w) w.heap.size rfl (.tmp 23) (.tmp 29) 22 5 (.int .u8 0) 1 rfl Tryd.underlying22 info5 rfl (by decide) (by omega) u3 x3_2 ((ji16) % 256) [.int .u8 ((ji16) % 256)] (fun _ => True) (fun _ => False) rfl rfl ?aP (fun _ hk => hk.elim) ?aF ?aO ?aB ?aS ?aL ?_; (case aP => exact rfl); (case aB => exact (by repeat (first | (with_reducible first | exact HB.out | apply below_alloc | apply pw_below_drewN | apply below_drew1) | exact HB.out))); (case aF => exact (fun _ _ => trivial)); (case aO => exact (by (with_reducible repeat (first | apply Kd.R_alloc | apply Kd.R_drewN | apply Kd.R_drew)); exact HO_3.out)); (case aS => exact (below_size (by repeat (first | (with_reducible first | exact HB.out | apply below_alloc | apply pw_below_drewN | apply below_drew1) | exact HB.out)))); (case aL => have := LMc17.out; omega); intro v106 w18 ho hb hg hat; rw [← Ny105.out] at ho; have n0_ := Aside0.mk (hb); have n1_ := Aside0.mk (ho); clear HB; clear HO_3; have HB := n0_; have HO107 := n1_; clear n0_ n1_; clear ho hb hg hat))
   go_roundg k2
   case measure => have := HJ1.out; have := HK2.out; omega
   case rel => exact ⟨(y105), (wrap64 (x4_2 - 8)), (by first | rfl | (simp; done) | (simp [*]; done)), H', ⟨by have := HJ1.out; have := HK2.out; omega⟩, ⟨by (with_reducible repeat (first | apply Kd.R_alloc | apply Kd.R_drewN | apply Kd.R_drew)); exact HO107.out⟩, ⟨by repeat (first | (with_reducible first | exact HB.out | apply below_alloc | apply pw_below_drewN | apply below_drew1) | exact HB.out)⟩⟩
/-! ### pyxref01_Same: function 16 -/
def pyxref01_Same.f (l0 : List Int) (l1 : List Int) : Option (Bool) := some ((strOfNums l0).toList == (strOfNums l1).toList)
set_option maxHeartbeats 8000000 in
set_option maxRecDepth 100000 in
theorem pyxref01_Same.calls (A0 : Option Addr) (c0 : Nat) (l0 : List Int) (A1 : Option Addr) (c1 : Nat) (l1 : List Int) (r : Bool) (w : World) (hr0 : Kd.C (Kd.int .u8) w A0 l0.length l0) (hc0 : l0.length ≤ c0) (hr1 : Kd.C (Kd.int .u8) w A1 l1.length l1) (hc1 : l1.length ≤ c1) (h : pyxref01_Same.f l0 l1 = some r) :
  Calls Tryd.prog 16 #[.slice A0 l0.length c0, .slice A1 l1.length c1] w fun e w' => e = .returned (.bool r) ∧ Drawn0 w w' := by
 have HR0 := Aside0.mk hr0
 have HC0 := Aside0.mk hc0
 clear hr0 hc0
 have HR1 := Aside0.mk hr1
 have HC1 := Aside0.mk hc1
 clear hr1 hc1
 have H : (some ((strOfNums l0).toList == (strOfNums l1).toList)) = some r := h
 clear h
 obtain rfl := Option.some.inj H
 have hcv3 := Kd.C_string (P := Tryd.prog) (A := A0) (c := c0) Tryd.underlying22 Tryd.underlying5 Tryd.underlying9 HR0.out
 have hcv4 := Kd.C_string (P := Tryd.prog) (A := A1) (c := c1) Tryd.underlying22 Tryd.underlying5 Tryd.underlying9 HR1.out
 go_enter Tryd.func16, Tryd.ntmps16
 go_wp2
 go_ret
 exact ⟨by first | rfl | (simp; done) | (simp [*]; done), by repeat (first | exact Drawn0.refl _ | apply Drawn0.step)⟩
/-! ### pyxref02_keys: function 74 -/
def pyxref02_keys.f  : Option (List Int) := some (([1116352408, 1899447441, 3049323471, 3921009573, 961987163, 1508970993, 2453635748, 2870763221, 3624381080, 310598401, 607225278, 1426881987, 1925078388, 2162078206, 2614888103, 3248222580, 3835390401, 4022224774, 264347078, 604807628, 770255983, 1249150122, 1555081692, 1996064986, 2554220882, 2821834349, 2952996808, 3210313671, 3336571891, 3584528711, 113926993, 338241895, 666307205, 773529912, 1294757372, 1396182291, 1695183700, 1986661051, 2177026350, 2456956037, 2730485921, 2820302411, 3259730800, 3345764771, 3516065817, 3600352804, 4094571909, 275423344, 430227734, 506948616, 659060556, 883997877, 958139571, 1322822218, 1537002063, 1747873779, 1955562222, 2024104815, 2227730452, 2361852424, 2428436474, 2756734187, 3204031479, 3329325298] : List Int))
set_option maxHeartbeats 8000000 in
set_option maxRecDepth 100000 in
theorem pyxref02_keys.calls  (r : List Int) (w : World) (h : pyxref02_keys.f  = some r) :
  Calls Tryd.prog 74 #[] w fun e w' => ∃ v0_ : Value, e = .returned (v0_) ∧ Kd.R (Kd.int .u32) 104 w' w.heap.size (fun _ => True) v0_ r ∧ Below w.heap.size w w' := by
 have HB := Aside0.mk (Below.refl w.heap.size w)
 have H : (some (([1116352408, 1899447441, 3049323471, 3921009573, 961987163, 1508970993, 2453635748, 2870763221, 3624381080, 310598401, 607225278, 1426881987, 1925078388, 2162078206, 2614888103, 3248222580, 3835390401, 4022224774, 264347078, 604807628, 770255983, 1249150122, 1555081692, 1996064986, 2554220882, 2821834349, 2952996808, 3210313671, 3336571891, 3584528711, 113926993, 338241895, 666307205, 773529912, 1294757372, 1396182291, 1695183700, 1986661051, 2177026350, 2456956037, 2730485921, 2820302411, 3259730800, 3345764771, 3516065817, 3600352804, 4094571909, 275423344, 430227734, 506948616, 659060556, 883997877, 958139571, 1322822218, 1537002063, 1747873779, 1955562222, 2024104815, 2227730452, 2361852424, 2428436474, 2756734187, 3204031479, 3329325298] : List Int))) = some r := h
 clear h
 obtain ⟨y108, hy108⟩ : ∃ y_ : List Int, y_ = (([1116352408, 1899447441, 3049323471, 3921009573, 961987163, 1508970993, 2453635748, 2870763221, 3624381080, 310598401, 607225278, 1426881987, 1925078388, 2162078206, 2614888103, 3248222580, 3835390401, 4022224774, 264347078, 604807628, 770255983, 1249150122, 1555081692, 1996064986, 2554220882, 2821834349, 2952996808, 3210313671, 3336571891, 3584528711, 113926993, 338241895, 666307205, 773529912, 1294757372, 1396182291, 1695183700, 1986661051, 2177026350, 2456956037, 2730485921, 2820302411, 3259730800, 3345764771, 3516065817, 3600352804, 4094571909, 275423344, 430227734, 506948616, 659060556, 883997877, 958139571, 1322822218, 1537002063, 1747873779, 1955562222, 2024104815, 2227730452, 2361852424, 2428436474, 2756734187, 3204031479, 3329325298] : List Int)) := ⟨_, rfl⟩
 replace H : (some y108) = some r := by first | (rw [hy108]; with_reducible exact H) | (have H2_ := (Option.bind_some _ _).symm.trans H; rw [hy108]; with_reducible exact H2_) | (have H2_ := (Option.bind_some _ _).symm.trans H; with_reducible exact H2_) | with_reducible exact H | (rw [hy108]; exact H) | exact H
 have Ny108 := Aside0.mk hy108
 clear hy108
 obtain rfl := Option.some.inj H
 go_enter Tryd.func74, Tryd.ntmps74
 go_wp2_with (first | ((with_reducible refine gate_dst (N := 1) rfl ?_); refine Kd.R_lit (Kd.int .u32) _ 104 ?hg (N := 1) ?hd (xs := ([1116352408, 1899447441, 3049323471, 3921009573, 961987163, 1508970993, 2453635748, 2870763221, 3624381080, 310598401, 607225278, 1426881987, 1925078388, 2162078206, 2614888103, 3248222580, 3835390401, 4022224774, 264347078, 604807628, 770255983, 1249150122, 1555081692, 1996064986, 2554220882, 2821834349, 2952996808, 3210313671, 3336571891, 3584528711, 113926993, 338241895, 666307205, 773529912, 1294757372, 1396182291, 1695183700, 1986661051, 2177026350, 2456956037, 2730485921, 2820302411, 3259730800, 3345764771, 3516065817, 3600352804, 4094571909, 275423344, 430227734, 506948616, 659060556, 883997877, 958139571, 1322822218, 1537002063, 1747873779, 1955562222, 2024104815, 2227730452, 2361852424, 2428436474, 2756734187, 3204031479, 3329325298] : List Int)) (inner := [.int .u32 1116352408, .int .u32 1899447441, .int .u32 3049323471, .int .u32 3921009573, .int .u32 961987163, .int .u32 1508970993, .int .u32 2453635748, .int .u32 2870763221, .int .u32 3624381080, .int .u32 310598401, .int .u32 607225278, .int .u32 1426881987, .int .u32 1925078388, .int .u32 2162078206, .int .u32 2614888103, .int .u32 3248222580, .int .u32 3835390401, .int .u32 4022224774, .int .u32 264347078, .int .u32 604807628, .int .u32 770255983, .int .u32 1249150122, .int .u32 1555081692, .int .u32 1996064986, .int .u32 2554220882, .int .u32 2821834349, .int .u32 2952996808, .int .u32 3210313671, .int .u32 3336571891, .int .u32 3584528711, .int .u32 113926993, .int .u32 338241895, .int .u32 666307205, .int .u32 773529912, .int .u32 1294757372, .int .u32 1396182291, .int .u32 1695183700, .int .u32 1986661051, .int .u32 2177026350, .int .u32 2456956037, .int .u32 2730485921, .int .u32 2820302411, .int .u32 3259730800, .int .u32 3345764771, .int .u32 3516065817, .int .u32 3600352804, .int .u32 4094571909, .int .u32 275423344, .int .u32 430227734, .int .u32 506948616, .int .u32 659060556, .int .u32 883997877, .int .u32 958139571, .int .u32 1322822218, .int .u32 1537002063, .int .u32 1747873779, .int .u32 1955562222, .int .u32 2024104815, .int .u32 2227730452, .int .u32 2361852424, .int .u32 2428436474, .int .u32 2756734187, .int .u32 3204031479, .int .u32 3329325298]) (ok := fun _ => True) (okp := fun _ => True) ?hr ?hp (fun _ hk => hk) trivial (Below.refl _ _) (Nat.le_refl _) (by simp) ?_; (case hd => rfl); (case hg => rfl); (case hr => first | (go_simp; done) | (go_simp; rfl)); (case hp => exact (Reps.one (show Kd.M (Kd.int .u32) _ _ _ 1116352408 [.int .u32 1116352408] from rfl) (Reps.one (show Kd.M (Kd.int .u32) _ _ _ 1899447441 [.int .u32 1899447441] from rfl) (Reps.one (show Kd.M (Kd.int .u32) _ _ _ 3049323471 [.int .u32 3049323471] from rfl) (Reps.one (show Kd.M (Kd.int .u32) _ _ _ 3921009573 [.int .u32 3921009573] from rfl) (Reps.one (show Kd.M (Kd.int .u32) _ _ _ 961987163 [.int .u32 961987163] from rfl) (Reps.one (show Kd.M (Kd.int .u32) _ _ _ 1508970993 [.int .u32 1508970993] from rfl) (Reps.one (show Kd.M (Kd.int .u32) _ _ _ 2453635748 [.int .u32 2453635748] from rfl) (Reps.one (show Kd.M (Kd.int .u32) _ _ _ 2870763221 [.int .u32 2870763221] from rfl) (Reps.one (show Kd.M (Kd.int .u32) _ _ _ 3624381080 [.int .u32 3624381080] from rfl) (Reps.one (show Kd.M (Kd.int .u32) _ _ _ 310598401 [.int .u32 310598401] from rfl) (Reps.one (show Kd.M (Kd.int .u32) _ _ _ 607225278 [.int .u32 607225278] from rfl) (Reps.one (show Kd.M (Kd.int .u32) _ _ _ 1426881987 [.int .u32 1426881987] from rfl) (Reps.one (show Kd.M (Kd.int .u32) _ _ _ 1925078388 [.int .u32 1925078388] from rfl) (Reps.one (show Kd.M (Kd.int .u32) _ _ _ 2162078206 [.int .u32 2162078206] from rfl) (Reps.one (show Kd.M (Kd.int .u32) _ _ _ 2614888103 [.int .u32 2614888103] from rfl) (Reps.one (show Kd.M (Kd.int .u32) _ _ _ 3248222580 [.int .u32 3248222580] from rfl) (Reps.one (show Kd.M (Kd.int .u32) _ _ _ 3835390401 [.int .u32 3835390401] from rfl) (Reps.one (show Kd.M (Kd.int .u32) _ _ _ 4022224774 [.int .u32 4022224774] from rfl) (Reps.one (show Kd.M (Kd.int .u32) _ _ _ 264347078 [.int .u32 264347078] from rfl) (Reps.one (show Kd.M (Kd.int .u32) _ _ _ 604807628 [.int .u32 604807628] from rfl) (Reps.one (show Kd.M (Kd.int .u32) _ _ _ 770255983 [.int .u32 770255983] from rfl) (Reps.one (show Kd.M (Kd.int .u32) _ _ _ 1249150122 [.int .u32 1249150122] from rfl) (Reps.one (show Kd.M (Kd.int .u32) _ _ _ 1555081692 [.int .u32 1555081692] from rfl) (Reps.one (show Kd.M (Kd.int .u32) _ _ _ 1996064986 [.int .u32 1996064986] from rfl) (Reps.one (show Kd.M (Kd.int .u32) _ _ _ 2554220882 [.int .u32 2554220882] from rfl) (Reps.one (show Kd.M (Kd.int .u32) _ _ _ 2821834349 [.int .u32 2821834349] from rfl) (Reps.one (show Kd.M (Kd.int .u32) _ _ _ 2952996808 [.int .u32 2952996808] from rfl) (Reps.one (show Kd.M (Kd.int .u32) _ _ _ 3210313671 [.int .u32 3210313671] from rfl) (Reps.one (show Kd.M (Kd.int .u32) _ _ _ 3336571891 [.int .u32 3336571891] from rfl) (Reps.one (show Kd.M (Kd.int .u32) _ _ _ 3584528711 [.int .u32 3584528711] from rfl) (Reps.one (show Kd.M (Kd.int .u32) _ _ _ 113926993 [.int .u32 113926993] from rfl) (Reps.one (show Kd.M (Kd.int .u32) _ _ _ 338241895 [.int .u32 338241895] from rfl) (Reps.one (show Kd.M (Kd.int .u32) _ _ _ 666307205 [.int .u32 666307205] from rfl) (Reps.one (show Kd.M (Kd.int .u32) _ _ _ 773529912 [.int .u32 773529912] from rfl) (Reps.one (show Kd.M (Kd.int .u32) _ _ _ 1294757372 [.int .u32 1294757372] from rfl) (Reps.one (show Kd.M (Kd.int .u32) _ _ _ 1396182291 [.int .u32 1396182291] from rfl) (Reps.one (show Kd.M (Kd.int .u32) _ _ _ 1695183700 [.int .u32 1695183700] from rfl) (Reps.one (show Kd.M (Kd.int .u32) _ _ _ 1986661051 [.int .u32 1986661051] from rfl) (Reps.one (show Kd.M (Kd.int .u32) _ _ _ 2177026350 [.int .u32 2177026350] from rfl) (Reps.one (show Kd.M (Kd.int .u32) _ _ _ 2456956037 [.int .u32 2456956037] from rfl) (Reps.one (show Kd.M (Kd.int .u32) _ _ _ 2730485921 [.int .u32 2730485921] from rfl) (Reps.one (show Kd.M (Kd.int .u32) _ _ _ 2820302411 [.int .u32 2820302411] from rfl) (Reps.one (show Kd.M (Kd.int .u32) _ _ _ 3259730800 [.int .u32 3259730800] from rfl) (Reps.one (show Kd.M (Kd.int .u32) _ _ _ 3345764771 [.int .u32 3345764771] from rfl) (Reps.one (show Kd.M (Kd.int .u32) _ _ _ 3516065817 [.int .u32 3516065817] from rfl) (Reps.one (show Kd.M (Kd.int .u32) _ _ _ 3600352804 [.int .u32 3600352804] from rfl) (Reps.one (show Kd.M (Kd.int .u32) _ _ _ 4094571909 [.int .u32 4094571909] from rfl) (Reps.one (show Kd.M (Kd.int .u32) _ _ _ 275423344 [.int .u32 275423344] from rfl) (Reps.one (show Kd.M (Kd.int .u32) _ _ _ 430227734 [.int .u32 430227734] from rfl) (Reps.one (show Kd.M (Kd.int .u32) _ _ _ 506948616 [.int .u32 506948616] from rfl) (Reps.one (show Kd.M (Kd.int .u32) _ _ _ 659060556 [.int .u32 659060556] from rfl) (Reps.one (show Kd.M (Kd.int .u32) _ _ _ 883997877 [.int .u32 883997877] from rfl) (Reps.one (show Kd.M (Kd.int .u32) _ _ _ 958139571 [.int .u32 958139571] from rfl) (Reps.one (show Kd.M (Kd.int .u32) _ _ _ 1322822218 [.int .u32 1322822218] from rfl) (Reps.one (show Kd.M (Kd.int .u32) _ _ _ 1537002063 [.int .u32 1537002063] from rfl) (Reps.one (show Kd.M (Kd.int .u32) _ _ _ 1747873779 [.int .u32 1747873779] from rfl) (Reps.one (show Kd.M (Kd.int .u32) _ _ _ 1955562222 [.int .u32 1955562222] from rfl) (Reps.one (show Kd.M (Kd.int .u32) _ _ _ 2024104815 [.int .u32 2024104815] from rfl) (Reps.one (show Kd.M (Kd.int .u32) _ _ _ 2227730452 [.int .u32 2227730452] from rfl) (Reps.one (show Kd.M (Kd.int .u32) _ _ _ 2361852424 [.int .u32 2361852424] from rfl) (Reps.one (show Kd.M (Kd.int .u32) _ _ _ 2428436474 [.int .u32 2428436474] from rfl) (Reps.one (show Kd.M (Kd.int .u32) _ _ _ 2756734187 [.int .u32 2756734187] from rfl) (Reps.one (show Kd.M (Kd.int .u32) _ _ _ 3204031479 [.int .u32 3204031479] from rfl) (Reps.one (show Kd.M (Kd.int .u32) _ _ _ 3329325298 [.int .u32 3329325298] from rfl) (Reps.none _ _)))))))))))))))))))))))))))))))))))))))))))))))))))))))))))))))))); intro v109 w1 ho2 hb hg_ hnew_; clear hg_ hnew_; (first | rw [← Ny108.out] at ho2 | (simp only [Int.reduceToNat] at ho2; rw [← Ny108.out] at ho2)); have n0_ := Aside0.mk (Kd.R_lower ho2 (below_size (by repeat (first | (with_reducible first | exact HB.out | apply below_alloc | apply pw_below_drewN | apply below_drew1) | exact HB.out)))); have n1_ := Aside0.mk (below_step (by repeat (first | (with_reducible first | exact HB.out | apply below_alloc | apply pw_below_drewN | apply below_drew1) | exact HB.out)) hb); clear HB; have HO110 := n0_; have HB := n1_; clear n0_ n1_; clear hb ho2))
 go_ret
 exact ⟨_, by first | rfl | (simp [errW_none, errW_some] <;> rfl) | (simp [*, errW_none, errW_some] <;> rfl), by (with_reducible repeat (first | apply Kd.R_alloc | apply Kd.R_drewN | apply Kd.R_drew)); exact HO110.out, by repeat (first | (with_reducible first | exact HB.out | apply below_alloc | apply pw_below_drewN | apply below_drew1) | exact HB.out)⟩
/-! ### pyxref02_word: function 82 -/
def pyxref02_word.f (l0 : List Int) (a1 : Int) : Option (Int) := if 0 ≤ a1 then (if a1 < (l0.length : Int) then (if 0 ≤ (wrap64 (a1 + 1)) then (if (wrap64 (a1 + 1)) < (l0.length : Int) then (if 0 ≤ (wrap64 (a1 + 2)) then (if (wrap64 (a1 + 2)) < (l0.length : Int) then (if 0 ≤ (wrap64 (a1 + 3)) then (if (wrap64 (a1 + 3)) < (l0.length : Int) then (some ((((((((((rd l0 a1) % 4294967296) * 16777216) % 4294967296) + ((((rd l0 (wrap64 (a1 + 1))) % 4294967296) * 65536) % 4294967296)) % 4294967296) + ((((rd l0 (wrap64 (a1 + 2))) % 4294967296) * 256) % 4294967296)) % 4294967296) + ((rd l0 (wrap64 (a1 + 3))) % 4294967296)) % 4294967296)) else (none)) else (none)) else (none)) else (none)) else (none)) else (none)) else (none)) else (none)
set_option maxHeartbeats 8000000 in
set_option maxRecDepth 100000 in
theorem pyxref02_word.calls (A0 : Option Addr) (c0 : Nat) (l0 : List Int) (a1 : Int) (r : Int) (w : World) (hr0 : Kd.C (Kd.int .u8) w A0 l0.length l0) (hc0 : l0.length ≤ c0) (h : pyxref02_word.f l0 a1 = some r) :
  Calls Tryd.prog 82 #[.slice A0 l0.length c0, .int .i64 a1] w fun e w' => e = .returned (.int .u32 r) ∧ Drawn0 w w' := by
 have HR0 := Aside0.mk hr0
 have HC0 := Aside0.mk hc0
 clear hr0 hc0
 have H : (if 0 ≤ a1 then (if a1 < (l0.length : Int) then (if 0 ≤ (wrap64 (a1 + 1)) then (if (wrap64 (a1 + 1)) < (l0.length : Int) then (if 0 ≤ (wrap64 (a1 + 2)) then (if (wrap64 (a1 + 2)) < (l0.length : Int) then (if 0 ≤ (wrap64 (a1 + 3)) then (if (wrap64 (a1 + 3)) < (l0.length : Int) then (some ((((((((((rd l0 a1) % 4294967296) * 16777216) % 4294967296) + ((((rd l0 (wrap64 (a1 + 1))) % 4294967296) * 65536) % 4294967296)) % 4294967296) + ((((rd l0 (wrap64 (a1 + 2))) % 4294967296) * 256) % 4294967296)) % 4294967296) + ((rd l0 (wrap64 (a1 + 3))) % 4294967296)) % 4294967296)) else (none)) else (none)) else (none)) else (none)) else (none)) else (none)) else (none)) else (none)) = some r := h
 clear h
 by_cases c3 : 0 ≤ a1
 rotate_left
 ·rw [if_neg c3] at H
  exact absurd H (by simp)
 rw [if_pos c3] at H
 have c3b0 : decide (0 ≤ a1) = true := decide_eq_true c3
 clear c3
 by_cases c4 : a1 < (l0.length : Int)
 rotate_left
 ·rw [if_neg c4] at H
  exact absurd H (by simp)
 rw [if_pos c4] at H
 have c4b0 : decide (a1 < (l0.length : Int)) = true := decide_eq_true c4
 clear c4
 obtain ⟨ji5, hji5⟩ : ∃ j_ : Int, (wrap64 (a1 + 1)) = j_ := ⟨_, rfl⟩
 replace H : (if 0 ≤ (ji5) then (if (ji5) < (l0.length : Int) then (if 0 ≤ (wrap64 (a1 + 2)) then (if (wrap64 (a1 + 2)) < (l0.length : Int) then (if 0 ≤ (wrap64 (a1 + 3)) then (if (wrap64 (a1 + 3)) < (l0.length : Int) then (some ((((((((((rd l0 a1) % 4294967296) * 16777216) % 4294967296) + ((((rd l0 (ji5)) % 4294967296) * 65536) % 4294967296)) % 4294967296) + ((((rd l0 (wrap64 (a1 + 2))) % 4294967296) * 256) % 4294967296)) % 4294967296) + ((rd l0 (wrap64 (a1 + 3))) % 4294967296)) % 4294967296)) else (none)) else (none)) else (none)) else (none)) else (none)) else (none)) = some r := by first | (rw [hji5] at H; exact H) | (simp only [hji5] at H ⊢; exact H)
 have hji5w : (IntKind.i64.wrap (a1 + 1)) = ji5 := (i64_w _).trans hji5
 by_cases c6 : 0 ≤ (ji5)
 rotate_left
 ·rw [if_neg c6] at H
  exact absurd H (by simp)
 rw [if_pos c6] at H
 have c6b0 : decide (0 ≤ (ji5)) = true := decide_eq_true c6
 clear c6
 by_cases c7 : (ji5) < (l0.length : Int)
 rotate_left
 ·rw [if_neg c7] at H
  exact absurd H (by simp)
 rw [if_pos c7] at H
 have c7b0 : decide ((ji5) < (l0.length : Int)) = true := decide_eq_true c7
 clear c7
 obtain ⟨ji8, hji8⟩ : ∃ j_ : Int, (wrap64 (a1 + 2)) = j_ := ⟨_, rfl⟩
 replace H : (if 0 ≤ (ji8) then (if (ji8) < (l0.length : Int) then (if 0 ≤ (wrap64 (a1 + 3)) then (if (wrap64 (a1 + 3)) < (l0.length : Int) then (some ((((((((((rd l0 a1) % 4294967296) * 16777216) % 4294967296) + ((((rd l0 (ji5)) % 4294967296) * 65536) % 4294967296)) % 4294967296) + ((((rd l0 (ji8)) % 4294967296) * 256) % 4294967296)) % 4294967296) + ((rd l0 (wrap64 (a1 + 3))) % 4294967296)) % 4294967296)) else (none)) else (none)) else (none)) else (none)) = some r := by first | (rw [hji8] at H; exact H) | (simp only [hji8] at H ⊢; exact H)
 have hji8w : (IntKind.i64.wrap (a1 + 2)) = ji8 := (i64_w _).trans hji8
 by_cases c9 : 0 ≤ (ji8)
 rotate_left
 ·rw [if_neg c9] at H
  exact absurd H (by simp)
 rw [if_pos c9] at H
 have c9b0 : decide (0 ≤ (ji8)) = true := decide_eq_true c9
 clear c9
 by_cases c10 : (ji8) < (l0.length : Int)
 rotate_left
 ·rw [if_neg c10] at H
  exact absurd H (by simp)
 rw [if_pos c10] at H
 have c10b0 : decide ((ji8) < (l0.length : Int)) = true := decide_eq_true c10
 clear c10
 obtain ⟨ji11, hji11⟩ : ∃ j_ : Int, (wrap64 (a1 + 3)) = j_ := ⟨_, rfl⟩
 replace H : (if 0 ≤ (ji11) then (if (ji11) < (l0.length : Int) then (some ((((((((((rd l0 a1) % 4294967296) * 16777216) % 4294967296) + ((((rd l0 (ji5)) % 4294967296) * 65536) % 4294967296)) % 4294967296) + ((((rd l0 (ji8)) % 4294967296) * 256) % 4294967296)) % 4294967296) + ((rd l0 (ji11)) % 4294967296)) % 4294967296)) else (none)) else (none)) = some r := by first | (rw [hji11] at H; exact H) | (simp only [hji11] at H ⊢; exact H)
 have hji11w : (IntKind.i64.wrap (a1 + 3)) = ji11 := (i64_w _).trans hji11
 by_cases c12 : 0 ≤ (ji11)
 rotate_left
 ·rw [if_neg c12] at H
  exact absurd H (by simp)
 rw [if_pos c12] at H
 have c12b0 : decide (0 ≤ (ji11)) = true := decide_eq_true c12
 clear c12
 by_cases c13 : (ji11) < (l0.length : Int)
 rotate_left
 ·rw [if_neg c13] at H
  exact absurd H (by simp)
 rw [if_pos c13] at H
 have c13b0 : decide ((ji11) < (l0.length : Int)) = true := decide_eq_true c13
 clear c13
 obtain rfl := Option.some.inj H
 have p111 : 0 ≤ (a1 : Int) := of_decide_eq_true (by first | (with_reducible assumption) | assumption)
 have q111 : a1 < (l0.length : Int) := of_decide_eq_true (by first | (with_reducible assumption) | assumption)
 obtain ⟨ad111, e111, hx111_0⟩ := Kd.at_int HR0.out a1 p111 q111
 cases e111
 replace p111 := eq_true p111
 replace q111 := eq_true q111
 have p112 : 0 ≤ ((ji5) : Int) := of_decide_eq_true (by first | (with_reducible assumption) | assumption)
 have q112 : (ji5) < (l0.length : Int) := of_decide_eq_true (by first | (with_reducible assumption) | assumption)
 obtain ⟨ad112, e112, hx112_0⟩ := Kd.at_int HR0.out (ji5) p112 q112
 obtain rfl : ad111 = ad112 := (by injection e112)
 replace p112 := eq_true p112
 replace q112 := eq_true q112
 have p113 : 0 ≤ ((ji8) : Int) := of_decide_eq_true (by first | (with_reducible assumption) | assumption)
 have q113 : (ji8) < (l0.length : Int) := of_decide_eq_true (by first | (with_reducible assumption) | assumption)
 obtain ⟨ad113, e113, hx113_0⟩ := Kd.at_int HR0.out (ji8) p113 q113
 obtain rfl : ad111 = ad113 := (by injection e113)
 replace p113 := eq_true p113
 replace q113 := eq_true q113
 have p114 : 0 ≤ ((ji11) : Int) := of_decide_eq_true (by first | (with_reducible assumption) | assumption)
 have q114 : (ji11) < (l0.length : Int) := of_decide_eq_true (by first | (with_reducible assumption) | assumption)
 obtain ⟨ad114, e114, hx114_0⟩ := Kd.at_int HR0.out (ji11) p114 q114
 obtain rfl : ad111 = ad114 := (by injection e114)
 replace p114 := eq_true p114
 replace q114 := eq_true q114
 go_enter Tryd.func82, Tryd.ntmps82
 go_wp2
 repeat (go_quiet (fail); try go_wp2)
 go_ret
 exact ⟨by first | rfl | (simp; done) | (simp only [← hji5, ← hji8, ← hji11] <;> (first | rfl | simp)) | (simp [*]; done), by repeat (first | exact Drawn0.refl _ | apply Drawn0.step)⟩
/-! ### pyxref02_Pad: function 73 -/
mutual
def pyxref02_Pad.j0 : Nat → Int → Bool → Option (List Int)
 | 0, _, _ => none
 | k + 1, x0, x11 => if x11 = true then (some ([] : List Int)) else (pyxref02_Pad.l0 k x0 (([128] : List Int)))
def pyxref02_Pad.l0 : Nat → Int → List Int → Option (List Int)
 | 0, _, _ => none
 | k + 1, x0, x3 => if (Int.tmod (wrap64 ((wrap64 (x0 + (x3.length : Int))) + 8)) 64) = 0 then (pyxref02_Pad.l1 k x3 (wrap64 (8 * x0)) 56) else (if x3.length < 140737488355328 then (pyxref02_Pad.l0 k x0 (x3 ++ [0])) else (none))
def pyxref02_Pad.l1 : Nat → List Int → Int → Int → Option (List Int)
 | 0, _, _, _ => none
 | k + 1, x3, x4, x5 => if x5 ≥ 0 then (if 0 ≤ (IntKind.u64.wrap (x5)) then (if x3.length < 140737488355328 then (pyxref02_Pad.l1 k (x3 ++ [(shr .i64 x4 (IntKind.u64.wrap (x5))) % 256]) x4 (wrap64 (x5 - 8))) else (none)) else (none)) else (some x3)
end
def pyxref02_Pad.f (k : Nat) (a0 : Int) : Option (List Int) := if a0 < 0 then (pyxref02_Pad.j0 k a0 true) else (pyxref02_Pad.j0 k a0 (decide (a0 > 1125899906842624)))
theorem pyxref02_Pad.mono_l : ∀ k, (∀ y0 y1, LeO (pyxref02_Pad.j0 k y0 y1) (pyxref02_Pad.j0 (k + 1) y0 y1)) ∧ (∀ y0 y1, LeO (pyxref02_Pad.l0 k y0 y1) (pyxref02_Pad.l0 (k + 1) y0 y1)) ∧ (∀ y0 y1 y2, LeO (pyxref02_Pad.l1 k y0 y1 y2) (pyxref02_Pad.l1 (k + 1) y0 y1 y2))
 | 0 => ⟨fun _ _ r h => by simp [pyxref02_Pad.j0] at h, fun _ _ r h => by simp [pyxref02_Pad.l0] at h, fun _ _ _ r h => by simp [pyxref02_Pad.l1] at h⟩
 | k + 1 => by
  obtain ⟨ih0, ih1, ih2⟩ := pyxref02_Pad.mono_l k
  refine ⟨?_, ?_, ?_⟩
  ·intro y0 y1
   unfold pyxref02_Pad.j0
   repeat' first
   | (with_reducible exact ih0 _ _)
   | (with_reducible exact ih1 _ _)
   | (with_reducible exact ih2 _ _ _)
   | (with_reducible exact LeO.refl _)
   | (with_reducible exact LeO.none _)
   | (with_reducible refine LeO.ite ?_ ?_)
   | (with_reducible refine LeO.bind ?_ (fun _ => ?_))
   | exact ih0 _ _
   | exact ih1 _ _
   | exact ih2 _ _ _
   | exact LeO.none _
   | refine LeO.ite ?_ ?_
   | refine LeO.bind ?_ (fun _ => ?_)
  ·intro y0 y1
   unfold pyxref02_Pad.l0
   repeat' first
   | (with_reducible exact ih0 _ _)
   | (with_reducible exact ih1 _ _)
   | (with_reducible exact ih2 _ _ _)
   | (with_reducible exact LeO.refl _)
   | (with_reducible exact LeO.none _)
   | (with_reducible refine LeO.ite ?_ ?_)
   | (with_reducible refine LeO.bind ?_ (fun _ => ?_))
   | exact ih0 _ _
   | exact ih1 _ _
   | exact ih2 _ _ _
   | exact LeO.none _
   | refine LeO.ite ?_ ?_
   | refine LeO.bind ?_ (fun _ => ?_)
  ·intro y0 y1 y2
   unfold pyxref02_Pad.l1
   repeat' first
   | (with_reducible exact ih0 _ _)
   | (with_reducible exact ih1 _ _)
   | (with_reducible exact ih2 _ _ _)
   | (with_reducible exact LeO.refl _)
   | (with_reducible exact LeO.none _)
   | (with_reducible refine LeO.ite ?_ ?_)
   | (with_reducible refine LeO.bind ?_ (fun _ => ?_))
   | exact ih0 _ _
   | exact ih1 _ _
   | exact ih2 _ _ _
   | exact LeO.none _
   | refine LeO.ite ?_ ?_
   | refine LeO.bind ?_ (fun _ => ?_)
set_option maxHeartbeats 8000000 in
set_option maxRecDepth 100000 in
theorem pyxref02_Pad.calls (k : Nat) (a0 : Int) (r : List Int) (w : World) (h : pyxref02_Pad.f k a0 = some r) :
  Calls Tryd.prog 73 #[.int .i64 a0] w fun e w' => ∃ v0_ : Value, e = .returned (v0_) ∧ Kd.R (Kd.int .u8) 5 w' w.heap.size (fun _ => True) v0_ r ∧ Below w.heap.size w w' := by
 have HB := Aside0.mk (Below.refl w.heap.size w)
 have H : (if a0 < 0 then (pyxref02_Pad.j0 k a0 true) else (pyxref02_Pad.j0 k a0 (decide (a0 > 1125899906842624)))) = some r := h
 clear h
 have HC2 := Aside0.mk H
 clear H
 go_enter Tryd.func73, Tryd.ntmps73
 go_upto_region 1 with (fail)
 go_cut [11] (fun v11 wc => ∃ (kq : Nat) (x11_1 : Bool), v11 = .bool x11_1 ∧ Aside0 (pyxref02_Pad.j0 kq a0 x11_1 = some r) ∧ Aside0 (kq ≤ k) ∧ Aside0 (Below w.heap.size w wc))
 case first =>
  have H := HC2.out
  clear HC2
  by_cases c3 : a0 < 0
  ·rw [if_pos c3] at H
   have c3b0 : decide (a0 < 0) = true := decide_eq_true c3
   clear c3
   (first | rw [c3b0] | (simp only [i64_w, i32_w]; rw [c3b0]) | skip)
   have H' := Aside0.mk H
   clear H
   go_wp2
   go_meet
   case rel => exact ⟨_, (true), (by first | rfl | (simp; done) | (simp [*]; done)), H', ⟨by first | omega | exact Nat.le_refl _⟩, ⟨by repeat (first | (with_reducible first | exact HB.out | apply below_alloc | apply pw_below_drewN | apply below_drew1) | exact HB.out)⟩⟩
  rw [if_neg c3] at H
  have c3b0 : decide (a0 < 0) = false := decide_eq_false c3
  clear c3
  (first | rw [c3b0] | (simp only [i64_w, i32_w]; rw [c3b0]) | skip)
  have H' := Aside0.mk H
  clear H
  go_wp2
  go_meet
  case rel => exact ⟨_, (decide (a0 > 1125899906842624)), (by first | rfl | (simp; done) | (simp [*]; done)), H', ⟨by first | omega | exact Nat.le_refl _⟩, ⟨by repeat (first | (with_reducible first | exact HB.out | apply below_alloc | apply pw_below_drewN | apply below_drew1) | exact HB.out)⟩⟩
 clear HC2
 try clear p2
 try clear c3
 try clear c3b0
 obtain ⟨kq, x11_1, rfl, HA, HJ1, HB⟩ := hcut
 cases kq with
 | zero => exact absurd HA.out (by simp [pyxref02_Pad.j0])
 | succ kj1 =>
  have H := HA.out
  clear HA
  simp only [pyxref02_Pad.j0] at H
  by_cases c4 : x11_1 = true
  ·subst c4
   have H1 : (some ([] : List Int)) = some r := by rw [if_pos rfl] at H; exact H
   clear H
   have H := H1
   clear H1
   obtain rfl := Option.some.inj H
   go_wp2
   go_ret
   exact ⟨_, by first | rfl | (simp [errW_none, errW_some] <;> rfl) | (simp [*, errW_none, errW_some] <;> rfl), by first | exact Kd.R_nil _ _ _ _ _ | exact Kd.N_nil _ _ _ _ _ | exact Kd.V_nil _ _ _ _ _ | exact Kd.Q_nil _ _ _ _ _ | exact Kd.S_nil _ _ _ _ _, by repeat (first | (with_reducible first | exact HB.out | apply below_alloc | apply pw_below_drewN | apply below_drew1) | exact HB.out)⟩
  replace c4 := Bool.eq_false_iff.mpr c4
  subst c4
  have H1 : (pyxref02_Pad.l0 kj1 a0 (([128] : List Int))) = some r := by rw [if_neg (show ¬ (false = true) by decide)] at H; exact H
  clear H
  have H := H1
  clear H1
  obtain ⟨y115, hy115⟩ : ∃ y_ : List Int, y_ = (([128] : List Int)) := ⟨_, rfl⟩
  replace H : (pyxref02_Pad.l0 kj1 a0 y115) = some r := by first | (rw [hy115]; with_reducible exact H) | (have H2_ := (Option.bind_some _ _).symm.trans H; rw [hy115]; with_reducible exact H2_) | (have H2_ := (Option.bind_some _ _).symm.trans H; with_reducible exact H2_) | with_reducible exact H | (rw [hy115]; exact H) | exact H
  have Ny115 := Aside0.mk hy115
  clear hy115
  have H' := Aside0.mk H
  clear H
  go_wp2_with (first | ((with_reducible refine gate_dst (N := 12) rfl ?_); refine Kd.R_lit (Kd.int .u8) _ 5 ?hg (N := 12) ?hd (xs := ([128] : List Int)) (inner := [.int .u8 128]) (ok := fun _ => True) (okp := fun _ => True) ?hr ?hp (fun _ hk => hk) trivial (Below.refl _ _) (Nat.le_refl _) (by simp) ?_; (case hd => rfl); (case hg => rfl); (case hr => first | (go_simp; done) | (go_simp; rfl)); (case hp => exact (Reps.one (show Kd.M (Kd.int .u8) _ _ _ 128 [.int .u8 128] from rfl) (Reps.none _ _))); intro v116 w5 ho6 hb hg_ hnew_; clear hg_ hnew_; (first | rw [← Ny115.out] at ho6 | (simp only [Int.reduceToNat] at ho6; rw [← Ny115.out] at ho6)); have n0_ := Aside0.mk (Kd.R_lower ho6 (below_size (by repeat (first | (with_reducible first | exact HB.out | apply below_alloc | apply pw_below_drewN | apply below_drew1) | exact HB.out)))); have n1_ := Aside0.mk (below_step (by repeat (first | (with_reducible first | exact HB.out | apply below_alloc | apply pw_below_drewN | apply below_drew1) | exact HB.out)) hb); clear HB; have HO117 := n0_; have HB := n1_; clear n0_ n1_; clear hb ho6))
  go_loopg [3] kj1 (fun kq v3 w' => ∃ (x3_2 : List Int), Aside0 (pyxref02_Pad.l0 kq a0 x3_2 = some r) ∧ Aside0 (kq ≤ kj1) ∧ Aside0 (Kd.R (Kd.int .u8) 5 w' w.heap.size (fun _ => True) v3 x3_2) ∧ Aside0 (Below w.heap.size w w'))
  case atStart => exact ⟨(y115), H', ⟨Nat.le_refl _⟩, ⟨by (with_reducible repeat (first | apply Kd.R_alloc | apply Kd.R_drewN | apply Kd.R_drew)); exact HO117.out⟩, ⟨by repeat (first | (with_reducible first | exact HB.out | apply below_alloc | apply pw_below_drewN | apply below_drew1) | exact HB.out)⟩⟩
  clear H'
  try clear p2
  try clear c3
  try clear c3b0
  try clear c4
  try clear p2
  obtain ⟨x3_2, HA, HK2, HO_3, HB⟩ := hrel
  cases gk with
  | zero => exact absurd HA.out (by simp [pyxref02_Pad.l0])
  | succ k2 =>
   have H := HA.out
   clear HA
   simp only [pyxref02_Pad.l0] at H
   by_cases c7 : (Int.tmod (wrap64 ((wrap64 (a0 + (x3_2.length : Int))) + 8)) 64) = 0
   rotate_left
   ·rw [if_neg c7] at H
    have c7b0 : ((Int.tmod (wrap64 ((wrap64 (a0 + (x3_2.length : Int))) + 8)) 64) == 0) = false := beq_eq_false_iff_ne.mpr c7
    have c7b1 : ((Int.tmod (wrap64 ((wrap64 (a0 + (x3_2.length : Int))) + 8)) 64) != 0) = true := bne_iff_ne.mpr c7
    by_cases c15 : x3_2.length < 140737488355328
    rotate_left
    ·rw [if_neg c15] at H
     exact absurd H (by simp)
    rw [if_pos c15] at H
    have LMc15 := Aside0.mk c15
    clear c15
    obtain ⟨y118, hy118⟩ : ∃ y_ : List Int, y_ = (x3_2 ++ [0]) := ⟨_, rfl⟩
    replace H : (pyxref02_Pad.l0 k2 a0 y118) = some r := by first | (rw [hy118]; with_reducible exact H) | (have H2_ := (Option.bind_some _ _).symm.trans H; rw [hy118]; with_reducible exact H2_) | (have H2_ := (Option.bind_some _ _).symm.trans H; with_reducible exact H2_) | with_reducible exact H | (rw [hy118]; exact H) | exact H
    have Ny118 := Aside0.mk hy118
    clear hy118
    have H' := Aside0.mk H
    clear H
    obtain ⟨Ao16, co16, eo16⟩ := Kd.R_slice HO_3.out
    subst eo16
    go_wp2_with (first | ((with_reducible refine gate_builtin (b := .append) (xs := #[.tmp 20, .tmp 21]) rfl ?_); at_builtin; refine Kd.R_append (Kd.int .u8) (w0 := w) w.heap.size rfl (.tmp 20) (.tmp 21) 22 5 (.int .u8 0) 1 rfl Tryd.underlying22 info5 rfl (by decide) (by omega) (.slice Ao16 x3_2.length co16) x3_2 0 [.int .u8 0] (fun _ => True) (fun _ => False) rfl rfl ?aP (fun _ hk => hk.elim) ?aF ?aO ?aB ?aS ?aL ?_; (case aP => exact rfl); (case aB => exact (by repeat (first | (with_reducible first | exact HB.out | apply below_alloc | apply pw_below_drewN | apply below_drew1) | exact HB.out))); (case aF => exact (fun _ _ => trivial)); (case aO => exact (by (with_reducible repeat (first | apply Kd.R_alloc | apply Kd.R_drewN | apply Kd.R_drew)); exact HO_3.out)); (case aS => exact (below_size (by repeat (first | (with_reducible first | exact HB.out | apply below_alloc | apply pw_below_drewN | apply below_drew1) | exact HB.out)))); (case aL => have := LMc15.out; omega); intro v119 w17 ho hb hg hat; rw [← Ny118.out] at ho; have n0_ := Aside0.mk (hb); have n1_ := Aside0.mk (ho); clear HB; clear HO_3; have HB := n0_; have HO120 := n1_; clear n0_ n1_; clear ho hb hg hat))
    go_roundg k2
    case measure => have := HJ1.out; have := HK2.out; omega
    case rel => exact ⟨(y118), H', ⟨by have := HJ1.out; have := HK2.out; omega⟩, ⟨by (with_reducible repeat (first | apply Kd.R_alloc | apply Kd.R_drewN | apply Kd.R_drew)); exact HO120.out⟩, ⟨by repeat (first | (with_reducible first | exact HB.out | apply below_alloc | apply pw_below_drewN | apply below_drew1) | exact HB.out)⟩⟩
   rw [if_pos c7] at H
   have c7b0 : ((Int.tmod (wrap64 ((wrap64 (a0 + (x3_2.length : Int))) + 8)) 64) == 0) = true := beq_iff_eq.mpr c7
   have c7b1 : ((Int.tmod (wrap64 ((wrap64 (a0 + (x3_2.length : Int))) + 8)) 64) != 0) = false := bne_eq_false_iff_eq.mpr c7
   clear c7
   have H' := Aside0.mk H
   clear H
   obtain ⟨Ao8, co8, eo8⟩ := Kd.R_slice HO_3.out
   subst eo8
   go_wp2
   go_loopg [3, 5] k2 (fun kq v3 v5 w' => ∃ (x3_3 : List Int) (x5_3 : Int), v5 = .int .i64 x5_3 ∧ Aside0 (pyxref02_Pad.l1 kq x3_3 (wrap64 (8 * a0)) x5_3 = some r) ∧ Aside0 (kq ≤ k2) ∧ Aside0 (Kd.R (Kd.int .u8) 5 w' w.heap.size (fun _ => True) v3 x3_3) ∧ Aside0 (Below w.heap.size w w'))
   case atStart => exact ⟨(x3_2), (56), (by first | rfl | (simp; done) | (simp [*]; done)), H', ⟨Nat.le_refl _⟩, ⟨by (with_reducible repeat (first | apply Kd.R_alloc | apply Kd.R_drewN | apply Kd.R_drew)); exact HO_3.out⟩, ⟨by repeat (first | (with_reducible first | exact HB.out | apply below_alloc | apply pw_below_drewN | apply below_drew1) | exact HB.out)⟩⟩
   clear H'
   try clear p2
   try clear c3
   try clear c3b0
   try clear c4
   try clear p6
   try clear c7
   try clear c7b0
   try clear c7b1
   try clear p2
   obtain ⟨x3_3, x5_3, rfl, HA, HK3, HO_3, HB⟩ := hrel
   cases gk with
   | zero => exact absurd HA.out (by simp [pyxref02_Pad.l1])
   | succ k3 =>
    have H := HA.out
    clear HA
    simp only [pyxref02_Pad.l1] at H
    by_cases c9 : x5_3 ≥ 0
    rotate_left
    ·rw [if_neg c9] at H
     have c9b0 : decide (0 ≤ x5_3) = false := decide_eq_false c9
     clear c9
     obtain rfl := Option.some.inj H
     go_wp2
     go_ret
     exact ⟨_, by first | rfl | (simp [errW_none, errW_some] <;> rfl) | (simp [*, errW_none, errW_some] <;> rfl), by (with_reducible repeat (first | apply Kd.R_alloc | apply Kd.R_drewN | apply Kd.R_drew)); exact HO_3.out, by repeat (first | (with_reducible first | exact HB.out | apply below_alloc | apply pw_below_drewN | apply below_drew1) | exact HB.out)⟩
    rw [if_pos c9] at H
    have c9b0 : decide (0 ≤ x5_3) = true := decide_eq_true c9
    clear c9
    obtain ⟨ji10, hji10⟩ : ∃ j_ : Int, (IntKind.u64.wrap (x5_3)) = j_ := ⟨_, rfl⟩
    replace H : (if 0 ≤ (ji10) then (if x3_3.length < 140737488355328 then (pyxref02_Pad.l1 k3 (x3_3 ++ [(shr .i64 (wrap64 (8 * a0)) (ji10)) % 256]) (wrap64 (8 * a0)) (wrap64 (x5_3 - 8))) else (none)) else (none)) = some r := by first | (rw [hji10] at H; exact H) | (simp only [hji10] at H ⊢; exact H)
    by_cases c11 : 0 ≤ (ji10)
    rotate_left
    ·rw [if_neg c11] at H
     exact absurd H (by simp)
    rw [if_pos c11] at H
    have c11b0 := eq_true c11
    have c11b1 : decide (0 ≤ (ji10)) = true := decide_eq_true c11
    clear c11
    obtain ⟨ji12, hji12⟩ : ∃ j_ : Int, (shr .i64 (wrap64 (8 * a0)) (ji10)) = j_ := ⟨_, rfl⟩
    replace H : (if x3_3.length < 140737488355328 then (pyxref02_Pad.l1 k3 (x3_3 ++ [(ji12) % 256]) (wrap64 (8 * a0)) (wrap64 (x5_3 - 8))) else (none)) = some r := by first | (rw [hji12] at H; exact H) | (simp only [hji12] at H ⊢; exact H)
    have hji12_ : ((wrap64 (8 * a0)) / 2 ^ min (ji10).toNat 64) = ji12 := hji12
    have hji12z : (ji10) ≤ 64 → ((wrap64 (8 * a0)) / 2 ^ (ji10).toNat) = ji12 := shr_small hji12
    by_cases c13 : x3_3.length < 140737488355328
    rotate_left
    ·rw [if_neg c13] at H
     exact absurd H (by simp)
    rw [if_pos c13] at H
    have LMc13 := Aside0.mk c13
    clear c13
    obtain ⟨y121, hy121⟩ : ∃ y_ : List Int, y_ = (x3_3 ++ [(ji12) % 256]) := ⟨_, rfl⟩
    replace H : (pyxref02_Pad.l1 k3 y121 (wrap64 (8 * a0)) (wrap64 (x5_3 - 8))) = some r := by first | (rw [hy121]; with_reducible exact H) | (have H2_ := (Option.bind_some _ _).symm.trans H; rw [hy121]; with_reducible exact H2_) | (have H2_ := (Option.bind_some _ _).symm.trans H; with_reducible exact H2_) | with_reducible exact H | (rw [hy121]; exact H) | exact H
    have Ny121 := Aside0.mk hy121
    clear hy121
    have H' := Aside0.mk H
    clear H
    go_wp2_with (first | ((with_reducible refine gate_builtin (b := .append) (xs := #[.tmp 29, .tmp 35]) rfl ?_); at_builtin; refine Kd.R_append (Kd.int .u8) (w0 := w) w.heap.size rfl (.tmp 29) (.tmp 35) 22 5 (.int .u8 0) 1 rfl Tryd.underlying22 info5 rfl (by decide) (by omega) u3 x3_3 ((ji12) % 256) [.int .u8 ((ji12) % 256)] (fun _ => True) (fun _ => False) rfl rfl ?aP (fun _ hk => hk.elim) ?aF ?aO ?aB ?aS ?aL ?_; (case aP => exact rfl); (case aB => exact (by repeat (first | (with_reducible first | exact HB.out | apply below_alloc | apply pw_below_drewN | apply below_drew1) | exact HB.out))); (case aF => exact (fun _ _ => trivial)); (case aO => exact (by (with_reducible repeat (first | apply Kd.R_alloc | apply Kd.R_drewN | apply Kd.R_drew)); exact HO_3.out)); (case aS => exact (below_size (by repeat (first | (with_reducible first | exact HB.out | apply below_alloc | apply pw_below_drewN | apply below_drew1) | exact HB.out)))); (case aL => have := LMc13.out; omega); intro v122 w14 ho hb hg hat; rw [← Ny121.out] at ho; have n0_ := Aside0.mk (hb); have n1_ := Aside0.mk (ho); clear HB; clear HO_3; have HB := n0_; have HO123 := n1_; clear n0_ n1_; clear ho hb hg hat))
    go_roundg k3
    case measure => have := HJ1.out; have := HK2.out; have := HK3.out; omega
    case rel => exact ⟨(y121), (wrap64 (x5_3 - 8)), (by first | rfl | (simp; done) | (simp [*]; done)), H', ⟨by have := HJ1.out; have := HK2.out; have := HK3.out; omega⟩, ⟨by (with_reducible repeat (first | apply Kd.R_alloc | apply Kd.R_drewN | apply Kd.R_drew)); exact HO123.out⟩, ⟨by repeat (first | (with_reducible first | exact HB.out | apply below_alloc | apply pw_below_drewN | apply below_drew1) | exact HB.out)⟩⟩
end Go.Proofs.YtdklmafkcbjomaaDoor.L

/-! B0 -/
namespace Go.Proofs.YtdklmafkcbjomaaDoor.B
open Go.RowKit Go.Proofs.YtdklmafkcbjomaaDoorW.PrintWords Go.Proofs.YtdklmafkcbjomaaDoorW.PrintLast Go.Proofs.YtdklmafkcbjomaaDoorW.PrintMore
attribute [local go_sem] max2_int min2_int max_two min_two max_three min_three max_four min_four   -- for this text's walks alone
set_option linter.unusedVariables false
set_option linter.unusedSimpArgs false
def errW : Option Int → Value
 | none => .nilIface
 | some c => .iface 0 (.int .i64 c)
theorem errW_none : errW none = .nilIface := rfl
theorem errW_some (c : Int) : errW (some c) = .iface 0 (.int .i64 c) := rfl
theorem info5 : (Tryd.prog.info? 5).map (fun i => (i.zero, i.size, i.bytes)) = some (some (.int .u8 0), 1, 1) := by kernel_rfl
-- the values' own types
end Go.Proofs.YtdklmafkcbjomaaDoor.B

/-! B1 -/
namespace Go.Proofs.YtdklmafkcbjomaaDoor.B
open Go.RowKit Go.Proofs.YtdklmafkcbjomaaDoorW.PrintWords Go.Proofs.YtdklmafkcbjomaaDoorW.PrintLast Go.Proofs.YtdklmafkcbjomaaDoorW.PrintMore
attribute [local go_sem] max2_int min2_int max_two min_two max_three min_three max_four min_four   -- for this text's walks alone
set_option linter.unusedVariables false
set_option linter.unusedSimpArgs false
/-! ### byt_Num: function 56 -/
mutual
def byt_Num.j0 : Nat → Int → Int → Bool → Option (List Int × Int)
 | 0, _, _, _ => none
 | k + 1, x0, x1, x24 => if x24 = true then (some (([] : List Int), 1)) else (if 0 ≤ x1 then (if (x1 : Int).toNat ≤ 281474976710656 then ((some (List.replicate (x1 : Int).toNat 0 : List Int)).bind fun y101 => (byt_Num.l0 k x0 x1 y101 (y101.length : Int) 0)) else (none)) else (none))
def byt_Num.l0 : Nat → Int → Int → List Int → Int → Int → Option (List Int × Int)
 | 0, _, _, _, _, _ => none
 | k + 1, x0, x1, x6, x28, x29 => if x29 < x28 then (if 0 ≤ (wrap64 (8 * (wrap64 ((wrap64 (x1 - 1)) - x29)))) then (if 0 ≤ x29 then (if x29 < (x6.length : Int) then (byt_Num.l0 k x0 x1 (x6.set (x29 : Int).toNat ((shr .i64 x0 (wrap64 (8 * (wrap64 ((wrap64 (x1 - 1)) - x29))))) % 256)) x28 (wrap64 (x29 + 1))) else (none)) else (none)) else (none)) else (some (x6, 0))
end
def byt_Num.f (k : Nat) (a0 : Int) (a1 : Int) : Option (List Int × Int) := if a1 < 1 then (byt_Num.j0 k a0 a1 true) else (if a1 > 7 then (byt_Num.j0 k a0 a1 true) else (if a0 < 0 then (byt_Num.j0 k a0 a1 true) else (if 0 ≤ (wrap64 (8 * a1)) then (byt_Num.j0 k a0 a1 (decide ((shr .i64 a0 (wrap64 (8 * a1))) > 0))) else (none))))
set_option maxHeartbeats 8000000 in
set_option maxRecDepth 100000 in
theorem byt_Num.calls (k : Nat) (a0 : Int) (a1 : Int) (r1 : List Int) (r2 : Int) (w : World) (h : byt_Num.f k a0 a1 = some (r1, r2)) :
  Calls Tryd.prog 56 #[.int .i64 a0, .int .i64 a1] w fun e w' => ∃ v0_ : Value, e = .returned (.tuple #[v0_, .int .i64 r2]) ∧ Kd.R (Kd.int .u8) 5 w' w.heap.size (fun _ => True) v0_ r1 ∧ Below w.heap.size w w' := by
 have HB := Aside0.mk (Below.refl w.heap.size w)
 have H : (if a1 < 1 then (byt_Num.j0 k a0 a1 true) else (if a1 > 7 then (byt_Num.j0 k a0 a1 true) else (if a0 < 0 then (byt_Num.j0 k a0 a1 true) else (if 0 ≤ (wrap64 (8 * a1)) then (byt_Num.j0 k a0 a1 (decide ((shr .i64 a0 (wrap64 (8 * a1))) > 0))) else (none))))) = some (r1, r2) := h
 clear h
 have HC3 := Aside0.mk H
 clear H
 go_enter Tryd.func56, Tryd.ntmps56
 go_upto_region 1 with (fail)
 go_cut [24] (fun v24 wc => ∃ (kq : Nat) (x24_2 : Bool), v24 = .bool x24_2 ∧ Aside0 (byt_Num.j0 kq a0 a1 x24_2 = some (r1, r2)) ∧ Aside0 (kq ≤ k) ∧ Aside0 (Below w.heap.size w wc))
 case first =>
  have H := HC3.out
  clear HC3
  by_cases c4 : a1 < 1
  ·rw [if_pos c4] at H
   have c4b0 : decide (a1 < 1) = true := decide_eq_true c4
   clear c4
   (first | rw [c4b0] | (simp only [i64_w, i32_w]; rw [c4b0]) | skip)
   have H' := Aside0.mk H
   clear H
   go_wp2
   go_meet
   case rel => exact ⟨_, (true), (by first | rfl | (simp; done) | (simp [*]; done)), H', ⟨by first | omega | exact Nat.le_refl _⟩, ⟨by repeat (first | (with_reducible first | exact HB.out | apply below_alloc | apply pw_below_drewN | apply below_drew1) | exact HB.out)⟩⟩
  rw [if_neg c4] at H
  have c4b0 : decide (a1 < 1) = false := decide_eq_false c4
  clear c4
  (first | rw [c4b0] | (simp only [i64_w, i32_w]; rw [c4b0]) | skip)
  by_cases c5 : a1 > 7
  ·rw [if_pos c5] at H
   have c5b0 : decide (7 < a1) = true := decide_eq_true c5
   clear c5
   have H' := Aside0.mk H
   clear H
   go_wp2
   go_meet
   case rel => exact ⟨_, (true), (by first | rfl | (simp; done) | (simp [*]; done)), H', ⟨by first | omega | exact Nat.le_refl _⟩, ⟨by repeat (first | (with_reducible first | exact HB.out | apply below_alloc | apply pw_below_drewN | apply below_drew1) | exact HB.out)⟩⟩
  rw [if_neg c5] at H
  have c5b0 : decide (7 < a1) = false := decide_eq_false c5
  clear c5
  by_cases c6 : a0 < 0
  ·rw [if_pos c6] at H
   have c6b0 : decide (a0 < 0) = true := decide_eq_true c6
   clear c6
   have H' := Aside0.mk H
   clear H
   go_wp2
   go_meet
   case rel => exact ⟨_, (true), (by first | rfl | (simp; done) | (simp [*]; done)), H', ⟨by first | omega | exact Nat.le_refl _⟩, ⟨by repeat (first | (with_reducible first | exact HB.out | apply below_alloc | apply pw_below_drewN | apply below_drew1) | exact HB.out)⟩⟩
  rw [if_neg c6] at H
  have c6b0 : decide (a0 < 0) = false := decide_eq_false c6
  clear c6
  obtain ⟨ji7, hji7⟩ : ∃ j_ : Int, (wrap64 (8 * a1)) = j_ := ⟨_, rfl⟩
  replace H : (if 0 ≤ (ji7) then (byt_Num.j0 k a0 a1 (decide ((shr .i64 a0 (ji7)) > 0))) else (none)) = some (r1, r2) := by first | (rw [hji7] at H; exact H) | (simp only [hji7] at H ⊢; exact H)
  have hji7w : (IntKind.i64.wrap (8 * a1)) = ji7 := (i64_w _).trans hji7
  by_cases c8 : 0 ≤ (ji7)
  rotate_left
  ·rw [if_neg c8] at H
   exact absurd H (by simp)
  rw [if_pos c8] at H
  have c8b0 := eq_true c8
  have c8b1 : decide (0 ≤ (ji7)) = true := decide_eq_true c8
  clear c8
  obtain ⟨ji9, hji9⟩ : ∃ j_ : Int, (shr .i64 a0 (ji7)) = j_ := ⟨_, rfl⟩
  replace H : (byt_Num.j0 k a0 a1 (decide ((ji9) > 0))) = some (r1, r2) := by first | (rw [hji9] at H; exact H) | (simp only [hji9] at H ⊢; exact H)
  have hji9_ : (a0 / 2 ^ min (ji7).toNat 64) = ji9 := hji9
  have hji9z : (ji7) ≤ 64 → (a0 / 2 ^ (ji7).toNat) = ji9 := shr_small hji9
  have H' := Aside0.mk H
  clear H
  go_wp2
  go_meet
  case rel => exact ⟨_, (decide ((ji9) > 0)), (by first | rfl | (simp; done) | (simp only [← hji9] <;> (first | rfl | simp)) | (simp [*]; done)), H', ⟨by first | omega | exact Nat.le_refl _⟩, ⟨by repeat (first | (with_reducible first | exact HB.out | apply below_alloc | apply pw_below_drewN | apply below_drew1) | exact HB.out)⟩⟩
 clear HC3
 try clear p2
 try clear c4
 try clear c4b0
 try clear c5
 try clear c5b0
 try clear c6
 try clear c6b0
 try clear p6
 try clear c8
 try clear c8b0
 try clear c8b1
 obtain ⟨kq, x24_2, rfl, HA, HJ2, HB⟩ := hcut
 cases kq with
 | zero => exact absurd HA.out (by simp [byt_Num.j0])
 | succ kj2 =>
  have H := HA.out
  clear HA
  simp only [byt_Num.j0] at H
  by_cases c10 : x24_2 = true
  ·subst c10
   have H1 : (some (([] : List Int), 1)) = some (r1, r2) := by rw [if_pos rfl] at H; exact H
   clear H
   have H := H1
   clear H1
   simp only [Option.some.injEq, Prod.mk.injEq] at H
   obtain ⟨rfl, rfl⟩ := H
   go_wp2
   go_ret2
   exact ⟨_, by first | rfl | (simp [errW_none, errW_some] <;> rfl) | (simp [*, errW_none, errW_some] <;> rfl), by first | exact Kd.R_nil _ _ _ _ _ | exact Kd.N_nil _ _ _ _ _ | exact Kd.V_nil _ _ _ _ _ | exact Kd.Q_nil _ _ _ _ _ | exact Kd.S_nil _ _ _ _ _, by repeat (first | (with_reducible first | exact HB.out | apply below_alloc | apply pw_below_drewN | apply below_drew1) | exact HB.out)⟩
  replace c10 := Bool.eq_false_iff.mpr c10
  subst c10
  have H1 : (if 0 ≤ a1 then (if (a1 : Int).toNat ≤ 281474976710656 then ((some (List.replicate (a1 : Int).toNat 0 : List Int)).bind fun y101 => (byt_Num.l0 kj2 a0 a1 y101 (y101.length : Int) 0)) else (none)) else (none)) = some (r1, r2) := by rw [if_neg (show ¬ (false = true) by decide)] at H; exact H
  clear H
  have H := H1
  clear H1
  by_cases c11 : 0 ≤ a1
  rotate_left
  ·rw [if_neg c11] at H
   exact absurd H (by simp)
  rw [if_pos c11] at H
  have c11b0 := eq_true c11
  have c11b1 : decide (0 ≤ a1) = true := decide_eq_true c11
  clear c11
  by_cases c12 : (a1 : Int).toNat ≤ 281474976710656
  rotate_left
  ·rw [if_neg c12] at H
   exact absurd H (by simp)
  rw [if_pos c12] at H
  have c12b0 := eq_true c12
  have c12b1 : decide ((a1 : Int).toNat ≤ 281474976710656) = true := decide_eq_true c12
  clear c12
  obtain ⟨y101, hy101⟩ : ∃ y_ : List Int, y_ = (List.replicate (a1 : Int).toNat 0) := ⟨_, rfl⟩
  replace H : (byt_Num.l0 kj2 a0 a1 y101 (y101.length : Int) 0) = some (r1, r2) := by first | (rw [hy101]; with_reducible exact H) | (have H2_ := (Option.bind_some _ _).symm.trans H; rw [hy101]; with_reducible exact H2_) | (have H2_ := (Option.bind_some _ _).symm.trans H; with_reducible exact H2_) | with_reducible exact H | (rw [hy101]; exact H) | exact H
  have Ny101 := Aside0.mk hy101
  clear hy101
  have H' := Aside0.mk H
  clear H
  go_wp2_with (first | ((with_reducible refine gate_dst (N := 26) rfl ?_); refine Kd.R_make (Kd.int .u8) _ 5 rfl (N := 26) rfl 22 _ _ rfl a1 rfl rfl Tryd.underlying22 (.int .u8 0) 1 info5 rfl (by decide) (by omega) 0 (ok := fun _ => True) (okp := fun _ => True) rfl (fun _ hk => hk) trivial (of_decide_eq_true (by first | (with_reducible assumption) | assumption)) (Nat.le_trans (Nat.mul_le_mul_right _ (of_decide_eq_true (by first | (with_reducible assumption) | assumption) : a1.toNat ≤ 281474976710656)) (by omega)) (Below.refl _ _) (Nat.le_refl _) ?_; intro v102 w13 ho14 hb hg_ hnew_; clear hg_ hnew_; (first | rw [← Ny101.out] at ho14 | (simp only [Int.reduceToNat] at ho14; rw [← Ny101.out] at ho14)); have n0_ := Aside0.mk (Kd.R_lower ho14 (below_size (by repeat (first | (with_reducible first | exact HB.out | apply below_alloc | apply pw_below_drewN | apply below_drew1) | exact HB.out)))); have n1_ := Aside0.mk (below_step (by repeat (first | (with_reducible first | exact HB.out | apply below_alloc | apply pw_below_drewN | apply below_drew1) | exact HB.out)) hb); clear HB; have HO103 := n0_; have HB := n1_; clear n0_ n1_; clear hb ho14; obtain ⟨Ao15, co15, eo15⟩ := Kd.R_slice HO103.out; subst eo15))
  go_loopg [29] kj2 (fun kq v29 w' => ∃ (x6_2 : List Int) (x29_2 : Int), v29 = .int .i64 x29_2 ∧ Aside0 (byt_Num.l0 kq a0 a1 x6_2 (y101.length : Int) x29_2 = some (r1, r2)) ∧ Aside0 (kq ≤ kj2) ∧ Aside0 (Kd.R (Kd.int .u8) 5 w' w.heap.size (fun _ => True) (.slice Ao15 y101.length co15) x6_2) ∧ Aside0 (Below w.heap.size w w'))
  case atStart => exact ⟨(y101), (0), (by first | rfl | (simp; done) | (simp [*]; done)), H', ⟨Nat.le_refl _⟩, ⟨by (with_reducible repeat (first | apply Kd.R_alloc | apply Kd.R_drewN | apply Kd.R_drew)); exact HO103.out⟩, ⟨by repeat (first | (with_reducible first | exact HB.out | apply below_alloc | apply pw_below_drewN | apply below_drew1) | exact HB.out)⟩⟩
  clear H'
  try clear c1
  try clear p2
  try clear c4
  try clear c4b0
  try clear c5
  try clear c5b0
  try clear c6
  try clear c6b0
  try clear p6
  try clear c8
  try clear c8b0
  try clear c8b1
  try clear c10
  try clear c11
  try clear c11b0
  try clear c11b1
  try clear c12
  try clear c12b0
  try clear c12b1
  try clear p2
  try clear p6
  obtain ⟨x6_2, x29_2, rfl, HA, HK2, HO_6, HB⟩ := hrel
  have hl6_2 := (Kd.R_reads' HO_6.out).1
  rw [hl6_2] at HO_6
  (try simp only [hl6_2])
  cases gk with
  | zero => exact absurd HA.out (by simp [byt_Num.l0])
  | succ k2 =>
   have H := HA.out
   clear HA
   simp only [byt_Num.l0] at H
   by_cases c16 : x29_2 < (y101.length : Int)
   rotate_left
   ·rw [if_neg c16] at H
    have c16b0 : decide (x29_2 < (y101.length : Int)) = false := decide_eq_false c16
    clear c16
    simp only [Option.some.injEq, Prod.mk.injEq] at H
    obtain ⟨rfl, rfl⟩ := H
    (try rw [hl6_2] at c16b0)
    go_wp2
    go_ret2
    exact ⟨_, by first | rfl | (simp [errW_none, errW_some] <;> rfl) | (simp [*, errW_none, errW_some] <;> rfl), by (with_reducible repeat (first | apply Kd.R_alloc | apply Kd.R_drewN | apply Kd.R_drew)); exact HO_6.out, by repeat (first | (with_reducible first | exact HB.out | apply below_alloc | apply pw_below_drewN | apply below_drew1) | exact HB.out)⟩
   rw [if_pos c16] at H
   have c16b0 : decide (x29_2 < (y101.length : Int)) = true := decide_eq_true c16
   clear c16
   obtain ⟨ji17, hji17⟩ : ∃ j_ : Int, (wrap64 (8 * (wrap64 ((wrap64 (a1 - 1)) - x29_2)))) = j_ := ⟨_, rfl⟩
   replace H : (if 0 ≤ (ji17) then (if 0 ≤ x29_2 then (if x29_2 < (x6_2.length : Int) then (byt_Num.l0 k2 a0 a1 (x6_2.set (x29_2 : Int).toNat ((shr .i64 a0 (ji17)) % 256)) (y101.length : Int) (wrap64 (x29_2 + 1))) else (none)) else (none)) else (none)) = some (r1, r2) := by first | (rw [hji17] at H; exact H) | (simp only [hji17] at H ⊢; exact H)
   have hji17w : (IntKind.i64.wrap (8 * (wrap64 ((wrap64 (a1 - 1)) - x29_2)))) = ji17 := (i64_w _).trans hji17
   by_cases c18 : 0 ≤ (ji17)
   rotate_left
   ·rw [if_neg c18] at H
    exact absurd H (by simp)
   rw [if_pos c18] at H
   have c18b0 := eq_true c18
   have c18b1 : decide (0 ≤ (ji17)) = true := decide_eq_true c18
   clear c18
   obtain ⟨ji19, hji19⟩ : ∃ j_ : Int, (shr .i64 a0 (ji17)) = j_ := ⟨_, rfl⟩
   replace H : (if 0 ≤ x29_2 then (if x29_2 < (x6_2.length : Int) then (byt_Num.l0 k2 a0 a1 (x6_2.set (x29_2 : Int).toNat ((ji19) % 256)) (y101.length : Int) (wrap64 (x29_2 + 1))) else (none)) else (none)) = some (r1, r2) := by first | (rw [hji19] at H; exact H) | (simp only [hji19] at H ⊢; exact H)
   have hji19_ : (a0 / 2 ^ min (ji17).toNat 64) = ji19 := hji19
   have hji19z : (ji17) ≤ 64 → (a0 / 2 ^ (ji17).toNat) = ji19 := shr_small hji19
   by_cases c20 : 0 ≤ x29_2
   rotate_left
   ·rw [if_neg c20] at H
    exact absurd H (by simp)
   rw [if_pos c20] at H
   have c20b0 : decide (0 ≤ x29_2) = true := decide_eq_true c20
   clear c20
   by_cases c21 : x29_2 < (x6_2.length : Int)
   rotate_left
   ·rw [if_neg c21] at H
    exact absurd H (by simp)
   rw [if_pos c21] at H
   have c21b0 : decide (x29_2 < (x6_2.length : Int)) = true := decide_eq_true c21
   clear c21
   obtain ⟨y104, hy104⟩ : ∃ y_ : List Int, y_ = (x6_2.set (x29_2 : Int).toNat ((ji19) % 256)) := ⟨_, rfl⟩
   replace H : (byt_Num.l0 k2 a0 a1 y104 (y101.length : Int) (wrap64 (x29_2 + 1))) = some (r1, r2) := by first | (rw [hy104]; with_reducible exact H) | (have H2_ := (Option.bind_some _ _).symm.trans H; rw [hy104]; with_reducible exact H2_) | (have H2_ := (Option.bind_some _ _).symm.trans H; with_reducible exact H2_) | with_reducible exact H | (rw [hy104]; exact H) | exact H
   have Ny104 := Aside0.mk hy104
   clear hy104
   have H' := Aside0.mk H
   clear H
   have p22 : 0 ≤ (x29_2 : Int) := of_decide_eq_true (by first | (with_reducible assumption) | assumption)
   have q22 : (x29_2 : Int) < ((x6_2.length : Int) : Int) := of_decide_eq_true (by first | (with_reducible assumption) | assumption)
   obtain ⟨go22, co22, eo22, gb22, gl22, cl22, HG22⟩ := Kd.R_form HO_6.out (by omega)
   (first | cases eo22 | (injection eo22 with ea_ en_ ec_; (first | subst ea_ | (injection ea_ with ea_; subst ea_)); subst ec_; clear en_))
   have GB22 := Aside0.mk gb22
   have GG22 := Aside0.mk HG22
   clear gb22 gl22 HG22
   obtain ⟨hx22_0, hf22_0⟩ := Kd.R_celln 0 HO_6.out (x29_2 : Int) p22 q22
   replace p22 := eq_true p22
   replace q22 := eq_true q22
   have HP23 := Kd.R_putg HO_6.out (x29_2 : Int) ((ji19) % 256)
   go_wp2_with (first | ((with_reducible refine gate_store (t := 5) (p := 42) rfl ?_); refine store_event (t := 5) (p := 42) (v := ?vo_w24) (w1 := (wr.setCell ⟨go22, (x29_2 : Int).toNat, none⟩ (.int .u8 ((ji19) % 256)))) ?hg ?ho ?hn ?hr ?_; (case ho => rfl); (case hg => rfl); (case hn => rfl); (case hr => first | (go_simp; done) | (go_simp; rfl)); intro w24 hw; have hg : wr.grownBy w24 (some go22) := (by rw [hw]; exact HP23.2); have hp_ : Kd.R (Kd.int .u8) 5 w24 w.heap.size (fun _ => True) (.slice (some ⟨go22, 0, none⟩) x6_2.length co15) y104 := (by rw [hw, Ny104.out]; exact HP23.1); clear HP23; have n0_ := Aside0.mk (hp_); have n1_ := Aside0.mk ((by rw [hw]; exact below_set (HB.out) GB22.out : Below w.heap.size w w24)); clear HO_6; clear HB; have HO_6 := n0_; have HB := n1_; clear n0_ n1_; clear hg hw hp_))
   (try simp only [← hl6_2])
   go_roundg k2
   case measure => have := HJ2.out; have := HK2.out; omega
   case rel => exact ⟨(y104), (wrap64 (x29_2 + 1)), (by first | rfl | (simp; done) | (simp [*]; done)), H', ⟨by have := HJ2.out; have := HK2.out; omega⟩, ⟨by (try simp only [hl6_2]); (with_reducible repeat (first | apply Kd.R_alloc | apply Kd.R_drewN | apply Kd.R_drew)); exact HO_6.out⟩, ⟨by repeat (first | (with_reducible first | exact HB.out | apply below_alloc | apply pw_below_drewN | apply below_drew1) | exact HB.out)⟩⟩
/-! ### byt_wide: function 77 -/
def byt_wide.f (a0 : Int) : Option (Int × Int) := if a0 < 64 then (some (1, 0)) else (if a0 < 16384 then (some (2, 1)) else (some (4, 2)))
set_option maxHeartbeats 8000000 in
set_option maxRecDepth 100000 in
theorem byt_wide.calls (a0 : Int) (r1 : Int) (r2 : Int) (w : World) (h : byt_wide.f a0 = some (r1, r2)) :
  Calls Tryd.prog 77 #[.int .i64 a0] w fun e w' => e = .returned (.tuple #[.int .i64 r1, .int .i64 r2]) ∧ Drawn0 w w' := by
 have H : (if a0 < 64 then (some (1, 0)) else (if a0 < 16384 then (some (2, 1)) else (some (4, 2)))) = some (r1, r2) := h
 clear h
 by_cases c2 : a0 < 64
 ·rw [if_pos c2] at H
  have c2b0 : decide (a0 < 64) = true := decide_eq_true c2
  clear c2
  simp only [Option.some.injEq, Prod.mk.injEq] at H
  obtain ⟨rfl, rfl⟩ := H
  go_enter Tryd.func77, Tryd.ntmps77
  go_wp2
  go_ret2
  exact ⟨by first | rfl | (simp; done) | (simp [*]; done), by repeat (first | exact Drawn0.refl _ | apply Drawn0.step)⟩
 rw [if_neg c2] at H
 have c2b0 : decide (a0 < 64) = false := decide_eq_false c2
 clear c2
 by_cases c3 : a0 < 16384
 ·rw [if_pos c3] at H
  have c3b0 : decide (a0 < 16384) = true := decide_eq_true c3
  clear c3
  simp only [Option.some.injEq, Prod.mk.injEq] at H
  obtain ⟨rfl, rfl⟩ := H
  go_enter Tryd.func77, Tryd.ntmps77
  go_wp2
  go_ret2
  exact ⟨by first | rfl | (simp; done) | (simp [*]; done), by repeat (first | exact Drawn0.refl _ | apply Drawn0.step)⟩
 ·rw [if_neg c3] at H
  have c3b0 : decide (a0 < 16384) = false := decide_eq_false c3
  clear c3
  simp only [Option.some.injEq, Prod.mk.injEq] at H
  obtain ⟨rfl, rfl⟩ := H
  go_enter Tryd.func77, Tryd.ntmps77
  go_wp2
  go_ret2
  exact ⟨by first | rfl | (simp; done) | (simp [*]; done), by repeat (first | exact Drawn0.refl _ | apply Drawn0.step)⟩
/-! ### byt_Len: function 66 -/
def byt_Len.j0 : Nat → Int → Bool → Option (List Int × Int)
 | 0, _, _ => none
 | k + 1, x0, x11 => if x11 = true then (some (([] : List Int), 1)) else ((byt_wide.f x0).bind fun bt105 => (if 0 ≤ (wrap64 ((wrap64 (8 * bt105.1)) - 2)) then ((byt_Num.f k (Go.bits .or .i64 x0 (shl .i64 bt105.2 (wrap64 ((wrap64 (8 * bt105.1)) - 2)))) bt105.1).bind fun bt107 => (some (bt107.1, bt107.2))) else (none)))
def byt_Len.f (k : Nat) (a0 : Int) : Option (List Int × Int) := if a0 < 0 then (byt_Len.j0 k a0 true) else (byt_Len.j0 k a0 (decide (a0 > 1073741823)))
set_option maxHeartbeats 8000000 in
set_option maxRecDepth 100000 in
theorem byt_Len.calls (k : Nat) (a0 : Int) (r1 : List Int) (r2 : Int) (w : World) (h : byt_Len.f k a0 = some (r1, r2)) :
  Calls Tryd.prog 66 #[.int .i64 a0] w fun e w' => ∃ v0_ : Value, e = .returned (.tuple #[v0_, .int .i64 r2]) ∧ Kd.R (Kd.int .u8) 5 w' w.heap.size (fun _ => True) v0_ r1 ∧ Below w.heap.size w w' := by
 have HB := Aside0.mk (Below.refl w.heap.size w)
 have H : (if a0 < 0 then (byt_Len.j0 k a0 true) else (byt_Len.j0 k a0 (decide (a0 > 1073741823)))) = some (r1, r2) := h
 clear h
 have HC2 := Aside0.mk H
 clear H
 go_enter Tryd.func66, Tryd.ntmps66
 go_upto_region 1 with (fail)
 go_cut [11] (fun v11 wc => ∃ (kq : Nat) (x11_1 : Bool), v11 = .bool x11_1 ∧ Aside0 (byt_Len.j0 kq a0 x11_1 = some (r1, r2)) ∧ Aside0 (kq ≤ k) ∧ Aside0 (Below w.heap.size w wc))
 case first =>
  have H := HC2.out
  clear HC2
  by_cases c3 : a0 < 0
  ·rw [if_pos c3] at H
   have c3b0 : decide (a0 < 0) = true := decide_eq_true c3
   clear c3
   (first | rw [c3b0] | (simp only [i64_w, i32_w]; rw [c3b0]) | skip)
   have H' := Aside0.mk H
   clear H
   go_wp2
   go_meet
   case rel => exact ⟨_, (true), (by first | rfl | (simp; done) | (simp [*]; done)), H', ⟨by first | omega | exact Nat.le_refl _⟩, ⟨by repeat (first | (with_reducible first | exact HB.out | apply below_alloc | apply pw_below_drewN | apply below_drew1) | exact HB.out)⟩⟩
  rw [if_neg c3] at H
  have c3b0 : decide (a0 < 0) = false := decide_eq_false c3
  clear c3
  (first | rw [c3b0] | (simp only [i64_w, i32_w]; rw [c3b0]) | skip)
  have H' := Aside0.mk H
  clear H
  go_wp2
  go_meet
  case rel => exact ⟨_, (decide (a0 > 1073741823)), (by first | rfl | (simp; done) | (simp [*]; done)), H', ⟨by first | omega | exact Nat.le_refl _⟩, ⟨by repeat (first | (with_reducible first | exact HB.out | apply below_alloc | apply pw_below_drewN | apply below_drew1) | exact HB.out)⟩⟩
 clear HC2
 try clear p2
 try clear c3
 try clear c3b0
 obtain ⟨kq, x11_1, rfl, HA, HJ1, HB⟩ := hcut
 cases kq with
 | zero => exact absurd HA.out (by simp [byt_Len.j0])
 | succ kj1 =>
  have H := HA.out
  clear HA
  simp only [byt_Len.j0] at H
  by_cases c4 : x11_1 = true
  ·subst c4
   have H1 : (some (([] : List Int), 1)) = some (r1, r2) := by rw [if_pos rfl] at H; exact H
   clear H
   have H := H1
   clear H1
   simp only [Option.some.injEq, Prod.mk.injEq] at H
   obtain ⟨rfl, rfl⟩ := H
   go_wp2
   go_ret2
   exact ⟨_, by first | rfl | (simp [errW_none, errW_some] <;> rfl) | (simp [*, errW_none, errW_some] <;> rfl), by first | exact Kd.R_nil _ _ _ _ _ | exact Kd.N_nil _ _ _ _ _ | exact Kd.V_nil _ _ _ _ _ | exact Kd.Q_nil _ _ _ _ _ | exact Kd.S_nil _ _ _ _ _, by repeat (first | (with_reducible first | exact HB.out | apply below_alloc | apply pw_below_drewN | apply below_drew1) | exact HB.out)⟩
  replace c4 := Bool.eq_false_iff.mpr c4
  subst c4
  have H1 : ((byt_wide.f a0).bind fun bt105 => (if 0 ≤ (wrap64 ((wrap64 (8 * bt105.1)) - 2)) then ((byt_Num.f kj1 (Go.bits .or .i64 a0 (shl .i64 bt105.2 (wrap64 ((wrap64 (8 * bt105.1)) - 2)))) bt105.1).bind fun bt107 => (some (bt107.1, bt107.2))) else (none))) = some (r1, r2) := by rw [if_neg (show ¬ (false = true) by decide)] at H; exact H
  clear H
  have H := H1
  clear H1
  replace H := Option.bind_eq_some_iff.mp H
  obtain ⟨⟨t105, t106⟩, A50, H⟩ := H
  replace H : (if 0 ≤ (wrap64 ((wrap64 (8 * t105)) - 2)) then ((byt_Num.f kj1 (Go.bits .or .i64 a0 (shl .i64 t106 (wrap64 ((wrap64 (8 * t105)) - 2)))) t105).bind fun bt107 => (some (bt107.1, bt107.2))) else (none)) = some (r1, r2) := H
  have A5 := Aside0.mk A50
  clear A50
  obtain ⟨ji6, hji6⟩ : ∃ j_ : Int, (wrap64 ((wrap64 (8 * t105)) - 2)) = j_ := ⟨_, rfl⟩
  replace H : (if 0 ≤ (ji6) then ((byt_Num.f kj1 (Go.bits .or .i64 a0 (shl .i64 t106 (ji6))) t105).bind fun bt107 => (some (bt107.1, bt107.2))) else (none)) = some (r1, r2) := by first | (rw [hji6] at H; exact H) | (simp only [hji6] at H ⊢; exact H)
  (try rw [hji6] at A5)
  have hji6w : (IntKind.i64.wrap ((wrap64 (8 * t105)) - 2)) = ji6 := (i64_w _).trans hji6
  by_cases c7 : 0 ≤ (ji6)
  rotate_left
  ·rw [if_neg c7] at H
   exact absurd H (by simp)
  rw [if_pos c7] at H
  have c7b0 := eq_true c7
  have c7b1 : decide (0 ≤ (ji6)) = true := decide_eq_true c7
  clear c7
  obtain ⟨ji8, hji8⟩ : ∃ j_ : Int, (shl .i64 t106 (ji6)) = j_ := ⟨_, rfl⟩
  replace H : ((byt_Num.f kj1 (Go.bits .or .i64 a0 (ji8)) t105).bind fun bt107 => (some (bt107.1, bt107.2))) = some (r1, r2) := by first | (rw [hji8] at H; exact H) | (simp only [hji8] at H ⊢; exact H)
  (try rw [hji8] at A5)
  have hji8_ : (IntKind.i64.wrap (t106 * 2 ^ min (ji6).toNat 64)) = ji8 := hji8
  have hji8z : (ji6) ≤ 64 → (IntKind.i64.wrap (t106 * 2 ^ (ji6).toNat)) = ji8 := shl_small hji8
  have hji8y : (wrap64 (t106 * 2 ^ min (ji6).toNat 64)) = ji8 := (i64_w _).symm.trans hji8_
  have hji8x : (ji6) ≤ 64 → (wrap64 (t106 * 2 ^ (ji6).toNat)) = ji8 := fun h_ => (i64_w _).symm.trans (hji8z h_)
  replace H := Option.bind_eq_some_iff.mp H
  obtain ⟨⟨t107, t108⟩, A90, H⟩ := H
  replace H : (some (t107, t108)) = some (r1, r2) := H
  have A9 := Aside0.mk A90
  clear A90
  simp only [Option.some.injEq, Prod.mk.injEq] at H
  obtain ⟨rfl, rfl⟩ := H
  go_wp2_with (first | ((with_reducible refine gate_callee (f := 77) rfl ?_); refine goesL_ (some 14) rfl rfl Tryd.func77 (by kernel_rfl) rfl #[.int .i64 a0] rfl (by (try simp only [List.map_toArray, List.map_cons, List.map_nil]); first | done | rfl | (simp only [List.length_drop, List.length_take]; rfl)) ?_; (with_reducible refine (byt_wide.calls a0 t105 t106 _ A5.out).mono ?_); rintro e w' ⟨rfl, ⟨nd, rfl⟩⟩; refine ⟨_, rfl, ?_⟩) | ((with_reducible refine gate_callee (f := 56) rfl ?_); refine goesL_ (some 25) rfl rfl Tryd.func56 (by kernel_rfl) rfl #[.int .i64 (Go.bits .or .i64 a0 (ji8)), .int .i64 t105] rfl (by (try simp only [List.map_toArray, List.map_cons, List.map_nil]); first | done | (simp only [hji8]; rfl) | rfl | (simp only [List.length_drop, List.length_take]; rfl)) ?_; (with_reducible refine (byt_Num.calls kj1 (Go.bits .or .i64 a0 (ji8)) t105 t107 t108 _ A9.out).mono ?_); rintro e w10 ⟨v109, rfl, ho0, hb⟩; refine ⟨_, rfl, ?_⟩; have n0_ := Aside0.mk (Kd.R_lower ho0 (below_size (by repeat (first | (with_reducible first | exact HB.out | apply below_alloc | apply pw_below_drewN | apply below_drew1) | exact HB.out)))); have n1_ := Aside0.mk (below_step (by repeat (first | (with_reducible first | exact HB.out | apply below_alloc | apply pw_below_drewN | apply below_drew1) | exact HB.out)) hb); clear HB; have HO110 := n0_; have HB := n1_; clear n0_ n1_; (try clear hb); (try clear hb2); (try clear hk); (try clear hi); (try clear ho0)))
  go_ret2
  exact ⟨_, by first | rfl | (simp [errW_none, errW_some] <;> rfl) | (simp only [← hji6, ← hji8]; first | rfl | (simp [errW_none, errW_some] <;> rfl)) | (simp [*, errW_none, errW_some] <;> rfl), by (with_reducible repeat (first | apply Kd.R_alloc | apply Kd.R_drewN | apply Kd.R_drew)); exact HO110.out, by repeat (first | (with_reducible first | exact HB.out | apply below_alloc | apply pw_below_drewN | apply below_drew1) | exact HB.out)⟩
/-! ### byt_Row: function 57 -/
def byt_Row.f (k : Nat) (l0 : List Int) : Option (List Int × Int) := (byt_Len.f k (l0.length : Int)).bind fun bt111 => (if bt111.2 = 0 then (if bt111.1.length + l0.length < 140737488355328 then (some ((bt111.1 ++ l0), 0)) else (none)) else (some (([] : List Int), bt111.2)))
set_option maxHeartbeats 8000000 in
set_option maxRecDepth 100000 in
theorem byt_Row.calls (k : Nat) (A0 : Option Addr) (c0 : Nat) (l0 : List Int) (r1 : List Int) (r2 : Int) (w : World) (hr0 : Kd.C (Kd.int .u8) w A0 l0.length l0) (hc0 : l0.length ≤ c0) (h : byt_Row.f k l0 = some (r1, r2)) :
  Calls Tryd.prog 57 #[.slice A0 l0.length c0] w fun e w' => ∃ v0_ : Value, e = .returned (.tuple #[v0_, .int .i64 r2]) ∧ Kd.R (Kd.int .u8) 5 w' w.heap.size (fun _ => True) v0_ r1 ∧ Below w.heap.size w w' := by
 have HR0 := Aside0.mk hr0
 have HC0 := Aside0.mk hc0
 clear hr0 hc0
 have HB := Aside0.mk (Below.refl w.heap.size w)
 have H : ((byt_Len.f k (l0.length : Int)).bind fun bt111 => (if bt111.2 = 0 then (if bt111.1.length + l0.length < 140737488355328 then (some ((bt111.1 ++ l0), 0)) else (none)) else (some (([] : List Int), bt111.2)))) = some (r1, r2) := h
 clear h
 replace H := Option.bind_eq_some_iff.mp H
 obtain ⟨⟨t111, t112⟩, A20, H⟩ := H
 replace H : (if t112 = 0 then (if t111.length + l0.length < 140737488355328 then (some ((t111 ++ l0), 0)) else (none)) else (some (([] : List Int), t112))) = some (r1, r2) := H
 have A2 := Aside0.mk A20
 clear A20
 by_cases c3 : t112 = 0
 rotate_left
 ·rw [if_neg c3] at H
  have c3b0 : (t112 == 0) = false := beq_eq_false_iff_ne.mpr c3
  have c3b1 : (t112 != 0) = true := bne_iff_ne.mpr c3
  simp only [Option.some.injEq, Prod.mk.injEq] at H
  obtain ⟨rfl, rfl⟩ := H
  go_enter Tryd.func57, Tryd.ntmps57
  go_wp2_with (first | ((with_reducible refine gate_callee (f := 66) rfl ?_); refine goesL_ (some 9) rfl rfl Tryd.func66 (by kernel_rfl) rfl #[.int .i64 (l0.length : Int)] rfl (by (try simp only [List.map_toArray, List.map_cons, List.map_nil]); first | done | rfl | (simp only [List.length_drop, List.length_take]; rfl)) ?_; (with_reducible refine (byt_Len.calls k (l0.length : Int) t111 t112 _ A2.out).mono ?_); rintro e w7 ⟨v113, rfl, ho0, hb⟩; refine ⟨_, rfl, ?_⟩; have n0_ := Aside0.mk (Kd.R_lower ho0 (below_size (by repeat (first | (with_reducible first | exact HB.out | apply below_alloc | apply pw_below_drewN | apply below_drew1) | exact HB.out)))); have n1_ := Aside0.mk (below_step (by repeat (first | (with_reducible first | exact HB.out | apply below_alloc | apply pw_below_drewN | apply below_drew1) | exact HB.out)) hb); clear HB; have HO114 := n0_; have HB := n1_; clear n0_ n1_; (try clear hb); (try clear hb2); (try clear hk); (try clear hi); (try clear ho0)))
  go_ret2
  exact ⟨_, by first | rfl | (simp [errW_none, errW_some] <;> rfl) | (simp [*, errW_none, errW_some] <;> rfl), by first | exact Kd.R_nil _ _ _ _ _ | exact Kd.N_nil _ _ _ _ _ | exact Kd.V_nil _ _ _ _ _ | exact Kd.Q_nil _ _ _ _ _ | exact Kd.S_nil _ _ _ _ _, by repeat (first | (with_reducible first | exact HB.out | apply below_alloc | apply pw_below_drewN | apply below_drew1) | exact HB.out)⟩
 rw [if_pos c3] at H
 have c3b0 : (t112 == 0) = true := beq_iff_eq.mpr c3
 have c3b1 : (t112 != 0) = false := bne_eq_false_iff_eq.mpr c3
 clear c3
 by_cases c4 : t111.length + l0.length < 140737488355328
 rotate_left
 ·rw [if_neg c4] at H
  exact absurd H (by simp)
 rw [if_pos c4] at H
 have LMc4 := Aside0.mk c4
 clear c4
 obtain ⟨y115, hy115⟩ : ∃ y_ : List Int, y_ = (t111 ++ l0) := ⟨_, rfl⟩
 replace H : (some (y115, 0)) = some (r1, r2) := by first | (rw [hy115]; with_reducible exact H) | (have H2_ := (Option.bind_some _ _).symm.trans H; rw [hy115]; with_reducible exact H2_) | (have H2_ := (Option.bind_some _ _).symm.trans H; with_reducible exact H2_) | with_reducible exact H | (rw [hy115]; exact H) | exact H
 have Ny115 := Aside0.mk hy115
 clear hy115
 simp only [Option.some.injEq, Prod.mk.injEq] at H
 obtain ⟨rfl, rfl⟩ := H
 go_enter Tryd.func57, Tryd.ntmps57
 go_wp2_with (first | ((with_reducible refine gate_callee (f := 66) rfl ?_); refine goesL_ (some 9) rfl rfl Tryd.func66 (by kernel_rfl) rfl #[.int .i64 (l0.length : Int)] rfl (by (try simp only [List.map_toArray, List.map_cons, List.map_nil]); first | done | rfl | (simp only [List.length_drop, List.length_take]; rfl)) ?_; (with_reducible refine (byt_Len.calls k (l0.length : Int) t111 t112 _ A2.out).mono ?_); rintro e w5 ⟨v113, rfl, ho0, hb⟩; refine ⟨_, rfl, ?_⟩; have n0_ := Aside0.mk (Kd.R_lower ho0 (below_size (by repeat (first | (with_reducible first | exact HB.out | apply below_alloc | apply pw_below_drewN | apply below_drew1) | exact HB.out)))); have n1_ := Aside0.mk (below_step (by repeat (first | (with_reducible first | exact HB.out | apply below_alloc | apply pw_below_drewN | apply below_drew1) | exact HB.out)) hb); clear HB; have HO114 := n0_; have HB := n1_; clear n0_ n1_; (try clear hb); (try clear hb2); (try clear hk); (try clear hi); (try clear ho0)) | ((with_reducible refine gate_builtin (b := .append) (xs := #[.tmp 15, .tmp 16]) rfl ?_); at_builtin; refine Kd.R_append_rows (Kd.int .u8) (w0 := w) w.heap.size rfl (.tmp 15) (.tmp 16) 22 5 (.int .u8 0) 1 rfl Tryd.underlying22 info5 rfl (by decide) (by omega) v113 t111 l0 _ _ _ (fun _ => True) (fun _ => False) rfl rfl ?aO ?aR (fun _ _ h => h) (fun _ h => h.elim) ?aF ?aB ?aS ?aL ?_; (case aR => repeat (first | exact (Kd.C_below HR0.out HB.out) | (with_reducible refine Kd.C_alloc ?_ _) | (with_reducible refine Kd.C_drewN ?_ _) | (with_reducible refine Kd.C_drew ?_))); (case aB => exact (by repeat (first | (with_reducible first | exact HB.out | apply below_alloc | apply pw_below_drewN | apply below_drew1) | exact HB.out))); (case aF => exact (fun _ _ => trivial)); (case aO => exact (by (with_reducible repeat (first | apply Kd.R_alloc | apply Kd.R_drewN | apply Kd.R_drew)); exact HO114.out)); (case aS => exact (below_size (by repeat (first | (with_reducible first | exact HB.out | apply below_alloc | apply pw_below_drewN | apply below_drew1) | exact HB.out)))); (case aL => have := LMc4.out; omega); intro v116 w6 ho hb hg hat; rw [← Ny115.out] at ho; have n0_ := Aside0.mk (hb); have n1_ := Aside0.mk (ho); clear HB; clear HO114; have HB := n0_; have HO117 := n1_; clear n0_ n1_; clear ho hb hg hat))
 go_ret2
 exact ⟨_, by first | rfl | (simp [errW_none, errW_some] <;> rfl) | (simp [*, errW_none, errW_some] <;> rfl), by (with_reducible repeat (first | apply Kd.R_alloc | apply Kd.R_drewN | apply Kd.R_drew)); exact HO117.out, by repeat (first | (with_reducible first | exact HB.out | apply below_alloc | apply pw_below_drewN | apply below_drew1) | exact HB.out)⟩
/-! ### pyxref01_power: function 53 -/
def pyxref01_power.l0 : Nat → Int → Int → Int → Option (Int)
 | 0, _, _, _ => none
 | k + 1, x0, x3, x4 => if x4 < x0 then (pyxref01_power.l0 k x0 (wrap64 (256 * x3)) (wrap64 (x4 + 1))) else (some x3)
def pyxref01_power.f (k : Nat) (a0 : Int) : Option (Int) := pyxref01_power.l0 k a0 1 0
set_option maxHeartbeats 8000000 in
set_option maxRecDepth 100000 in
theorem pyxref01_power.calls (k : Nat) (a0 : Int) (r : Int) (w : World) (h : pyxref01_power.f k a0 = some r) :
  Calls Tryd.prog 53 #[.int .i64 a0] w fun e w' => e = .returned (.int .i64 r) ∧ Drawn0 w w' := by
 have H : (pyxref01_power.l0 k a0 1 0) = some r := h
 clear h
 have H' := Aside0.mk H
 clear H
 go_enter Tryd.func53, Tryd.ntmps53
 go_wp2
 go_loopg [3, 4] k (fun kq v3 v4 w' => ∃ (x3_1 : Int) (x4_1 : Int), v3 = .int .i64 x3_1 ∧ v4 = .int .i64 x4_1 ∧ Aside0 (pyxref01_power.l0 kq a0 x3_1 x4_1 = some r) ∧ Aside0 (kq ≤ k) ∧ Drawn0 w w')
 case atStart => exact ⟨(1), (0), (by first | rfl | (simp; done) | (simp [*]; done)), (by first | rfl | (simp; done) | (simp [*]; done)), H', ⟨Nat.le_refl _⟩, by repeat (first | exact Drawn0.refl _ | apply Drawn0.step)⟩
 clear H'
 obtain ⟨x3_1, x4_1, rfl, rfl, HA, HK1, ⟨m1, rfl⟩⟩ := hrel
 cases gk with
 | zero => exact absurd HA.out (by simp [pyxref01_power.l0])
 | succ k1 =>
  have H := HA.out
  clear HA
  simp only [pyxref01_power.l0] at H
  by_cases c2 : x4_1 < a0
  rotate_left
  ·rw [if_neg c2] at H
   have c2b0 : decide (x4_1 < a0) = false := decide_eq_false c2
   clear c2
   obtain rfl := Option.some.inj H
   go_wp2
   go_ret
   exact ⟨by first | rfl | (simp; done) | (simp [*]; done), by repeat (first | exact Drawn0.refl _ | apply Drawn0.step)⟩
  rw [if_pos c2] at H
  have c2b0 : decide (x4_1 < a0) = true := decide_eq_true c2
  clear c2
  have H' := Aside0.mk H
  clear H
  go_wp2
  go_roundg k1
  case measure => have := HK1.out; omega
  case rel => exact ⟨(wrap64 (256 * x3_1)), (wrap64 (x4_1 + 1)), (by first | rfl | (simp; done) | (simp [*]; done)), (by first | rfl | (simp; done) | (simp [*]; done)), H', ⟨by have := HK1.out; omega⟩, by repeat (first | exact Drawn0.refl _ | apply Drawn0.step)⟩
/-! ### pyxref01_Num: function 42 -/
mutual
def pyxref01_Num.j0 : Nat → Int → Int → Bool → Option (List Int × Int)
 | 0, _, _, _ => none
 | k + 1, x0, x1, x23 => if x23 = true then (some (([] : List Int), 1)) else (pyxref01_Num.l0 k x0 ([] : List Int) (wrap64 (x1 - 1)))
def pyxref01_Num.l0 : Nat → Int → List Int → Int → Option (List Int × Int)
 | 0, _, _, _ => none
 | k + 1, x0, x6, x7 => if x7 ≥ 0 then ((pyxref01_power.f k x7).bind fun t119 => (if t119 = 0 then (none) else (if x6.length < 140737488355328 then (pyxref01_Num.l0 k x0 (x6 ++ [(Int.tmod (wrap64 (Int.tdiv x0 t119)) 256) % 256]) (wrap64 (x7 - 1))) else (none)))) else (some (x6, 0))
end
def pyxref01_Num.f (k : Nat) (a0 : Int) (a1 : Int) : Option (List Int × Int) := if a1 < 1 then (pyxref01_Num.j0 k a0 a1 true) else (if a1 > 7 then (pyxref01_Num.j0 k a0 a1 true) else (if a0 < 0 then (pyxref01_Num.j0 k a0 a1 true) else ((pyxref01_power.f k a1).bind fun t118 => (pyxref01_Num.j0 k a0 a1 (decide (a0 ≥ t118))))))
set_option maxHeartbeats 8000000 in
set_option maxRecDepth 100000 in
theorem pyxref01_Num.calls (k : Nat) (a0 : Int) (a1 : Int) (r1 : List Int) (r2 : Int) (w : World) (h : pyxref01_Num.f k a0 a1 = some (r1, r2)) :
  Calls Tryd.prog 42 #[.int .i64 a0, .int .i64 a1] w fun e w' => ∃ v0_ : Value, e = .returned (.tuple #[v0_, .int .i64 r2]) ∧ Kd.R (Kd.int .u8) 5 w' w.heap.size (fun _ => True) v0_ r1 ∧ Below w.heap.size w w' := by
 have HB := Aside0.mk (Below.refl w.heap.size w)
 have H : (if a1 < 1 then (pyxref01_Num.j0 k a0 a1 true) else (if a1 > 7 then (pyxref01_Num.j0 k a0 a1 true) else (if a0 < 0 then (pyxref01_Num.j0 k a0 a1 true) else ((pyxref01_power.f k a1).bind fun t118 => (pyxref01_Num.j0 k a0 a1 (decide (a0 ≥ t118))))))) = some (r1, r2) := h
 clear h
 have HC3 := Aside0.mk H
 clear H
 go_enter Tryd.func42, Tryd.ntmps42
 go_upto_region 1 with (fail)
 go_cut [23] (fun v23 wc => ∃ (kq : Nat) (x23_2 : Bool), v23 = .bool x23_2 ∧ Aside0 (pyxref01_Num.j0 kq a0 a1 x23_2 = some (r1, r2)) ∧ Aside0 (kq ≤ k) ∧ Aside0 (Below w.heap.size w wc))
 case first =>
  have H := HC3.out
  clear HC3
  by_cases c4 : a1 < 1
  ·rw [if_pos c4] at H
   have c4b0 : decide (a1 < 1) = true := decide_eq_true c4
   clear c4
   (first | rw [c4b0] | (simp only [i64_w, i32_w]; rw [c4b0]) | skip)
   have H' := Aside0.mk H
   clear H
   go_wp2
   go_meet
   case rel => exact ⟨_, (true), (by first | rfl | (simp; done) | (simp [*]; done)), H', ⟨by first | omega | exact Nat.le_refl _⟩, ⟨by repeat (first | (with_reducible first | exact HB.out | apply below_alloc | apply pw_below_drewN | apply below_drew1) | exact HB.out)⟩⟩
  rw [if_neg c4] at H
  have c4b0 : decide (a1 < 1) = false := decide_eq_false c4
  clear c4
  (first | rw [c4b0] | (simp only [i64_w, i32_w]; rw [c4b0]) | skip)
  by_cases c5 : a1 > 7
  ·rw [if_pos c5] at H
   have c5b0 : decide (7 < a1) = true := decide_eq_true c5
   clear c5
   have H' := Aside0.mk H
   clear H
   go_wp2
   go_meet
   case rel => exact ⟨_, (true), (by first | rfl | (simp; done) | (simp [*]; done)), H', ⟨by first | omega | exact Nat.le_refl _⟩, ⟨by repeat (first | (with_reducible first | exact HB.out | apply below_alloc | apply pw_below_drewN | apply below_drew1) | exact HB.out)⟩⟩
  rw [if_neg c5] at H
  have c5b0 : decide (7 < a1) = false := decide_eq_false c5
  clear c5
  by_cases c6 : a0 < 0
  ·rw [if_pos c6] at H
   have c6b0 : decide (a0 < 0) = true := decide_eq_true c6
   clear c6
   have H' := Aside0.mk H
   clear H
   go_wp2
   go_meet
   case rel => exact ⟨_, (true), (by first | rfl | (simp; done) | (simp [*]; done)), H', ⟨by first | omega | exact Nat.le_refl _⟩, ⟨by repeat (first | (with_reducible first | exact HB.out | apply below_alloc | apply pw_below_drewN | apply below_drew1) | exact HB.out)⟩⟩
  rw [if_neg c6] at H
  have c6b0 : decide (a0 < 0) = false := decide_eq_false c6
  clear c6
  replace H := Option.bind_eq_some_iff.mp H
  obtain ⟨t118, A70, H⟩ := H
  replace H : (pyxref01_Num.j0 k a0 a1 (decide (a0 ≥ t118))) = some (r1, r2) := H
  have A7 := Aside0.mk A70
  clear A70
  have H' := Aside0.mk H
  clear H
  go_wp2_with (first | (go_at_call 53; (with_reducible refine (pyxref01_power.calls k a1 t118 _ A7.out).mono ?_); rintro e w' ⟨rfl, ⟨nd, rfl⟩⟩))
  go_meet
  case rel => exact ⟨_, (decide (a0 ≥ t118)), (by first | rfl | (simp; done) | (simp [*]; done)), H', ⟨by first | omega | exact Nat.le_refl _⟩, ⟨by repeat (first | (with_reducible first | exact HB.out | apply below_alloc | apply pw_below_drewN | apply below_drew1) | exact HB.out)⟩⟩
 clear HC3
 try clear p2
 try clear c4
 try clear c4b0
 try clear c5
 try clear c5b0
 try clear c6
 try clear c6b0
 obtain ⟨kq, x23_2, rfl, HA, HJ2, HB⟩ := hcut
 cases kq with
 | zero => exact absurd HA.out (by simp [pyxref01_Num.j0])
 | succ kj2 =>
  have H := HA.out
  clear HA
  simp only [pyxref01_Num.j0] at H
  by_cases c8 : x23_2 = true
  ·subst c8
   have H1 : (some (([] : List Int), 1)) = some (r1, r2) := by rw [if_pos rfl] at H; exact H
   clear H
   have H := H1
   clear H1
   simp only [Option.some.injEq, Prod.mk.injEq] at H
   obtain ⟨rfl, rfl⟩ := H
   go_wp2
   go_ret2
   exact ⟨_, by first | rfl | (simp [errW_none, errW_some] <;> rfl) | (simp [*, errW_none, errW_some] <;> rfl), by first | exact Kd.R_nil _ _ _ _ _ | exact Kd.N_nil _ _ _ _ _ | exact Kd.V_nil _ _ _ _ _ | exact Kd.Q_nil _ _ _ _ _ | exact Kd.S_nil _ _ _ _ _, by repeat (first | (with_reducible first | exact HB.out | apply below_alloc | apply pw_below_drewN | apply below_drew1) | exact HB.out)⟩
  replace c8 := Bool.eq_false_iff.mpr c8
  subst c8
  have H1 : (pyxref01_Num.l0 kj2 a0 ([] : List Int) (wrap64 (a1 - 1))) = some (r1, r2) := by rw [if_neg (show ¬ (false = true) by decide)] at H; exact H
  clear H
  have H := H1
  clear H1
  have H' := Aside0.mk H
  clear H
  go_wp2
  go_loopg [6, 7] kj2 (fun kq v6 v7 w' => ∃ (x6_2 : List Int) (x7_2 : Int), v7 = .int .i64 x7_2 ∧ Aside0 (pyxref01_Num.l0 kq a0 x6_2 x7_2 = some (r1, r2)) ∧ Aside0 (kq ≤ kj2) ∧ Aside0 (Kd.R (Kd.int .u8) 5 w' w.heap.size (fun _ => True) v6 x6_2) ∧ Aside0 (Below w.heap.size w w'))
  case atStart => exact ⟨(([] : List Int)), (wrap64 (a1 - 1)), (by first | rfl | (simp; done) | (simp [*]; done)), H', ⟨Nat.le_refl _⟩, ⟨by first | exact Kd.R_nil _ _ _ _ _ | exact Kd.N_nil _ _ _ _ _ | exact Kd.V_nil _ _ _ _ _ | exact Kd.Q_nil _ _ _ _ _ | exact Kd.S_nil _ _ _ _ _⟩, ⟨by repeat (first | (with_reducible first | exact HB.out | apply below_alloc | apply pw_below_drewN | apply below_drew1) | exact HB.out)⟩⟩
  clear H'
  try clear p2
  try clear c4
  try clear c4b0
  try clear c5
  try clear c5b0
  try clear c6
  try clear c6b0
  try clear p6
  try clear c8
  try clear p2
  obtain ⟨x6_2, x7_2, rfl, HA, HK2, HO_6, HB⟩ := hrel
  cases gk with
  | zero => exact absurd HA.out (by simp [pyxref01_Num.l0])
  | succ k2 =>
   have H := HA.out
   clear HA
   simp only [pyxref01_Num.l0] at H
   by_cases c9 : x7_2 ≥ 0
   rotate_left
   ·rw [if_neg c9] at H
    have c9b0 : decide (0 ≤ x7_2) = false := decide_eq_false c9
    clear c9
    simp only [Option.some.injEq, Prod.mk.injEq] at H
    obtain ⟨rfl, rfl⟩ := H
    go_wp2
    go_ret2
    exact ⟨_, by first | rfl | (simp [errW_none, errW_some] <;> rfl) | (simp [*, errW_none, errW_some] <;> rfl), by (with_reducible repeat (first | apply Kd.R_alloc | apply Kd.R_drewN | apply Kd.R_drew)); exact HO_6.out, by repeat (first | (with_reducible first | exact HB.out | apply below_alloc | apply pw_below_drewN | apply below_drew1) | exact HB.out)⟩
   rw [if_pos c9] at H
   have c9b0 : decide (0 ≤ x7_2) = true := decide_eq_true c9
   clear c9
   replace H := Option.bind_eq_some_iff.mp H
   obtain ⟨t119, A100, H⟩ := H
   replace H : (if t119 = 0 then (none) else (if x6_2.length < 140737488355328 then (pyxref01_Num.l0 k2 a0 (x6_2 ++ [(Int.tmod (wrap64 (Int.tdiv a0 t119)) 256) % 256]) (wrap64 (x7_2 - 1))) else (none))) = some (r1, r2) := H
   have A10 := Aside0.mk A100
   clear A100
   by_cases c11 : t119 = 0
   ·rw [if_pos c11] at H
    exact absurd H (by simp)
   rw [if_neg c11] at H
   have c11b0 : (t119 == 0) = false := beq_eq_false_iff_ne.mpr c11
   have c11b1 : (t119 != 0) = true := bne_iff_ne.mpr c11
   by_cases c12 : x6_2.length < 140737488355328
   rotate_left
   ·rw [if_neg c12] at H
    exact absurd H (by simp)
   rw [if_pos c12] at H
   have LMc12 := Aside0.mk c12
   clear c12
   obtain ⟨y120, hy120⟩ : ∃ y_ : List Int, y_ = (x6_2 ++ [(Int.tmod (wrap64 (Int.tdiv a0 t119)) 256) % 256]) := ⟨_, rfl⟩
   replace H : (pyxref01_Num.l0 k2 a0 y120 (wrap64 (x7_2 - 1))) = some (r1, r2) := by first | (rw [hy120]; with_reducible exact H) | (have H2_ := (Option.bind_some _ _).symm.trans H; rw [hy120]; with_reducible exact H2_) | (have H2_ := (Option.bind_some _ _).symm.trans H; with_reducible exact H2_) | with_reducible exact H | (rw [hy120]; exact H) | exact H
   have Ny120 := Aside0.mk hy120
   clear hy120
   have H' := Aside0.mk H
   clear H
   go_wp2_with (first | ((with_reducible refine gate_callee (f := 53) rfl ?_); refine goesL_ (some 33) rfl rfl Tryd.func53 (by kernel_rfl) rfl #[.int .i64 x7_2] rfl (by (try simp only [List.map_toArray, List.map_cons, List.map_nil]); first | done | rfl | (simp only [List.length_drop, List.length_take]; rfl)) ?_; (with_reducible refine (pyxref01_power.calls k2 x7_2 t119 _ A10.out).mono ?_); rintro e w' ⟨rfl, ⟨nd, rfl⟩⟩; refine ⟨_, rfl, ?_⟩) | ((with_reducible refine gate_builtin (b := .append) (xs := #[.tmp 30, .tmp 37]) rfl ?_); at_builtin; refine Kd.R_append (Kd.int .u8) (w0 := w) w.heap.size rfl (.tmp 30) (.tmp 37) 22 5 (.int .u8 0) 1 rfl Tryd.underlying22 info5 rfl (by decide) (by omega) u6 x6_2 ((Int.tmod (wrap64 (Int.tdiv a0 t119)) 256) % 256) [.int .u8 ((Int.tmod (wrap64 (Int.tdiv a0 t119)) 256) % 256)] (fun _ => True) (fun _ => False) rfl rfl ?aP (fun _ hk => hk.elim) ?aF ?aO ?aB ?aS ?aL ?_; (case aP => exact rfl); (case aB => exact (by repeat (first | (with_reducible first | exact HB.out | apply below_alloc | apply pw_below_drewN | apply below_drew1) | exact HB.out))); (case aF => exact (fun _ _ => trivial)); (case aO => exact (by (with_reducible repeat (first | apply Kd.R_alloc | apply Kd.R_drewN | apply Kd.R_drew)); exact HO_6.out)); (case aS => exact (below_size (by repeat (first | (with_reducible first | exact HB.out | apply below_alloc | apply pw_below_drewN | apply below_drew1) | exact HB.out)))); (case aL => have := LMc12.out; omega); intro v121 w13 ho hb hg hat; rw [← Ny120.out] at ho; have n0_ := Aside0.mk (hb); have n1_ := Aside0.mk (ho); clear HB; clear HO_6; have HB := n0_; have HO122 := n1_; clear n0_ n1_; clear ho hb hg hat))
   go_roundg k2
   case measure => have := HJ2.out; have := HK2.out; omega
   case rel => exact ⟨(y120), (wrap64 (x7_2 - 1)), (by first | rfl | (simp; done) | (simp [*]; done)), H', ⟨by have := HJ2.out; have := HK2.out; omega⟩, ⟨by (with_reducible repeat (first | apply Kd.R_alloc | apply Kd.R_drewN | apply Kd.R_drew)); exact HO122.out⟩, ⟨by repeat (first | (with_reducible first | exact HB.out | apply below_alloc | apply pw_below_drewN | apply below_drew1) | exact HB.out)⟩⟩
end Go.Proofs.YtdklmafkcbjomaaDoor.B

/-! B2 -/
namespace Go.Proofs.YtdklmafkcbjomaaDoor.B
open Go.RowKit Go.Proofs.YtdklmafkcbjomaaDoorW.PrintWords Go.Proofs.YtdklmafkcbjomaaDoorW.PrintLast Go.Proofs.YtdklmafkcbjomaaDoorW.PrintMore
attribute [local go_sem] max2_int min2_int max_two min_two max_three min_three max_four min_four   -- for this text's walks alone
set_option linter.unusedVariables false
set_option linter.unusedSimpArgs false
/-! ### pyxref01_Len: function 54 -/
def pyxref01_Len.j0 : Nat → Int → Bool → Option (List Int × Int)
 | 0, _, _ => none
 | k + 1, x0, x9 => if x9 = true then (some (([] : List Int), 1)) else (if x0 ≤ 63 then (some ((([(x0) % 256] : List Int)), 0)) else (if x0 ≤ 16383 then (some ((([(wrap64 (64 + (wrap64 (Int.tdiv x0 256)))) % 256, (Int.tmod x0 256) % 256] : List Int)), 0)) else ((pyxref01_Num.f k (wrap64 (2147483648 + x0)) 4).bind fun bt129 => (some (bt129.1, bt129.2)))))
def pyxref01_Len.f (k : Nat) (a0 : Int) : Option (List Int × Int) := if a0 < 0 then (pyxref01_Len.j0 k a0 true) else (pyxref01_Len.j0 k a0 (decide (a0 > 1073741823)))
set_option maxHeartbeats 8000000 in
set_option maxRecDepth 100000 in
theorem pyxref01_Len.calls (k : Nat) (a0 : Int) (r1 : List Int) (r2 : Int) (w : World) (h : pyxref01_Len.f k a0 = some (r1, r2)) :
  Calls Tryd.prog 54 #[.int .i64 a0] w fun e w' => ∃ v0_ : Value, e = .returned (.tuple #[v0_, .int .i64 r2]) ∧ Kd.R (Kd.int .u8) 5 w' w.heap.size (fun _ => True) v0_ r1 ∧ Below w.heap.size w w' := by
 have HB := Aside0.mk (Below.refl w.heap.size w)
 have H : (if a0 < 0 then (pyxref01_Len.j0 k a0 true) else (pyxref01_Len.j0 k a0 (decide (a0 > 1073741823)))) = some (r1, r2) := h
 clear h
 have HC2 := Aside0.mk H
 clear H
 go_enter Tryd.func54, Tryd.ntmps54
 go_upto_region 1 with (fail)
 go_cut [9] (fun v9 wc => ∃ (kq : Nat) (x9_1 : Bool), v9 = .bool x9_1 ∧ Aside0 (pyxref01_Len.j0 kq a0 x9_1 = some (r1, r2)) ∧ Aside0 (kq ≤ k) ∧ Aside0 (Below w.heap.size w wc))
 case first =>
  have H := HC2.out
  clear HC2
  by_cases c3 : a0 < 0
  ·rw [if_pos c3] at H
   have c3b0 : decide (a0 < 0) = true := decide_eq_true c3
   clear c3
   (first | rw [c3b0] | (simp only [i64_w, i32_w]; rw [c3b0]) | skip)
   have H' := Aside0.mk H
   clear H
   go_wp2
   go_meet
   case rel => exact ⟨_, (true), (by first | rfl | (simp; done) | (simp [*]; done)), H', ⟨by first | omega | exact Nat.le_refl _⟩, ⟨by repeat (first | (with_reducible first | exact HB.out | apply below_alloc | apply pw_below_drewN | apply below_drew1) | exact HB.out)⟩⟩
  rw [if_neg c3] at H
  have c3b0 : decide (a0 < 0) = false := decide_eq_false c3
  clear c3
  (first | rw [c3b0] | (simp only [i64_w, i32_w]; rw [c3b0]) | skip)
  have H' := Aside0.mk H
  clear H
  go_wp2
  go_meet
  case rel => exact ⟨_, (decide (a0 > 1073741823)), (by first | rfl | (simp; done) | (simp [*]; done)), H', ⟨by first | omega | exact Nat.le_refl _⟩, ⟨by repeat (first | (with_reducible first | exact HB.out | apply below_alloc | apply pw_below_drewN | apply below_drew1) | exact HB.out)⟩⟩
 clear HC2
 try clear p2
 try clear c3
 try clear c3b0
 obtain ⟨kq, x9_1, rfl, HA, HJ1, HB⟩ := hcut
 cases kq with
 | zero => exact absurd HA.out (by simp [pyxref01_Len.j0])
 | succ kj1 =>
  have H := HA.out
  clear HA
  simp only [pyxref01_Len.j0] at H
  by_cases c4 : x9_1 = true
  ·subst c4
   have H1 : (some (([] : List Int), 1)) = some (r1, r2) := by rw [if_pos rfl] at H; exact H
   clear H
   have H := H1
   clear H1
   simp only [Option.some.injEq, Prod.mk.injEq] at H
   obtain ⟨rfl, rfl⟩ := H
   go_wp2
   go_ret2
   exact ⟨_, by first | rfl | (simp [errW_none, errW_some] <;> rfl) | (simp [*, errW_none, errW_some] <;> rfl), by first | exact Kd.R_nil _ _ _ _ _ | exact Kd.N_nil _ _ _ _ _ | exact Kd.V_nil _ _ _ _ _ | exact Kd.Q_nil _ _ _ _ _ | exact Kd.S_nil _ _ _ _ _, by repeat (first | (with_reducible first | exact HB.out | apply below_alloc | apply pw_below_drewN | apply below_drew1) | exact HB.out)⟩
  replace c4 := Bool.eq_false_iff.mpr c4
  subst c4
  have H1 : (if a0 ≤ 63 then (some ((([(a0) % 256] : List Int)), 0)) else (if a0 ≤ 16383 then (some ((([(wrap64 (64 + (wrap64 (Int.tdiv a0 256)))) % 256, (Int.tmod a0 256) % 256] : List Int)), 0)) else ((pyxref01_Num.f kj1 (wrap64 (2147483648 + a0)) 4).bind fun bt129 => (some (bt129.1, bt129.2))))) = some (r1, r2) := by rw [if_neg (show ¬ (false = true) by decide)] at H; exact H
  clear H
  have H := H1
  clear H1
  by_cases c5 : a0 ≤ 63
  ·rw [if_pos c5] at H
   have c5b0 : decide (a0 ≤ 63) = true := decide_eq_true c5
   clear c5
   obtain ⟨y123, hy123⟩ : ∃ y_ : List Int, y_ = (([(a0) % 256] : List Int)) := ⟨_, rfl⟩
   replace H : (some (y123, 0)) = some (r1, r2) := by first | (rw [hy123]; with_reducible exact H) | (have H2_ := (Option.bind_some _ _).symm.trans H; rw [hy123]; with_reducible exact H2_) | (have H2_ := (Option.bind_some _ _).symm.trans H; with_reducible exact H2_) | with_reducible exact H | (rw [hy123]; exact H) | exact H
   have Ny123 := Aside0.mk hy123
   clear hy123
   simp only [Option.some.injEq, Prod.mk.injEq] at H
   obtain ⟨rfl, rfl⟩ := H
   go_wp2_with (first | ((with_reducible refine gate_dst (N := 14) rfl ?_); refine Kd.R_lit (Kd.int .u8) _ 5 ?hg (N := 14) ?hd (xs := ([(a0) % 256] : List Int)) (inner := [.int .u8 ((a0) % 256)]) (ok := fun _ => True) (okp := fun _ => True) ?hr ?hp (fun _ hk => hk) trivial (Below.refl _ _) (Nat.le_refl _) (by simp) ?_; (case hd => rfl); (case hg => rfl); (case hr => first | (go_simp; done) | (go_simp; rfl)); (case hp => exact (Reps.one (show Kd.M (Kd.int .u8) _ _ _ ((a0) % 256) [.int .u8 ((a0) % 256)] from rfl) (Reps.none _ _))); intro v124 w6 ho7 hb hg_ hnew_; clear hg_ hnew_; (first | rw [← Ny123.out] at ho7 | (simp only [Int.reduceToNat] at ho7; rw [← Ny123.out] at ho7)); have n0_ := Aside0.mk (Kd.R_lower ho7 (below_size (by repeat (first | (with_reducible first | exact HB.out | apply below_alloc | apply pw_below_drewN | apply below_drew1) | exact HB.out)))); have n1_ := Aside0.mk (below_step (by repeat (first | (with_reducible first | exact HB.out | apply below_alloc | apply pw_below_drewN | apply below_drew1) | exact HB.out)) hb); clear HB; have HO125 := n0_; have HB := n1_; clear n0_ n1_; clear hb ho7))
   go_ret2
   exact ⟨_, by first | rfl | (simp [errW_none, errW_some] <;> rfl) | (simp [*, errW_none, errW_some] <;> rfl), by (with_reducible repeat (first | apply Kd.R_alloc | apply Kd.R_drewN | apply Kd.R_drew)); exact HO125.out, by repeat (first | (with_reducible first | exact HB.out | apply below_alloc | apply pw_below_drewN | apply below_drew1) | exact HB.out)⟩
  rw [if_neg c5] at H
  have c5b0 : decide (a0 ≤ 63) = false := decide_eq_false c5
  clear c5
  by_cases c8 : a0 ≤ 16383
  rotate_left
  ·rw [if_neg c8] at H
   have c8b0 : decide (a0 ≤ 16383) = false := decide_eq_false c8
   clear c8
   replace H := Option.bind_eq_some_iff.mp H
   obtain ⟨⟨t129, t130⟩, A110, H⟩ := H
   replace H : (some (t129, t130)) = some (r1, r2) := H
   have A11 := Aside0.mk A110
   clear A110
   simp only [Option.some.injEq, Prod.mk.injEq] at H
   obtain ⟨rfl, rfl⟩ := H
   go_wp2_with (first | ((with_reducible refine gate_callee (f := 42) rfl ?_); refine goesL_ (some 27) rfl rfl Tryd.func42 (by kernel_rfl) rfl #[.int .i64 (wrap64 (2147483648 + a0)), .int .i64 4] rfl (by (try simp only [List.map_toArray, List.map_cons, List.map_nil]); first | done | rfl | (simp only [List.length_drop, List.length_take]; rfl)) ?_; (with_reducible refine (pyxref01_Num.calls kj1 (wrap64 (2147483648 + a0)) 4 t129 t130 _ A11.out).mono ?_); rintro e w12 ⟨v131, rfl, ho0, hb⟩; refine ⟨_, rfl, ?_⟩; have n0_ := Aside0.mk (Kd.R_lower ho0 (below_size (by repeat (first | (with_reducible first | exact HB.out | apply below_alloc | apply pw_below_drewN | apply below_drew1) | exact HB.out)))); have n1_ := Aside0.mk (below_step (by repeat (first | (with_reducible first | exact HB.out | apply below_alloc | apply pw_below_drewN | apply below_drew1) | exact HB.out)) hb); clear HB; have HO132 := n0_; have HB := n1_; clear n0_ n1_; (try clear hb); (try clear hb2); (try clear hk); (try clear hi); (try clear ho0)))
   go_ret2
   exact ⟨_, by first | rfl | (simp [errW_none, errW_some] <;> rfl) | (simp [*, errW_none, errW_some] <;> rfl), by (with_reducible repeat (first | apply Kd.R_alloc | apply Kd.R_drewN | apply Kd.R_drew)); exact HO132.out, by repeat (first | (with_reducible first | exact HB.out | apply below_alloc | apply pw_below_drewN | apply below_drew1) | exact HB.out)⟩
  rw [if_pos c8] at H
  have c8b0 : decide (a0 ≤ 16383) = true := decide_eq_true c8
  clear c8
  obtain ⟨y126, hy126⟩ : ∃ y_ : List Int, y_ = (([(wrap64 (64 + (wrap64 (Int.tdiv a0 256)))) % 256, (Int.tmod a0 256) % 256] : List Int)) := ⟨_, rfl⟩
  replace H : (some (y126, 0)) = some (r1, r2) := by first | (rw [hy126]; with_reducible exact H) | (have H2_ := (Option.bind_some _ _).symm.trans H; rw [hy126]; with_reducible exact H2_) | (have H2_ := (Option.bind_some _ _).symm.trans H; with_reducible exact H2_) | with_reducible exact H | (rw [hy126]; exact H) | exact H
  have Ny126 := Aside0.mk hy126
  clear hy126
  simp only [Option.some.injEq, Prod.mk.injEq] at H
  obtain ⟨rfl, rfl⟩ := H
  go_wp2_with (first | ((with_reducible refine gate_dst (N := 24) rfl ?_); refine Kd.R_lit (Kd.int .u8) _ 5 ?hg (N := 24) ?hd (xs := ([(wrap64 (64 + (wrap64 (Int.tdiv a0 256)))) % 256, (Int.tmod a0 256) % 256] : List Int)) (inner := [.int .u8 ((wrap64 (64 + (wrap64 (Int.tdiv a0 256)))) % 256), .int .u8 ((Int.tmod a0 256) % 256)]) (ok := fun _ => True) (okp := fun _ => True) ?hr ?hp (fun _ hk => hk) trivial (Below.refl _ _) (Nat.le_refl _) (by simp) ?_; (case hd => rfl); (case hg => rfl); (case hr => first | (go_simp; done) | (go_simp; rfl)); (case hp => exact (Reps.one (show Kd.M (Kd.int .u8) _ _ _ ((wrap64 (64 + (wrap64 (Int.tdiv a0 256)))) % 256) [.int .u8 ((wrap64 (64 + (wrap64 (Int.tdiv a0 256)))) % 256)] from rfl) (Reps.one (show Kd.M (Kd.int .u8) _ _ _ ((Int.tmod a0 256) % 256) [.int .u8 ((Int.tmod a0 256) % 256)] from rfl) (Reps.none _ _)))); intro v127 w9 ho10 hb hg_ hnew_; clear hg_ hnew_; (first | rw [← Ny126.out] at ho10 | (simp only [Int.reduceToNat] at ho10; rw [← Ny126.out] at ho10)); have n0_ := Aside0.mk (Kd.R_lower ho10 (below_size (by repeat (first | (with_reducible first | exact HB.out | apply below_alloc | apply pw_below_drewN | apply below_drew1) | exact HB.out)))); have n1_ := Aside0.mk (below_step (by repeat (first | (with_reducible first | exact HB.out | apply below_alloc | apply pw_below_drewN | apply below_drew1) | exact HB.out)) hb); clear HB; have HO128 := n0_; have HB := n1_; clear n0_ n1_; clear hb ho10))
  go_ret2
  exact ⟨_, by first | rfl | (simp [errW_none, errW_some] <;> rfl) | (simp [*, errW_none, errW_some] <;> rfl), by (with_reducible repeat (first | apply Kd.R_alloc | apply Kd.R_drewN | apply Kd.R_drew)); exact HO128.out, by repeat (first | (with_reducible first | exact HB.out | apply below_alloc | apply pw_below_drewN | apply below_drew1) | exact HB.out)⟩
/-! ### pyxref01_Row: function 43 -/
def pyxref01_Row.f (k : Nat) (l0 : List Int) : Option (List Int × Int) := (pyxref01_Len.f k (l0.length : Int)).bind fun bt133 => (if bt133.2 = 0 then (if bt133.1.length + l0.length < 140737488355328 then (some ((bt133.1 ++ l0), 0)) else (none)) else (some (([] : List Int), bt133.2)))
set_option maxHeartbeats 8000000 in
set_option maxRecDepth 100000 in
theorem pyxref01_Row.calls (k : Nat) (A0 : Option Addr) (c0 : Nat) (l0 : List Int) (r1 : List Int) (r2 : Int) (w : World) (hr0 : Kd.C (Kd.int .u8) w A0 l0.length l0) (hc0 : l0.length ≤ c0) (h : pyxref01_Row.f k l0 = some (r1, r2)) :
  Calls Tryd.prog 43 #[.slice A0 l0.length c0] w fun e w' => ∃ v0_ : Value, e = .returned (.tuple #[v0_, .int .i64 r2]) ∧ Kd.R (Kd.int .u8) 5 w' w.heap.size (fun _ => True) v0_ r1 ∧ Below w.heap.size w w' := by
 have HR0 := Aside0.mk hr0
 have HC0 := Aside0.mk hc0
 clear hr0 hc0
 have HB := Aside0.mk (Below.refl w.heap.size w)
 have H : ((pyxref01_Len.f k (l0.length : Int)).bind fun bt133 => (if bt133.2 = 0 then (if bt133.1.length + l0.length < 140737488355328 then (some ((bt133.1 ++ l0), 0)) else (none)) else (some (([] : List Int), bt133.2)))) = some (r1, r2) := h
 clear h
 replace H := Option.bind_eq_some_iff.mp H
 obtain ⟨⟨t133, t134⟩, A20, H⟩ := H
 replace H : (if t134 = 0 then (if t133.length + l0.length < 140737488355328 then (some ((t133 ++ l0), 0)) else (none)) else (some (([] : List Int), t134))) = some (r1, r2) := H
 have A2 := Aside0.mk A20
 clear A20
 by_cases c3 : t134 = 0
 rotate_left
 ·rw [if_neg c3] at H
  have c3b0 : (t134 == 0) = false := beq_eq_false_iff_ne.mpr c3
  have c3b1 : (t134 != 0) = true := bne_iff_ne.mpr c3
  simp only [Option.some.injEq, Prod.mk.injEq] at H
  obtain ⟨rfl, rfl⟩ := H
  go_enter Tryd.func43, Tryd.ntmps43
  go_wp2_with (first | ((with_reducible refine gate_callee (f := 54) rfl ?_); refine goesL_ (some 9) rfl rfl Tryd.func54 (by kernel_rfl) rfl #[.int .i64 (l0.length : Int)] rfl (by (try simp only [List.map_toArray, List.map_cons, List.map_nil]); first | done | rfl | (simp only [List.length_drop, List.length_take]; rfl)) ?_; (with_reducible refine (pyxref01_Len.calls k (l0.length : Int) t133 t134 _ A2.out).mono ?_); rintro e w7 ⟨v135, rfl, ho0, hb⟩; refine ⟨_, rfl, ?_⟩; have n0_ := Aside0.mk (Kd.R_lower ho0 (below_size (by repeat (first | (with_reducible first | exact HB.out | apply below_alloc | apply pw_below_drewN | apply below_drew1) | exact HB.out)))); have n1_ := Aside0.mk (below_step (by repeat (first | (with_reducible first | exact HB.out | apply below_alloc | apply pw_below_drewN | apply below_drew1) | exact HB.out)) hb); clear HB; have HO136 := n0_; have HB := n1_; clear n0_ n1_; (try clear hb); (try clear hb2); (try clear hk); (try clear hi); (try clear ho0)))
  go_ret2
  exact ⟨_, by first | rfl | (simp [errW_none, errW_some] <;> rfl) | (simp [*, errW_none, errW_some] <;> rfl), by first | exact Kd.R_nil _ _ _ _ _ | exact Kd.N_nil _ _ _ _ _ | exact Kd.V_nil _ _ _ _ _ | exact Kd.Q_nil _ _ _ _ _ | exact Kd.S_nil _ _ _ _ _, by repeat (first | (with_reducible first | exact HB.out | apply below_alloc | apply pw_below_drewN | apply below_drew1) | exact HB.out)⟩
 rw [if_pos c3] at H
 have c3b0 : (t134 == 0) = true := beq_iff_eq.mpr c3
 have c3b1 : (t134 != 0) = false := bne_eq_false_iff_eq.mpr c3
 clear c3
 by_cases c4 : t133.length + l0.length < 140737488355328
 rotate_left
 ·rw [if_neg c4] at H
  exact absurd H (by simp)
 rw [if_pos c4] at H
 have LMc4 := Aside0.mk c4
 clear c4
 obtain ⟨y137, hy137⟩ : ∃ y_ : List Int, y_ = (t133 ++ l0) := ⟨_, rfl⟩
 replace H : (some (y137, 0)) = some (r1, r2) := by first | (rw [hy137]; with_reducible exact H) | (have H2_ := (Option.bind_some _ _).symm.trans H; rw [hy137]; with_reducible exact H2_) | (have H2_ := (Option.bind_some _ _).symm.trans H; with_reducible exact H2_) | with_reducible exact H | (rw [hy137]; exact H) | exact H
 have Ny137 := Aside0.mk hy137
 clear hy137
 simp only [Option.some.injEq, Prod.mk.injEq] at H
 obtain ⟨rfl, rfl⟩ := H
 go_enter Tryd.func43, Tryd.ntmps43
 go_wp2_with (first | ((with_reducible refine gate_callee (f := 54) rfl ?_); refine goesL_ (some 9) rfl rfl Tryd.func54 (by kernel_rfl) rfl #[.int .i64 (l0.length : Int)] rfl (by (try simp only [List.map_toArray, List.map_cons, List.map_nil]); first | done | rfl | (simp only [List.length_drop, List.length_take]; rfl)) ?_; (with_reducible refine (pyxref01_Len.calls k (l0.length : Int) t133 t134 _ A2.out).mono ?_); rintro e w5 ⟨v135, rfl, ho0, hb⟩; refine ⟨_, rfl, ?_⟩; have n0_ := Aside0.mk (Kd.R_lower ho0 (below_size (by repeat (first | (with_reducible first | exact HB.out | apply below_alloc | apply pw_below_drewN | apply below_drew1) | exact HB.out)))); have n1_ := Aside0.mk (below_step (by repeat (first | (with_reducible first | exact HB.out | apply below_alloc | apply pw_below_drewN | apply below_drew1) | exact HB.out)) hb); clear HB; have HO136 := n0_; have HB := n1_; clear n0_ n1_; (try clear hb); (try clear hb2); (try clear hk); (try clear hi); (try clear ho0)) | ((with_reducible refine gate_builtin (b := .append) (xs := #[.tmp 15, .tmp 16]) rfl ?_); at_builtin; refine Kd.R_append_rows (Kd.int .u8) (w0 := w) w.heap.size rfl (.tmp 15) (.tmp 16) 22 5 (.int .u8 0) 1 rfl Tryd.underlying22 info5 rfl (by decide) (by omega) v135 t133 l0 _ _ _ (fun _ => True) (fun _ => False) rfl rfl ?aO ?aR (fun _ _ h => h) (fun _ h => h.elim) ?aF ?aB ?aS ?aL ?_; (case aR => repeat (first | exact (Kd.C_below HR0.out HB.out) | (with_reducible refine Kd.C_alloc ?_ _) | (with_reducible refine Kd.C_drewN ?_ _) | (with_reducible refine Kd.C_drew ?_))); (case aB => exact (by repeat (first | (with_reducible first | exact HB.out | apply below_alloc | apply pw_below_drewN | apply below_drew1) | exact HB.out))); (case aF => exact (fun _ _ => trivial)); (case aO => exact (by (with_reducible repeat (first | apply Kd.R_alloc | apply Kd.R_drewN | apply Kd.R_drew)); exact HO136.out)); (case aS => exact (below_size (by repeat (first | (with_reducible first | exact HB.out | apply below_alloc | apply pw_below_drewN | apply below_drew1) | exact HB.out)))); (case aL => have := LMc4.out; omega); intro v138 w6 ho hb hg hat; rw [← Ny137.out] at ho; have n0_ := Aside0.mk (hb); have n1_ := Aside0.mk (ho); clear HB; clear HO136; have HB := n0_; have HO139 := n1_; clear n0_ n1_; clear ho hb hg hat))
 go_ret2
 exact ⟨_, by first | rfl | (simp [errW_none, errW_some] <;> rfl) | (simp [*, errW_none, errW_some] <;> rfl), by (with_reducible repeat (first | apply Kd.R_alloc | apply Kd.R_drewN | apply Kd.R_drew)); exact HO139.out, by repeat (first | (with_reducible first | exact HB.out | apply below_alloc | apply pw_below_drewN | apply below_drew1) | exact HB.out)⟩
end Go.Proofs.YtdklmafkcbjomaaDoor.B
