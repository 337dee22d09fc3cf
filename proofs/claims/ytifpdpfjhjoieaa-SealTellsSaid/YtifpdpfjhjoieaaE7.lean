/-
  The lower layers, walked and in closed forms, part 7: H2, H3, Vof, SealC, SealD, SealE, SealF, SealP, RowsIn, StructIn.
-/
import Derived.Test.YtifpdpfjhjoieaaE0
import Derived.Test.YtifpdpfjhjoieaaE1
import Derived.Test.YtifpdpfjhjoieaaE6
import Derived.Test.YtifpdpfjhjoieaaGWords
import Derived.Test.YtifpdpfjhjoieaaGLast
import Derived.Test.YtifpdpfjhjoieaaGMore
import Derived.Test.YtifpdpfjhjoieaaGRepsOne
import Derived.Test.YtifpdpfjhjoieaaGGuard
import Derived.Test.YtifpdpfjhjoieaaGTab
import Derived.Test.YtifpdpfjhjoieaaGSized
import Derived.Deep.Matrix
import Derived.SizedLaws
/-! H2 -/
namespace Go.Proofs.Ytifpdpfjhjoieaa.H
open Go.Proofs.Ytifpdpfjhjoieaa.P
open Go.RowKit Go.Proofs.YtifpdpfjhjoieaaW.PrintWords Go.Proofs.YtifpdpfjhjoieaaW.PrintLast Go.Proofs.YtifpdpfjhjoieaaW.PrintMore
attribute [local go_sem] max2_int min2_int max_two min_two max_three min_three max_four min_four   -- for this text's walks alone
set_option linter.unusedVariables false
set_option linter.unusedSimpArgs false
/-! ### seal_At: function 21 -/
mutual
def seal_At.j0 : Nat → List Int → Int → Bool → Option (List Int × Int)
  | 0, _, _, _ => none
  | k + 1, x0, x1, x21 => if x21 = true then (some (([] : List Int), 1)) else ((some (([] : List Int) : List Int)).bind fun y174 => (if y174.length + x0.length < 140737488355328 then ((byt_Num.f x1 4).bind fun bt180 => (seal_At.l0 k (y174 ++ x0) bt180.1 bt180.1 (bt180.1.length : Int) 0)) else (none)))
def seal_At.l0 : Nat → List Int → List Int → List Int → Int → Int → Option (List Int × Int)
  | 0, _, _, _, _, _ => none
  | k + 1, x6, x7, x30, x31, x32 => if x32 < x31 then (if 0 ≤ x32 then (if x32 < (x30.length : Int) then (if 0 ≤ (wrap64 ((wrap64 ((x6.length : Int) - (x7.length : Int))) + x32)) then (if (wrap64 ((wrap64 ((x6.length : Int) - (x7.length : Int))) + x32)) < (x6.length : Int) then (seal_At.l0 k (x6.set ((wrap64 ((wrap64 ((x6.length : Int) - (x7.length : Int))) + x32)) : Int).toNat (Go.bits .xor .u8 (rd x6 (wrap64 ((wrap64 ((x6.length : Int) - (x7.length : Int))) + x32))) (rd x30 x32))) x7 x30 x31 (wrap64 (x32 + 1))) else (none)) else (none)) else (none)) else (none)) else (some (x6, 0))
end
def seal_At.f (k : Nat) (l0 : List Int) (a1 : Int) : Option (List Int × Int) := if (l0.length : Int) = 12 then (if a1 < 0 then (seal_At.j0 k l0 a1 true) else (seal_At.j0 k l0 a1 (decide (a1 > 4294967295)))) else (seal_At.j0 k l0 a1 true)
set_option maxHeartbeats 8000000 in
set_option maxRecDepth 100000 in
theorem seal_At.calls (k : Nat) (A0 : Option Addr) (c0 : Nat) (l0 : List Int) (a1 : Int) (r1 : List Int) (r2 : Int) (w : World) (hr0 : Kd.C (Kd.int .u8) w A0 l0.length l0) (hc0 : l0.length ≤ c0) (h : seal_At.f k l0 a1 = some (r1, r2)) :
    Calls Try.prog 21 #[.slice A0 l0.length c0, .int .i64 a1] w fun e w' => ∃ v0_ : Value, e = .returned (.tuple #[v0_, .int .i64 r2]) ∧ Kd.R (Kd.int .u8) 5 w' w.heap.size (fun _ => True) v0_ r1 ∧ Below w.heap.size w w' := by
  have HR0 := Aside0.mk hr0
  have HC0 := Aside0.mk hc0
  clear hr0 hc0
  have HB := Aside0.mk (Below.refl w.heap.size w)
  have H : (if (l0.length : Int) = 12 then (if a1 < 0 then (seal_At.j0 k l0 a1 true) else (seal_At.j0 k l0 a1 (decide (a1 > 4294967295)))) else (seal_At.j0 k l0 a1 true)) = some (r1, r2) := h
  clear h
  have HC3 := Aside0.mk H
  clear H
  go_enter Try.func21, Try.ntmps21
  go_upto_region 1 with (fail)
  go_cut [21] (fun v21 wc => ∃ (kq : Nat) (x21_2 : Bool), v21 = .bool x21_2 ∧ Aside0 (seal_At.j0 kq l0 a1 x21_2 = some (r1, r2)) ∧ Aside0 (kq ≤ k) ∧ Aside0 (Below w.heap.size w wc))
  case first =>
    have H := HC3.out
    clear HC3
    by_cases c4 : (l0.length : Int) = 12
    rotate_left
    · rw [if_neg c4] at H
      have c4b0 : ((l0.length : Int) == 12) = false := beq_eq_false_iff_ne.mpr c4
      have c4b1 : ((l0.length : Int) != 12) = true := bne_iff_ne.mpr c4
      (skip)
      have H' := Aside0.mk H
      clear H
      go_wp2
      go_meet
      case rel => exact ⟨_, (true), (by first | rfl), H', ⟨by first | omega⟩, ⟨by repeat ((with_reducible first | exact HB.out))⟩⟩
    rw [if_pos c4] at H
    have c4b0 : ((l0.length : Int) == 12) = true := beq_iff_eq.mpr c4
    have c4b1 : ((l0.length : Int) != 12) = false := bne_eq_false_iff_eq.mpr c4
    clear c4
    (skip)
    by_cases c5 : a1 < 0
    · rw [if_pos c5] at H
      have c5b0 : decide (a1 < 0) = true := decide_eq_true c5
      clear c5
      have H' := Aside0.mk H
      clear H
      go_wp2
      go_meet
      case rel => exact ⟨_, (true), (by first | rfl), H', ⟨by first | omega⟩, ⟨by repeat ((with_reducible first | exact HB.out))⟩⟩
    · rw [if_neg c5] at H
      have c5b0 : decide (a1 < 0) = false := decide_eq_false c5
      clear c5
      have H' := Aside0.mk H
      clear H
      go_wp2
      go_meet
      case rel => exact ⟨_, (decide (a1 > 4294967295)), (by first | rfl), H', ⟨by first | omega⟩, ⟨by repeat ((with_reducible first | exact HB.out))⟩⟩
  clear HC3
  skip
  skip
  skip
  skip
  skip
  skip
  skip
  obtain ⟨kq, x21_2, rfl, HA, HJ2, HB⟩ := hcut
  cases kq with
  | zero => exact absurd HA.out (by simp [seal_At.j0])
  | succ kj2 =>
    have H := HA.out
    clear HA
    simp only [seal_At.j0] at H
    by_cases c6 : x21_2 = true
    · subst c6
      have H1 : (some (([] : List Int), 1)) = some (r1, r2) := by rw [if_pos rfl] at H; exact H
      clear H
      have H := H1
      clear H1
      simp only [Option.some.injEq, Prod.mk.injEq] at H
      obtain ⟨rfl, rfl⟩ := H
      go_wp2
      go_ret2
      exact ⟨_, by first | rfl, by first | exact Kd.R_nil _ _ _ _ _, by repeat ((with_reducible first | exact HB.out))⟩
    replace c6 := Bool.eq_false_iff.mpr c6
    subst c6
    have H1 : ((some (([] : List Int) : List Int)).bind fun y174 => (if y174.length + l0.length < 140737488355328 then ((byt_Num.f a1 4).bind fun bt180 => (seal_At.l0 kj2 (y174 ++ l0) bt180.1 bt180.1 (bt180.1.length : Int) 0)) else (none))) = some (r1, r2) := by rw [if_neg (show ¬ (false = true) by decide)] at H; exact H
    clear H
    have H := H1
    clear H1
    obtain ⟨y174, hy174⟩ : ∃ y_ : List Int, y_ = (([] : List Int)) := ⟨_, rfl⟩
    replace H : (if y174.length + l0.length < 140737488355328 then ((byt_Num.f a1 4).bind fun bt180 => (seal_At.l0 kj2 (y174 ++ l0) bt180.1 bt180.1 (bt180.1.length : Int) 0)) else (none)) = some (r1, r2) := by first | (have H2_ := (Option.bind_some _ _).symm.trans H; rw [hy174]; with_reducible exact H2_)
    have Ny174 := Aside0.mk hy174
    clear hy174
    by_cases c7 : y174.length + l0.length < 140737488355328
    rotate_left
    · rw [if_neg c7] at H
      exact absurd H (by simp)
    rw [if_pos c7] at H
    have LMc7 := Aside0.mk c7
    clear c7
    obtain ⟨y177, hy177⟩ : ∃ y_ : List Int, y_ = (y174 ++ l0) := ⟨_, rfl⟩
    replace H : ((byt_Num.f a1 4).bind fun bt180 => (seal_At.l0 kj2 y177 bt180.1 bt180.1 (bt180.1.length : Int) 0)) = some (r1, r2) := by first | (rw [hy177]; with_reducible exact H)
    have Ny177 := Aside0.mk hy177
    clear hy177
    replace H := Option.bind_eq_some_iff.mp H
    obtain ⟨⟨t180, t181⟩, A80, H⟩ := H
    replace H : (seal_At.l0 kj2 y177 t180 t180 (t180.length : Int) 0) = some (r1, r2) := H
    have A8 := Aside0.mk A80
    clear A80
    have H' := Aside0.mk H
    clear H
    go_wp2_with (first | ((with_reducible refine gate_dst (N := 22) rfl ?_); refine Kd.R_lit (Kd.int .u8) _ 5 ?hg (N := 22) ?hd (xs := ([] : List Int)) (inner := []) (ok := fun _ => True) (okp := fun _ => True) ?hr ?hp (fun _ hk => hk) trivial (Below.refl _ _) (Nat.le_refl _) (by simp) ?_; (case hd => rfl); (case hg => rfl); (case hr => first | (go_simp; done)); (case hp => exact (Reps.none _ _)); intro v175 w9 ho10 hb hg_ hnew_; clear hg_ hnew_; (rw [← Ny174.out] at ho10); have n0_ := Aside0.mk (Kd.R_lower ho10 (below_size (by repeat ((with_reducible first | exact HB.out))))); have n1_ := Aside0.mk (below_step (by repeat ((with_reducible first | exact HB.out))) hb); clear HB; have HO176 := n0_; have HB := n1_; clear n0_ n1_; clear hb ho10) | ((with_reducible refine gate_builtin (b := .append) (xs := #[.tmp 22, .tmp 23]) rfl ?_); at_builtin; refine Kd.R_append_rows (Kd.int .u8) (w0 := w) w.heap.size rfl (.tmp 22) (.tmp 23) 22 5 (.int .u8 0) 1 rfl Try.underlying22 info5 rfl (by decide) (by omega) v175 y174 l0 _ _ _ (fun _ => True) (fun _ => False) rfl rfl ?aO ?aR (fun _ _ h => h) (fun _ h => h.elim) ?aF ?aB ?aS ?aL ?_; (case aR => repeat (exact (Kd.C_below HR0.out HB.out))); (case aB => exact (by repeat ((with_reducible first | exact HB.out)))); (case aF => exact (fun _ _ => trivial)); (case aO => exact (by (with_reducible repeat (fail)); exact HO176.out)); (case aS => exact (below_size (by repeat ((with_reducible first | exact HB.out))))); (case aL => have := LMc7.out; omega); intro v178 w11 ho hb hg hat; rw [← Ny177.out] at ho; have n0_ := Aside0.mk (hb); have n1_ := Aside0.mk (ho); clear HB; clear HO176; have HB := n0_; have HO179 := n1_; clear n0_ n1_; clear ho hb hg hat) | ((with_reducible refine gate_callee (f := 47) rfl ?_); refine goesL_ (some 27) rfl rfl Try.func47 (by kernel_rfl) rfl #[.int .i64 a1, .int .i64 4] rfl (by (try simp only [List.map_toArray, List.map_cons, List.map_nil]); first | rfl) ?_; (with_reducible refine (byt_Num.calls a1 4 t180 t181 _ A8.out).mono ?_); rintro e w12 ⟨v182, rfl, ho0, hb⟩; refine ⟨_, rfl, ?_⟩; have n0_ := Aside0.mk (Kd.R_elder' (by (with_reducible repeat (fail)); exact HO179.out) (Kd.R_base ho0) hb); have n1_ := Aside0.mk (Kd.R_lower (Kd.R_new' ho0 (Kd.R_lt (by (with_reducible repeat (fail)); exact HO179.out))) (below_size (by repeat ((with_reducible first | exact HB.out))))); have n2_ := Aside0.mk (below_step (by repeat ((with_reducible first | exact HB.out))) hb); clear HO179; clear HB; have HO179 := n0_; have HO183 := n1_; have HB := n2_; clear n0_ n1_ n2_; (try clear hb); (try clear ho0); obtain ⟨Ao13, co13, eo13⟩ := Kd.R_slice HO183.out; subst eo13))
    go_loopg [32] kj2 (fun kq v32 w' => ∃ (x6_2 : List Int) (x32_2 : Int), v32 = .int .i64 x32_2 ∧ Aside0 (seal_At.l0 kq x6_2 t180 t180 (t180.length : Int) x32_2 = some (r1, r2)) ∧ Aside0 (kq ≤ kj2) ∧ Aside0 (Kd.R (Kd.int .u8) 5 w' w.heap.size (fun k_ => some k_ ≠ ((.slice Ao13 t180.length co13) : Value).ownBlock ∧ some k_ ≠ ((.slice Ao13 t180.length co13) : Value).ownBlock) v178 x6_2) ∧ Aside0 (Kd.R (Kd.int .u8) 5 w' w.heap.size (fun k_ => some k_ ≠ (v178 : Value).ownBlock) (.slice Ao13 t180.length co13) t180) ∧ Aside0 (Kd.R (Kd.int .u8) 5 w' w.heap.size (fun k_ => some k_ ≠ (v178 : Value).ownBlock) (.slice Ao13 t180.length co13) t180) ∧ Aside0 (Below w.heap.size w w'))
    case atStart => exact ⟨(y177), (0), (by first | rfl), H', ⟨Nat.le_refl _⟩, ⟨by (with_reducible repeat (fail)); exact Kd.R_mono HO179.out (fun _ hk => ⟨hk.2, hk.2⟩)⟩, ⟨by (with_reducible repeat (fail)); exact Kd.R_mono HO183.out (fun _ hk => hk.2)⟩, ⟨by (with_reducible repeat (fail)); exact Kd.R_mono HO183.out (fun _ hk => hk.2)⟩, ⟨by repeat ((with_reducible first | exact HB.out))⟩⟩
    clear H'
    skip
    skip
    skip
    skip
    skip
    skip
    skip
    skip
    skip
    skip
    obtain ⟨x6_2, x32_2, rfl, HA, HK2, HO_6, HO_7, HO_30, HB⟩ := hrel
    cases gk with
    | zero => exact absurd HA.out (by simp [seal_At.l0])
    | succ k2 =>
      have H := HA.out
      clear HA
      simp only [seal_At.l0] at H
      by_cases c14 : x32_2 < (t180.length : Int)
      rotate_left
      · rw [if_neg c14] at H
        have c14b0 : decide (x32_2 < (t180.length : Int)) = false := decide_eq_false c14
        clear c14
        simp only [Option.some.injEq, Prod.mk.injEq] at H
        obtain ⟨rfl, rfl⟩ := H
        go_wp2
        go_ret2
        exact ⟨_, by first | rfl, by (with_reducible repeat (fail)); exact Kd.R_mono HO_6.out (fun _ hk => trivial), by repeat ((with_reducible first | exact HB.out))⟩
      rw [if_pos c14] at H
      have c14b0 : decide (x32_2 < (t180.length : Int)) = true := decide_eq_true c14
      clear c14
      by_cases c15 : 0 ≤ x32_2
      rotate_left
      · rw [if_neg c15] at H
        exact absurd H (by simp)
      rw [if_pos c15] at H
      have c15b0 : decide (0 ≤ x32_2) = true := decide_eq_true c15
      clear c15
      by_cases c16 : x32_2 < (t180.length : Int)
      rotate_left
      · rw [if_neg c16] at H
        exact absurd H (by simp)
      rw [if_pos c16] at H
      have c16b0 : decide (x32_2 < (t180.length : Int)) = true := decide_eq_true c16
      clear c16
      obtain ⟨ji17, hji17⟩ : ∃ j_ : Int, (wrap64 ((wrap64 ((x6_2.length : Int) - (t180.length : Int))) + x32_2)) = j_ := ⟨_, rfl⟩
      replace H : (if 0 ≤ (ji17) then (if (ji17) < (x6_2.length : Int) then (seal_At.l0 k2 (x6_2.set ((ji17) : Int).toNat (Go.bits .xor .u8 (rd x6_2 (ji17)) (rd t180 x32_2))) t180 t180 (t180.length : Int) (wrap64 (x32_2 + 1))) else (none)) else (none)) = some (r1, r2) := by first | (rw [hji17] at H; exact H)
      have hji17w : (IntKind.i64.wrap ((wrap64 ((x6_2.length : Int) - (t180.length : Int))) + x32_2)) = ji17 := (i64_w _).trans hji17
      by_cases c18 : 0 ≤ (ji17)
      rotate_left
      · rw [if_neg c18] at H
        exact absurd H (by simp)
      rw [if_pos c18] at H
      have c18b0 : decide (0 ≤ (ji17)) = true := decide_eq_true c18
      clear c18
      by_cases c19 : (ji17) < (x6_2.length : Int)
      rotate_left
      · rw [if_neg c19] at H
        exact absurd H (by simp)
      rw [if_pos c19] at H
      have c19b0 : decide ((ji17) < (x6_2.length : Int)) = true := decide_eq_true c19
      clear c19
      obtain ⟨y186, hy186⟩ : ∃ y_ : List Int, y_ = (x6_2.set ((ji17) : Int).toNat (Go.bits .xor .u8 (rd x6_2 (ji17)) (rd t180 x32_2))) := ⟨_, rfl⟩
      replace H : (seal_At.l0 k2 y186 t180 t180 (t180.length : Int) (wrap64 (x32_2 + 1))) = some (r1, r2) := by first | (rw [hy186]; with_reducible exact H)
      have Ny186 := Aside0.mk hy186
      clear hy186
      have H' := Aside0.mk H
      clear H
      have p184 : 0 ≤ (x32_2 : Int) := of_decide_eq_true (by first | (with_reducible assumption))
      have q184 : x32_2 < (t180.length : Int) := of_decide_eq_true (by first | (with_reducible assumption))
      obtain ⟨ad184, e184, hx184_0⟩ := Kd.at_int (Kd.R_reads' HO_30.out).2.2 x32_2 p184 q184
      cases e184
      replace p184 := eq_true p184
      replace q184 := eq_true q184
      obtain ⟨Ao21, co21, eo21⟩ := Kd.R_slice HO_6.out
      subst eo21
      have p185 : 0 ≤ ((ji17) : Int) := of_decide_eq_true (by first | (with_reducible assumption))
      have q185 : (ji17) < (x6_2.length : Int) := of_decide_eq_true (by first | (with_reducible assumption))
      obtain ⟨ad185, e185, hx185_0⟩ := Kd.at_int (Kd.R_reads' HO_6.out).2.2 (ji17) p185 q185
      cases e185
      replace p185 := eq_true p185
      replace q185 := eq_true q185
      have p20 : 0 ≤ ((ji17) : Int) := of_decide_eq_true (by first | (with_reducible assumption))
      have q20 : ((ji17) : Int) < ((x6_2.length : Int) : Int) := of_decide_eq_true (by first | (with_reducible assumption))
      obtain ⟨go20, co20, eo20, gb20, gl20, cl20, HG20⟩ := Kd.R_form HO_6.out (by omega)
      (cases eo20)
      have GB20 := Aside0.mk gb20
      have GG20 := Aside0.mk HG20
      clear gb20 gl20 HG20
      (simp only [add_plain] at hx185_0)
      obtain ⟨hx20_0, hf20_0⟩ := Kd.R_celln 0 HO_6.out ((ji17) : Int) p20 q20
      replace p20 := eq_true p20
      replace q20 := eq_true q20
      have HP22 := Kd.R_putg HO_6.out ((ji17) : Int) (Go.bits .xor .u8 (rd x6_2 (ji17)) (rd t180 x32_2))
      go_wp2_with (first | ((with_reducible refine gate_store (t := 5) (p := 49) rfl ?_); refine store_event (t := 5) (p := 49) (v := ?vo_w23) (w1 := (wr.setCell ⟨go20, ((ji17) : Int).toNat, none⟩ (.int .u8 (Go.bits .xor .u8 (rd x6_2 (ji17)) (rd t180 x32_2))))) ?hg ?ho ?hn ?hr ?_; (case ho => rfl); (case hg => rfl); (case hn => rfl); (case hr => first | (go_simp; done)); intro w23 hw; have hg : wr.grownBy w23 (some go20) := (by rw [hw]; exact HP22.2); have hp_ : Kd.R (Kd.int .u8) 5 w23 w.heap.size (fun k_ => some k_ ≠ (.slice (some ad184) t180.length co13 : Value).ownBlock ∧ some k_ ≠ (.slice (some ad184) t180.length co13 : Value).ownBlock) (.slice (some ⟨go20, 0, none⟩) x6_2.length co21) y186 := (by rw [hw, Ny186.out]; exact HP22.1); clear HP22; have n0_ := Aside0.mk (hp_); have n1_ := Aside0.mk (Kd.R_after (v := (.slice (some ⟨go20, 0, none⟩) x6_2.length co21)) (v1 := (.slice (some ⟨go20, 0, none⟩) x6_2.length co21)) (ok := (fun _ => True)) (by (with_reducible repeat (fail)); exact Kd.R_mono HO_7.out (fun _ hk => ⟨trivial, hk⟩)) hg (.inl rfl)); have n2_ := Aside0.mk (Kd.R_after (v := (.slice (some ⟨go20, 0, none⟩) x6_2.length co21)) (v1 := (.slice (some ⟨go20, 0, none⟩) x6_2.length co21)) (ok := (fun _ => True)) (by (with_reducible repeat (fail)); exact Kd.R_mono HO_30.out (fun _ hk => ⟨trivial, hk⟩)) hg (.inl rfl)); have n3_ := Aside0.mk ((by rw [hw]; exact below_set (HB.out) GB20.out : Below w.heap.size w w23)); clear HO_6; clear HO_7; clear HO_30; clear HB; have HO_6 := n0_; have HO_7 := n1_; have HO_30 := n2_; have HB := n3_; clear n0_ n1_ n2_ n3_; clear hg hw hp_))
      go_roundg k2
      case measure => have := HJ2.out; have := HK2.out; omega
      case rel => exact ⟨(y186), (wrap64 (x32_2 + 1)), (by first | rfl), H', ⟨by have := HJ2.out; have := HK2.out; omega⟩, ⟨by (with_reducible repeat (fail)); exact HO_6.out⟩, ⟨by (with_reducible repeat (fail)); exact Kd.R_mono HO_7.out (fun _ hk => hk.2)⟩, ⟨by (with_reducible repeat (fail)); exact Kd.R_mono HO_30.out (fun _ hk => hk.2)⟩, ⟨by repeat ((with_reducible first | exact HB.out))⟩⟩
-- NOT PRINTED: function 77 (pyxref01_power)
-- NOT PRINTED: function 70 (pyxref01_Len)
-- NOT PRINTED: function 71 (pyxref02_Pad)
-- NOT PRINTED: function 72 (pyxref02_keys)
-- NOT PRINTED: function 73 (pyxref02_Start)
-- NOT PRINTED: function 88 (pyxref02_word)
-- NOT PRINTED: function 89 (pyxref02_turn)
-- NOT PRINTED: function 74 (pyxref02_step)
-- NOT PRINTED: function 50 (pyxref02_Sum)
-- NOT PRINTED: function 49 (pyxref03_Key)
-- NOT PRINTED: function 51 (pyxref03_with)
-- NOT PRINTED: function 64 (pyxref04_Expand)
/-! ### pyxref06_Halves: function 15 -/
def pyxref06_Halves.f (l0 : List Int) : Option (List Int × List Int × Int) := if (l0.length : Int) = 32 then ((pyxref04_Label.f l0 (⟨#[108, 111, 99, 107]⟩ : ByteArray) ([] : List Int) 16).bind fun bt187 => ((pyxref04_Label.f l0 (⟨#[116, 97, 103]⟩ : ByteArray) ([] : List Int) 32).bind fun bt191 => (some (bt187.1, bt191.1, 0)))) else (some (([] : List Int), ([] : List Int), 1))
set_option maxHeartbeats 8000000 in
set_option maxRecDepth 100000 in
theorem pyxref06_Halves.calls (A0 : Option Addr) (c0 : Nat) (l0 : List Int) (r1 : List Int) (r2 : List Int) (r3 : Int) (w : World) (hr0 : Kd.C (Kd.int .u8) w A0 l0.length l0) (hc0 : l0.length ≤ c0) (h : pyxref06_Halves.f l0 = some (r1, r2, r3)) :
    Calls Try.prog 15 #[.slice A0 l0.length c0] w fun e w' => ∃ v0_ v1_ : Value, e = .returned (.tuple #[v0_, v1_, .int .i64 r3]) ∧ Kd.R (Kd.int .u8) 5 w' w.heap.size (fun k_ => some k_ ≠ (v1_ : Value).ownBlock) v0_ r1 ∧ Kd.R (Kd.int .u8) 5 w' w.heap.size (fun k_ => some k_ ≠ (v0_ : Value).ownBlock) v1_ r2 ∧ Below w.heap.size w w' := by
  have HR0 := Aside0.mk hr0
  have HC0 := Aside0.mk hc0
  clear hr0 hc0
  have HB := Aside0.mk (Below.refl w.heap.size w)
  have H : (if (l0.length : Int) = 32 then ((pyxref04_Label.f l0 (⟨#[108, 111, 99, 107]⟩ : ByteArray) ([] : List Int) 16).bind fun bt187 => ((pyxref04_Label.f l0 (⟨#[116, 97, 103]⟩ : ByteArray) ([] : List Int) 32).bind fun bt191 => (some (bt187.1, bt191.1, 0)))) else (some (([] : List Int), ([] : List Int), 1))) = some (r1, r2, r3) := h
  clear h
  by_cases c2 : (l0.length : Int) = 32
  rotate_left
  · rw [if_neg c2] at H
    have c2b0 : ((l0.length : Int) == 32) = false := beq_eq_false_iff_ne.mpr c2
    have c2b1 : ((l0.length : Int) != 32) = true := bne_iff_ne.mpr c2
    simp only [Option.some.injEq, Prod.mk.injEq] at H
    obtain ⟨rfl, rfl, rfl⟩ := H
    go_enter Try.func15, Try.ntmps15
    go_wp2
    go_ret3
    exact ⟨_, _, by first | rfl, by first | exact Kd.R_nil _ _ _ _ _, by first | exact Kd.R_nil _ _ _ _ _, by repeat ((with_reducible first | exact HB.out))⟩
  rw [if_pos c2] at H
  have c2b0 : ((l0.length : Int) == 32) = true := beq_iff_eq.mpr c2
  have c2b1 : ((l0.length : Int) != 32) = false := bne_eq_false_iff_eq.mpr c2
  clear c2
  replace H := Option.bind_eq_some_iff.mp H
  obtain ⟨⟨t187, t188⟩, A30, H⟩ := H
  replace H : ((pyxref04_Label.f l0 (⟨#[116, 97, 103]⟩ : ByteArray) ([] : List Int) 32).bind fun bt191 => (some (t187, bt191.1, 0))) = some (r1, r2, r3) := H
  have A3 := Aside0.mk A30
  clear A30
  replace H := Option.bind_eq_some_iff.mp H
  obtain ⟨⟨t191, t192⟩, A40, H⟩ := H
  replace H : (some (t187, t191, 0)) = some (r1, r2, r3) := H
  have A4 := Aside0.mk A40
  clear A40
  simp only [Option.some.injEq, Prod.mk.injEq] at H
  obtain ⟨rfl, rfl, rfl⟩ := H
  go_enter Try.func15, Try.ntmps15
  go_wp2_with (first | ((with_reducible refine gate_callee (f := 41) rfl ?_); refine goesL_ (some 14) rfl rfl Try.func41 (by kernel_rfl) rfl #[.slice A0 l0.length c0, .string (⟨#[108, 111, 99, 107]⟩ : ByteArray), .slice none 0 0, .int .i64 16] rfl (by (try simp only [List.map_toArray, List.map_cons, List.map_nil]); first | rfl) ?_; (refine (pyxref04_Label.calls _ _ l0 (⟨#[108, 111, 99, 107]⟩ : ByteArray) _ _ ([] : List Int) 16 t187 t188 _ ?side1 ?side2 ?side3 ?side4 A3.out).mono ?_); (case side1 => repeat (exact HR0.out)); (case side2 => exact HC0.out); (case side3 => exact Kd.C_nil _ _); (case side4 => exact Nat.le_refl _); rintro e w5 ⟨v189, rfl, ho0, hb⟩; refine ⟨_, rfl, ?_⟩; have n0_ := Aside0.mk (Kd.R_lower ho0 (below_size (by repeat ((with_reducible first | exact HB.out))))); have n1_ := Aside0.mk (below_step (by repeat ((with_reducible first | exact HB.out))) hb); clear HB; have HO190 := n0_; have HB := n1_; clear n0_ n1_; (try clear hb); (try clear ho0)) | ((with_reducible refine gate_callee (f := 41) rfl ?_); refine goesL_ (some 19) rfl rfl Try.func41 (by kernel_rfl) rfl #[.slice A0 l0.length c0, .string (⟨#[116, 97, 103]⟩ : ByteArray), .slice none 0 0, .int .i64 32] rfl (by (try simp only [List.map_toArray, List.map_cons, List.map_nil]); first | rfl) ?_; (refine (pyxref04_Label.calls _ _ l0 (⟨#[116, 97, 103]⟩ : ByteArray) _ _ ([] : List Int) 32 t191 t192 _ ?side1 ?side2 ?side3 ?side4 A4.out).mono ?_); (case side1 => repeat (exact (Kd.C_below HR0.out HB.out))); (case side2 => exact HC0.out); (case side3 => exact Kd.C_nil _ _); (case side4 => exact Nat.le_refl _); rintro e w6 ⟨v193, rfl, ho0, hb⟩; refine ⟨_, rfl, ?_⟩; have n0_ := Aside0.mk (Kd.R_elder' (by (with_reducible repeat (fail)); exact HO190.out) (Kd.R_base ho0) hb); have n1_ := Aside0.mk (Kd.R_lower (Kd.R_new' ho0 (Kd.R_lt (by (with_reducible repeat (fail)); exact HO190.out))) (below_size (by repeat ((with_reducible first | exact HB.out))))); have n2_ := Aside0.mk (below_step (by repeat ((with_reducible first | exact HB.out))) hb); clear HO190; clear HB; have HO190 := n0_; have HO194 := n1_; have HB := n2_; clear n0_ n1_ n2_; (try clear hb); (try clear ho0)))
  go_ret3
  exact ⟨_, _, by first | rfl, by (with_reducible repeat (fail)); exact Kd.R_mono HO190.out (fun _ hk => hk.2), by (with_reducible repeat (fail)); exact Kd.R_mono HO194.out (fun _ hk => hk.2), by repeat ((with_reducible first | exact HB.out))⟩
-- NOT PRINTED: function 90 (pyxref05_left)
-- NOT PRINTED: function 75 (pyxref05_turned)
-- NOT PRINTED: function 76 (pyxref05_Mul)
-- NOT PRINTED: function 52 (pyxref05_boxes)
-- NOT PRINTED: function 53 (pyxref05_keys)
-- NOT PRINTED: function 55 (pyxref05_lock)
/-! ### pyxref06_tag: function 45 -/
def pyxref06_tag.f (l0 : List Int) (l1 : List Int) (l2 : List Int) (l3 : List Int) : Option (List Int) := (pyxref01_Row.f l2).bind fun bt195 => ((pyxref03_All.f l0 (([bt195.1, l1, l3] : List (List Int)))).bind fun t202 => (some t202))
set_option maxHeartbeats 8000000 in
set_option maxRecDepth 100000 in
theorem pyxref06_tag.calls (A0 : Option Addr) (c0 : Nat) (l0 : List Int) (P1_ : Nat → Prop) (A1 : Option Addr) (c1 : Nat) (l1 : List Int) (A2 : Option Addr) (c2 : Nat) (l2 : List Int) (P3_ : Nat → Prop) (A3 : Option Addr) (c3 : Nat) (l3 : List Int) (r : List Int) (w : World) (hr0 : Kd.C (Kd.int .u8) w A0 l0.length l0) (hc0 : l0.length ≤ c0) (hs1 : Kd.V (Kd.int .u8) 5 w w.heap.size (fun k_ => P1_ k_) (.slice A1 l1.length c1) l1) (hr2 : Kd.C (Kd.int .u8) w A2 l2.length l2) (hc2 : l2.length ≤ c2) (hs3 : Kd.V (Kd.int .u8) 5 w w.heap.size (fun k_ => P3_ k_) (.slice A3 l3.length c3) l3) (h : pyxref06_tag.f l0 l1 l2 l3 = some r) :
    Calls Try.prog 45 #[.slice A0 l0.length c0, .slice A1 l1.length c1, .slice A2 l2.length c2, .slice A3 l3.length c3] w fun e w' => ∃ v0_ : Value, e = .returned (v0_) ∧ Kd.R (Kd.int .u8) 5 w' w.heap.size (fun k_ => (w.heap.size ≤ k_)) v0_ r ∧ Below w.heap.size w w' := by
  have HR0 := Aside0.mk hr0
  have HC0 := Aside0.mk hc0
  clear hr0 hc0
  have HO1 := Aside0.mk (show Kd.V (Kd.int .u8) 5 w w.heap.size (fun k_ => ((P1_ k_ ∨ P3_ k_) ∨ w.heap.size ≤ k_)) (.slice A1 l1.length c1) l1 from Kd.V_mono hs1 (fun k_ hk => .inl (.inl hk)))
  have HR2 := Aside0.mk hr2
  have HC2 := Aside0.mk hc2
  clear hr2 hc2
  have HO3 := Aside0.mk (show Kd.V (Kd.int .u8) 5 w w.heap.size (fun k_ => ((P1_ k_ ∨ P3_ k_) ∨ w.heap.size ≤ k_)) (.slice A3 l3.length c3) l3 from Kd.V_mono hs3 (fun k_ hk => .inl (.inr hk)))
  have HB := Aside0.mk (Below.refl w.heap.size w)
  have H : ((pyxref01_Row.f l2).bind fun bt195 => ((pyxref03_All.f l0 (([bt195.1, l1, l3] : List (List Int)))).bind fun t202 => (some t202))) = some r := h
  clear h
  replace H := Option.bind_eq_some_iff.mp H
  obtain ⟨⟨t195, t196⟩, A50, H⟩ := H
  replace H : ((pyxref03_All.f l0 (([t195, l1, l3] : List (List Int)))).bind fun t202 => (some t202)) = some r := H
  have A5 := Aside0.mk A50
  clear A50
  obtain ⟨y199, hy199⟩ : ∃ y_ : List (List Int), y_ = (([t195, l1, l3] : List (List Int))) := ⟨_, rfl⟩
  replace H : ((pyxref03_All.f l0 y199).bind fun t202 => (some t202)) = some r := by first | (rw [hy199]; with_reducible exact H)
  have Ny199 := Aside0.mk hy199
  clear hy199
  replace H := Option.bind_eq_some_iff.mp H
  obtain ⟨t202, A60, H⟩ := H
  replace H : (some t202) = some r := H
  have A6 := Aside0.mk A60
  clear A60
  obtain rfl := Option.some.inj H
  go_enter Try.func45, Try.ntmps45
  go_wp2_with (first | ((with_reducible refine gate_callee (f := 48) rfl ?_); refine goesL_ (some 13) rfl rfl Try.func48 (by kernel_rfl) rfl #[.slice A2 l2.length c2] rfl (by (try simp only [List.map_toArray, List.map_cons, List.map_nil]); first | rfl) ?_; (with_reducible refine (pyxref01_Row.calls _ _ l2 t195 t196 _ ?side1 ?side2 A5.out).mono ?_); (case side1 => repeat (exact HR2.out)); (case side2 => exact HC2.out); rintro e w7 ⟨v197, rfl, ho0, hb⟩; refine ⟨_, rfl, ?_⟩; have n0_ := Aside0.mk (Kd.V_elder' (by (with_reducible repeat (fail)); exact HO1.out) (Kd.R_base ho0) hb); have n1_ := Aside0.mk (Kd.V_elder' (by (with_reducible repeat (fail)); exact HO3.out) (Kd.R_base ho0) hb); have n2_ := Aside0.mk (Kd.R_lower (Kd.R_newM (M := fun k_ => (w.heap.size ≤ k_)) ho0 (below_size (by repeat ((with_reducible first | exact HB.out)))) (fun k_ h_ => h_)) (below_size (by repeat ((with_reducible first | exact HB.out))))); have n3_ := Aside0.mk (below_step (by repeat ((with_reducible first | exact HB.out))) hb); clear HO1; clear HO3; clear HB; have HO1 := n0_; have HO3 := n1_; have HO198 := n2_; have HB := n3_; clear n0_ n1_ n2_ n3_; (try clear hb); (try clear ho0); obtain ⟨Ao8, co8, eo8⟩ := Kd.R_slice HO198.out; subst eo8) | ((with_reducible refine gate_dst (N := 20) rfl ?_); refine Kd.N_lit (Kd.slice 5 (Kd.int .u8)) _ 22 ?hg (N' := 20) ?hd (xs := ([t195, l1, l3] : List (List Int))) (inner := [.slice Ao8 t195.length co8, .slice A1 l1.length c1, .slice A3 l3.length c3]) (ok := (fun k_ => ((P1_ k_ ∨ P3_ k_) ∨ w.heap.size ≤ k_))) (okp := (fun k_ => ((P1_ k_ ∨ P3_ k_) ∨ w.heap.size ≤ k_))) ?hr ?hp (fun _ hk => hk) ((show ∀ k_, w7.heap.size ≤ k_ → (fun k_ => ((P1_ k_ ∨ P3_ k_) ∨ w.heap.size ≤ k_)) k_ from fun k_ hk => (.inr (Nat.le_trans (below_size (by repeat ((with_reducible first | exact HB.out)))) hk))) _ (Nat.le_refl _)) (Below.refl _ _) (Nat.le_refl _) (by simp) ?_; (case hd => rfl); (case hg => rfl); (case hr => first | (go_simp; done)); (case hp => exact (Reps.one (show Kd.FK (Kd.slice 5 (Kd.int .u8)) _ _ t195 [.slice Ao8 t195.length co8] from (Kd.FK_slice_mk (Kd.R_reads' (Kd.R_mono (ok' := (fun k_ => ((P1_ k_ ∨ P3_ k_) ∨ w.heap.size ≤ k_))) (HO198.out) (fun k_ hk => (.inr (hk.1))))).2.1 (Kd.R_F (Kd.R_mono (ok' := (fun k_ => ((P1_ k_ ∨ P3_ k_) ∨ w.heap.size ≤ k_))) (HO198.out) (fun k_ hk => (.inr (hk.1))))))) (Reps.one (show Kd.FK (Kd.slice 5 (Kd.int .u8)) _ _ l1 [.slice A1 l1.length c1] from (Kd.FK_slice_mk (Kd.V_reads' (Kd.V_mono (ok' := (fun k_ => ((P1_ k_ ∨ P3_ k_) ∨ w.heap.size ≤ k_))) (HO1.out) (fun k_ hk => hk.1))).2.1 (Kd.V_F (Kd.V_mono (ok' := (fun k_ => ((P1_ k_ ∨ P3_ k_) ∨ w.heap.size ≤ k_))) (HO1.out) (fun k_ hk => hk.1))))) (Reps.one (show Kd.FK (Kd.slice 5 (Kd.int .u8)) _ _ l3 [.slice A3 l3.length c3] from (Kd.FK_slice_mk (Kd.V_reads' (Kd.V_mono (ok' := (fun k_ => ((P1_ k_ ∨ P3_ k_) ∨ w.heap.size ≤ k_))) (HO3.out) (fun k_ hk => hk.1))).2.1 (Kd.V_F (Kd.V_mono (ok' := (fun k_ => ((P1_ k_ ∨ P3_ k_) ∨ w.heap.size ≤ k_))) (HO3.out) (fun k_ hk => hk.1))))) (Reps.none _ _))))); intro v200 w9 ho10 hb hg_ hnew_; clear hg_ hnew_; (rw [← Ny199.out] at ho10); have n0_ := Aside0.mk (Kd.V_elder' (by (with_reducible repeat (fail)); exact HO1.out) (Kd.N_base ho10) hb); have n1_ := Aside0.mk (Kd.V_elder' (by (with_reducible repeat (fail)); exact HO3.out) (Kd.N_base ho10) hb); have n2_ := Aside0.mk (Kd.N_lower ho10 (below_size (by repeat ((with_reducible first | exact HB.out))))); have n3_ := Aside0.mk (below_step (by repeat ((with_reducible first | exact HB.out))) hb); clear HO1; clear HO3; clear HB; clear HO198; have HO1 := n0_; have HO3 := n1_; have HO201 := n2_; have HB := n3_; clear n0_ n1_ n2_ n3_; clear hb ho10; obtain ⟨Ao11, co11, eo11⟩ := Kd.N_slice HO201.out; subst eo11) | ((with_reducible refine gate_callee (f := 69) rfl ?_); refine goesL_ (some 21) rfl rfl Try.func69 (by kernel_rfl) rfl #[.slice A0 l0.length c0, .slice Ao11 y199.length co11] rfl (by (try simp only [List.map_toArray, List.map_cons, List.map_nil]); first | rfl) ?_; (with_reducible refine (pyxref03_All.calls _ _ l0 _ _ y199 t202 _ ?side1 ?side2 ?side3 ?side4 A6.out).mono ?_); (case side1 => repeat (exact (Kd.C_below HR0.out HB.out))); (case side2 => exact HC0.out); (case side3 => repeat (exact (Kd.N_reads' HO201.out).2.2)); (case side4 => exact (Kd.N_reads' HO201.out).2.1); rintro e w12 ⟨v203, rfl, ho0, hb⟩; refine ⟨_, rfl, ?_⟩; have n0_ := Aside0.mk (Kd.V_elder' (by (with_reducible repeat (fail)); exact HO1.out) (Kd.R_base ho0) hb); have n1_ := Aside0.mk (Kd.V_elder' (by (with_reducible repeat (fail)); exact HO3.out) (Kd.R_base ho0) hb); have n2_ := Aside0.mk (Kd.N_elder' (by (with_reducible repeat (fail)); exact HO201.out) (Kd.R_base ho0) hb); have n3_ := Aside0.mk (Kd.R_lower (Kd.R_newM (M := fun k_ => (w.heap.size ≤ k_)) ho0 (below_size (by repeat ((with_reducible first | exact HB.out)))) (fun k_ h_ => h_)) (below_size (by repeat ((with_reducible first | exact HB.out))))); have n4_ := Aside0.mk (below_step (by repeat ((with_reducible first | exact HB.out))) hb); clear HO1; clear HO3; clear HO201; clear HB; have HO1 := n0_; have HO3 := n1_; have HO201 := n2_; have HO204 := n3_; have HB := n4_; clear n0_ n1_ n2_ n3_ n4_; (try clear hb); (try clear ho0)))
  go_ret
  exact ⟨_, by first | rfl, by (with_reducible repeat (fail)); exact Kd.R_mono HO204.out (fun _ hk => hk.1), by repeat ((with_reducible first | exact HB.out))⟩
/-! ### pyxref06_Seal: function 17 -/
def pyxref06_Seal.j0 : Nat → List Int → List Int → List Int → List Int → List Int → Bool → Option (List Int × Int)
  | 0, _, _, _, _, _, _ => none
  | k + 1, x1, x2, x3, x10, x11, x28 => if x28 = true then (some (([] : List Int), 1)) else ((pyxref05_Stream.f x10 x1 x3).bind fun bt212 => ((some (([] : List Int) : List Int)).bind fun y216 => (if y216.length + bt212.1.length < 140737488355328 then ((some (y216 ++ bt212.1 : List Int)).bind fun y219 => ((pyxref06_tag.f x11 x1 x2 bt212.1).bind fun t222 => (if y219.length + t222.length < 140737488355328 then (some ((y219 ++ t222), 0)) else (none)))) else (none))))
def pyxref06_Seal.f (k : Nat) (l0 : List Int) (l1 : List Int) (l2 : List Int) (l3 : List Int) : Option (List Int × Int) := (pyxref06_Halves.f l0).bind fun bt205 => (if bt205.2.2 = 0 then (pyxref06_Seal.j0 k l1 l2 l3 bt205.1 bt205.2.1 ((l1.length : Int) != 12)) else (pyxref06_Seal.j0 k l1 l2 l3 bt205.1 bt205.2.1 true))
set_option maxHeartbeats 8000000 in
set_option maxRecDepth 100000 in
theorem pyxref06_Seal.calls (k : Nat) (A0 : Option Addr) (c0 : Nat) (l0 : List Int) (A1 : Option Addr) (c1 : Nat) (l1 : List Int) (A2 : Option Addr) (c2 : Nat) (l2 : List Int) (A3 : Option Addr) (c3 : Nat) (l3 : List Int) (r1 : List Int) (r2 : Int) (w : World) (hr0 : Kd.C (Kd.int .u8) w A0 l0.length l0) (hc0 : l0.length ≤ c0) (hr1 : Kd.C (Kd.int .u8) w A1 l1.length l1) (hc1 : l1.length ≤ c1) (hr2 : Kd.C (Kd.int .u8) w A2 l2.length l2) (hc2 : l2.length ≤ c2) (hr3 : Kd.C (Kd.int .u8) w A3 l3.length l3) (hc3 : l3.length ≤ c3) (h : pyxref06_Seal.f k l0 l1 l2 l3 = some (r1, r2)) :
    Calls Try.prog 17 #[.slice A0 l0.length c0, .slice A1 l1.length c1, .slice A2 l2.length c2, .slice A3 l3.length c3] w fun e w' => ∃ v0_ : Value, e = .returned (.tuple #[v0_, .int .i64 r2]) ∧ Kd.R (Kd.int .u8) 5 w' w.heap.size (fun _ => True) v0_ r1 ∧ Below w.heap.size w w' := by
  have HR0 := Aside0.mk hr0
  have HC0 := Aside0.mk hc0
  clear hr0 hc0
  have HR1 := Aside0.mk hr1
  have HC1 := Aside0.mk hc1
  clear hr1 hc1
  have HR2 := Aside0.mk hr2
  have HC2 := Aside0.mk hc2
  clear hr2 hc2
  have HR3 := Aside0.mk hr3
  have HC3 := Aside0.mk hc3
  clear hr3 hc3
  have HB := Aside0.mk (Below.refl w.heap.size w)
  have H : ((pyxref06_Halves.f l0).bind fun bt205 => (if bt205.2.2 = 0 then (pyxref06_Seal.j0 k l1 l2 l3 bt205.1 bt205.2.1 ((l1.length : Int) != 12)) else (pyxref06_Seal.j0 k l1 l2 l3 bt205.1 bt205.2.1 true))) = some (r1, r2) := h
  clear h
  replace H := Option.bind_eq_some_iff.mp H
  obtain ⟨⟨t205, t206, t207⟩, A50, H⟩ := H
  replace H : (if t207 = 0 then (pyxref06_Seal.j0 k l1 l2 l3 t205 t206 ((l1.length : Int) != 12)) else (pyxref06_Seal.j0 k l1 l2 l3 t205 t206 true)) = some (r1, r2) := H
  have A5 := Aside0.mk A50
  clear A50
  have HC6 := Aside0.mk H
  clear H
  go_enter Try.func17, Try.ntmps17
  go_upto_region 2 with (first | ((with_reducible refine gate_callee (f := 15) rfl ?_); refine goesL_ (some 18) rfl rfl Try.func15 (by kernel_rfl) rfl #[.slice A0 l0.length c0] rfl (by (try simp only [List.map_toArray, List.map_cons, List.map_nil]); first | rfl) ?_; (with_reducible refine (pyxref06_Halves.calls _ _ l0 t205 t206 t207 _ ?side1 ?side2 A5.out).mono ?_); (case side1 => repeat (exact HR0.out)); (case side2 => exact HC0.out); rintro e w7 ⟨v208, v210, rfl, ho0, ho1, hb⟩; refine ⟨_, rfl, ?_⟩; have n0_ := Aside0.mk (Kd.R_lower ho0 (below_size (by repeat ((with_reducible first | exact HB.out))))); have n1_ := Aside0.mk (Kd.R_lower ho1 (below_size (by repeat ((with_reducible first | exact HB.out))))); have n2_ := Aside0.mk (below_step (by repeat ((with_reducible first | exact HB.out))) hb); clear HB; have HO209 := n0_; have HO211 := n1_; have HB := n2_; clear n0_ n1_ n2_; (try clear hb); (try clear ho0); (try clear ho1)))
  (skip)
  go_cut [28] (fun v28 wc => ∃ (kq : Nat) (x28_5 : Bool), v28 = .bool x28_5 ∧ Aside0 (pyxref06_Seal.j0 kq l1 l2 l3 t205 t206 x28_5 = some (r1, r2)) ∧ Aside0 (kq ≤ k) ∧ Aside0 (Kd.R (Kd.int .u8) 5 wc w.heap.size (fun k_ => some k_ ≠ (v210 : Value).ownBlock) v208 t205) ∧ Aside0 (Kd.R (Kd.int .u8) 5 wc w.heap.size (fun k_ => some k_ ≠ (v208 : Value).ownBlock) v210 t206) ∧ Aside0 (Below w.heap.size w wc))
  case first =>
    have H := HC6.out
    clear HC6
    by_cases c8 : t207 = 0
    rotate_left
    · rw [if_neg c8] at H
      have c8b0 : (t207 == 0) = false := beq_eq_false_iff_ne.mpr c8
      have c8b1 : (t207 != 0) = true := bne_iff_ne.mpr c8
      (skip)
      have H' := Aside0.mk H
      clear H
      go_wp2
      go_meet
      case rel => exact ⟨_, (true), (by first | rfl), H', ⟨by first | omega⟩, ⟨by (with_reducible repeat (fail)); exact HO209.out⟩, ⟨by (with_reducible repeat (fail)); exact HO211.out⟩, ⟨by repeat ((with_reducible first | exact HB.out))⟩⟩
    rw [if_pos c8] at H
    have c8b0 : (t207 == 0) = true := beq_iff_eq.mpr c8
    have c8b1 : (t207 != 0) = false := bne_eq_false_iff_eq.mpr c8
    clear c8
    (skip)
    have H' := Aside0.mk H
    clear H
    go_wp2
    go_meet
    case rel => exact ⟨_, (((l1.length : Int) != 12)), (by first | rfl), H', ⟨by first | omega⟩, ⟨by (with_reducible repeat (fail)); exact HO209.out⟩, ⟨by (with_reducible repeat (fail)); exact HO211.out⟩, ⟨by repeat ((with_reducible first | exact HB.out))⟩⟩
  clear HC6
  skip
  skip
  skip
  skip
  skip
  skip
  skip
  obtain ⟨kq, x28_5, rfl, HA, HJ5, HO_10, HO_11, HB⟩ := hcut
  cases kq with
  | zero => exact absurd HA.out (by simp [pyxref06_Seal.j0])
  | succ kj5 =>
    have H := HA.out
    clear HA
    simp only [pyxref06_Seal.j0] at H
    by_cases c9 : x28_5 = true
    · subst c9
      have H1 : (some (([] : List Int), 1)) = some (r1, r2) := by rw [if_pos rfl] at H; exact H
      clear H
      have H := H1
      clear H1
      simp only [Option.some.injEq, Prod.mk.injEq] at H
      obtain ⟨rfl, rfl⟩ := H
      go_wp2
      go_ret2
      exact ⟨_, by first | rfl, by first | exact Kd.R_nil _ _ _ _ _, by repeat ((with_reducible first | exact HB.out))⟩
    replace c9 := Bool.eq_false_iff.mpr c9
    subst c9
    have H1 : ((pyxref05_Stream.f t205 l1 l3).bind fun bt212 => ((some (([] : List Int) : List Int)).bind fun y216 => (if y216.length + bt212.1.length < 140737488355328 then ((some (y216 ++ bt212.1 : List Int)).bind fun y219 => ((pyxref06_tag.f t206 l1 l2 bt212.1).bind fun t222 => (if y219.length + t222.length < 140737488355328 then (some ((y219 ++ t222), 0)) else (none)))) else (none)))) = some (r1, r2) := by rw [if_neg (show ¬ (false = true) by decide)] at H; exact H
    clear H
    have H := H1
    clear H1
    replace H := Option.bind_eq_some_iff.mp H
    obtain ⟨⟨t212, t213⟩, A100, H⟩ := H
    replace H : ((some (([] : List Int) : List Int)).bind fun y216 => (if y216.length + t212.length < 140737488355328 then ((some (y216 ++ t212 : List Int)).bind fun y219 => ((pyxref06_tag.f t206 l1 l2 t212).bind fun t222 => (if y219.length + t222.length < 140737488355328 then (some ((y219 ++ t222), 0)) else (none)))) else (none))) = some (r1, r2) := H
    have A10 := Aside0.mk A100
    clear A100
    obtain ⟨y216, hy216⟩ : ∃ y_ : List Int, y_ = (([] : List Int)) := ⟨_, rfl⟩
    replace H : (if y216.length + t212.length < 140737488355328 then ((some (y216 ++ t212 : List Int)).bind fun y219 => ((pyxref06_tag.f t206 l1 l2 t212).bind fun t222 => (if y219.length + t222.length < 140737488355328 then (some ((y219 ++ t222), 0)) else (none)))) else (none)) = some (r1, r2) := by first | (have H2_ := (Option.bind_some _ _).symm.trans H; rw [hy216]; with_reducible exact H2_)
    have Ny216 := Aside0.mk hy216
    clear hy216
    by_cases c11 : y216.length + t212.length < 140737488355328
    rotate_left
    · rw [if_neg c11] at H
      exact absurd H (by simp)
    rw [if_pos c11] at H
    have LMc11 := Aside0.mk c11
    clear c11
    obtain ⟨y219, hy219⟩ : ∃ y_ : List Int, y_ = (y216 ++ t212) := ⟨_, rfl⟩
    replace H : ((pyxref06_tag.f t206 l1 l2 t212).bind fun t222 => (if y219.length + t222.length < 140737488355328 then (some ((y219 ++ t222), 0)) else (none))) = some (r1, r2) := by first | (have H2_ := (Option.bind_some _ _).symm.trans H; rw [hy219]; with_reducible exact H2_)
    have Ny219 := Aside0.mk hy219
    clear hy219
    replace H := Option.bind_eq_some_iff.mp H
    obtain ⟨t222, A120, H⟩ := H
    replace H : (if y219.length + t222.length < 140737488355328 then (some ((y219 ++ t222), 0)) else (none)) = some (r1, r2) := H
    have A12 := Aside0.mk A120
    clear A120
    by_cases c13 : y219.length + t222.length < 140737488355328
    rotate_left
    · rw [if_neg c13] at H
      exact absurd H (by simp)
    rw [if_pos c13] at H
    have LMc13 := Aside0.mk c13
    clear c13
    obtain ⟨y225, hy225⟩ : ∃ y_ : List Int, y_ = (y219 ++ t222) := ⟨_, rfl⟩
    replace H : (some (y225, 0)) = some (r1, r2) := by first | (rw [hy225]; with_reducible exact H)
    have Ny225 := Aside0.mk hy225
    clear hy225
    simp only [Option.some.injEq, Prod.mk.injEq] at H
    obtain ⟨rfl, rfl⟩ := H
    obtain ⟨Ao14, co14, eo14⟩ := Kd.R_slice HO_10.out
    subst eo14
    go_wp2_with (first | ((with_reducible refine gate_callee (f := 25) rfl ?_); refine goesL_ (some 33) rfl rfl Try.func25 (by kernel_rfl) rfl #[.slice Ao14 t205.length co14, .slice A1 l1.length c1, .slice A3 l3.length c3] rfl (by (try simp only [List.map_toArray, List.map_cons, List.map_nil]); first | rfl) ?_; (with_reducible refine (pyxref05_Stream.calls _ _ t205 _ _ l1 _ _ l3 t212 t213 _ ?side1 ?side2 ?side3 ?side4 ?side5 ?side6 A10.out).mono ?_); (case side1 => repeat (exact (Kd.R_reads' HO_10.out).2.2)); (case side2 => exact (Kd.R_reads' HO_10.out).2.1); (case side3 => repeat (exact (Kd.C_below HR1.out HB.out))); (case side4 => exact HC1.out); (case side5 => repeat (exact (Kd.C_below HR3.out HB.out))); (case side6 => exact HC3.out); rintro e w15 ⟨v214, rfl, ho0, hb⟩; refine ⟨_, rfl, ?_⟩; have n0_ := Aside0.mk (Kd.R_elder' (by (with_reducible repeat (fail)); exact HO_10.out) (Kd.R_base ho0) hb); have n1_ := Aside0.mk (Kd.R_elder' (by (with_reducible repeat (fail)); exact HO_11.out) (Kd.R_base ho0) hb); have n2_ := Aside0.mk (Kd.R_lower (Kd.R_new' (Kd.R_new' ho0 (Kd.R_lt (by (with_reducible repeat (fail)); exact HO_10.out))) (Kd.R_lt (by (with_reducible repeat (fail)); exact HO_11.out))) (below_size (by repeat ((with_reducible first | exact HB.out))))); have n3_ := Aside0.mk (below_step (by repeat ((with_reducible first | exact HB.out))) hb); clear HO_10; clear HO_11; clear HB; have HO_10 := n0_; have HO_11 := n1_; have HO215 := n2_; have HB := n3_; clear n0_ n1_ n2_ n3_; (try clear hb); (try clear ho0)) | ((with_reducible refine gate_dst (N := 36) rfl ?_); (try (refine gate_guard (by rfl) ?_; dsimp only)); refine Kd.R_lit (Kd.int .u8) _ 5 ?hg (N := 36) ?hd (xs := ([] : List Int)) (inner := []) (ok := fun _ => True) (okp := fun _ => True) ?hr ?hp (fun _ hk => hk) trivial (Below.refl _ _) (Nat.le_refl _) (by simp) ?_; (case hd => rfl); (case hg => rfl); (case hr => first | (go_simp; done)); (case hp => exact (Reps.none _ _)); intro v217 w16 ho17 hb hg_ hnew_; clear hg_ hnew_; (rw [← Ny216.out] at ho17); have n0_ := Aside0.mk (Kd.R_elder' (by (with_reducible repeat (fail)); exact HO_10.out) (Kd.R_base ho17) hb); have n1_ := Aside0.mk (Kd.R_elder' (by (with_reducible repeat (fail)); exact HO_11.out) (Kd.R_base ho17) hb); have n2_ := Aside0.mk (Kd.R_elder' (by (with_reducible repeat (fail)); exact HO215.out) (Kd.R_base ho17) hb); have n3_ := Aside0.mk (Kd.R_lower (Kd.R_new' (Kd.R_new' (Kd.R_new' ho17 (Kd.R_lt (by (with_reducible repeat (fail)); exact HO_10.out))) (Kd.R_lt (by (with_reducible repeat (fail)); exact HO_11.out))) (Kd.R_lt (by (with_reducible repeat (fail)); exact HO215.out))) (below_size (by repeat ((with_reducible first | exact HB.out))))); have n4_ := Aside0.mk (below_step (by repeat ((with_reducible first | exact HB.out))) hb); clear HO_10; clear HO_11; clear HO215; clear HB; have HO_10 := n0_; have HO_11 := n1_; have HO215 := n2_; have HO218 := n3_; have HB := n4_; clear n0_ n1_ n2_ n3_ n4_; clear hb ho17; obtain ⟨Ao19, co19, eo19⟩ := Kd.R_slice HO215.out; subst eo19) | ((with_reducible refine gate_builtin (b := .append) (xs := #[.tmp 36, .tmp 37]) rfl ?_); (try (refine gate_guard (by rfl) ?_; dsimp only)); at_builtin; refine Kd.R_append_rows (Kd.int .u8) (w0 := w) w.heap.size rfl (.tmp 36) (.tmp 37) 22 5 (.int .u8 0) 1 rfl Try.underlying22 info5 rfl (by decide) (by omega) v217 y216 t212 _ _ _ (fun k_ => some k_ ≠ (.slice Ao14 t205.length co14 : Value).ownBlock ∧ some k_ ≠ (v210 : Value).ownBlock ∧ some k_ ≠ (.slice Ao19 t212.length co19 : Value).ownBlock) (fun _ => False) rfl rfl ?aO ?aR (fun _ _ h => h) (fun _ h => h.elim) ?aF ?aB ?aS ?aL ?_; (case aR => repeat (exact (Kd.R_reads' HO215.out).2.2)); (case aB => exact (by repeat ((with_reducible first | exact HB.out)))); (case aF => exact (fun k_ hk => ⟨Kd.fresh' (Kd.R_lt (by (with_reducible repeat (fail)); exact HO_10.out)) k_ hk, Kd.fresh' (Kd.R_lt (by (with_reducible repeat (fail)); exact HO_11.out)) k_ hk, Kd.fresh' (Kd.R_lt (by (with_reducible repeat (fail)); exact HO215.out)) k_ hk⟩)); (case aO => exact (by (with_reducible repeat (fail)); exact Kd.R_mono HO218.out (fun _ hk => ⟨hk.1.1.2, ⟨hk.1.2, hk.2⟩⟩))); (case aS => exact (below_size (by repeat ((with_reducible first | exact HB.out))))); (case aL => have := LMc11.out; omega); intro v220 w18 ho hb hg hat; rw [← Ny219.out] at ho; have n0_ := Aside0.mk (Kd.R_after (ok := (fun k_ => some k_ ≠ (v210 : Value).ownBlock ∧ some k_ ≠ (.slice Ao19 t212.length co19 : Value).ownBlock)) (by (with_reducible repeat (fail)); exact HO_10.out) hg hat); have n1_ := Aside0.mk (Kd.R_after (ok := (fun k_ => some k_ ≠ (.slice Ao14 t205.length co14 : Value).ownBlock ∧ some k_ ≠ (.slice Ao19 t212.length co19 : Value).ownBlock)) (by (with_reducible repeat (fail)); exact HO_11.out) hg hat); have n2_ := Aside0.mk (Kd.R_after (ok := (fun k_ => some k_ ≠ (.slice Ao14 t205.length co14 : Value).ownBlock ∧ some k_ ≠ (v210 : Value).ownBlock)) (by (with_reducible repeat (fail)); exact Kd.R_mono HO215.out (fun _ hk => ⟨⟨hk.1.1.2, hk.1.2⟩, hk.2⟩)) hg hat); have n3_ := Aside0.mk (hb); have n4_ := Aside0.mk (ho); clear HO_10; clear HO_11; clear HO215; clear HB; clear HO218; have HO_10 := n0_; have HO_11 := n1_; have HO215 := n2_; have HB := n3_; have HO221 := n4_; clear n0_ n1_ n2_ n3_ n4_; clear ho hb hg hat; obtain ⟨Ao20, co20, eo20⟩ := Kd.R_slice HO_11.out; subst eo20) | ((with_reducible refine gate_callee (f := 45) rfl ?_); refine goesL_ (some 44) rfl rfl Try.func45 (by kernel_rfl) rfl #[.slice Ao20 t206.length co20, .slice A1 l1.length c1, .slice A2 l2.length c2, .slice Ao19 t212.length co19] rfl (by (try simp only [List.map_toArray, List.map_cons, List.map_nil]); first | rfl) ?_; (with_reducible refine (pyxref06_tag.calls _ _ t206 (fun k_ => k_ < w.heap.size) _ _ l1 _ _ l2 (fun k_ => some k_ = (.slice Ao19 t212.length co19 : Value).ownBlock) _ _ t212 t222 _ ?side1 ?side2 ?side3 ?side4 ?side5 ?side6 A12.out).mono ?_); (case side1 => repeat (exact (Kd.R_reads' HO_11.out).2.2)); (case side2 => exact (Kd.R_reads' HO_11.out).2.1); (case side3 => exact Kd.V_mk HC1.out (Kd.F_below (Kd.C_F (Kd.heap_int .u8) HR1.out) (by repeat ((with_reducible first | exact HB.out))))); (case side4 => repeat (exact (Kd.C_below HR2.out HB.out))); (case side5 => exact HC2.out); (case side6 => exact Kd.R_V (Kd.R_tight rfl (HO215.out))); rintro e w21 ⟨v223, rfl, ho0, hb⟩; refine ⟨_, rfl, ?_⟩; have n0_ := Aside0.mk (Kd.R_elder' (by (with_reducible repeat (fail)); exact HO_10.out) (Kd.R_base ho0) hb); have n1_ := Aside0.mk (Kd.R_elder' (by (with_reducible repeat (fail)); exact HO_11.out) (Kd.R_base ho0) hb); have n2_ := Aside0.mk (Kd.R_elder' (by (with_reducible repeat (fail)); exact HO215.out) (Kd.R_base ho0) hb); have n3_ := Aside0.mk (Kd.R_elder' (by (with_reducible repeat (fail)); exact HO221.out) (Kd.R_base ho0) hb); have n4_ := Aside0.mk (Kd.R_lower (Kd.R_new' (Kd.R_new' (Kd.R_new' (Kd.R_new' (Kd.R_mono (ok' := fun k_ => True) ho0 (fun _ hk_ => trivial)) (Kd.R_lt (by (with_reducible repeat (fail)); exact HO_10.out))) (Kd.R_lt (by (with_reducible repeat (fail)); exact HO_11.out))) (Kd.R_lt (by (with_reducible repeat (fail)); exact HO215.out))) (Kd.R_lt (by (with_reducible repeat (fail)); exact HO221.out))) (below_size (by repeat ((with_reducible first | exact HB.out))))); have n5_ := Aside0.mk (below_step (by repeat ((with_reducible first | exact HB.out))) hb); clear HO_10; clear HO_11; clear HO215; clear HO221; clear HB; have HO_10 := n0_; have HO_11 := n1_; have HO215 := n2_; have HO221 := n3_; have HO224 := n4_; have HB := n5_; clear n0_ n1_ n2_ n3_ n4_ n5_; (try clear hb); (try clear ho0); obtain ⟨Ao23, co23, eo23⟩ := Kd.R_slice HO224.out; subst eo23) | ((with_reducible refine gate_builtin (b := .append) (xs := #[.tmp 39, .tmp 44]) rfl ?_); (try (refine gate_guard (by rfl) ?_; dsimp only)); at_builtin; refine Kd.R_append_rows (Kd.int .u8) (w0 := w) w.heap.size rfl (.tmp 39) (.tmp 44) 22 5 (.int .u8 0) 1 rfl Try.underlying22 info5 rfl (by decide) (by omega) v220 y219 t222 _ _ _ (fun k_ => some k_ ≠ (.slice Ao14 t205.length co14 : Value).ownBlock ∧ some k_ ≠ (.slice Ao20 t206.length co20 : Value).ownBlock ∧ some k_ ≠ (.slice Ao19 t212.length co19 : Value).ownBlock ∧ some k_ ≠ (.slice Ao23 t222.length co23 : Value).ownBlock) (fun _ => False) rfl rfl ?aO ?aR (fun _ _ h => h) (fun _ h => h.elim) ?aF ?aB ?aS ?aL ?_; (case aR => repeat (exact (Kd.R_reads' HO224.out).2.2)); (case aB => exact (by repeat ((with_reducible first | exact HB.out)))); (case aF => exact (fun k_ hk => ⟨Kd.fresh' (Kd.R_lt (by (with_reducible repeat (fail)); exact HO_10.out)) k_ hk, Kd.fresh' (Kd.R_lt (by (with_reducible repeat (fail)); exact HO_11.out)) k_ hk, Kd.fresh' (Kd.R_lt (by (with_reducible repeat (fail)); exact HO215.out)) k_ hk, Kd.fresh' (Kd.R_lt (by (with_reducible repeat (fail)); exact HO224.out)) k_ hk⟩)); (case aO => exact (by (with_reducible repeat (fail)); exact Kd.R_mono HO221.out (fun _ hk => ⟨hk.1.1, ⟨hk.1.2.1, ⟨hk.1.2.2, hk.2⟩⟩⟩))); (case aS => exact (below_size (by repeat ((with_reducible first | exact HB.out))))); (case aL => have := LMc13.out; omega); intro v226 w22 ho hb hg hat; rw [← Ny225.out] at ho; have n0_ := Aside0.mk (Kd.R_after (ok := (fun k_ => some k_ ≠ (.slice Ao20 t206.length co20 : Value).ownBlock ∧ some k_ ≠ (.slice Ao19 t212.length co19 : Value).ownBlock ∧ some k_ ≠ (.slice Ao23 t222.length co23 : Value).ownBlock)) (by (with_reducible repeat (fail)); exact Kd.R_mono HO_10.out (fun _ hk => ⟨⟨hk.1.1.1, ⟨hk.1.1.2, hk.2⟩⟩, hk.1.2⟩)) hg hat); have n1_ := Aside0.mk (Kd.R_after (ok := (fun k_ => some k_ ≠ (.slice Ao14 t205.length co14 : Value).ownBlock ∧ some k_ ≠ (.slice Ao19 t212.length co19 : Value).ownBlock ∧ some k_ ≠ (.slice Ao23 t222.length co23 : Value).ownBlock)) (by (with_reducible repeat (fail)); exact Kd.R_mono HO_11.out (fun _ hk => ⟨⟨hk.1.1.1, ⟨hk.1.1.2, hk.2⟩⟩, hk.1.2⟩)) hg hat); have n2_ := Aside0.mk (Kd.R_after (ok := (fun k_ => some k_ ≠ (.slice Ao14 t205.length co14 : Value).ownBlock ∧ some k_ ≠ (.slice Ao20 t206.length co20 : Value).ownBlock ∧ some k_ ≠ (.slice Ao23 t222.length co23 : Value).ownBlock)) (by (with_reducible repeat (fail)); exact Kd.R_mono HO215.out (fun _ hk => ⟨⟨hk.1.1.1, ⟨hk.1.1.2, hk.2⟩⟩, hk.1.2⟩)) hg hat); have n3_ := Aside0.mk (Kd.R_after (ok := (fun k_ => some k_ ≠ (.slice Ao14 t205.length co14 : Value).ownBlock ∧ some k_ ≠ (.slice Ao20 t206.length co20 : Value).ownBlock ∧ some k_ ≠ (.slice Ao19 t212.length co19 : Value).ownBlock)) (by (with_reducible repeat (fail)); exact Kd.R_mono HO224.out (fun _ hk => ⟨⟨hk.1.1.1.2, ⟨hk.1.1.2, hk.1.2⟩⟩, hk.2⟩)) hg hat); have n4_ := Aside0.mk (hb); have n5_ := Aside0.mk (ho); clear HO_10; clear HO_11; clear HO215; clear HO224; clear HB; clear HO221; have HO_10 := n0_; have HO_11 := n1_; have HO215 := n2_; have HO224 := n3_; have HB := n4_; have HO227 := n5_; clear n0_ n1_ n2_ n3_ n4_ n5_; clear ho hb hg hat))
    go_ret2
    exact ⟨_, by first | rfl, by (with_reducible repeat (fail)); exact Kd.R_mono HO227.out (fun _ hk => trivial), by repeat ((with_reducible first | exact HB.out))⟩
end Go.Proofs.Ytifpdpfjhjoieaa.H

/-! H3 -/
namespace Go.Proofs.Ytifpdpfjhjoieaa.H
open Go.Proofs.Ytifpdpfjhjoieaa.P
open Go.RowKit Go.Proofs.YtifpdpfjhjoieaaW.PrintWords Go.Proofs.YtifpdpfjhjoieaaW.PrintLast Go.Proofs.YtifpdpfjhjoieaaW.PrintMore
attribute [local go_sem] max2_int min2_int max_two min_two max_three min_three max_four min_four   -- for this text's walks alone
set_option linter.unusedVariables false
set_option linter.unusedSimpArgs false
/-! ### pyxref06_Open: function 20 -/
def pyxref06_Open.j0 : Nat → List Int → List Int → List Int → List Int → List Int → Bool → Option (List Int × Int)
  | 0, _, _, _, _, _, _ => none
  | k + 1, x1, x2, x3, x10, x11, x28 => if x28 = true then (some (([] : List Int), 1)) else (if (x3.length : Int) < 32 then (some (([] : List Int), 3)) else (if 0 ≤ (wrap64 ((x3.length : Int) - 32)) then (if (wrap64 ((x3.length : Int) - 32)) ≤ (x3.length : Int) then ((pyxref06_tag.f x11 x1 x2 (x3.take ((wrap64 ((x3.length : Int) - 32)) : Int).toNat)).bind fun t236 => ((pyxref01_Same.f t236 (x3.drop ((wrap64 ((x3.length : Int) - 32)) : Int).toNat)).bind fun t240 => (if t240 = true then ((pyxref05_Stream.f x10 x1 (x3.take ((wrap64 ((x3.length : Int) - 32)) : Int).toNat)).bind fun bt242 => (some (bt242.1, 0))) else (some (([] : List Int), 5))))) else (none)) else (none)))
def pyxref06_Open.f (k : Nat) (l0 : List Int) (l1 : List Int) (l2 : List Int) (l3 : List Int) : Option (List Int × Int) := (pyxref06_Halves.f l0).bind fun bt228 => (if bt228.2.2 = 0 then (pyxref06_Open.j0 k l1 l2 l3 bt228.1 bt228.2.1 ((l1.length : Int) != 12)) else (pyxref06_Open.j0 k l1 l2 l3 bt228.1 bt228.2.1 true))
def pyxref06_Open.T7 : Bool × List (List Nat × List Nat) := (true, [([], []), ([], []), ([], []), ([], []), ([], []), ([3, 4], [3, 4]), ([0, 1, 2, 5], [0, 1, 2, 5]), ([], []), ([], []), ([7, 8], [7, 8]), ([6, 9, 6], [6, 9]), ([10], [10])])
def pyxref06_Open.B7 : List Nat := [0, 0, 0, 0, 0, 24, 63, 0, 0, 384, 1023, 2047]
theorem pyxref06_Open.tab7 : rtab .any (opsOf Try.f20 7) = pyxref06_Open.T7 := by kernel_rfl
theorem pyxref06_Open.bits7 : waitsOk pyxref06_Open.T7.2 pyxref06_Open.B7 = true := by kernel_rfl
set_option maxHeartbeats 8000000 in
set_option maxRecDepth 100000 in
theorem pyxref06_Open.calls (k : Nat) (A0 : Option Addr) (c0 : Nat) (l0 : List Int) (A1 : Option Addr) (c1 : Nat) (l1 : List Int) (A2 : Option Addr) (c2 : Nat) (l2 : List Int) (A3 : Option Addr) (c3 : Nat) (l3 : List Int) (r1 : List Int) (r2 : Int) (w : World) (hr0 : Kd.C (Kd.int .u8) w A0 l0.length l0) (hc0 : l0.length ≤ c0) (hr1 : Kd.C (Kd.int .u8) w A1 l1.length l1) (hc1 : l1.length ≤ c1) (hr2 : Kd.C (Kd.int .u8) w A2 l2.length l2) (hc2 : l2.length ≤ c2) (hr3 : Kd.C (Kd.int .u8) w A3 l3.length l3) (hc3 : l3.length ≤ c3) (h : pyxref06_Open.f k l0 l1 l2 l3 = some (r1, r2)) :
    Calls Try.prog 20 #[.slice A0 l0.length c0, .slice A1 l1.length c1, .slice A2 l2.length c2, .slice A3 l3.length c3] w fun e w' => ∃ v0_ : Value, e = .returned (.tuple #[v0_, .int .i64 r2]) ∧ Kd.R (Kd.int .u8) 5 w' w.heap.size (fun _ => True) v0_ r1 ∧ Below w.heap.size w w' := by
  have HR0 := Aside0.mk hr0
  have HC0 := Aside0.mk hc0
  clear hr0 hc0
  have HR1 := Aside0.mk hr1
  have HC1 := Aside0.mk hc1
  clear hr1 hc1
  have HR2 := Aside0.mk hr2
  have HC2 := Aside0.mk hc2
  clear hr2 hc2
  have HR3 := Aside0.mk hr3
  have HC3 := Aside0.mk hc3
  clear hr3 hc3
  have HB := Aside0.mk (Below.refl w.heap.size w)
  have H : ((pyxref06_Halves.f l0).bind fun bt228 => (if bt228.2.2 = 0 then (pyxref06_Open.j0 k l1 l2 l3 bt228.1 bt228.2.1 ((l1.length : Int) != 12)) else (pyxref06_Open.j0 k l1 l2 l3 bt228.1 bt228.2.1 true))) = some (r1, r2) := h
  clear h
  replace H := Option.bind_eq_some_iff.mp H
  obtain ⟨⟨t228, t229, t230⟩, A50, H⟩ := H
  replace H : (if t230 = 0 then (pyxref06_Open.j0 k l1 l2 l3 t228 t229 ((l1.length : Int) != 12)) else (pyxref06_Open.j0 k l1 l2 l3 t228 t229 true)) = some (r1, r2) := H
  have A5 := Aside0.mk A50
  clear A50
  have HC6 := Aside0.mk H
  clear H
  go_enter Try.func20, Try.ntmps20
  go_upto_region 2 with (first | ((with_reducible refine gate_callee (f := 15) rfl ?_); refine goesL_ (some 18) rfl rfl Try.func15 (by kernel_rfl) rfl #[.slice A0 l0.length c0] rfl (by (try simp only [List.map_toArray, List.map_cons, List.map_nil]); first | rfl) ?_; (with_reducible refine (pyxref06_Halves.calls _ _ l0 t228 t229 t230 _ ?side1 ?side2 A5.out).mono ?_); (case side1 => repeat (exact HR0.out)); (case side2 => exact HC0.out); rintro e w7 ⟨v231, v233, rfl, ho0, ho1, hb⟩; refine ⟨_, rfl, ?_⟩; have n0_ := Aside0.mk (Kd.R_lower ho0 (below_size (by repeat ((with_reducible first | exact HB.out))))); have n1_ := Aside0.mk (Kd.R_lower ho1 (below_size (by repeat ((with_reducible first | exact HB.out))))); have n2_ := Aside0.mk (below_step (by repeat ((with_reducible first | exact HB.out))) hb); clear HB; have HO232 := n0_; have HO234 := n1_; have HB := n2_; clear n0_ n1_ n2_; (try clear hb); (try clear ho0); (try clear ho1)))
  (skip)
  go_cut [28] (fun v28 wc => ∃ (kq : Nat) (x28_5 : Bool), v28 = .bool x28_5 ∧ Aside0 (pyxref06_Open.j0 kq l1 l2 l3 t228 t229 x28_5 = some (r1, r2)) ∧ Aside0 (kq ≤ k) ∧ Aside0 (Kd.R (Kd.int .u8) 5 wc w.heap.size (fun k_ => some k_ ≠ (v233 : Value).ownBlock) v231 t228) ∧ Aside0 (Kd.R (Kd.int .u8) 5 wc w.heap.size (fun k_ => some k_ ≠ (v231 : Value).ownBlock) v233 t229) ∧ Aside0 (Below w.heap.size w wc))
  case first =>
    have H := HC6.out
    clear HC6
    by_cases c8 : t230 = 0
    rotate_left
    · rw [if_neg c8] at H
      have c8b0 : (t230 == 0) = false := beq_eq_false_iff_ne.mpr c8
      have c8b1 : (t230 != 0) = true := bne_iff_ne.mpr c8
      (skip)
      have H' := Aside0.mk H
      clear H
      go_wp2
      go_meet
      case rel => exact ⟨_, (true), (by first | rfl), H', ⟨by first | omega⟩, ⟨by (with_reducible repeat (fail)); exact HO232.out⟩, ⟨by (with_reducible repeat (fail)); exact HO234.out⟩, ⟨by repeat ((with_reducible first | exact HB.out))⟩⟩
    rw [if_pos c8] at H
    have c8b0 : (t230 == 0) = true := beq_iff_eq.mpr c8
    have c8b1 : (t230 != 0) = false := bne_eq_false_iff_eq.mpr c8
    clear c8
    (skip)
    have H' := Aside0.mk H
    clear H
    go_wp2
    go_meet
    case rel => exact ⟨_, (((l1.length : Int) != 12)), (by first | rfl), H', ⟨by first | omega⟩, ⟨by (with_reducible repeat (fail)); exact HO232.out⟩, ⟨by (with_reducible repeat (fail)); exact HO234.out⟩, ⟨by repeat ((with_reducible first | exact HB.out))⟩⟩
  clear HC6
  skip
  skip
  skip
  skip
  skip
  skip
  skip
  obtain ⟨kq, x28_5, rfl, HA, HJ5, HO_10, HO_11, HB⟩ := hcut
  cases kq with
  | zero => exact absurd HA.out (by simp [pyxref06_Open.j0])
  | succ kj5 =>
    have H := HA.out
    clear HA
    simp only [pyxref06_Open.j0] at H
    by_cases c9 : x28_5 = true
    · subst c9
      have H1 : (some (([] : List Int), 1)) = some (r1, r2) := by rw [if_pos rfl] at H; exact H
      clear H
      have H := H1
      clear H1
      simp only [Option.some.injEq, Prod.mk.injEq] at H
      obtain ⟨rfl, rfl⟩ := H
      go_wp2
      go_ret2
      exact ⟨_, by first | rfl, by first | exact Kd.R_nil _ _ _ _ _, by repeat ((with_reducible first | exact HB.out))⟩
    replace c9 := Bool.eq_false_iff.mpr c9
    subst c9
    have H1 : (if (l3.length : Int) < 32 then (some (([] : List Int), 3)) else (if 0 ≤ (wrap64 ((l3.length : Int) - 32)) then (if (wrap64 ((l3.length : Int) - 32)) ≤ (l3.length : Int) then ((pyxref06_tag.f t229 l1 l2 (l3.take ((wrap64 ((l3.length : Int) - 32)) : Int).toNat)).bind fun t236 => ((pyxref01_Same.f t236 (l3.drop ((wrap64 ((l3.length : Int) - 32)) : Int).toNat)).bind fun t240 => (if t240 = true then ((pyxref05_Stream.f t228 l1 (l3.take ((wrap64 ((l3.length : Int) - 32)) : Int).toNat)).bind fun bt242 => (some (bt242.1, 0))) else (some (([] : List Int), 5))))) else (none)) else (none))) = some (r1, r2) := by rw [if_neg (show ¬ (false = true) by decide)] at H; exact H
    clear H
    have H := H1
    clear H1
    by_cases c10 : (l3.length : Int) < 32
    · rw [if_pos c10] at H
      have c10b0 : decide ((l3.length : Int) < 32) = true := decide_eq_true c10
      have c10b1 : decide (l3.length < 32) = true := decide_eq_true (by omega)
      clear c10
      simp only [Option.some.injEq, Prod.mk.injEq] at H
      obtain ⟨rfl, rfl⟩ := H
      go_wp2
      go_ret2
      exact ⟨_, by first | rfl, by first | exact Kd.R_nil _ _ _ _ _, by repeat ((with_reducible first | exact HB.out))⟩
    rw [if_neg c10] at H
    have c10b0 : decide ((l3.length : Int) < 32) = false := decide_eq_false c10
    have c10b1 : decide (l3.length < 32) = false := decide_eq_false (by omega)
    clear c10
    obtain ⟨ji11, hji11⟩ : ∃ j_ : Int, (wrap64 ((l3.length : Int) - 32)) = j_ := ⟨_, rfl⟩
    replace H : (if 0 ≤ (ji11) then (if (ji11) ≤ (l3.length : Int) then ((pyxref06_tag.f t229 l1 l2 (l3.take ((ji11) : Int).toNat)).bind fun t236 => ((pyxref01_Same.f t236 (l3.drop ((ji11) : Int).toNat)).bind fun t240 => (if t240 = true then ((pyxref05_Stream.f t228 l1 (l3.take ((ji11) : Int).toNat)).bind fun bt242 => (some (bt242.1, 0))) else (some (([] : List Int), 5))))) else (none)) else (none)) = some (r1, r2) := by first | (rw [hji11] at H; exact H)
    have hji11w : (IntKind.i64.wrap ((l3.length : Int) - 32)) = ji11 := (i64_w _).trans hji11
    by_cases c12 : 0 ≤ (ji11)
    rotate_left
    · rw [if_neg c12] at H
      exact absurd H (by simp)
    rw [if_pos c12] at H
    have c12b0 := eq_true c12
    have c12b1 : decide (0 ≤ (ji11)) = true := decide_eq_true c12
    clear c12
    by_cases c13 : (ji11) ≤ (l3.length : Int)
    rotate_left
    · rw [if_neg c13] at H
      exact absurd H (by simp)
    rw [if_pos c13] at H
    have c13b0 := eq_true c13
    have c13b1 : decide ((ji11) ≤ (l3.length : Int)) = true := decide_eq_true c13
    clear c13
    replace H := Option.bind_eq_some_iff.mp H
    obtain ⟨t236, A140, H⟩ := H
    replace H : ((pyxref01_Same.f t236 (l3.drop ((ji11) : Int).toNat)).bind fun t240 => (if t240 = true then ((pyxref05_Stream.f t228 l1 (l3.take ((ji11) : Int).toNat)).bind fun bt242 => (some (bt242.1, 0))) else (some (([] : List Int), 5)))) = some (r1, r2) := H
    have A14 := Aside0.mk A140
    clear A140
    have c15b0 := eq_true (of_decide_eq_true (by first | (with_reducible assumption)) : 0 ≤ (ji11))
    have c16b0 := eq_true (of_decide_eq_true (by first | (with_reducible assumption)) : (ji11) ≤ (l3.length : Int))
    replace H := Option.bind_eq_some_iff.mp H
    obtain ⟨t240, A170, H⟩ := H
    replace H : (if t240 = true then ((pyxref05_Stream.f t228 l1 (l3.take ((ji11) : Int).toNat)).bind fun bt242 => (some (bt242.1, 0))) else (some (([] : List Int), 5))) = some (r1, r2) := H
    have A17 := Aside0.mk A170
    clear A170
    by_cases c18 : t240 = true
    rotate_left
    · replace c18 := Bool.eq_false_iff.mpr c18
      subst c18
      have H1 : (some (([] : List Int), 5)) = some (r1, r2) := by rw [if_neg (show ¬ (false = true) by decide)] at H; exact H
      clear H
      have H := H1
      clear H1
      simp only [Option.some.injEq, Prod.mk.injEq] at H
      obtain ⟨rfl, rfl⟩ := H
      try go_wp2
      have n0_ := Aside0.mk (Kd.R_drew HO_10.out)
      have n1_ := Aside0.mk (Kd.R_drew HO_11.out)
      have n2_ := Aside0.mk (below_drew1 HB.out)
      clear HO_10
      clear HO_11
      clear HB
      have HO_10 := n0_
      have HO_11 := n1_
      have HB := n2_
      clear n0_ n1_ n2_
      obtain ⟨i032, hi032, _, hsz32, _⟩ := info_parts info5
      obtain ⟨hcut32, hA32, hC32⟩ := print_take_of (P := Try.prog) (Value.int .u8) 0 22 5 .i64 Try.underlying22 hi032 hsz32 A3 c3 l3 (ji11) (of_decide_eq_true (by first | (with_reducible assumption))) (of_decide_eq_true (by first | (with_reducible assumption))) HC3.out
      have HR235 := Aside0.mk (Kd.C_of_reads (h1 := fun _ => rfl) (hA32 _ (Kd.reads_of_C HR3.out)))
      have HC235 := Aside0.mk hC32
      clear hA32 hC32 hi032 hsz32
      obtain ⟨i033, hi033, _, hsz33, _⟩ := info_parts info5
      obtain ⟨A33, hcut33, hA33, hC33⟩ := print_drop_of (P := Try.prog) (Value.int .u8) 0 22 5 .i64 Try.underlying22 hi033 hsz33 A3 c3 l3 (ji11) (of_decide_eq_true (by first | (with_reducible assumption))) (of_decide_eq_true (by first | (with_reducible assumption))) HC3.out
      have HR239 := Aside0.mk (Kd.C_of_reads (h1 := fun _ => rfl) (hA33 _ (Kd.reads_of_C HR3.out)))
      have HC239 := Aside0.mk hC33
      clear hA33 hC33 hi033 hsz33
      obtain ⟨Ao34, co34, eo34⟩ := Kd.R_slice HO_11.out
      (subst eo34)
      refine start_ (n := 12) (S := fun w' => True) (ds := []) #[false, false, false, false, false, false, false, false, false, false, false, false] (by kernel_rfl) rfl rfl trivial (fun hHeld => ?_); refine with_tabW pyxref06_Open.tab7 pyxref06_Open.bits7 (fun HT_ HW_ => ?_)
      generalize wc.drew = w31 at HO_10 HO_11 HB HR235 HR239 hHeld ⊢
      refine pure_ (i := 0) (N := some 35) (v := ?_) (a' := ?_) #[true, false, false, false, false, false, false, false, false, false, false, false] rfl rfl (any_of HT_.out (by kernel_rfl)) (fun _ _ _ h => h) (Or.inl ⟨by rfl, ?_⟩) ?_ ?_
      rotate_left
      · intro w'
        go_simp
        with_reducible rfl
      rotate_left
      · simp only [Act.put, List.setIfInBounds_toArray, List.set_cons_zero, List.set_cons_succ, i64_w, i32_w]
        rfl
      refine pure_ (i := 1) (N := some 36) (v := ?_) (a' := ?_) #[true, true, false, false, false, false, false, false, false, false, false, false] rfl rfl (any_of HT_.out (by kernel_rfl)) (fun _ _ _ h => h) (Or.inl ⟨by rfl, ?_⟩) ?_ ?_
      rotate_left
      · intro w'
        go_simp
        with_reducible rfl
      rotate_left
      · simp only [Act.put, List.setIfInBounds_toArray, List.set_cons_zero, List.set_cons_succ, i64_w, i32_w]
        rfl
      refine pure_ (i := 2) (N := some 37) (v := ?_) (a' := ?_) #[true, true, true, false, false, false, false, false, false, false, false, false] rfl rfl (any_of HT_.out (by kernel_rfl)) (fun _ _ _ h => h) (Or.inl ⟨by rfl, ?_⟩) ?_ ?_
      rotate_left
      · intro w'
        go_simp
        with_reducible rfl
      rotate_left
      · simp only [Act.put, List.setIfInBounds_toArray, List.set_cons_zero, List.set_cons_succ, i64_w, i32_w]
        rfl
      refine pure_ (i := 3) (N := some 38) (v := ?_) (a' := ?_) #[true, true, true, true, false, false, false, false, false, false, false, false] rfl rfl (any_of HT_.out (by kernel_rfl)) (fun _ _ _ h => h) (Or.inl ⟨by rfl, ?_⟩) ?_ ?_
      rotate_left
      · intro w'
        go_simp
        with_reducible rfl
      rotate_left
      · simp only [Act.put, List.setIfInBounds_toArray, List.set_cons_zero, List.set_cons_succ, i64_w, i32_w]
        rfl
      refine pure_ (i := 4) (N := some 39) (v := ?_) (a' := ?_) #[true, true, true, true, true, false, false, false, false, false, false, false] rfl rfl (any_of HT_.out (by kernel_rfl)) (fun _ _ _ h => h) (Or.inl ⟨by rfl, ?_⟩) ?_ ?_
      rotate_left
      · intro w'
        go_simp
        with_reducible rfl
      rotate_left
      · simp only [Act.put, List.setIfInBounds_toArray, List.set_cons_zero, List.set_cons_succ, i64_w, i32_w]
        rfl
      refine pure_ (i := 5) (N := some 40) (v := ?_) (a' := ?_) #[true, true, true, true, true, true, false, false, false, false, false, false] rfl rfl (any_of HT_.out (by kernel_rfl)) (fun _ _ _ h => h) (Or.inl ⟨by rfl, ?_⟩) ?_ ?_
      rotate_left
      · intro w'
        go_simp
        with_reducible rfl
      rotate_left
      · simp only [Act.put, List.setIfInBounds_toArray, List.set_cons_zero, List.set_cons_succ, i64_w, i32_w]
        rfl
      refine pure_ (i := 7) (N := some 42) (v := ?_) (a' := ?_) #[true, true, true, true, true, true, false, true, false, false, false, false] rfl rfl (any_of HT_.out (by kernel_rfl)) (fun _ _ _ h => h) (Or.inl ⟨by rfl, ?_⟩) ?_ ?_
      rotate_left
      · intro w'
        go_simp
        with_reducible rfl
      rotate_left
      · simp only [Act.put, List.setIfInBounds_toArray, List.set_cons_zero, List.set_cons_succ, i64_w, i32_w]
        rfl
      refine pure_ (i := 8) (N := some 43) (v := ?_) (a' := ?_) #[true, true, true, true, true, true, false, true, true, false, false, false] rfl rfl (any_of HT_.out (by kernel_rfl)) (fun _ _ _ h => h) (Or.inl ⟨by rfl, ?_⟩) ?_ ?_
      rotate_left
      · intro w'
        go_simp
        with_reducible rfl
      rotate_left
      · simp only [Act.put, List.setIfInBounds_toArray, List.set_cons_zero, List.set_cons_succ, i64_w, i32_w]
        rfl
      refine pure_ (i := 9) (N := some 44) (v := ?_) (a' := ?_) #[true, true, true, true, true, true, false, true, true, true, false, false] rfl rfl (any_of HT_.out (by kernel_rfl)) (fun _ _ _ h => h) (Or.inl ⟨by rfl, ?_⟩) ?_ ?_
      rotate_left
      · intro w'
        go_simp
        with_reducible rfl
      rotate_left
      · simp only [Act.put, List.setIfInBounds_toArray, List.set_cons_zero, List.set_cons_succ, i64_w, i32_w]
        rfl
      refine one_ (i := 6) (N := some 41) #[true, true, true, true, true, true, true, true, true, true, false, false] rfl rfl (one_of HT_.out (by kernel_rfl)) (by decide) (fun K hK => ?_)
      refine goes_ Try.func45 (by kernel_rfl) rfl #[.slice Ao34 t229.length co34, .slice A1 l1.length c1, .slice A2 l2.length c2, .slice A3 (l3.take ((ji11) : Int).toNat).length c3] (by rfl) rfl rfl (by (try simp only [List.map_toArray, List.map_cons, List.map_nil]); first | (rw [show (l3.take ((ji11) : Int).toNat).length = (ji11).toNat from (by rw [List.length_take]; have h_ : ((ji11) : Int) ≤ (l3.length : Int) := of_decide_eq_true (by first | (with_reducible assumption)); omega)] <;> rfl)) ?_
      with_reducible refine (pyxref06_tag.calls _ _ t229 (fun k_ => k_ < w.heap.size) _ _ l1 _ _ l2 (fun k_ => k_ < w.heap.size) _ _ (l3.take ((ji11) : Int).toNat) t236 _ ?side1 ?side2 ?side3 ?side4 ?side5 ?side6 A14.out).mono ?_
      (case side1 => repeat (exact (Kd.R_reads' HO_11.out).2.2))
      (case side2 => exact (Kd.R_reads' HO_11.out).2.1)
      (case side3 => exact Kd.V_mk HC1.out (Kd.F_below (Kd.C_F (Kd.heap_int .u8) HR1.out) (by repeat ((with_reducible first | exact HB.out)))))
      (case side4 => repeat (exact (Kd.C_below HR2.out HB.out)))
      (case side5 => exact HC2.out)
      (case side6 => exact Kd.V_mk HC235.out (Kd.F_below (Kd.C_F (Kd.heap_int .u8) HR235.out) (by repeat ((with_reducible first | exact HB.out)))))
      rintro e w35 ⟨v237, rfl, ho0, hb⟩
      refine ⟨_, rfl, ?_⟩
      have n0_ := Aside0.mk (Kd.R_elder' (by (with_reducible repeat (fail)); exact HO_10.out) (Kd.R_base ho0) hb)
      have n1_ := Aside0.mk (Kd.R_elder' (by (with_reducible repeat (fail)); exact HO_11.out) (Kd.R_base ho0) hb)
      have n2_ := Aside0.mk (Kd.R_lower (Kd.R_new' (Kd.R_new' (Kd.R_mono (ok' := fun k_ => True) ho0 (fun _ hk_ => trivial)) (Kd.R_lt (by (with_reducible repeat (fail)); exact HO_10.out))) (Kd.R_lt (by (with_reducible repeat (fail)); exact HO_11.out))) (below_size (by repeat ((with_reducible first | exact HB.out)))))
      have n3_ := Aside0.mk (below_step (by repeat ((with_reducible first | exact HB.out))) hb)
      clear HO_10
      clear HO_11
      clear HB
      have HO_10 := n0_
      have HO_11 := n1_
      have HO238 := n2_
      have HB := n3_
      clear n0_ n1_ n2_ n3_
      (try clear hb)
      (skip)
      (skip)
      (skip)
      (try clear ho0)
      obtain ⟨Ao36, co36, eo36⟩ := Kd.R_slice HO238.out
      (subst eo36)
      refine hK.out _ _ trivial (fun hHeld => ?_)
      clear hK K
      refine norm_ (a' := ?_) ?_ ?_
      rotate_left
      · show Act.put _ (some 41) _ = _
        simp only [Act.put, List.setIfInBounds_toArray, List.set_cons_zero, List.set_cons_succ, i64_w, i32_w]
        rfl
      refine one_ (i := 10) (N := some 45) #[true, true, true, true, true, true, true, true, true, true, true, false] rfl rfl (one_of HT_.out (by kernel_rfl)) (by decide) (fun K hK => ?_)
      refine goes_ Try.func18 (by kernel_rfl) rfl #[.slice Ao36 t236.length co36, .slice A33 (l3.drop ((ji11) : Int).toNat).length (c3 - (ji11).toNat)] (by rfl) rfl rfl (by (try simp only [List.map_toArray, List.map_cons, List.map_nil]); first | (rw [show (l3.drop ((ji11) : Int).toNat).length = (l3.length - (ji11).toNat) from List.length_drop] <;> rfl)) ?_
      with_reducible refine (pyxref01_Same.calls _ _ t236 _ _ (l3.drop ((ji11) : Int).toNat) false _ ?side1 ?side2 ?side3 ?side4 A17.out).mono ?_
      (case side1 => repeat (exact (Kd.R_reads' HO238.out).2.2))
      (case side2 => exact (Kd.R_reads' HO238.out).2.1)
      (case side3 => repeat (exact (Kd.C_below HR239.out HB.out)))
      (case side4 => exact HC239.out)
      rintro e w' ⟨rfl, ⟨nd, rfl⟩⟩
      refine ⟨_, rfl, ?_⟩
      refine hK.out _ _ trivial (fun hHeld => ?_)
      clear hK K
      refine norm_ (a' := ?_) ?_ ?_
      rotate_left
      · show Act.put _ (some 45) _ = _
        simp only [Act.put, List.setIfInBounds_toArray, List.set_cons_zero, List.set_cons_succ, i64_w, i32_w]
        rfl
      refine pure_ (i := 11) (N := some 46) (v := ?_) (a' := ?_) #[true, true, true, true, true, true, true, true, true, true, true, true] rfl rfl (any_of HT_.out (by kernel_rfl)) (fun _ _ _ h => h) (Or.inl ⟨by rfl, ?_⟩) ?_ ?_
      rotate_left
      · intro w'
        go_simp
        with_reducible rfl
      rotate_left
      · simp only [Act.put, List.setIfInBounds_toArray, List.set_cons_zero, List.set_cons_succ, i64_w, i32_w]
        rfl
      refine done_ (done_of HT_.out (by kernel_rfl)) ?_
      try go_wp2
      go_ret2
      exact ⟨_, by first | rfl, by first | exact Kd.R_nil _ _ _ _ _, by repeat ((with_reducible first | exact HB.out | apply pw_below_drewN))⟩
    subst c18
    have H1 : ((pyxref05_Stream.f t228 l1 (l3.take ((ji11) : Int).toNat)).bind fun bt242 => (some (bt242.1, 0))) = some (r1, r2) := by rw [if_pos rfl] at H; exact H
    clear H
    have H := H1
    clear H1
    have c19b0 := eq_true (of_decide_eq_true (by first | (with_reducible assumption)) : 0 ≤ (ji11))
    have c20b0 := eq_true (of_decide_eq_true (by first | (with_reducible assumption)) : (ji11) ≤ (l3.length : Int))
    replace H := Option.bind_eq_some_iff.mp H
    obtain ⟨⟨t242, t243⟩, A210, H⟩ := H
    replace H : (some (t242, 0)) = some (r1, r2) := H
    have A21 := Aside0.mk A210
    clear A210
    simp only [Option.some.injEq, Prod.mk.injEq] at H
    obtain ⟨rfl, rfl⟩ := H
    try go_wp2
    have n0_ := Aside0.mk (Kd.R_drew HO_10.out)
    have n1_ := Aside0.mk (Kd.R_drew HO_11.out)
    have n2_ := Aside0.mk (below_drew1 HB.out)
    clear HO_10
    clear HO_11
    clear HB
    have HO_10 := n0_
    have HO_11 := n1_
    have HB := n2_
    clear n0_ n1_ n2_
    obtain ⟨i023, hi023, _, hsz23, _⟩ := info_parts info5
    obtain ⟨hcut23, hA23, hC23⟩ := print_take_of (P := Try.prog) (Value.int .u8) 0 22 5 .i64 Try.underlying22 hi023 hsz23 A3 c3 l3 (ji11) (of_decide_eq_true (by first | (with_reducible assumption))) (of_decide_eq_true (by first | (with_reducible assumption))) HC3.out
    have HR235 := Aside0.mk (Kd.C_of_reads (h1 := fun _ => rfl) (hA23 _ (Kd.reads_of_C HR3.out)))
    have HC235 := Aside0.mk hC23
    clear hA23 hC23 hi023 hsz23
    obtain ⟨i024, hi024, _, hsz24, _⟩ := info_parts info5
    obtain ⟨A24, hcut24, hA24, hC24⟩ := print_drop_of (P := Try.prog) (Value.int .u8) 0 22 5 .i64 Try.underlying22 hi024 hsz24 A3 c3 l3 (ji11) (of_decide_eq_true (by first | (with_reducible assumption))) (of_decide_eq_true (by first | (with_reducible assumption))) HC3.out
    have HR239 := Aside0.mk (Kd.C_of_reads (h1 := fun _ => rfl) (hA24 _ (Kd.reads_of_C HR3.out)))
    have HC239 := Aside0.mk hC24
    clear hA24 hC24 hi024 hsz24
    obtain ⟨Ao25, co25, eo25⟩ := Kd.R_slice HO_11.out
    (subst eo25)
    refine start_ (n := 12) (S := fun w' => True) (ds := []) #[false, false, false, false, false, false, false, false, false, false, false, false] (by kernel_rfl) rfl rfl trivial (fun hHeld => ?_); refine with_tabW pyxref06_Open.tab7 pyxref06_Open.bits7 (fun HT_ HW_ => ?_)
    generalize wc.drew = w22 at HO_10 HO_11 HB HR235 HR239 hHeld ⊢
    refine pure_ (i := 0) (N := some 35) (v := ?_) (a' := ?_) #[true, false, false, false, false, false, false, false, false, false, false, false] rfl rfl (any_of HT_.out (by kernel_rfl)) (fun _ _ _ h => h) (Or.inl ⟨by rfl, ?_⟩) ?_ ?_
    rotate_left
    · intro w'
      go_simp
      with_reducible rfl
    rotate_left
    · simp only [Act.put, List.setIfInBounds_toArray, List.set_cons_zero, List.set_cons_succ, i64_w, i32_w]
      rfl
    refine pure_ (i := 1) (N := some 36) (v := ?_) (a' := ?_) #[true, true, false, false, false, false, false, false, false, false, false, false] rfl rfl (any_of HT_.out (by kernel_rfl)) (fun _ _ _ h => h) (Or.inl ⟨by rfl, ?_⟩) ?_ ?_
    rotate_left
    · intro w'
      go_simp
      with_reducible rfl
    rotate_left
    · simp only [Act.put, List.setIfInBounds_toArray, List.set_cons_zero, List.set_cons_succ, i64_w, i32_w]
      rfl
    refine pure_ (i := 2) (N := some 37) (v := ?_) (a' := ?_) #[true, true, true, false, false, false, false, false, false, false, false, false] rfl rfl (any_of HT_.out (by kernel_rfl)) (fun _ _ _ h => h) (Or.inl ⟨by rfl, ?_⟩) ?_ ?_
    rotate_left
    · intro w'
      go_simp
      with_reducible rfl
    rotate_left
    · simp only [Act.put, List.setIfInBounds_toArray, List.set_cons_zero, List.set_cons_succ, i64_w, i32_w]
      rfl
    refine pure_ (i := 3) (N := some 38) (v := ?_) (a' := ?_) #[true, true, true, true, false, false, false, false, false, false, false, false] rfl rfl (any_of HT_.out (by kernel_rfl)) (fun _ _ _ h => h) (Or.inl ⟨by rfl, ?_⟩) ?_ ?_
    rotate_left
    · intro w'
      go_simp
      with_reducible rfl
    rotate_left
    · simp only [Act.put, List.setIfInBounds_toArray, List.set_cons_zero, List.set_cons_succ, i64_w, i32_w]
      rfl
    refine pure_ (i := 4) (N := some 39) (v := ?_) (a' := ?_) #[true, true, true, true, true, false, false, false, false, false, false, false] rfl rfl (any_of HT_.out (by kernel_rfl)) (fun _ _ _ h => h) (Or.inl ⟨by rfl, ?_⟩) ?_ ?_
    rotate_left
    · intro w'
      go_simp
      with_reducible rfl
    rotate_left
    · simp only [Act.put, List.setIfInBounds_toArray, List.set_cons_zero, List.set_cons_succ, i64_w, i32_w]
      rfl
    refine pure_ (i := 5) (N := some 40) (v := ?_) (a' := ?_) #[true, true, true, true, true, true, false, false, false, false, false, false] rfl rfl (any_of HT_.out (by kernel_rfl)) (fun _ _ _ h => h) (Or.inl ⟨by rfl, ?_⟩) ?_ ?_
    rotate_left
    · intro w'
      go_simp
      with_reducible rfl
    rotate_left
    · simp only [Act.put, List.setIfInBounds_toArray, List.set_cons_zero, List.set_cons_succ, i64_w, i32_w]
      rfl
    refine pure_ (i := 7) (N := some 42) (v := ?_) (a' := ?_) #[true, true, true, true, true, true, false, true, false, false, false, false] rfl rfl (any_of HT_.out (by kernel_rfl)) (fun _ _ _ h => h) (Or.inl ⟨by rfl, ?_⟩) ?_ ?_
    rotate_left
    · intro w'
      go_simp
      with_reducible rfl
    rotate_left
    · simp only [Act.put, List.setIfInBounds_toArray, List.set_cons_zero, List.set_cons_succ, i64_w, i32_w]
      rfl
    refine pure_ (i := 8) (N := some 43) (v := ?_) (a' := ?_) #[true, true, true, true, true, true, false, true, true, false, false, false] rfl rfl (any_of HT_.out (by kernel_rfl)) (fun _ _ _ h => h) (Or.inl ⟨by rfl, ?_⟩) ?_ ?_
    rotate_left
    · intro w'
      go_simp
      with_reducible rfl
    rotate_left
    · simp only [Act.put, List.setIfInBounds_toArray, List.set_cons_zero, List.set_cons_succ, i64_w, i32_w]
      rfl
    refine pure_ (i := 9) (N := some 44) (v := ?_) (a' := ?_) #[true, true, true, true, true, true, false, true, true, true, false, false] rfl rfl (any_of HT_.out (by kernel_rfl)) (fun _ _ _ h => h) (Or.inl ⟨by rfl, ?_⟩) ?_ ?_
    rotate_left
    · intro w'
      go_simp
      with_reducible rfl
    rotate_left
    · simp only [Act.put, List.setIfInBounds_toArray, List.set_cons_zero, List.set_cons_succ, i64_w, i32_w]
      rfl
    refine one_ (i := 6) (N := some 41) #[true, true, true, true, true, true, true, true, true, true, false, false] rfl rfl (one_of HT_.out (by kernel_rfl)) (by decide) (fun K hK => ?_)
    refine goes_ Try.func45 (by kernel_rfl) rfl #[.slice Ao25 t229.length co25, .slice A1 l1.length c1, .slice A2 l2.length c2, .slice A3 (l3.take ((ji11) : Int).toNat).length c3] (by rfl) rfl rfl (by (try simp only [List.map_toArray, List.map_cons, List.map_nil]); first | (rw [show (l3.take ((ji11) : Int).toNat).length = (ji11).toNat from (by rw [List.length_take]; have h_ : ((ji11) : Int) ≤ (l3.length : Int) := of_decide_eq_true (by first | (with_reducible assumption)); omega)] <;> rfl)) ?_
    with_reducible refine (pyxref06_tag.calls _ _ t229 (fun k_ => k_ < w.heap.size) _ _ l1 _ _ l2 (fun k_ => k_ < w.heap.size) _ _ (l3.take ((ji11) : Int).toNat) t236 _ ?side1 ?side2 ?side3 ?side4 ?side5 ?side6 A14.out).mono ?_
    (case side1 => repeat (exact (Kd.R_reads' HO_11.out).2.2))
    (case side2 => exact (Kd.R_reads' HO_11.out).2.1)
    (case side3 => exact Kd.V_mk HC1.out (Kd.F_below (Kd.C_F (Kd.heap_int .u8) HR1.out) (by repeat ((with_reducible first | exact HB.out)))))
    (case side4 => repeat (exact (Kd.C_below HR2.out HB.out)))
    (case side5 => exact HC2.out)
    (case side6 => exact Kd.V_mk HC235.out (Kd.F_below (Kd.C_F (Kd.heap_int .u8) HR235.out) (by repeat ((with_reducible first | exact HB.out)))))
    rintro e w26 ⟨v237, rfl, ho0, hb⟩
    refine ⟨_, rfl, ?_⟩
    have n0_ := Aside0.mk (Kd.R_elder' (by (with_reducible repeat (fail)); exact HO_10.out) (Kd.R_base ho0) hb)
    have n1_ := Aside0.mk (Kd.R_elder' (by (with_reducible repeat (fail)); exact HO_11.out) (Kd.R_base ho0) hb)
    have n2_ := Aside0.mk (Kd.R_lower (Kd.R_new' (Kd.R_new' (Kd.R_mono (ok' := fun k_ => True) ho0 (fun _ hk_ => trivial)) (Kd.R_lt (by (with_reducible repeat (fail)); exact HO_10.out))) (Kd.R_lt (by (with_reducible repeat (fail)); exact HO_11.out))) (below_size (by repeat ((with_reducible first | exact HB.out)))))
    have n3_ := Aside0.mk (below_step (by repeat ((with_reducible first | exact HB.out))) hb)
    clear HO_10
    clear HO_11
    clear HB
    have HO_10 := n0_
    have HO_11 := n1_
    have HO238 := n2_
    have HB := n3_
    clear n0_ n1_ n2_ n3_
    (try clear hb)
    (skip)
    (skip)
    (skip)
    (try clear ho0)
    obtain ⟨Ao27, co27, eo27⟩ := Kd.R_slice HO238.out
    (subst eo27)
    refine hK.out _ _ trivial (fun hHeld => ?_)
    clear hK K
    refine norm_ (a' := ?_) ?_ ?_
    rotate_left
    · show Act.put _ (some 41) _ = _
      simp only [Act.put, List.setIfInBounds_toArray, List.set_cons_zero, List.set_cons_succ, i64_w, i32_w]
      rfl
    refine one_ (i := 10) (N := some 45) #[true, true, true, true, true, true, true, true, true, true, true, false] rfl rfl (one_of HT_.out (by kernel_rfl)) (by decide) (fun K hK => ?_)
    refine goes_ Try.func18 (by kernel_rfl) rfl #[.slice Ao27 t236.length co27, .slice A24 (l3.drop ((ji11) : Int).toNat).length (c3 - (ji11).toNat)] (by rfl) rfl rfl (by (try simp only [List.map_toArray, List.map_cons, List.map_nil]); first | (rw [show (l3.drop ((ji11) : Int).toNat).length = (l3.length - (ji11).toNat) from List.length_drop] <;> rfl)) ?_
    with_reducible refine (pyxref01_Same.calls _ _ t236 _ _ (l3.drop ((ji11) : Int).toNat) true _ ?side1 ?side2 ?side3 ?side4 A17.out).mono ?_
    (case side1 => repeat (exact (Kd.R_reads' HO238.out).2.2))
    (case side2 => exact (Kd.R_reads' HO238.out).2.1)
    (case side3 => repeat (exact (Kd.C_below HR239.out HB.out)))
    (case side4 => exact HC239.out)
    rintro e w' ⟨rfl, ⟨nd, rfl⟩⟩
    refine ⟨_, rfl, ?_⟩
    refine hK.out _ _ trivial (fun hHeld => ?_)
    clear hK K
    refine norm_ (a' := ?_) ?_ ?_
    rotate_left
    · show Act.put _ (some 45) _ = _
      simp only [Act.put, List.setIfInBounds_toArray, List.set_cons_zero, List.set_cons_succ, i64_w, i32_w]
      rfl
    refine pure_ (i := 11) (N := some 46) (v := ?_) (a' := ?_) #[true, true, true, true, true, true, true, true, true, true, true, true] rfl rfl (any_of HT_.out (by kernel_rfl)) (fun _ _ _ h => h) (Or.inl ⟨by rfl, ?_⟩) ?_ ?_
    rotate_left
    · intro w'
      go_simp
      with_reducible rfl
    rotate_left
    · simp only [Act.put, List.setIfInBounds_toArray, List.set_cons_zero, List.set_cons_succ, i64_w, i32_w]
      rfl
    refine done_ (done_of HT_.out (by kernel_rfl)) ?_
    obtain ⟨i028, hi028, _, hsz28, _⟩ := info_parts info5
    obtain ⟨hcut28, hA28, hC28⟩ := print_take_of (P := Try.prog) (Value.int .u8) 0 22 5 .i64 Try.underlying22 hi028 hsz28 A3 c3 l3 (ji11) (of_decide_eq_true (by first | (with_reducible assumption))) (of_decide_eq_true (by first | (with_reducible assumption))) HC3.out
    have HR241 := Aside0.mk (Kd.C_of_reads (h1 := fun _ => rfl) (hA28 _ (Kd.reads_of_C HR3.out)))
    have HC241 := Aside0.mk hC28
    clear hA28 hC28 hi028 hsz28
    obtain ⟨Ao29, co29, eo29⟩ := Kd.R_slice HO_10.out
    subst eo29
    try go_wp2_with (first | ((with_reducible refine gate_callee (f := 25) rfl ?_); refine goesL_ (some 53) rfl rfl Try.func25 (by kernel_rfl) rfl #[.slice Ao29 t228.length co29, .slice A1 l1.length c1, .slice A3 (l3.take ((ji11) : Int).toNat).length c3] rfl (by (try simp only [List.map_toArray, List.map_cons, List.map_nil]); first | (rw [show (l3.take ((ji11) : Int).toNat).length = (ji11).toNat from (by rw [List.length_take]; have h_ : ((ji11) : Int) ≤ (l3.length : Int) := of_decide_eq_true (by first | (with_reducible assumption)); omega)] <;> rfl)) ?_; (with_reducible refine (pyxref05_Stream.calls _ _ t228 _ _ l1 _ _ (l3.take ((ji11) : Int).toNat) t242 t243 _ ?side1 ?side2 ?side3 ?side4 ?side5 ?side6 A21.out).mono ?_); (case side1 => repeat (exact (Kd.R_reads' HO_10.out).2.2)); (case side2 => exact (Kd.R_reads' HO_10.out).2.1); (case side3 => repeat (exact (Kd.C_below HR1.out (by repeat ((with_reducible first | exact HB.out | apply pw_below_drewN)))))); (case side4 => exact HC1.out); (case side5 => repeat (exact (Kd.C_below HR241.out (by repeat ((with_reducible first | exact HB.out | apply pw_below_drewN)))))); (case side6 => exact HC241.out); rintro e w30 ⟨v244, rfl, ho0, hb⟩; refine ⟨_, rfl, ?_⟩; have n0_ := Aside0.mk (Kd.R_elder' (by (with_reducible repeat (apply Kd.R_drewN)); exact HO_10.out) (Kd.R_base ho0) hb); have n1_ := Aside0.mk (Kd.R_elder' (by (with_reducible repeat (apply Kd.R_drewN)); exact HO_11.out) (Kd.R_base ho0) hb); have n2_ := Aside0.mk (Kd.R_elder' (by (with_reducible repeat (apply Kd.R_drewN)); exact HO238.out) (Kd.R_base ho0) hb); have n3_ := Aside0.mk (Kd.R_lower (Kd.R_new' (Kd.R_new' (Kd.R_new' ho0 (Kd.R_lt (by (with_reducible repeat (apply Kd.R_drewN)); exact HO_10.out))) (Kd.R_lt (by (with_reducible repeat (apply Kd.R_drewN)); exact HO_11.out))) (Kd.R_lt (by (with_reducible repeat (apply Kd.R_drewN)); exact HO238.out))) (below_size (by repeat ((with_reducible first | exact HB.out | apply pw_below_drewN))))); have n4_ := Aside0.mk (below_step (by repeat ((with_reducible first | exact HB.out | apply pw_below_drewN))) hb); clear HO_10; clear HO_11; clear HO238; clear HB; have HO_10 := n0_; have HO_11 := n1_; have HO238 := n2_; have HO245 := n3_; have HB := n4_; clear n0_ n1_ n2_ n3_ n4_; (try clear hb); (try clear ho0)))
    go_ret2
    exact ⟨_, by first | rfl, by (with_reducible repeat (fail)); exact Kd.R_mono HO245.out (fun _ hk => trivial), by repeat ((with_reducible first | exact HB.out))⟩
/-! ### pyxref06_At: function 22 -/
def pyxref06_At.f (l0 : List Int) (a1 : Int) : Option (List Int × Int) := if (l0.length : Int) = 12 then (if a1 < 0 then (some (([] : List Int), 1)) else (if a1 > 4294967295 then (some (([] : List Int), 1)) else ((some (([] : List Int) : List Int)).bind fun y246 => (if y246.length + l0.length < 140737488355328 then ((some (y246 ++ l0 : List Int)).bind fun y249 => (if 8 < (y249.length : Int) then ((some (y249.set (8 : Int).toNat (Go.bits .xor .u8 (rd y249 8) ((wrap64 (Int.tdiv a1 16777216)) % 256)) : List Int)).bind fun y253 => (if 9 < (y249.length : Int) then ((some (y253.set (9 : Int).toNat (Go.bits .xor .u8 (rd y253 9) ((Int.tmod (wrap64 (Int.tdiv a1 65536)) 256) % 256)) : List Int)).bind fun y255 => (if 10 < (y249.length : Int) then ((some (y255.set (10 : Int).toNat (Go.bits .xor .u8 (rd y255 10) ((Int.tmod (wrap64 (Int.tdiv a1 256)) 256) % 256)) : List Int)).bind fun y257 => (if 11 < (y249.length : Int) then (some ((y257.set (11 : Int).toNat (Go.bits .xor .u8 (rd y257 11) ((Int.tmod a1 256) % 256))), 0)) else (none))) else (none))) else (none))) else (none))) else (none))))) else (some (([] : List Int), 1))
set_option maxHeartbeats 8000000 in
set_option maxRecDepth 100000 in
theorem pyxref06_At.calls (A0 : Option Addr) (c0 : Nat) (l0 : List Int) (a1 : Int) (r1 : List Int) (r2 : Int) (w : World) (hr0 : Kd.C (Kd.int .u8) w A0 l0.length l0) (hc0 : l0.length ≤ c0) (h : pyxref06_At.f l0 a1 = some (r1, r2)) :
    Calls Try.prog 22 #[.slice A0 l0.length c0, .int .i64 a1] w fun e w' => ∃ v0_ : Value, e = .returned (.tuple #[v0_, .int .i64 r2]) ∧ Kd.R (Kd.int .u8) 5 w' w.heap.size (fun _ => True) v0_ r1 ∧ Below w.heap.size w w' := by
  have HR0 := Aside0.mk hr0
  have HC0 := Aside0.mk hc0
  clear hr0 hc0
  have HB := Aside0.mk (Below.refl w.heap.size w)
  have H : (if (l0.length : Int) = 12 then (if a1 < 0 then (some (([] : List Int), 1)) else (if a1 > 4294967295 then (some (([] : List Int), 1)) else ((some (([] : List Int) : List Int)).bind fun y246 => (if y246.length + l0.length < 140737488355328 then ((some (y246 ++ l0 : List Int)).bind fun y249 => (if 8 < (y249.length : Int) then ((some (y249.set (8 : Int).toNat (Go.bits .xor .u8 (rd y249 8) ((wrap64 (Int.tdiv a1 16777216)) % 256)) : List Int)).bind fun y253 => (if 9 < (y249.length : Int) then ((some (y253.set (9 : Int).toNat (Go.bits .xor .u8 (rd y253 9) ((Int.tmod (wrap64 (Int.tdiv a1 65536)) 256) % 256)) : List Int)).bind fun y255 => (if 10 < (y249.length : Int) then ((some (y255.set (10 : Int).toNat (Go.bits .xor .u8 (rd y255 10) ((Int.tmod (wrap64 (Int.tdiv a1 256)) 256) % 256)) : List Int)).bind fun y257 => (if 11 < (y249.length : Int) then (some ((y257.set (11 : Int).toNat (Go.bits .xor .u8 (rd y257 11) ((Int.tmod a1 256) % 256))), 0)) else (none))) else (none))) else (none))) else (none))) else (none))))) else (some (([] : List Int), 1))) = some (r1, r2) := h
  clear h
  by_cases c3 : (l0.length : Int) = 12
  rotate_left
  · rw [if_neg c3] at H
    have c3b0 : ((l0.length : Int) == 12) = false := beq_eq_false_iff_ne.mpr c3
    have c3b1 : ((l0.length : Int) != 12) = true := bne_iff_ne.mpr c3
    simp only [Option.some.injEq, Prod.mk.injEq] at H
    obtain ⟨rfl, rfl⟩ := H
    go_enter Try.func22, Try.ntmps22
    go_wp2
    go_ret2
    exact ⟨_, by first | rfl, by first | exact Kd.R_nil _ _ _ _ _, by repeat ((with_reducible first | exact HB.out))⟩
  rw [if_pos c3] at H
  have c3b0 : ((l0.length : Int) == 12) = true := beq_iff_eq.mpr c3
  have c3b1 : ((l0.length : Int) != 12) = false := bne_eq_false_iff_eq.mpr c3
  clear c3
  by_cases c4 : a1 < 0
  · rw [if_pos c4] at H
    have c4b0 : decide (a1 < 0) = true := decide_eq_true c4
    clear c4
    simp only [Option.some.injEq, Prod.mk.injEq] at H
    obtain ⟨rfl, rfl⟩ := H
    go_enter Try.func22, Try.ntmps22
    go_wp2
    go_ret2
    exact ⟨_, by first | rfl, by first | exact Kd.R_nil _ _ _ _ _, by repeat ((with_reducible first | exact HB.out))⟩
  rw [if_neg c4] at H
  have c4b0 : decide (a1 < 0) = false := decide_eq_false c4
  clear c4
  by_cases c5 : a1 > 4294967295
  · rw [if_pos c5] at H
    have c5b0 : decide (4294967295 < a1) = true := decide_eq_true c5
    clear c5
    simp only [Option.some.injEq, Prod.mk.injEq] at H
    obtain ⟨rfl, rfl⟩ := H
    go_enter Try.func22, Try.ntmps22
    go_wp2
    go_ret2
    exact ⟨_, by first | rfl, by first | exact Kd.R_nil _ _ _ _ _, by repeat ((with_reducible first | exact HB.out))⟩
  rw [if_neg c5] at H
  have c5b0 : decide (4294967295 < a1) = false := decide_eq_false c5
  clear c5
  obtain ⟨y246, hy246⟩ : ∃ y_ : List Int, y_ = (([] : List Int)) := ⟨_, rfl⟩
  replace H : (if y246.length + l0.length < 140737488355328 then ((some (y246 ++ l0 : List Int)).bind fun y249 => (if 8 < (y249.length : Int) then ((some (y249.set (8 : Int).toNat (Go.bits .xor .u8 (rd y249 8) ((wrap64 (Int.tdiv a1 16777216)) % 256)) : List Int)).bind fun y253 => (if 9 < (y249.length : Int) then ((some (y253.set (9 : Int).toNat (Go.bits .xor .u8 (rd y253 9) ((Int.tmod (wrap64 (Int.tdiv a1 65536)) 256) % 256)) : List Int)).bind fun y255 => (if 10 < (y249.length : Int) then ((some (y255.set (10 : Int).toNat (Go.bits .xor .u8 (rd y255 10) ((Int.tmod (wrap64 (Int.tdiv a1 256)) 256) % 256)) : List Int)).bind fun y257 => (if 11 < (y249.length : Int) then (some ((y257.set (11 : Int).toNat (Go.bits .xor .u8 (rd y257 11) ((Int.tmod a1 256) % 256))), 0)) else (none))) else (none))) else (none))) else (none))) else (none)) = some (r1, r2) := by first | (have H2_ := (Option.bind_some _ _).symm.trans H; rw [hy246]; with_reducible exact H2_)
  have Ny246 := Aside0.mk hy246
  clear hy246
  by_cases c6 : y246.length + l0.length < 140737488355328
  rotate_left
  · rw [if_neg c6] at H
    exact absurd H (by simp)
  rw [if_pos c6] at H
  have LMc6 := Aside0.mk c6
  clear c6
  obtain ⟨y249, hy249⟩ : ∃ y_ : List Int, y_ = (y246 ++ l0) := ⟨_, rfl⟩
  replace H : (if 8 < (y249.length : Int) then ((some (y249.set (8 : Int).toNat (Go.bits .xor .u8 (rd y249 8) ((wrap64 (Int.tdiv a1 16777216)) % 256)) : List Int)).bind fun y253 => (if 9 < (y249.length : Int) then ((some (y253.set (9 : Int).toNat (Go.bits .xor .u8 (rd y253 9) ((Int.tmod (wrap64 (Int.tdiv a1 65536)) 256) % 256)) : List Int)).bind fun y255 => (if 10 < (y249.length : Int) then ((some (y255.set (10 : Int).toNat (Go.bits .xor .u8 (rd y255 10) ((Int.tmod (wrap64 (Int.tdiv a1 256)) 256) % 256)) : List Int)).bind fun y257 => (if 11 < (y249.length : Int) then (some ((y257.set (11 : Int).toNat (Go.bits .xor .u8 (rd y257 11) ((Int.tmod a1 256) % 256))), 0)) else (none))) else (none))) else (none))) else (none)) = some (r1, r2) := by first | (have H2_ := (Option.bind_some _ _).symm.trans H; rw [hy249]; with_reducible exact H2_)
  have Ny249 := Aside0.mk hy249
  clear hy249
  by_cases c7 : 8 < (y249.length : Int)
  rotate_left
  · rw [if_neg c7] at H
    exact absurd H (by simp)
  rw [if_pos c7] at H
  have c7b0 : decide (8 < (y249.length : Int)) = true := decide_eq_true c7
  have c7b1 : decide (8 < y249.length) = true := decide_eq_true (by omega)
  clear c7
  obtain ⟨y253, hy253⟩ : ∃ y_ : List Int, y_ = (y249.set (8 : Int).toNat (Go.bits .xor .u8 (rd y249 8) ((wrap64 (Int.tdiv a1 16777216)) % 256))) := ⟨_, rfl⟩
  replace H : (if 9 < (y249.length : Int) then ((some (y253.set (9 : Int).toNat (Go.bits .xor .u8 (rd y253 9) ((Int.tmod (wrap64 (Int.tdiv a1 65536)) 256) % 256)) : List Int)).bind fun y255 => (if 10 < (y249.length : Int) then ((some (y255.set (10 : Int).toNat (Go.bits .xor .u8 (rd y255 10) ((Int.tmod (wrap64 (Int.tdiv a1 256)) 256) % 256)) : List Int)).bind fun y257 => (if 11 < (y249.length : Int) then (some ((y257.set (11 : Int).toNat (Go.bits .xor .u8 (rd y257 11) ((Int.tmod a1 256) % 256))), 0)) else (none))) else (none))) else (none)) = some (r1, r2) := by first | (have H2_ := (Option.bind_some _ _).symm.trans H; rw [hy253]; with_reducible exact H2_)
  have Ny253 := Aside0.mk hy253
  clear hy253
  by_cases c9 : 9 < (y249.length : Int)
  rotate_left
  · rw [if_neg c9] at H
    exact absurd H (by simp)
  rw [if_pos c9] at H
  have c9b0 : decide (9 < (y249.length : Int)) = true := decide_eq_true c9
  have c9b1 : decide (9 < y249.length) = true := decide_eq_true (by omega)
  clear c9
  obtain ⟨y255, hy255⟩ : ∃ y_ : List Int, y_ = (y253.set (9 : Int).toNat (Go.bits .xor .u8 (rd y253 9) ((Int.tmod (wrap64 (Int.tdiv a1 65536)) 256) % 256))) := ⟨_, rfl⟩
  replace H : (if 10 < (y249.length : Int) then ((some (y255.set (10 : Int).toNat (Go.bits .xor .u8 (rd y255 10) ((Int.tmod (wrap64 (Int.tdiv a1 256)) 256) % 256)) : List Int)).bind fun y257 => (if 11 < (y249.length : Int) then (some ((y257.set (11 : Int).toNat (Go.bits .xor .u8 (rd y257 11) ((Int.tmod a1 256) % 256))), 0)) else (none))) else (none)) = some (r1, r2) := by first | (have H2_ := (Option.bind_some _ _).symm.trans H; rw [hy255]; with_reducible exact H2_)
  have Ny255 := Aside0.mk hy255
  clear hy255
  by_cases c11 : 10 < (y249.length : Int)
  rotate_left
  · rw [if_neg c11] at H
    exact absurd H (by simp)
  rw [if_pos c11] at H
  have c11b0 : decide (10 < (y249.length : Int)) = true := decide_eq_true c11
  have c11b1 : decide (10 < y249.length) = true := decide_eq_true (by omega)
  clear c11
  obtain ⟨y257, hy257⟩ : ∃ y_ : List Int, y_ = (y255.set (10 : Int).toNat (Go.bits .xor .u8 (rd y255 10) ((Int.tmod (wrap64 (Int.tdiv a1 256)) 256) % 256))) := ⟨_, rfl⟩
  replace H : (if 11 < (y249.length : Int) then (some ((y257.set (11 : Int).toNat (Go.bits .xor .u8 (rd y257 11) ((Int.tmod a1 256) % 256))), 0)) else (none)) = some (r1, r2) := by first | (have H2_ := (Option.bind_some _ _).symm.trans H; rw [hy257]; with_reducible exact H2_)
  have Ny257 := Aside0.mk hy257
  clear hy257
  by_cases c13 : 11 < (y249.length : Int)
  rotate_left
  · rw [if_neg c13] at H
    exact absurd H (by simp)
  rw [if_pos c13] at H
  have c13b0 : decide (11 < (y249.length : Int)) = true := decide_eq_true c13
  have c13b1 : decide (11 < y249.length) = true := decide_eq_true (by omega)
  clear c13
  obtain ⟨y259, hy259⟩ : ∃ y_ : List Int, y_ = (y257.set (11 : Int).toNat (Go.bits .xor .u8 (rd y257 11) ((Int.tmod a1 256) % 256))) := ⟨_, rfl⟩
  replace H : (some (y259, 0)) = some (r1, r2) := by first | (rw [hy259]; with_reducible exact H)
  have Ny259 := Aside0.mk hy259
  clear hy259
  simp only [Option.some.injEq, Prod.mk.injEq] at H
  obtain ⟨rfl, rfl⟩ := H
  go_enter Try.func22, Try.ntmps22
  go_wp2_with (first | ((with_reducible refine gate_dst (N := 18) rfl ?_); refine Kd.R_lit (Kd.int .u8) _ 5 ?hg (N := 18) ?hd (xs := ([] : List Int)) (inner := []) (ok := fun _ => True) (okp := fun _ => True) ?hr ?hp (fun _ hk => hk) trivial (Below.refl _ _) (Nat.le_refl _) (by simp) ?_; (case hd => rfl); (case hg => rfl); (case hr => first | (go_simp; done)); (case hp => exact (Reps.none _ _)); intro v247 w15 ho16 hb hg_ hnew_; clear hg_ hnew_; (rw [← Ny246.out] at ho16); have n0_ := Aside0.mk (Kd.R_lower ho16 (below_size (by repeat ((with_reducible first | exact HB.out))))); have n1_ := Aside0.mk (below_step (by repeat ((with_reducible first | exact HB.out))) hb); clear HB; have HO248 := n0_; have HB := n1_; clear n0_ n1_; clear hb ho16) | ((with_reducible refine gate_builtin (b := .append) (xs := #[.tmp 18, .tmp 19]) rfl ?_); at_builtin; refine Kd.R_append_rows (Kd.int .u8) (w0 := w) w.heap.size rfl (.tmp 18) (.tmp 19) 22 5 (.int .u8 0) 1 rfl Try.underlying22 info5 rfl (by decide) (by omega) v247 y246 l0 _ _ _ (fun _ => True) (fun _ => False) rfl rfl ?aO ?aR (fun _ _ h => h) (fun _ h => h.elim) ?aF ?aB ?aS ?aL ?_; (case aR => repeat (exact (Kd.C_below HR0.out HB.out))); (case aB => exact (by repeat ((with_reducible first | exact HB.out)))); (case aF => exact (fun _ _ => trivial)); (case aO => exact (by (with_reducible repeat (fail)); exact HO248.out)); (case aS => exact (below_size (by repeat ((with_reducible first | exact HB.out))))); (case aL => have := LMc6.out; omega); intro v250 w17 ho hb hg hat; rw [← Ny249.out] at ho; have n0_ := Aside0.mk (hb); have n1_ := Aside0.mk (ho); clear HB; clear HO248; have HB := n0_; have HO251 := n1_; clear n0_ n1_; clear ho hb hg hat; obtain ⟨Ao18, co18, eo18⟩ := Kd.R_slice HO251.out; subst eo18; have p252 : 0 ≤ (8 : Int) := (by omega); have q252 : 8 < (y249.length : Int) := of_decide_eq_true (by first | (with_reducible assumption)); obtain ⟨ad252, e252, hx252_0⟩ := Kd.at_int (Kd.R_reads' HO251.out).2.2 8 p252 q252; cases e252; (try simp only [show (8 : Int).toNat = 8 from rfl, Nat.reduceMul, Nat.reduceEqDiff, Go.Addr.add, ↓reduceIte] at hx252_0); have qi252 : (8 < y249.length) = True := eq_true (by omega); replace p252 := eq_true p252; replace q252 := eq_true q252; have p8 : 0 ≤ (8 : Int) := (by omega); have q8 : (8 : Int) < ((y249.length : Int) : Int) := of_decide_eq_true (by first | (with_reducible assumption)); have qi8 : (8 < y249.length) = True := eq_true (by omega); obtain ⟨go8, co8, eo8, gb8, gl8, cl8, HG8⟩ := Kd.R_form HO251.out (by omega); (cases eo8); have GB8 := Aside0.mk gb8; have GG8 := Aside0.mk HG8; clear gb8 gl8 HG8; (simp only [add_plain] at hx252_0); obtain ⟨hx8_0, hf8_0⟩ := Kd.R_celln 0 HO251.out (8 : Int) p8 q8; (try rw [show ((8 : Int)).toNat = 8 from rfl] at hx8_0); (try rw [show ((8 : Int)).toNat = 8 from rfl] at hf8_0); replace p8 := eq_true p8; replace q8 := eq_true q8; obtain ⟨hy19_, hz19_⟩ := Kd.R_celln 0 HO251.out (8 : Int) (by omega) (of_decide_eq_true (by first | (with_reducible assumption))); (try rw [show ((8 : Int)).toNat = 8 from rfl] at hy19_); (try rw [show ((8 : Int)).toNat = 8 from rfl] at hz19_); have HP19 := Kd.R_putg HO251.out (8 : Int) (Go.bits .xor .u8 (rd y249 8) ((wrap64 (Int.tdiv a1 16777216)) % 256))) | ((with_reducible refine gate_store (t := 5) (p := 29) rfl ?_); refine store_event (t := 5) (p := 29) (v := ?vo_w20) (w1 := (w17.setCell ⟨go8, (8 : Int).toNat, none⟩ (.int .u8 (Go.bits .xor .u8 (rd y249 8) ((wrap64 (Int.tdiv a1 16777216)) % 256))))) ?hg ?ho ?hn ?hr ?_; (case ho => rfl); (case hg => rfl); (case hn => rfl); (case hr => first | (go_simp; done)); intro w20 hw; have hg : w17.grownBy w20 (some go8) := (by rw [hw]; exact HP19.2); have hp_ : Kd.R (Kd.int .u8) 5 w20 w.heap.size (fun _ => True) (.slice (some ⟨go8, 0, none⟩) y249.length co18) y253 := (by rw [hw, Ny253.out]; exact HP19.1); clear HP19; have n0_ := Aside0.mk (hp_); have n1_ := Aside0.mk ((by rw [hw]; exact below_set (HB.out) GB8.out : Below w.heap.size w w20)); clear HO251; clear HB; have HO251 := n0_; have HB := n1_; clear n0_ n1_; clear hg hw hp_; have p254 : 0 ≤ (9 : Int) := (by omega); have q254 : 9 < (y253.length : Int) := (by have h_ : (9 : Int) < ((y249.length : Int) : Int) := of_decide_eq_true (by first | (with_reducible assumption)); first | (have e_ := (Kd.R_reads' HO251.out).1; omega)); have ql254 : ((9 : Int) < ((y249.length : Int) : Int)) = True := eq_true (of_decide_eq_true (by first | (with_reducible assumption))); (try have qn254 : (9 < y249.length) = True := eq_true (by have h_ : (9 : Int) < ((y249.length : Int) : Int) := of_decide_eq_true (by first | (with_reducible assumption)); omega)); obtain ⟨ad254, e254, hx254_0⟩ := Kd.at_int (Kd.R_reads' HO251.out).2.2 9 p254 q254; obtain rfl : (⟨go8, 0, none⟩ : Addr) = ad254 := (by injection e254); (simp only [add_plain] at hx254_0); have qi254 : (9 < y253.length) = True := eq_true (by omega); (try rw [show ((9 : Int)).toNat = 9 from rfl] at hx254_0); replace p254 := eq_true p254; replace q254 := eq_true q254; have p10 : 0 ≤ (9 : Int) := (by omega); have q10 : (9 : Int) < ((y249.length : Int) : Int) := of_decide_eq_true (by first | (with_reducible assumption)); have qi10 : (9 < y249.length) = True := eq_true (by omega); obtain ⟨hx10_0, hf10_0⟩ := Kd.R_celln 0 HO251.out (9 : Int) p10 q10; (try rw [show ((9 : Int)).toNat = 9 from rfl] at hx10_0); (try rw [show ((9 : Int)).toNat = 9 from rfl] at hf10_0); replace p10 := eq_true p10; replace q10 := eq_true q10; obtain ⟨hy21_, hz21_⟩ := Kd.R_celln 0 HO251.out (9 : Int) (by omega) (of_decide_eq_true (by first | (with_reducible assumption))); (try rw [show ((9 : Int)).toNat = 9 from rfl] at hy21_); (try rw [show ((9 : Int)).toNat = 9 from rfl] at hz21_); have HP21 := Kd.R_putg HO251.out (9 : Int) (Go.bits .xor .u8 (rd y253 9) ((Int.tmod (wrap64 (Int.tdiv a1 65536)) 256) % 256))) | ((with_reducible refine gate_store (t := 5) (p := 39) rfl ?_); refine store_event (t := 5) (p := 39) (v := ?vo_w22) (w1 := (w20.setCell ⟨go8, (9 : Int).toNat, none⟩ (.int .u8 (Go.bits .xor .u8 (rd y253 9) ((Int.tmod (wrap64 (Int.tdiv a1 65536)) 256) % 256))))) ?hg ?ho ?hn ?hr ?_; (case ho => rfl); (case hg => rfl); (case hn => rfl); (case hr => first | (go_simp; done)); intro w22 hw; have hg : w20.grownBy w22 (some go8) := (by rw [hw]; exact HP21.2); have hp_ : Kd.R (Kd.int .u8) 5 w22 w.heap.size (fun _ => True) (.slice (some ⟨go8, 0, none⟩) y249.length co18) y255 := (by rw [hw, Ny255.out]; exact HP21.1); clear HP21; have n0_ := Aside0.mk (hp_); have n1_ := Aside0.mk ((by rw [hw]; exact below_set (HB.out) GB8.out : Below w.heap.size w w22)); clear HO251; clear HB; have HO251 := n0_; have HB := n1_; clear n0_ n1_; clear hg hw hp_; have p256 : 0 ≤ (10 : Int) := (by omega); have q256 : 10 < (y255.length : Int) := (by have h_ : (10 : Int) < ((y249.length : Int) : Int) := of_decide_eq_true (by first | (with_reducible assumption)); first | (have e_ := (Kd.R_reads' HO251.out).1; omega)); have ql256 : ((10 : Int) < ((y249.length : Int) : Int)) = True := eq_true (of_decide_eq_true (by first | (with_reducible assumption))); (try have qn256 : (10 < y249.length) = True := eq_true (by have h_ : (10 : Int) < ((y249.length : Int) : Int) := of_decide_eq_true (by first | (with_reducible assumption)); omega)); obtain ⟨ad256, e256, hx256_0⟩ := Kd.at_int (Kd.R_reads' HO251.out).2.2 10 p256 q256; obtain rfl : (⟨go8, 0, none⟩ : Addr) = ad256 := (by injection e256); (simp only [add_plain] at hx256_0); have qi256 : (10 < y255.length) = True := eq_true (by omega); (try rw [show ((10 : Int)).toNat = 10 from rfl] at hx256_0); replace p256 := eq_true p256; replace q256 := eq_true q256; have p12 : 0 ≤ (10 : Int) := (by omega); have q12 : (10 : Int) < ((y249.length : Int) : Int) := of_decide_eq_true (by first | (with_reducible assumption)); have qi12 : (10 < y249.length) = True := eq_true (by omega); obtain ⟨hx12_0, hf12_0⟩ := Kd.R_celln 0 HO251.out (10 : Int) p12 q12; (try rw [show ((10 : Int)).toNat = 10 from rfl] at hx12_0); (try rw [show ((10 : Int)).toNat = 10 from rfl] at hf12_0); replace p12 := eq_true p12; replace q12 := eq_true q12; obtain ⟨hy23_, hz23_⟩ := Kd.R_celln 0 HO251.out (10 : Int) (by omega) (of_decide_eq_true (by first | (with_reducible assumption))); (try rw [show ((10 : Int)).toNat = 10 from rfl] at hy23_); (try rw [show ((10 : Int)).toNat = 10 from rfl] at hz23_); have HP23 := Kd.R_putg HO251.out (10 : Int) (Go.bits .xor .u8 (rd y255 10) ((Int.tmod (wrap64 (Int.tdiv a1 256)) 256) % 256))) | ((with_reducible refine gate_store (t := 5) (p := 49) rfl ?_); refine store_event (t := 5) (p := 49) (v := ?vo_w24) (w1 := (w22.setCell ⟨go8, (10 : Int).toNat, none⟩ (.int .u8 (Go.bits .xor .u8 (rd y255 10) ((Int.tmod (wrap64 (Int.tdiv a1 256)) 256) % 256))))) ?hg ?ho ?hn ?hr ?_; (case ho => rfl); (case hg => rfl); (case hn => rfl); (case hr => first | (go_simp; done)); intro w24 hw; have hg : w22.grownBy w24 (some go8) := (by rw [hw]; exact HP23.2); have hp_ : Kd.R (Kd.int .u8) 5 w24 w.heap.size (fun _ => True) (.slice (some ⟨go8, 0, none⟩) y249.length co18) y257 := (by rw [hw, Ny257.out]; exact HP23.1); clear HP23; have n0_ := Aside0.mk (hp_); have n1_ := Aside0.mk ((by rw [hw]; exact below_set (HB.out) GB8.out : Below w.heap.size w w24)); clear HO251; clear HB; have HO251 := n0_; have HB := n1_; clear n0_ n1_; clear hg hw hp_; have p258 : 0 ≤ (11 : Int) := (by omega); have q258 : 11 < (y257.length : Int) := (by have h_ : (11 : Int) < ((y249.length : Int) : Int) := of_decide_eq_true (by first | (with_reducible assumption)); first | (have e_ := (Kd.R_reads' HO251.out).1; omega)); have ql258 : ((11 : Int) < ((y249.length : Int) : Int)) = True := eq_true (of_decide_eq_true (by first | (with_reducible assumption))); (try have qn258 : (11 < y249.length) = True := eq_true (by have h_ : (11 : Int) < ((y249.length : Int) : Int) := of_decide_eq_true (by first | (with_reducible assumption)); omega)); obtain ⟨ad258, e258, hx258_0⟩ := Kd.at_int (Kd.R_reads' HO251.out).2.2 11 p258 q258; obtain rfl : (⟨go8, 0, none⟩ : Addr) = ad258 := (by injection e258); (simp only [add_plain] at hx258_0); have qi258 : (11 < y257.length) = True := eq_true (by omega); (try rw [show ((11 : Int)).toNat = 11 from rfl] at hx258_0); replace p258 := eq_true p258; replace q258 := eq_true q258; have p14 : 0 ≤ (11 : Int) := (by omega); have q14 : (11 : Int) < ((y249.length : Int) : Int) := of_decide_eq_true (by first | (with_reducible assumption)); have qi14 : (11 < y249.length) = True := eq_true (by omega); obtain ⟨hx14_0, hf14_0⟩ := Kd.R_celln 0 HO251.out (11 : Int) p14 q14; (try rw [show ((11 : Int)).toNat = 11 from rfl] at hx14_0); (try rw [show ((11 : Int)).toNat = 11 from rfl] at hf14_0); replace p14 := eq_true p14; replace q14 := eq_true q14; obtain ⟨hy25_, hz25_⟩ := Kd.R_celln 0 HO251.out (11 : Int) (by omega) (of_decide_eq_true (by first | (with_reducible assumption))); (try rw [show ((11 : Int)).toNat = 11 from rfl] at hy25_); (try rw [show ((11 : Int)).toNat = 11 from rfl] at hz25_); have HP25 := Kd.R_putg HO251.out (11 : Int) (Go.bits .xor .u8 (rd y257 11) ((Int.tmod a1 256) % 256))) | ((with_reducible refine gate_store (t := 5) (p := 58) rfl ?_); refine store_event (t := 5) (p := 58) (v := ?vo_w26) (w1 := (w24.setCell ⟨go8, (11 : Int).toNat, none⟩ (.int .u8 (Go.bits .xor .u8 (rd y257 11) ((Int.tmod a1 256) % 256))))) ?hg ?ho ?hn ?hr ?_; (case ho => rfl); (case hg => rfl); (case hn => rfl); (case hr => first | (go_simp; done)); intro w26 hw; have hg : w24.grownBy w26 (some go8) := (by rw [hw]; exact HP25.2); have hp_ : Kd.R (Kd.int .u8) 5 w26 w.heap.size (fun _ => True) (.slice (some ⟨go8, 0, none⟩) y249.length co18) y259 := (by rw [hw, Ny259.out]; exact HP25.1); clear HP25; have n0_ := Aside0.mk (hp_); have n1_ := Aside0.mk ((by rw [hw]; exact below_set (HB.out) GB8.out : Below w.heap.size w w26)); clear HO251; clear HB; have HO251 := n0_; have HB := n1_; clear n0_ n1_; clear hg hw hp_))
  go_ret2
  exact ⟨_, by first | rfl, by (with_reducible repeat (fail)); exact HO251.out, by repeat ((with_reducible first | exact HB.out))⟩
end Go.Proofs.Ytifpdpfjhjoieaa.H

/-! Vof -/
namespace Go.Proofs.Ytifpdpfjhjoieaa
set_option linter.unusedVariables false
open Go.RowKit Go.Proofs.YtifpdpfjhjoieaaW.PrintWords Go.Proofs.YtifpdpfjhjoieaaW.PrintLast Go.Proofs.YtifpdpfjhjoieaaW.PrintMore Iter
theorem F_of_C {W : World} {A : Option Addr} {n : Nat} {xs : List Int} (h : Kd.C (Kd.int .u8) W A n xs) : Kd.F (Kd.int .u8) W (fun _ => True) A n xs := fun W' hW' => by
  rcases Nat.eq_zero_or_pos n with h0 | h0
  · exact ⟨h.1, h.2.1, fun hn => by omega⟩
  · obtain ⟨ad, rfl, hlt⟩ := C_some h h0
    exact C_same h (hW' ad.block trivial hlt)
theorem V_of_C {W : World} {A : Option Addr} {c : Nat} {xs : List Int} (b : Nat) (h : Kd.C (Kd.int .u8) W A xs.length xs) (hc : xs.length ≤ c) : Kd.V (Kd.int .u8) 5 W b (fun _ => True) (.slice A xs.length c) xs := Kd.V_mk hc (F_of_C h)
end Go.Proofs.Ytifpdpfjhjoieaa

/-! SealC -/
namespace Go.Proofs.Ytifpdpfjhjoieaa
set_option linter.unusedVariables false
set_option linter.unusedSimpArgs false
open Go.RowKit Go.Proofs.YtifpdpfjhjoieaaW.PrintWords Go.Proofs.YtifpdpfjhjoieaaW.PrintLast
theorem byteOk_drop (l : List Int) (n : Nat) (h : byteOk l = true) : byteOk (l.drop n) = true := by
  rw [byteOk_iff] at h ⊢
  exact fun x hx => h x (List.mem_of_mem_drop hx)
/-- What is opened. -/
def openR (key nonce aad b : List Int) : List Int × Int :=
  if key.length = 32 ∧ nonce.length = 12 then (if b.length < 32 then ([], 3) else if sealTag key nonce aad (b.take (b.length - 32)) = b.drop (b.length - 32) then (streamOf (lockOf key) nonce (b.take (b.length - 32)), 0) else ([], 5)) else ([], 1)
def smallB (key nonce aad b : List Int) : Prop := byteOk key = true ∧ byteOk nonce = true ∧ byteOk aad = true ∧ byteOk b = true ∧ aad.length ≤ 300000 ∧ b.length ≤ 300000
instance (key nonce aad b : List Int) : Decidable (smallB key nonce aad b) := by unfold smallB; infer_instance
theorem cut32 (n : Nat) (h : 32 ≤ n) (h2 : n ≤ 300000) : wrap64 ((n : Int) - 32) = ((n - 32 : Nat) : Int) := by unfold wrap64; omega
theorem cut32' (n : Nat) (h : n < 32) : wrap64 ((n : Int) - 32) < 0 := by unfold wrap64; omega
theorem stream_some (key nonce b : List Int) (h12 : nonce.length = 12) (o1 : byteOk nonce = true) (o3 : byteOk b = true) (l : b.length ≤ 300000) : P.aes_Stream.f (lockOf key) nonce b = some (streamOf (lockOf key) nonce b, 0) := by
  unfold P.aes_Stream.f
  rw [if_pos (lockOf_length key), if_pos h12, if_pos ⟨byteOk_labelOf _ _ _ _, o1, o3, by omega⟩]
theorem open_eq (l0 l1 l2 l3 : List Int) (h : smallB l0 l1 l2 l3) : H.seal_Open.f l0 l1 l2 l3 = some (openR l0 l1 l2 l3) := by
  obtain ⟨o0, o1, o2, o3, o4, o5⟩ := h
  unfold H.seal_Open.f openR
  by_cases hk : l0.length = 32 ∧ l1.length = 12
  case neg => rw [ready_bad _ _ _ o0 hk, if_neg hk, Option.bind_some, if_neg (by decide)]
  rw [ready_good _ _ _ o0 hk.1 hk.2 (by omega), if_pos hk, Option.bind_some, if_pos rfl]
  by_cases h32 : l3.length < 32
  · rw [if_pos (cut32' _ h32), if_pos h32]
  have e := cut32 l3.length (by omega) o5
  have hs := byteOk_take l3 (l3.length - 32) o3
  have hd := byteOk_drop l3 (l3.length - 32) o3
  have hl : (l3.take (l3.length - 32)).length ≤ 300000 := by rw [List.length_take]; omega
  rw [e, if_neg (by omega), if_neg h32, if_pos (by omega), if_pos (by omega), Int.toNat_natCast, tag_good _ _ _ _ o1 o2 hs hk.2 o4 hl, Option.bind_some]
  unfold P.mac_Same.f
  rw [if_pos ⟨byteOk_sealTag _ _ _ _, hd, by rw [sealTag_length]; decide⟩, Option.bind_some]
  by_cases ht : sealTag l0 l1 l2 (l3.take (l3.length - 32)) = l3.drop (l3.length - 32)
  · rw [if_pos ht, if_pos (beq_iff_eq.2 ht), stream_some _ _ _ hk.2 o1 hs hl, Option.bind_some]
  · rw [if_neg ht, if_neg (by rw [beq_iff_eq]; exact ht)]
theorem rtag_good (key nonce aad s : List Int) (h1 : byteOk nonce = true) (h2 : byteOk aad = true) (h3 : byteOk s = true) (l1 : nonce.length = 12) (l2 : aad.length ≤ 300000) (l3 : s.length ≤ 300000) : H.pyxref06_tag.f (tagOf key) nonce aad s = some (sealTag key nonce aad s) := by
  have hl := rowB_length aad
  have e : ([rowB aad, nonce, s] : List (List Int)).flatten = rowB aad ++ (nonce ++ s) := by simp
  unfold H.pyxref06_tag.f P.pyxref03_All.f P.pyxref01_Row.f
  rw [rowOf_small _ (by omega), Option.bind_some, e, if_pos ⟨byteOk_labelOf _ _ _ _, (byteOk_append _ _).2 ⟨byteOk_rowB _ h2, (byteOk_append _ _).2 ⟨h1, h3⟩⟩, by rw [tagOf_length]; decide, by rw [List.length_append, List.length_append]; omega, by show 3 ≤ 9223372036854775800; decide⟩, Option.bind_some]
  rfl
theorem rhalves_eq (l0 : List Int) (h0 : byteOk l0 = true) : H.pyxref06_Halves.f l0 = P.seal_Halves.f l0 := by
  unfold H.pyxref06_Halves.f P.seal_Halves.f
  by_cases h32 : l0.length = 32
  rotate_left
  · rw [if_neg (by omega), if_neg h32]
  have e1 : P.pyxref04_Label.f l0 (⟨#[108, 111, 99, 107]⟩ : ByteArray) ([] : List Int) 16 = some (labelOf l0 labLock [] 16, 0) := label_some l0 labLock [] 16 (by decide) h0 rfl (by omega) (by decide) (by decide)
  have e2 : P.pyxref04_Label.f l0 (⟨#[116, 97, 103]⟩ : ByteArray) ([] : List Int) 32 = some (labelOf l0 labTag [] 32, 0) := label_some l0 labTag [] 32 (by decide) h0 rfl (by omega) (by decide) (by decide)
  rw [if_pos (by omega), if_pos h32, if_pos h0, e1, Option.bind_some, e2, Option.bind_some]
theorem rseal_eq (l0 l1 l2 l3 : List Int) (h : smallB l0 l1 l2 l3) : H.pyxref06_Seal.f 1 l0 l1 l2 l3 = P.seal_Seal.f l0 l1 l2 l3 := by
  obtain ⟨o0, o1, o2, o3, o4, o5⟩ := h
  unfold H.pyxref06_Seal.f P.seal_Seal.f
  rw [rhalves_eq _ o0, if_pos ⟨o0, o1, o2, o3, o4, o5⟩]
  unfold P.seal_Halves.f
  by_cases h32 : l0.length = 32
  case neg => rw [if_neg h32, if_neg (fun x => h32 x.1), Option.bind_some, if_neg (by decide), H.pyxref06_Seal.j0, if_pos rfl]
  rw [if_pos h32, if_pos o0, Option.bind_some, if_pos rfl]
  by_cases h12 : l1.length = 12
  case neg => rw [if_neg (fun x => h12 x.2), show ((l1.length : Int) != 12) = true from by simp; omega, H.pyxref06_Seal.j0, if_pos rfl]
  have es : P.pyxref05_Stream.f (labelOf l0 labLock [] 16) l1 l3 = some (streamOf (lockOf l0) l1 l3, 0) := stream_some l0 l1 l3 h12 o1 o3 o5
  have et : H.pyxref06_tag.f (labelOf l0 labTag [] 32) l1 l2 (streamOf (lockOf l0) l1 l3) = some (sealTag l0 l1 l2 (streamOf (lockOf l0) l1 l3)) := rtag_good l0 l1 l2 _ o1 o2 (byteOk_streamOf _ _ _) h12 o4 (by rw [streamOf_length]; exact o5)
  have l1' : ([] : List Int).length + (streamOf (lockOf l0) l1 l3).length < 140737488355328 := by rw [streamOf_length, List.length_nil]; omega
  have l2' : ([] ++ streamOf (lockOf l0) l1 l3).length + (sealTag l0 l1 l2 (streamOf (lockOf l0) l1 l3)).length < 140737488355328 := by rw [List.nil_append, streamOf_length, sealTag_length]; omega
  rw [if_pos ⟨h32, h12⟩, show ((l1.length : Int) != 12) = false from by rw [h12]; rfl, H.pyxref06_Seal.j0, if_neg (by decide), es, Option.bind_some, Option.bind_some]
  dsimp only
  rw [if_pos l1', Option.bind_some, et, Option.bind_some, if_pos l2']
  rfl
theorem ropen_eq (l0 l1 l2 l3 : List Int) (h : smallB l0 l1 l2 l3) : H.pyxref06_Open.f 1 l0 l1 l2 l3 = some (openR l0 l1 l2 l3) := by
  obtain ⟨o0, o1, o2, o3, o4, o5⟩ := h
  unfold H.pyxref06_Open.f openR
  rw [rhalves_eq _ o0]
  unfold P.seal_Halves.f
  by_cases h32 : l0.length = 32
  case neg => rw [if_neg h32, if_neg (fun x => h32 x.1), Option.bind_some, if_neg (by decide), H.pyxref06_Open.j0, if_pos rfl]
  rw [if_pos h32, if_pos o0, Option.bind_some, if_pos rfl]
  by_cases h12 : l1.length = 12
  case neg => rw [if_neg (fun x => h12 x.2), show ((l1.length : Int) != 12) = true from by simp; omega, H.pyxref06_Open.j0, if_pos rfl]
  rw [if_pos ⟨h32, h12⟩, show ((l1.length : Int) != 12) = false from by rw [h12]; rfl, H.pyxref06_Open.j0, if_neg (by decide)]
  by_cases hl : l3.length < 32
  · rw [if_pos (by omega), if_pos hl]
  have e := cut32 l3.length (by omega) o5
  have hs := byteOk_take l3 (l3.length - 32) o3
  have hd := byteOk_drop l3 (l3.length - 32) o3
  have hll : (l3.take (l3.length - 32)).length ≤ 300000 := by rw [List.length_take]; omega
  have es : P.pyxref05_Stream.f (labelOf l0 labLock [] 16) l1 (l3.take (l3.length - 32)) = some (streamOf (lockOf l0) l1 (l3.take (l3.length - 32)), 0) := stream_some l0 l1 _ h12 o1 hs hll
  have et : H.pyxref06_tag.f (labelOf l0 labTag [] 32) l1 l2 (l3.take (l3.length - 32)) = some (sealTag l0 l1 l2 (l3.take (l3.length - 32))) := rtag_good l0 l1 l2 _ o1 o2 hs h12 o4 hll
  rw [if_neg (by omega), e, if_neg hl, if_pos (by omega), if_pos (by omega), Int.toNat_natCast, et, Option.bind_some]
  unfold P.pyxref01_Same.f
  rw [if_pos ⟨byteOk_sealTag _ _ _ _, hd⟩, Option.bind_some]
  by_cases ht : sealTag l0 l1 l2 (l3.take (l3.length - 32)) = l3.drop (l3.length - 32)
  · rw [if_pos ht, if_pos (beq_iff_eq.2 ht), es, Option.bind_some]
  · rw [if_neg ht, if_neg (by rw [beq_iff_eq]; exact ht)]
/-! Nonces. -/
def atF (base : List Int) (n i : Nat) : Int := if i < 8 then base.getD i 0 else xr (base.getD i 0) ((numB n 4).getD (i - 8) 0)
def atOf (base : List Int) (n : Nat) : List Int := (List.range 12).map (atF base n)
theorem atOf_length (base : List Int) (n : Nat) : (atOf base n).length = 12 := by simp [atOf]
theorem byteOk_atOf (base : List Int) (n : Nat) (h : byteOk base = true) : byteOk (atOf base n) = true := by
  rw [byteOk_iff]
  intro x hx
  obtain ⟨i, -, rfl⟩ := List.mem_map.1 hx
  unfold atF
  split
  · exact byte_getD base h i
  · exact ⟨xr_ge _ _, xr_lt _ _⟩
theorem atOf_split (base : List Int) (h : base.length = 12) (n : Nat) : atOf base n = rowTo 12 (atF base n) (fun i => base.getD i 0) 12 := by
  unfold atOf rowTo
  exact List.map_congr_left fun i hi => by rw [if_pos (List.mem_range.1 hi)]
theorem at_l0 (base : List Int) (h : base.length = 12) (n : Nat) : ∀ (d i : Nat), i + d = 4 → EvS (fun k => H.seal_At.l0 k (rowTo 12 (atF base n) (fun i => base.getD i 0) (8 + i)) (numB n 4) (numB n 4) ((4 : Nat) : Int) (i : Int)) (atOf base n, 0)
  | 0, i, hi => EvS.now fun k => by
    obtain rfl : i = 4 := by omega
    rw [H.seal_At.l0, if_neg (by omega), atOf_split base h n]
  | d + 1, i, hi => by
    have g1 : (i : Int) < ((4 : Nat) : Int) := by omega
    have g0 : (0 : Int) ≤ (i : Int) := by omega
    have g2 : (0 : Int) ≤ ((8 + i : Nat) : Int) := by omega
    have g3 : ((8 + i : Nat) : Int) < ((12 : Nat) : Int) := by omega
    have e : wrap64 ((wrap64 (((12 : Nat) : Int) - ((4 : Nat) : Int))) + (i : Int)) = ((8 + i : Nat) : Int) := by unfold wrap64; omega
    have e2 := wd4 i (by omega)
    refine EvS.step (h := fun k => H.seal_At.l0 k (rowTo 12 (atF base n) (fun i => base.getD i 0) (8 + (i + 1))) (numB n 4) (numB n 4) ((4 : Nat) : Int) ((i + 1 : Nat) : Int)) (fun k => ?_) (at_l0 base h n d (i + 1) (by omega))
    have hset := rowTo_set 12 (atF base n) (fun i => base.getD i 0) (8 + i)
    have hv : atF base n (8 + i) = xr (base.getD (8 + i) 0) ((numB n 4).getD i 0) := by
      unfold atF
      rw [if_neg (by omega), Nat.add_sub_cancel_left]
    rw [hv] at hset
    rw [H.seal_At.l0, if_pos g1, if_pos g0, numB_length, if_pos g1, rowTo_length, e, if_pos g2, if_pos g3, rd_nat, rd_nat, rowTo_at _ _ _ _ _ (by omega), if_neg (by omega), xr_bits, Int.toNat_natCast, hset, e2]
    rfl
def atR (base : List Int) (n : Int) : List Int × Int := if base.length = 12 ∧ 0 ≤ n ∧ n ≤ 4294967295 then (atOf base n.toNat, 0) else ([], 1)
theorem at_eq (base : List Int) (n : Int) : EvS (fun k => H.seal_At.f k base n) (atR base n) := by
  unfold atR
  by_cases h12 : base.length = 12
  case neg =>
    rw [if_neg (fun x => h12 x.1)]
    refine EvS.step (h := fun _ => some ([], 1)) (fun k => ?_) ⟨0, fun _ _ => rfl⟩
    unfold H.seal_At.f
    rw [if_neg (by omega), H.seal_At.j0, if_pos rfl]
  by_cases h0 : n < 0
  · rw [if_neg (by omega)]
    refine EvS.step (h := fun _ => some ([], 1)) (fun k => ?_) ⟨0, fun _ _ => rfl⟩
    unfold H.seal_At.f
    rw [if_pos (by omega), if_pos h0, H.seal_At.j0, if_pos rfl]
  by_cases h1 : 4294967295 < n
  · rw [if_neg (by omega)]
    refine EvS.step (h := fun _ => some ([], 1)) (fun k => ?_) ⟨0, fun _ _ => rfl⟩
    unfold H.seal_At.f
    rw [if_pos (by omega), if_neg h0, H.seal_At.j0, if_pos (by simp; omega)]
  rw [if_pos ⟨h12, by omega, by omega⟩]
  obtain ⟨m, rfl⟩ := Int.eq_ofNat_of_zero_le (show 0 ≤ n by omega)
  have hn : P.byt_Num.f (m : Int) 4 = some (numB m 4, 0) := by
    unfold P.byt_Num.f
    exact congrArg some (numOf_small m 4 (by omega) (by omega) (by omega))
  have hl := at_l0 base h12 m 4 0 (by omega)
  refine EvS.step (h := fun k => H.seal_At.l0 k (rowTo 12 (atF base m) (fun i => base.getD i 0) (8 + 0)) (numB m 4) (numB m 4) ((4 : Nat) : Int) ((0 : Nat) : Int)) (fun k => ?_) (by rw [Int.toNat_natCast]; exact hl)
  have hb : rowTo 12 (atF base m) (fun i => base.getD i 0) (8 + 0) = base := by
    apply List.ext_getElem?
    intro i
    unfold rowTo
    rw [List.getElem?_map]
    by_cases hi : i < 12
    · rw [List.getElem?_range hi, List.getElem?_eq_getElem (by omega)]
      simp only [Option.map_some]
      by_cases h8 : i < 8
      · simp [atF, h8, h12, hi]
      · simp [h8, h12, hi]
    · rw [List.getElem?_eq_none (by simp; omega), List.getElem?_eq_none (by omega)]
      rfl
  unfold H.seal_At.f
  have g : ([] : List Int).length + base.length < 140737488355328 := by rw [h12]; decide
  rw [if_pos (by omega), if_neg (by omega), H.seal_At.j0, if_neg (by simp; omega), Option.bind_some, if_pos g, hn, Option.bind_some, hb, numB_length, List.nil_append]
  rfl
theorem rat_num (m i : Nat) (hi : i < 4) : (numB m 4).getD i 0 = ((m / 256 ^ (3 - i) % 256 : Nat) : Int) := by
  unfold numB numAt
  rw [List.getD_eq_getElem?_getD, List.getElem?_map, List.getElem?_range hi]
  rfl
theorem rat_eq (base : List Int) (n : Int) : H.pyxref06_At.f base n = some (atR base n) := by
  unfold atR H.pyxref06_At.f
  by_cases h12 : base.length = 12
  case neg => rw [if_neg (by omega), if_neg (fun x => h12 x.1)]
  rw [if_pos (by omega)]
  by_cases h0 : n < 0
  · rw [if_pos h0, if_neg (by omega)]
  rw [if_neg h0]
  by_cases h1 : 4294967295 < n
  · rw [if_pos h1, if_neg (by omega)]
  rw [if_neg h1, if_pos ⟨h12, by omega, by omega⟩]
  obtain ⟨m, rfl⟩ := Int.eq_ofNat_of_zero_le (show 0 ≤ n by omega)
  have hm : m < 4294967296 := by omega
  have b0 : (wrap64 (Int.tdiv (m : Int) 16777216)) % 256 = (numB m 4).getD 0 0 := by
    rw [rat_num m 0 (by omega), show Int.tdiv (m : Int) 16777216 = ((m / 16777216 : Nat) : Int) from rfl, show (256 : Nat) ^ (3 - 0) = 16777216 from rfl]
    unfold wrap64
    omega
  have b1 : (Int.tmod (wrap64 (Int.tdiv (m : Int) 65536)) 256) % 256 = (numB m 4).getD 1 0 := by
    rw [rat_num m 1 (by omega), show Int.tdiv (m : Int) 65536 = ((m / 65536 : Nat) : Int) from rfl, show (256 : Nat) ^ (3 - 1) = 65536 from rfl, show wrap64 ((m / 65536 : Nat) : Int) = ((m / 65536 : Nat) : Int) from by unfold wrap64; omega,
      show Int.tmod ((m / 65536 : Nat) : Int) 256 = ((m / 65536 % 256 : Nat) : Int) from rfl]
    omega
  have b2 : (Int.tmod (wrap64 (Int.tdiv (m : Int) 256)) 256) % 256 = (numB m 4).getD 2 0 := by
    rw [rat_num m 2 (by omega), show Int.tdiv (m : Int) 256 = ((m / 256 : Nat) : Int) from rfl, show (256 : Nat) ^ (3 - 2) = 256 from rfl, show wrap64 ((m / 256 : Nat) : Int) = ((m / 256 : Nat) : Int) from by unfold wrap64; omega,
      show Int.tmod ((m / 256 : Nat) : Int) 256 = ((m / 256 % 256 : Nat) : Int) from rfl]
    omega
  have b3 : (Int.tmod (m : Int) 256) % 256 = (numB m 4).getD 3 0 := by
    rw [rat_num m 3 (by omega), show (256 : Nat) ^ (3 - 3) = 1 from rfl, show Int.tmod (m : Int) 256 = ((m % 256 : Nat) : Int) from rfl, Nat.div_one]
    omega
  have g : ([] : List Int).length + base.length < 140737488355328 := by rw [h12]; decide
  rw [Option.bind_some, if_pos g, List.nil_append, Option.bind_some, h12, if_pos (by decide), Option.bind_some, if_pos (by decide), Option.bind_some, if_pos (by decide), Option.bind_some, if_pos (by decide), b0, b1, b2, b3]
  clear b0 b1 b2 b3 g
  match base, h12 with
  | [x0, x1, x2, x3, x4, x5, x6, x7, x8, x9, x10, x11], _ => rfl
end Go.Proofs.Ytifpdpfjhjoieaa

/-! SealD -/
namespace Go.Proofs.Ytifpdpfjhjoieaa
set_option linter.unusedVariables false
set_option linter.unusedSimpArgs false
open Go.RowKit Go.Proofs.YtifpdpfjhjoieaaW.PrintWords Go.Proofs.YtifpdpfjhjoieaaW.PrintLast
namespace P
def seal_Open.f (key nonce aad b : List Int) : Option (List Int × Int) := if smallB key nonce aad b then some (openR key nonce aad b) else none
theorem seal_Open.calls (A0 : Option Addr) (c0 : Nat) (l0 : List Int) (A1 : Option Addr) (c1 : Nat) (l1 : List Int) (A2 : Option Addr) (c2 : Nat) (l2 : List Int) (A3 : Option Addr) (c3 : Nat) (l3 : List Int) (r1 : List Int) (r2 : Int) (w : World) (hr0 : Kd.C (Kd.int .u8) w A0 l0.length l0) (hc0 : l0.length ≤ c0) (hr1 : Kd.C (Kd.int .u8) w A1 l1.length l1) (hc1 : l1.length ≤ c1) (hr2 : Kd.C (Kd.int .u8) w A2 l2.length l2) (hc2 : l2.length ≤ c2) (hr3 : Kd.C (Kd.int .u8) w A3 l3.length l3) (hc3 : l3.length ≤ c3) (h : seal_Open.f l0 l1 l2 l3 = some (r1, r2)) :
    Calls Try.prog 19 #[.slice A0 l0.length c0, .slice A1 l1.length c1, .slice A2 l2.length c2, .slice A3 l3.length c3] w fun e w' => ∃ v0_ : Value, e = .returned (.tuple #[v0_, .int .i64 r2]) ∧ Kd.R (Kd.int .u8) 5 w' w.heap.size (fun _ => True) v0_ r1 ∧ Below w.heap.size w w' := by
  unfold seal_Open.f at h
  split at h
  case isFalse => cases h
  case isTrue hok =>
  refine (H.seal_Open.calls A0 c0 l0 (fun _ => True) A1 c1 l1 A2 c2 l2 (fun _ => True) A3 c3 l3 r1 r2 w hr0 hc0 (V_of_C _ hr1 hc1) hr2 hc2 (V_of_C _ hr3 hc3) ((open_eq _ _ _ _ hok).trans h)).mono ?_
  rintro e w' ⟨v, rfl, hR, hb⟩
  exact ⟨v, rfl, Kd.R_mono hR (fun _ _ => trivial), hb⟩
def pyxref06_Seal.f (key nonce aad b : List Int) : Option (List Int × Int) := seal_Seal.f key nonce aad b
theorem pyxref06_Seal.calls (A0 : Option Addr) (c0 : Nat) (l0 : List Int) (A1 : Option Addr) (c1 : Nat) (l1 : List Int) (A2 : Option Addr) (c2 : Nat) (l2 : List Int) (A3 : Option Addr) (c3 : Nat) (l3 : List Int) (r1 : List Int) (r2 : Int) (w : World) (hr0 : Kd.C (Kd.int .u8) w A0 l0.length l0) (hc0 : l0.length ≤ c0) (hr1 : Kd.C (Kd.int .u8) w A1 l1.length l1) (hc1 : l1.length ≤ c1) (hr2 : Kd.C (Kd.int .u8) w A2 l2.length l2) (hc2 : l2.length ≤ c2) (hr3 : Kd.C (Kd.int .u8) w A3 l3.length l3) (hc3 : l3.length ≤ c3) (h : pyxref06_Seal.f l0 l1 l2 l3 = some (r1, r2)) :
    Calls Try.prog 17 #[.slice A0 l0.length c0, .slice A1 l1.length c1, .slice A2 l2.length c2, .slice A3 l3.length c3] w fun e w' => ∃ v0_ : Value, e = .returned (.tuple #[v0_, .int .i64 r2]) ∧ Kd.R (Kd.int .u8) 5 w' w.heap.size (fun _ => True) v0_ r1 ∧ Below w.heap.size w w' := by
  have h0 := h
  unfold pyxref06_Seal.f seal_Seal.f at h
  split at h
  case isFalse => cases h
  case isTrue hok => exact H.pyxref06_Seal.calls 1 A0 c0 l0 A1 c1 l1 A2 c2 l2 A3 c3 l3 r1 r2 w hr0 hc0 hr1 hc1 hr2 hc2 hr3 hc3 ((rseal_eq _ _ _ _ hok).trans h0)
def pyxref06_Open.f (key nonce aad b : List Int) : Option (List Int × Int) := seal_Open.f key nonce aad b
theorem pyxref06_Open.calls (A0 : Option Addr) (c0 : Nat) (l0 : List Int) (A1 : Option Addr) (c1 : Nat) (l1 : List Int) (A2 : Option Addr) (c2 : Nat) (l2 : List Int) (A3 : Option Addr) (c3 : Nat) (l3 : List Int) (r1 : List Int) (r2 : Int) (w : World) (hr0 : Kd.C (Kd.int .u8) w A0 l0.length l0) (hc0 : l0.length ≤ c0) (hr1 : Kd.C (Kd.int .u8) w A1 l1.length l1) (hc1 : l1.length ≤ c1) (hr2 : Kd.C (Kd.int .u8) w A2 l2.length l2) (hc2 : l2.length ≤ c2) (hr3 : Kd.C (Kd.int .u8) w A3 l3.length l3) (hc3 : l3.length ≤ c3) (h : pyxref06_Open.f l0 l1 l2 l3 = some (r1, r2)) :
    Calls Try.prog 20 #[.slice A0 l0.length c0, .slice A1 l1.length c1, .slice A2 l2.length c2, .slice A3 l3.length c3] w fun e w' => ∃ v0_ : Value, e = .returned (.tuple #[v0_, .int .i64 r2]) ∧ Kd.R (Kd.int .u8) 5 w' w.heap.size (fun _ => True) v0_ r1 ∧ Below w.heap.size w w' := by
  unfold pyxref06_Open.f seal_Open.f at h
  split at h
  case isFalse => cases h
  case isTrue hok => exact H.pyxref06_Open.calls 1 A0 c0 l0 A1 c1 l1 A2 c2 l2 A3 c3 l3 r1 r2 w hr0 hc0 hr1 hc1 hr2 hc2 hr3 hc3 ((ropen_eq _ _ _ _ hok).trans h)
def seal_At.f (base : List Int) (n : Int) : Option (List Int × Int) := some (atR base n)
theorem seal_At.calls (A0 : Option Addr) (c0 : Nat) (l0 : List Int) (a1 : Int) (r1 : List Int) (r2 : Int) (w : World) (hr0 : Kd.C (Kd.int .u8) w A0 l0.length l0) (hc0 : l0.length ≤ c0) (h : seal_At.f l0 a1 = some (r1, r2)) :
    Calls Try.prog 21 #[.slice A0 l0.length c0, .int .i64 a1] w fun e w' => ∃ v0_ : Value, e = .returned (.tuple #[v0_, .int .i64 r2]) ∧ Kd.R (Kd.int .u8) 5 w' w.heap.size (fun _ => True) v0_ r1 ∧ Below w.heap.size w w' := by
  obtain ⟨k0, hk⟩ := at_eq l0 a1
  exact H.seal_At.calls k0 A0 c0 l0 a1 r1 r2 w hr0 hc0 ((hk k0 (Nat.le_refl _)).trans h)
def pyxref06_At.f (base : List Int) (n : Int) : Option (List Int × Int) := some (atR base n)
theorem pyxref06_At.calls (A0 : Option Addr) (c0 : Nat) (l0 : List Int) (a1 : Int) (r1 : List Int) (r2 : Int) (w : World) (hr0 : Kd.C (Kd.int .u8) w A0 l0.length l0) (hc0 : l0.length ≤ c0) (h : pyxref06_At.f l0 a1 = some (r1, r2)) :
    Calls Try.prog 22 #[.slice A0 l0.length c0, .int .i64 a1] w fun e w' => ∃ v0_ : Value, e = .returned (.tuple #[v0_, .int .i64 r2]) ∧ Kd.R (Kd.int .u8) 5 w' w.heap.size (fun _ => True) v0_ r1 ∧ Below w.heap.size w w' :=
  H.pyxref06_At.calls A0 c0 l0 a1 r1 r2 w hr0 hc0 ((rat_eq l0 a1).trans h)
def pyxref06_Halves.f (key : List Int) : Option (List Int × List Int × Int) := if byteOk key = true then seal_Halves.f key else none
theorem pyxref06_Halves.calls (A0 : Option Addr) (c0 : Nat) (l0 : List Int) (r1 : List Int) (r2 : List Int) (r3 : Int) (w : World) (hr0 : Kd.C (Kd.int .u8) w A0 l0.length l0) (hc0 : l0.length ≤ c0) (h : pyxref06_Halves.f l0 = some (r1, r2, r3)) :
    Calls Try.prog 15 #[.slice A0 l0.length c0] w fun e w' => ∃ v0_ v1_ : Value, e = .returned (.tuple #[v0_, v1_, .int .i64 r3]) ∧ Kd.R (Kd.int .u8) 5 w' w.heap.size (fun k_ => some k_ ≠ (v1_ : Value).ownBlock) v0_ r1 ∧ Kd.R (Kd.int .u8) 5 w' w.heap.size (fun k_ => some k_ ≠ (v0_ : Value).ownBlock) v1_ r2 ∧ Below w.heap.size w w' := by
  unfold pyxref06_Halves.f at h
  split at h
  case isFalse => cases h
  case isTrue hok => exact H.pyxref06_Halves.calls A0 c0 l0 r1 r2 r3 w hr0 hc0 ((rhalves_eq l0 hok).trans h)
end P
end Go.Proofs.Ytifpdpfjhjoieaa

/-! SealE -/
namespace Go.Proofs.Ytifpdpfjhjoieaa
set_option linter.unusedVariables false
set_option linter.unusedSimpArgs false
open Go.RowKit Go.Shelf Iter Go.Proofs.YtifpdpfjhjoieaaW.PrintWords Go.Proofs.YtifpdpfjhjoieaaW.PrintLast
attribute [local go_sem] Oper.semAt_some
def Z32 : List Int := List.replicate 32 0
def Z12 : List Int := List.replicate 12 0
theorem sh06_a : ∃ s, P.seal_Seal.f Z32 Z12 [] [] = some (s, 0) ∧ s.length = 32 := by
  refine ⟨sealOf Z32 Z12 [] [], ?_, sealOf_length _ _ _ _⟩
  unfold P.seal_Seal.f
  rw [if_pos (by decide), if_pos (by decide)]
theorem sh06_s2 : P.seal_Seal.f Z32 Z12 [1] [2, 3] = some (sealOf Z32 Z12 [1] [2, 3], 0) := by
  unfold P.seal_Seal.f
  rw [if_pos (by decide), if_pos (by decide)]
theorem sh06_tag : sealTag Z32 Z12 [2] ((sealOf Z32 Z12 [1] [2, 3]).take 2) ≠ (sealOf Z32 Z12 [1] [2, 3]).drop 2 := by decide +kernel
theorem sealOf_take (key nonce aad b : List Int) : (sealOf key nonce aad b).take b.length = streamOf (lockOf key) nonce b := by
  unfold sealOf
  rw [List.take_left' (streamOf_length _ _ _)]
theorem sealOf_drop (key nonce aad b : List Int) : (sealOf key nonce aad b).drop b.length = sealTag key nonce aad (streamOf (lockOf key) nonce b) := by
  unfold sealOf
  rw [List.drop_left' (streamOf_length _ _ _)]
theorem bytes_wf (b : List Int) (h : byteOk b = true) : ∀ x ∈ b, 0 ≤ x ∧ x < 256 := (byteOk_iff b).1 h
/-- What is sealed is opened. -/
theorem open_seal (key nonce aad b : List Int) (h32 : key.length = 32) (h12 : nonce.length = 12) (o : byteOk b = true) : openR key nonce aad (sealOf key nonce aad b) = (b, 0) := by
  have e : b.length + 32 - 32 = b.length := by omega
  unfold openR
  rw [if_pos ⟨h32, h12⟩, sealOf_length, if_neg (by omega), e, sealOf_take, sealOf_drop, if_pos rfl, streamOf_back _ _ _ (bytes_wf b o)]
theorem small_seal (key nonce aad b x : List Int) (o0 : byteOk key = true) (o1 : byteOk nonce = true) (o2 : byteOk aad = true) (l2 : aad.length ≤ 300000) (l3 : b.length ≤ 299968) : smallB key nonce aad (sealOf key nonce x b) := ⟨o0, o1, o2, byteOk_sealOf _ _ _ _, l2, by rw [sealOf_length]; omega⟩
theorem sh06_c : P.seal_Open.f Z32 Z12 [1] (sealOf Z32 Z12 [1] [2, 3]) = some ([2, 3], 0) := by
  unfold P.seal_Open.f
  rw [if_pos (small_seal _ _ _ _ _ (by decide) (by decide) (by decide) (by decide) (by decide)), open_seal _ _ _ _ (by decide) (by decide) (by decide)]
theorem sh06_d : P.seal_Open.f Z32 Z12 [2] (sealOf Z32 Z12 [1] [2, 3]) = some ([], 5) := by
  unfold P.seal_Open.f openR
  rw [if_pos (small_seal _ _ _ _ _ (by decide) (by decide) (by decide) (by decide) (by decide)), if_pos (by decide), sealOf_length, if_neg (by decide), show ([2, 3] : List Int).length + 32 - 32 = 2 from rfl, if_neg sh06_tag]
theorem sh06_b : ∃ s, P.seal_Seal.f Z32 Z12 [1] [2, 3] = some (s, 0) ∧ s.length = 34 ∧ P.seal_Open.f Z32 Z12 [1] s = some ([2, 3], 0) ∧ P.seal_Open.f Z32 Z12 [2] s = some ([], 5) :=
  ⟨_, sh06_s2, sealOf_length _ _ _ _, sh06_c, sh06_d⟩
theorem sh06_n : ∃ s, P.seal_At.f Z12 258 = some (s, 0) ∧ s.length = 12 ∧ s.getD 10 0 = 1 ∧ s.getD 11 0 = 2 := ⟨atOf Z12 258, by decide +kernel, atOf_length _ _, by decide +kernel, by decide +kernel⟩
theorem sh06_h : ∃ a b, P.seal_Halves.f Z32 = some (a, b, 0) ∧ a.length = 16 ∧ b.length = 32 := by
  refine ⟨lockOf Z32, tagOf Z32, ?_, lockOf_length _, tagOf_length _⟩
  unfold P.seal_Halves.f
  rw [if_pos (by decide), if_pos (by decide)]
  rfl
end Go.Proofs.Ytifpdpfjhjoieaa

/-! SealF -/
namespace Go.Proofs.Ytifpdpfjhjoieaa
set_option linter.unusedVariables false
set_option linter.unusedSimpArgs false
open Go.RowKit Go.Shelf Iter Go.Proofs.YtifpdpfjhjoieaaW.PrintWords Go.Proofs.YtifpdpfjhjoieaaW.PrintLast
attribute [local go_sem] Oper.semAt_some
theorem byV_nums (l : List Int) : byV l = (nums .u8 l).toArray := rfl
theorem madeN (n : Nat) (m : Int) (hm : m = (n : Int)) (hn : n ≤ 140737488355328) (W : World) : (Instr.makeSlice 22 (.int .i64 m) (.int .i64 m)).run Try.prog W = .ok (.slice (some ⟨W.heap.size, 0, none⟩) n n) (W.alloc (.cells (nums .u8 (List.replicate n 0)).toArray 5)) := by
  subst hm
  rw [← byV_nums]
  exact madeB n hn W
namespace P
def pyxlaw06_shown.f : Option Bool := some true
set_option maxRecDepth 100000 in
set_option maxHeartbeats 4000000 in
theorem pyxlaw06_shown.calls (r : Bool) (w : World) (h : pyxlaw06_shown.f = some r) : Calls Try.prog 13 #[] w fun e w' => e = .returned (.bool r) ∧ Below w.heap.size w w' := by
  obtain rfl : true = r := Option.some.inj h
  clear h
  obtain ⟨s1, E1, L1⟩ := sh06_a
  obtain ⟨s2, E2, L2, E3, E4⟩ := sh06_b
  obtain ⟨sn, E5, L5, n10, n11⟩ := sh06_n
  obtain ⟨sa, sb, E6, La, Lb⟩ := sh06_h
  have HE := Lib.hid (And.intro E1 (And.intro E2 (And.intro E3 (And.intro E4 (And.intro E5 E6)))))
  have HL := Lib.hid (And.intro L1 (And.intro L2 (And.intro L5 (And.intro La (And.intro Lb (And.intro n10 n11))))))
  clear E1 E2 E3 E4 E5 E6 L1 L2 L5 La Lb n10 n11
  have m32 : Hid (∀ W : World, (Instr.makeSlice 22 (.int .i64 32) (.int .i64 32)).run Try.prog W = .ok (.slice (some ⟨W.heap.size, 0, none⟩) 32 32) (W.alloc (.cells (nums .u8 Z32).toArray 5))) := Lib.hid (madeN 32 32 rfl (by decide))
  have m12 : Hid (∀ W : World, (Instr.makeSlice 22 (.int .i64 12) (.int .i64 12)).run Try.prog W = .ok (.slice (some ⟨W.heap.size, 0, none⟩) 12 12) (W.alloc (.cells (nums .u8 Z12).toArray 5))) := Lib.hid (madeN 12 12 rfl (by decide))
  have Esame : pyxref01_Same.f [2, 3] [2, 3] = some true := by decide
  go_enter Try.func13, Try.ntmps13
  go_wp2_with fail
  rw [m32.out]
  have H0_ := Lib.hid (And.intro (show Kd.C (Kd.int .u8) (w.alloc (Obj.cells (nums .u8 Z32).toArray 5)) (some ⟨w.heap.size, 0, none⟩) 32 Z32 from c_lit w 5 Z32 (by decide)) ((Below.refl w.heap.size w).alloc (Nat.le_refl _) (Obj.cells (nums .u8 Z32).toArray 5)))
  generalize (w.alloc (Obj.cells (nums .u8 Z32).toArray 5)) = W1_ at *
  go_wp2_with fail
  rw [m12.out]
  have H1_ := Lib.hid (And.intro (show Kd.C (Kd.int .u8) (W1_.alloc (Obj.cells (nums .u8 Z12).toArray 5)) (some ⟨W1_.heap.size, 0, none⟩) 12 Z12 from c_lit W1_ 5 Z12 (by decide)) (And.intro (Kd.C_alloc H0_.out.1 (Obj.cells (nums .u8 Z12).toArray 5)) (Below.alloc H0_.out.2 (Below.size H0_.out.2) (Obj.cells (nums .u8 Z12).toArray 5))))
  clear H0_
  generalize (W1_.alloc (Obj.cells (nums .u8 Z12).toArray 5)) = W2_ at *
  go_wp2_with fail
  refine (P.seal_Seal.calls (some ⟨w.heap.size, 0, none⟩) 32 Z32 (some ⟨W1_.heap.size, 0, none⟩) 12 Z12 none 0 [] none 0 [] s1 0 W2_ H1_.out.2.1 (Nat.le_refl _) H1_.out.1 (Nat.le_refl _) (Kd.C_nil _ _) (Nat.le_refl _) (Kd.C_nil _ _) (Nat.le_refl _) HE.out.1).mono ?_
  rintro e_ W3_ ⟨vva, rfl, hRva_, hb_⟩
  obtain ⟨Ava, cva, rfl, hcva, hCva_⟩ := Kd.R_reads hRva_
  clear hRva_
  clear hCva_
  have H2_ := Lib.hid (And.intro (Kd.C_below H1_.out.1 hb_) (And.intro (Kd.C_below H1_.out.2.1 hb_) (H1_.out.2.2.trans (hb_.mono H1_.out.2.2.size))))
  clear H1_
  clear hb_
  go_wp2_with fail
  have hl0_ := c_lit W3_ 5 [1] (by decide)
  have hl1_ := c_lit (W3_.alloc (Obj.cells #[Value.int IntKind.u8 1] 5)) 5 [2, 3] (by decide)
  simp only [World.size_alloc] at hl1_
  have H3_ := Lib.hid (And.intro (show Kd.C (Kd.int .u8) ((W3_.alloc (Obj.cells #[Value.int IntKind.u8 1] 5)).alloc (Obj.cells #[Value.int IntKind.u8 2, Value.int IntKind.u8 3] 5)) (some ⟨W3_.heap.size, 0, none⟩) 1 [1] from Kd.C_alloc (hl0_) (Obj.cells #[Value.int IntKind.u8 2, Value.int IntKind.u8 3] 5)) (And.intro (show Kd.C (Kd.int .u8) ((W3_.alloc (Obj.cells #[Value.int IntKind.u8 1] 5)).alloc (Obj.cells #[Value.int IntKind.u8 2, Value.int IntKind.u8 3] 5)) (some ⟨W3_.heap.size + 1, 0, none⟩) 2 [2, 3] from hl1_) (And.intro (Kd.C_alloc (Kd.C_alloc (H2_.out.1) (Obj.cells #[Value.int IntKind.u8 1] 5)) (Obj.cells #[Value.int IntKind.u8 2, Value.int IntKind.u8 3] 5)) (And.intro (Kd.C_alloc (Kd.C_alloc (H2_.out.2.1) (Obj.cells #[Value.int IntKind.u8 1] 5)) (Obj.cells #[Value.int IntKind.u8 2, Value.int IntKind.u8 3] 5)) (Below.alloc (Below.alloc (H2_.out.2.2) (Below.size (H2_.out.2.2)) (Obj.cells #[Value.int IntKind.u8 1] 5)) (Below.size (Below.alloc (H2_.out.2.2) (Below.size (H2_.out.2.2)) (Obj.cells #[Value.int IntKind.u8 1] 5))) (Obj.cells #[Value.int IntKind.u8 2, Value.int IntKind.u8 3] 5))))))
  clear H2_
  clear hl0_ hl1_
  generalize ((W3_.alloc (Obj.cells #[Value.int IntKind.u8 1] 5)).alloc (Obj.cells #[Value.int IntKind.u8 2, Value.int IntKind.u8 3] 5)) = W4_ at *
  refine (P.seal_Seal.calls (some ⟨w.heap.size, 0, none⟩) 32 Z32 (some ⟨W1_.heap.size, 0, none⟩) 12 Z12 (some ⟨W3_.heap.size, 0, none⟩) 1 [1] (some ⟨W3_.heap.size + 1, 0, none⟩) 2 [2, 3] s2 0 W4_ H3_.out.2.2.2.1 (Nat.le_refl _) H3_.out.2.2.1 (Nat.le_refl _) H3_.out.1 (Nat.le_refl _) H3_.out.2.1 (Nat.le_refl _) HE.out.2.1).mono ?_
  rintro e_ W5_ ⟨vvb, rfl, hRvb_, hb_⟩
  obtain ⟨Avb, cvb, rfl, hcvb, hCvb_⟩ := Kd.R_reads hRvb_
  clear hRvb_
  have H4_ := Lib.hid (And.intro (hCvb_) (And.intro (Kd.C_below H3_.out.1 hb_) (And.intro (Kd.C_below H3_.out.2.1 hb_) (And.intro (Kd.C_below H3_.out.2.2.1 hb_) (And.intro (Kd.C_below H3_.out.2.2.2.1 hb_) (H3_.out.2.2.2.2.trans (hb_.mono H3_.out.2.2.2.2.size)))))))
  clear H3_
  clear hb_ hCvb_
  go_wp2_with fail
  have H5_ := Lib.hid (And.intro (show Kd.C (Kd.int .u8) (W5_.alloc (Obj.cells #[Value.int IntKind.u8 1] 5)) (some ⟨W5_.heap.size, 0, none⟩) 1 [1] from c_lit W5_ 5 [1] (by decide)) (And.intro (Kd.C_alloc H4_.out.1 (Obj.cells #[Value.int IntKind.u8 1] 5)) (And.intro (Kd.C_alloc H4_.out.2.1 (Obj.cells #[Value.int IntKind.u8 1] 5)) (And.intro (Kd.C_alloc H4_.out.2.2.1 (Obj.cells #[Value.int IntKind.u8 1] 5)) (And.intro (Kd.C_alloc H4_.out.2.2.2.1 (Obj.cells #[Value.int IntKind.u8 1] 5)) (And.intro (Kd.C_alloc H4_.out.2.2.2.2.1 (Obj.cells #[Value.int IntKind.u8 1] 5)) (Below.alloc H4_.out.2.2.2.2.2 (Below.size H4_.out.2.2.2.2.2) (Obj.cells #[Value.int IntKind.u8 1] 5))))))))
  clear H4_
  generalize (W5_.alloc (Obj.cells #[Value.int IntKind.u8 1] 5)) = W6_ at *
  refine (P.seal_Open.calls (some ⟨w.heap.size, 0, none⟩) 32 Z32 (some ⟨W1_.heap.size, 0, none⟩) 12 Z12 (some ⟨W5_.heap.size, 0, none⟩) 1 [1] Avb cvb s2 [2, 3] 0 W6_ H5_.out.2.2.2.2.2.1 (Nat.le_refl _) H5_.out.2.2.2.2.1 (Nat.le_refl _) H5_.out.1 (Nat.le_refl _) H5_.out.2.1 hcvb HE.out.2.2.1).mono ?_
  rintro e_ W7_ ⟨vvc, rfl, hRvc_, hb_⟩
  obtain ⟨Avc, cvc, rfl, hcvc, hCvc_⟩ := Kd.R_reads hRvc_
  clear hRvc_
  have H6_ := Lib.hid (And.intro (hCvc_) (And.intro (Kd.C_below H5_.out.1 hb_) (And.intro (Kd.C_below H5_.out.2.1 hb_) (And.intro (Kd.C_below H5_.out.2.2.1 hb_) (And.intro (Kd.C_below H5_.out.2.2.2.1 hb_) (And.intro (Kd.C_below H5_.out.2.2.2.2.1 hb_) (And.intro (Kd.C_below H5_.out.2.2.2.2.2.1 hb_) (H5_.out.2.2.2.2.2.2.trans (hb_.mono H5_.out.2.2.2.2.2.2.size)))))))))
  clear H5_
  clear hb_ hCvc_
  go_wp2_with fail
  have H7_ := Lib.hid (And.intro (show Kd.C (Kd.int .u8) (W7_.alloc (Obj.cells #[Value.int IntKind.u8 2] 5)) (some ⟨W7_.heap.size, 0, none⟩) 1 [2] from c_lit W7_ 5 [2] (by decide)) (And.intro (Kd.C_alloc H6_.out.1 (Obj.cells #[Value.int IntKind.u8 2] 5)) (And.intro (Kd.C_alloc H6_.out.2.1 (Obj.cells #[Value.int IntKind.u8 2] 5)) (And.intro (Kd.C_alloc H6_.out.2.2.1 (Obj.cells #[Value.int IntKind.u8 2] 5)) (And.intro (Kd.C_alloc H6_.out.2.2.2.1 (Obj.cells #[Value.int IntKind.u8 2] 5)) (And.intro (Kd.C_alloc H6_.out.2.2.2.2.1 (Obj.cells #[Value.int IntKind.u8 2] 5)) (And.intro (Kd.C_alloc H6_.out.2.2.2.2.2.1 (Obj.cells #[Value.int IntKind.u8 2] 5)) (And.intro (Kd.C_alloc H6_.out.2.2.2.2.2.2.1 (Obj.cells #[Value.int IntKind.u8 2] 5)) (Below.alloc H6_.out.2.2.2.2.2.2.2 (Below.size H6_.out.2.2.2.2.2.2.2) (Obj.cells #[Value.int IntKind.u8 2] 5))))))))))
  clear H6_
  generalize (W7_.alloc (Obj.cells #[Value.int IntKind.u8 2] 5)) = W8_ at *
  refine (P.seal_Open.calls (some ⟨w.heap.size, 0, none⟩) 32 Z32 (some ⟨W1_.heap.size, 0, none⟩) 12 Z12 (some ⟨W7_.heap.size, 0, none⟩) 1 [2] Avb cvb s2 [] 5 W8_ H7_.out.2.2.2.2.2.2.2.1 (Nat.le_refl _) H7_.out.2.2.2.2.2.2.1 (Nat.le_refl _) H7_.out.1 (Nat.le_refl _) H7_.out.2.2.2.1 hcvb HE.out.2.2.2.1).mono ?_
  rintro e_ W9_ ⟨vvd, rfl, hRvd_, hb_⟩
  obtain ⟨Avd, cvd, rfl, hcvd, hCvd_⟩ := Kd.R_reads hRvd_
  clear hRvd_
  clear hCvd_
  have H8_ := Lib.hid (And.intro (Kd.C_below H7_.out.1 hb_) (And.intro (Kd.C_below H7_.out.2.1 hb_) (And.intro (Kd.C_below H7_.out.2.2.1 hb_) (And.intro (Kd.C_below H7_.out.2.2.2.1 hb_) (And.intro (Kd.C_below H7_.out.2.2.2.2.1 hb_) (And.intro (Kd.C_below H7_.out.2.2.2.2.2.1 hb_) (And.intro (Kd.C_below H7_.out.2.2.2.2.2.2.1 hb_) (And.intro (Kd.C_below H7_.out.2.2.2.2.2.2.2.1 hb_) (H7_.out.2.2.2.2.2.2.2.2.trans (hb_.mono H7_.out.2.2.2.2.2.2.2.2.size))))))))))
  clear H7_
  clear hb_
  go_wp2_with fail
  refine (P.seal_At.calls (some ⟨W1_.heap.size, 0, none⟩) 12 Z12 258 sn 0 W9_ H8_.out.2.2.2.2.2.2.1 (Nat.le_refl _) HE.out.2.2.2.2.1).mono ?_
  rintro e_ W10_ ⟨vvn, rfl, hRvn_, hb_⟩
  obtain ⟨gvn, cvn, rfl, -, hcvn, -, -⟩ := bytes_of_R hRvn_ (by rw [HL.out.2.2.1]; decide)
  have hCvn_ := (Kd.R_reads' hRvn_).2.2
  clear hRvn_
  have H9_ := Lib.hid (And.intro (hCvn_) (And.intro (Kd.C_below H8_.out.1 hb_) (And.intro (Kd.C_below H8_.out.2.1 hb_) (And.intro (Kd.C_below H8_.out.2.2.1 hb_) (And.intro (Kd.C_below H8_.out.2.2.2.1 hb_) (And.intro (Kd.C_below H8_.out.2.2.2.2.1 hb_) (And.intro (Kd.C_below H8_.out.2.2.2.2.2.1 hb_) (And.intro (Kd.C_below H8_.out.2.2.2.2.2.2.1 hb_) (And.intro (Kd.C_below H8_.out.2.2.2.2.2.2.2.1 hb_) (H8_.out.2.2.2.2.2.2.2.2.trans (hb_.mono H8_.out.2.2.2.2.2.2.2.2.size)))))))))))
  clear H8_
  clear hb_ hCvn_
  go_wp2_with fail
  refine (P.seal_Halves.calls (some ⟨w.heap.size, 0, none⟩) 32 Z32 sa sb 0 W10_ H9_.out.2.2.2.2.2.2.2.2.1 (Nat.le_refl _) HE.out.2.2.2.2.2).mono ?_
  rintro e_ W11_ ⟨vvx, vvy, rfl, hRvx_, hRvy_, hb_⟩
  obtain ⟨Avx, cvx, rfl, hcvx, hCvx_⟩ := Kd.R_reads hRvx_
  clear hRvx_
  clear hCvx_
  obtain ⟨Avy, cvy, rfl, hcvy, hCvy_⟩ := Kd.R_reads hRvy_
  clear hRvy_
  clear hCvy_
  have H10_ := Lib.hid (And.intro (Kd.C_below H9_.out.1 hb_) (And.intro (Kd.C_below H9_.out.2.1 hb_) (And.intro (Kd.C_below H9_.out.2.2.1 hb_) (And.intro (Kd.C_below H9_.out.2.2.2.1 hb_) (And.intro (Kd.C_below H9_.out.2.2.2.2.1 hb_) (And.intro (Kd.C_below H9_.out.2.2.2.2.2.1 hb_) (And.intro (Kd.C_below H9_.out.2.2.2.2.2.2.1 hb_) (And.intro (Kd.C_below H9_.out.2.2.2.2.2.2.2.1 hb_) (And.intro (Kd.C_below H9_.out.2.2.2.2.2.2.2.2.1 hb_) (H9_.out.2.2.2.2.2.2.2.2.2.trans (hb_.mono H9_.out.2.2.2.2.2.2.2.2.2.size)))))))))))
  clear H9_
  clear hb_
  rw [HL.out.1, HL.out.2.1, HL.out.2.2.1, HL.out.2.2.2.1, HL.out.2.2.2.2.1]
  go_wp2_with fail
  have H11_ := Lib.hid (And.intro (show Kd.C (Kd.int .u8) (W11_.alloc (Obj.cells #[Value.int IntKind.u8 2, Value.int IntKind.u8 3] 5)) (some ⟨W11_.heap.size, 0, none⟩) 2 [2, 3] from c_lit W11_ 5 [2, 3] (by decide)) (And.intro (Kd.C_alloc H10_.out.1 (Obj.cells #[Value.int IntKind.u8 2, Value.int IntKind.u8 3] 5)) (And.intro (Kd.C_alloc H10_.out.2.1 (Obj.cells #[Value.int IntKind.u8 2, Value.int IntKind.u8 3] 5)) (And.intro (Kd.C_alloc H10_.out.2.2.1 (Obj.cells #[Value.int IntKind.u8 2, Value.int IntKind.u8 3] 5)) (And.intro (Kd.C_alloc H10_.out.2.2.2.1 (Obj.cells #[Value.int IntKind.u8 2, Value.int IntKind.u8 3] 5)) (And.intro (Kd.C_alloc H10_.out.2.2.2.2.1 (Obj.cells #[Value.int IntKind.u8 2, Value.int IntKind.u8 3] 5)) (And.intro (Kd.C_alloc H10_.out.2.2.2.2.2.1 (Obj.cells #[Value.int IntKind.u8 2, Value.int IntKind.u8 3] 5)) (And.intro (Kd.C_alloc H10_.out.2.2.2.2.2.2.1 (Obj.cells #[Value.int IntKind.u8 2, Value.int IntKind.u8 3] 5)) (And.intro (Kd.C_alloc H10_.out.2.2.2.2.2.2.2.1 (Obj.cells #[Value.int IntKind.u8 2, Value.int IntKind.u8 3] 5)) (And.intro (Kd.C_alloc H10_.out.2.2.2.2.2.2.2.2.1 (Obj.cells #[Value.int IntKind.u8 2, Value.int IntKind.u8 3] 5)) (Below.alloc H10_.out.2.2.2.2.2.2.2.2.2 (Below.size H10_.out.2.2.2.2.2.2.2.2.2) (Obj.cells #[Value.int IntKind.u8 2, Value.int IntKind.u8 3] 5))))))))))))
  clear H10_
  generalize (W11_.alloc (Obj.cells #[Value.int IntKind.u8 2, Value.int IntKind.u8 3] 5)) = W12_ at *
  refine (pyxref01_Same.calls Avc cvc [2, 3] (some ⟨W11_.heap.size, 0, none⟩) 2 [2, 3] true W12_ H11_.out.2.2.2.1 hcvc H11_.out.1 (Nat.le_refl _) Esame).mono ?_
  rintro e_ w_ ⟨rfl, hd_⟩
  obtain ⟨n12_, rfl⟩ := hd_.out
  clear hd_
  have H12_ := Lib.hid (And.intro (Kd.C_drewN H11_.out.1 n12_) (And.intro (Kd.C_drewN H11_.out.2.1 n12_) (And.intro (Kd.C_drewN H11_.out.2.2.1 n12_) (And.intro (Kd.C_drewN H11_.out.2.2.2.1 n12_) (And.intro (Kd.C_drewN H11_.out.2.2.2.2.1 n12_) (And.intro (Kd.C_drewN H11_.out.2.2.2.2.2.1 n12_) (And.intro (Kd.C_drewN H11_.out.2.2.2.2.2.2.1 n12_) (And.intro (Kd.C_drewN H11_.out.2.2.2.2.2.2.2.1 n12_) (And.intro (Kd.C_drewN H11_.out.2.2.2.2.2.2.2.2.1 n12_) (And.intro (Kd.C_drewN H11_.out.2.2.2.2.2.2.2.2.2.1 n12_) (pw_below_drewN H11_.out.2.2.2.2.2.2.2.2.2.2 n12_)))))))))))
  clear H11_
  generalize W12_.drewN n12_ = W14_ at *
  have hn0 := H12_.out.2.1
  rw [HL.out.2.2.1] at hn0
  obtain ⟨an, ean, hcn⟩ := byte_cell sn (by decide) hn0
  obtain rfl := Option.some.inj ean
  have c10 := hcn 10 (by decide)
  have c11 := hcn 11 (by decide)
  rw [HL.out.2.2.2.2.2.1, Addr.add_mid] at c10
  rw [HL.out.2.2.2.2.2.2, Addr.add_mid] at c11
  clear hcn hn0 Esame ean
  go_wp2
  go_ret
  exact ⟨rfl, H12_.out.2.2.2.2.2.2.2.2.2.2⟩
end P
end Go.Proofs.Ytifpdpfjhjoieaa

/-! SealP -/
namespace Go.Proofs.Ytifpdpfjhjoieaa
set_option linter.unusedVariables false
set_option linter.unusedSimpArgs false
open Go.RowKit Go.Proofs.Ytifpdpfjhjoieaa.P Go.Proofs.YtifpdpfjhjoieaaW.PrintWords Go.Proofs.YtifpdpfjhjoieaaW.PrintLast
theorem same_self (x : List Int) (h : byteOk x = true) : pyxref01_Same.f x x = some true := by unfold pyxref01_Same.f; rw [if_pos ⟨h, h⟩, beq_self_eq_true]
theorem halves_32 (l0 : List Int) (h0 : byteOk l0 = true) (h32 : l0.length = 32) : seal_Halves.f l0 = some (lockOf l0, tagOf l0, 0) := by
  unfold seal_Halves.f
  rw [if_pos h32, if_pos h0]
  rfl
theorem halves_some (l0 : List Int) (h0 : byteOk l0 = true) : ∃ r, seal_Halves.f l0 = some r ∧ byteOk r.1 = true ∧ byteOk r.2.1 = true := by
  by_cases h32 : l0.length = 32
  · exact ⟨_, halves_32 l0 h0 h32, byteOk_labelOf _ _ _ _, byteOk_labelOf _ _ _ _⟩
  · refine ⟨([], [], 1), ?_, rfl, rfl⟩
    unfold seal_Halves.f
    rw [if_neg h32]
theorem seal_32 (l0 l1 l2 l3 : List Int) (h : smallB l0 l1 l2 l3) (h32 : l0.length = 32) (h12 : l1.length = 12) : seal_Seal.f l0 l1 l2 l3 = some (sealOf l0 l1 l2 l3, 0) := by
  unfold seal_Seal.f
  unfold smallB at h
  rw [if_pos h, if_pos ⟨h32, h12⟩]
theorem seal_some (l0 l1 l2 l3 : List Int) (h : smallB l0 l1 l2 l3) : ∃ r, seal_Seal.f l0 l1 l2 l3 = some r ∧ byteOk r.1 = true := by
  by_cases hk : l0.length = 32 ∧ l1.length = 12
  · exact ⟨_, seal_32 l0 l1 l2 l3 h hk.1 hk.2, byteOk_sealOf _ _ _ _⟩
  · refine ⟨([], 1), ?_, rfl⟩
    unfold seal_Seal.f
    unfold smallB at h
    rw [if_pos h, if_neg hk]
theorem open_some (l0 l1 l2 l3 : List Int) (h : smallB l0 l1 l2 l3) : seal_Open.f l0 l1 l2 l3 = some (openR l0 l1 l2 l3) := by
  unfold seal_Open.f
  rw [if_pos h]
theorem byteOk_openR (l0 l1 l2 l3 : List Int) : byteOk (openR l0 l1 l2 l3).1 = true := by
  unfold openR
  split
  · split
    · rfl
    · split
      · exact byteOk_streamOf _ _ _
      · rfl
  · rfl
theorem byteOk_atR (base : List Int) (n : Int) (h : byteOk base = true) : byteOk (atR base n).1 = true := by
  unfold atR
  split
  · exact byteOk_atOf _ _ h
  · rfl
end Go.Proofs.Ytifpdpfjhjoieaa
