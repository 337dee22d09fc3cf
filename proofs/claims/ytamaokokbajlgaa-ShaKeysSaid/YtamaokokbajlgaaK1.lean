-- Written by xprint.py, this session's driver over the kit's print.py, out of the translation.
import Derived.Test.YtamaokokbajlgaaK0
namespace Go.Proofs.Ytamaokokbajlgaa.K
open Go.Proofs.Ytamaokokbajlgaa.P
open Go.RowKit Go.Proofs.YtamaokokbajlgaaW.PrintWords Go.Proofs.YtamaokokbajlgaaW.PrintLast Go.Proofs.YtamaokokbajlgaaW.PrintMore
attribute [local go_sem] max2_int min2_int max_two min_two max_three min_three max_four min_four   -- for this text's walks alone
set_option linter.unusedVariables false
set_option linter.unusedSimpArgs false

/-! ### pyxlaw02_prime: function 19 -/
def pyxlaw02_prime.l0 : Nat → Int → Int → Option (Bool)
  | 0, _, _ => none
  | k + 1, x0, x3 => if (wrap64 (x3 * x3)) ≤ x0 then (if x3 = 0 then (none) else (if (Int.tmod x0 x3) = 0 then (some false) else (pyxlaw02_prime.l0 k x0 (wrap64 (x3 + 1))))) else (some (decide (x0 > 1)))
def pyxlaw02_prime.f (k : Nat) (a0 : Int) : Option (Bool) := pyxlaw02_prime.l0 k a0 2
theorem pyxlaw02_prime.mono_l : ∀ k, (∀ y0 y1, LeO (pyxlaw02_prime.l0 k y0 y1) (pyxlaw02_prime.l0 (k + 1) y0 y1))
  | 0 => fun _ _ r h => by simp [pyxlaw02_prime.l0] at h
  | k + 1 => by
    have ih0 := pyxlaw02_prime.mono_l k
    · intro y0 y1
      unfold pyxlaw02_prime.l0
      repeat' first
      | (with_reducible exact ih0 _ _)
      | (with_reducible exact LeO.refl _)
      | (with_reducible exact LeO.none _)
      | (with_reducible refine LeO.ite ?_ ?_)
      | (with_reducible refine LeO.bind ?_ (fun _ => ?_))
      | exact ih0 _ _
      | exact LeO.none _
      | refine LeO.ite ?_ ?_
      | refine LeO.bind ?_ (fun _ => ?_)
theorem pyxlaw02_prime.mono : ∀ a0 k, LeO (pyxlaw02_prime.f k a0) (pyxlaw02_prime.f (k + 1) a0) := by
  intro a0 k
  have ih0 := pyxlaw02_prime.mono_l k
  unfold pyxlaw02_prime.f
  repeat' first
      | (with_reducible exact ih0 _ _)
      | (with_reducible exact LeO.refl _)
      | (with_reducible exact LeO.none _)
      | (with_reducible refine LeO.ite ?_ ?_)
      | (with_reducible refine LeO.bind ?_ (fun _ => ?_))
      | exact ih0 _ _
      | exact LeO.none _
      | refine LeO.ite ?_ ?_
      | refine LeO.bind ?_ (fun _ => ?_)
set_option maxHeartbeats 8000000 in
set_option maxRecDepth 100000 in
theorem pyxlaw02_prime.calls (k : Nat) (a0 : Int) (r : Bool) (w : World) (h : pyxlaw02_prime.f k a0 = some r) :
    Calls Try.prog 19 #[.int .i64 a0] w fun e w' => e = .returned (.bool r) ∧ Drawn0 w w' := by
  have H : (pyxlaw02_prime.l0 k a0 2) = some r := h
  clear h
  have H' := Aside0.mk H
  clear H
  go_enter Try.func19, Try.ntmps19
  go_wp2
  go_loopg [3] k (fun kq v3 w' => ∃ (x3_1 : Int), v3 = .int .i64 x3_1 ∧ Aside0 (pyxlaw02_prime.l0 kq a0 x3_1 = some r) ∧ Aside0 (kq ≤ k) ∧ Drawn0 w w')
  case atStart => exact ⟨(2), (by first | rfl | (simp; done) | (simp [*]; done)), H', ⟨Nat.le_refl _⟩, by repeat (first | exact Drawn0.refl _ | apply Drawn0.step)⟩
  case round =>
    clear H'
    try clear c1
    obtain ⟨x3_1, rfl, HA, HK1, ⟨m1, rfl⟩⟩ := hrel
    cases gk with
    | zero => exact absurd HA.out (by simp [pyxlaw02_prime.l0])
    | succ k1 =>
      have H := HA.out
      clear HA
      simp only [pyxlaw02_prime.l0] at H
      by_cases c2 : (wrap64 (x3_1 * x3_1)) ≤ a0
      · rw [if_pos c2] at H
        have c2b0 : decide ((wrap64 (x3_1 * x3_1)) ≤ a0) = true := decide_eq_true c2
        clear c2
        by_cases c3 : x3_1 = 0
        · rw [if_pos c3] at H
          exact absurd H (by simp)
        · rw [if_neg c3] at H
          have c3b0 : (x3_1 == 0) = false := beq_eq_false_iff_ne.mpr c3
          have c3b1 : (x3_1 != 0) = true := bne_iff_ne.mpr c3
          by_cases c4 : (Int.tmod a0 x3_1) = 0
          · rw [if_pos c4] at H
            have c4b0 : ((Int.tmod a0 x3_1) == 0) = true := beq_iff_eq.mpr c4
            have c4b1 : ((Int.tmod a0 x3_1) != 0) = false := bne_eq_false_iff_eq.mpr c4
            clear c4
            obtain rfl := Option.some.inj H
            go_wp2
            go_ret
            exact ⟨by first | rfl | (simp; done) | (simp [*]; done), by repeat (first | exact Drawn0.refl _ | apply Drawn0.step)⟩
          · rw [if_neg c4] at H
            have c4b0 : ((Int.tmod a0 x3_1) == 0) = false := beq_eq_false_iff_ne.mpr c4
            have c4b1 : ((Int.tmod a0 x3_1) != 0) = true := bne_iff_ne.mpr c4
            have H' := Aside0.mk H
            clear H
            go_wp2
            go_roundg k1
            case measure => have := HK1.out; omega
            case rel => exact ⟨(wrap64 (x3_1 + 1)), (by first | rfl | (simp; done) | (simp [*]; done)), H', ⟨by have := HK1.out; omega⟩, by repeat (first | exact Drawn0.refl _ | apply Drawn0.step)⟩
      · rw [if_neg c2] at H
        have c2b0 : decide ((wrap64 (x3_1 * x3_1)) ≤ a0) = false := decide_eq_false c2
        clear c2
        obtain rfl := Option.some.inj H
        go_wp2
        go_ret
        exact ⟨by first | rfl | (simp; done) | (simp [*]; done), by repeat (first | exact Drawn0.refl _ | apply Drawn0.step)⟩

/-! ### pyxlaw02_cube: function 21 -/
def pyxlaw02_cube.l0 : Nat → Int → List Int → Int → Option (Bool)
  | 0, _, _, _ => none
  | k + 1, x1, x5, x6 => if x6 ≥ 0 then (if x6 = 6 then (if 0 ≤ x6 then (if x6 < (x5.length : Int) then (if (rd x5 x6) = x1 then (pyxlaw02_cube.l0 k x1 x5 (wrap64 (x6 - 1))) else (some (decide ((rd x5 x6) < x1)))) else (none)) else (none)) else (if 0 ≤ x6 then (if x6 < (x5.length : Int) then (if (rd x5 x6) = 0 then (pyxlaw02_cube.l0 k x1 x5 (wrap64 (x6 - 1))) else (some (decide ((rd x5 x6) < 0)))) else (none)) else (none))) else (some true)
def pyxlaw02_cube.f (k : Nat) (a0 : Int) (a1 : Int) : Option (Bool) := (pyxlaw02_mul.f (([Int.tmod a0 65536, Int.tmod (wrap64 (Int.tdiv a0 65536)) 65536, wrap64 (Int.tdiv a0 4294967296)] : List Int)) (([Int.tmod a0 65536, Int.tmod (wrap64 (Int.tdiv a0 65536)) 65536, wrap64 (Int.tdiv a0 4294967296)] : List Int))).bind fun t107 => ((pyxlaw02_mul.f t107 (([Int.tmod a0 65536, Int.tmod (wrap64 (Int.tdiv a0 65536)) 65536, wrap64 (Int.tdiv a0 4294967296)] : List Int))).bind fun t113 => (pyxlaw02_cube.l0 k a1 t113 (wrap64 ((t113.length : Int) - 1))))
theorem pyxlaw02_cube.mono_l : ∀ k, (∀ y0 y1 y2, LeO (pyxlaw02_cube.l0 k y0 y1 y2) (pyxlaw02_cube.l0 (k + 1) y0 y1 y2))
  | 0 => fun _ _ _ r h => by simp [pyxlaw02_cube.l0] at h
  | k + 1 => by
    have ih0 := pyxlaw02_cube.mono_l k
    · intro y0 y1 y2
      unfold pyxlaw02_cube.l0
      repeat' first
      | (with_reducible exact ih0 _ _ _)
      | (with_reducible exact LeO.refl _)
      | (with_reducible exact LeO.none _)
      | (with_reducible refine LeO.ite ?_ ?_)
      | (with_reducible refine LeO.bind ?_ (fun _ => ?_))
      | exact ih0 _ _ _
      | exact LeO.none _
      | refine LeO.ite ?_ ?_
      | refine LeO.bind ?_ (fun _ => ?_)
theorem pyxlaw02_cube.mono : ∀ a0 a1 k, LeO (pyxlaw02_cube.f k a0 a1) (pyxlaw02_cube.f (k + 1) a0 a1) := by
  intro a0 a1 k
  have ih0 := pyxlaw02_cube.mono_l k
  unfold pyxlaw02_cube.f
  repeat' first
      | (with_reducible exact ih0 _ _ _)
      | (with_reducible exact LeO.refl _)
      | (with_reducible exact LeO.none _)
      | (with_reducible refine LeO.ite ?_ ?_)
      | (with_reducible refine LeO.bind ?_ (fun _ => ?_))
      | exact ih0 _ _ _
      | exact LeO.none _
      | refine LeO.ite ?_ ?_
      | refine LeO.bind ?_ (fun _ => ?_)
set_option maxHeartbeats 8000000 in
set_option maxRecDepth 100000 in
theorem pyxlaw02_cube.calls (k : Nat) (a0 : Int) (a1 : Int) (r : Bool) (w : World) (h : pyxlaw02_cube.f k a0 a1 = some r) :
    Calls Try.prog 21 #[.int .i64 a0, .int .i64 a1] w fun e w' => e = .returned (.bool r) ∧ Below w.heap.size w w' := by
  have HB := Aside0.mk (Below.refl w.heap.size w)
  have H : ((pyxlaw02_mul.f (([Int.tmod a0 65536, Int.tmod (wrap64 (Int.tdiv a0 65536)) 65536, wrap64 (Int.tdiv a0 4294967296)] : List Int)) (([Int.tmod a0 65536, Int.tmod (wrap64 (Int.tdiv a0 65536)) 65536, wrap64 (Int.tdiv a0 4294967296)] : List Int))).bind fun t107 => ((pyxlaw02_mul.f t107 (([Int.tmod a0 65536, Int.tmod (wrap64 (Int.tdiv a0 65536)) 65536, wrap64 (Int.tdiv a0 4294967296)] : List Int))).bind fun t113 => (pyxlaw02_cube.l0 k a1 t113 (wrap64 ((t113.length : Int) - 1))))) = some r := h
  clear h
  obtain ⟨y101, hy101⟩ : ∃ y_ : List Int, y_ = (([Int.tmod a0 65536, Int.tmod (wrap64 (Int.tdiv a0 65536)) 65536, wrap64 (Int.tdiv a0 4294967296)] : List Int)) := ⟨_, rfl⟩
  replace H : ((pyxlaw02_mul.f y101 (([Int.tmod a0 65536, Int.tmod (wrap64 (Int.tdiv a0 65536)) 65536, wrap64 (Int.tdiv a0 4294967296)] : List Int))).bind fun t107 => ((pyxlaw02_mul.f t107 (([Int.tmod a0 65536, Int.tmod (wrap64 (Int.tdiv a0 65536)) 65536, wrap64 (Int.tdiv a0 4294967296)] : List Int))).bind fun t113 => (pyxlaw02_cube.l0 k a1 t113 (wrap64 ((t113.length : Int) - 1))))) = some r := by first | (rw [hy101]; with_reducible exact H) | (have H2_ := (Option.bind_some _ _).symm.trans H; rw [hy101]; with_reducible exact H2_) | (have H2_ := (Option.bind_some _ _).symm.trans H; with_reducible exact H2_) | with_reducible exact H | (rw [hy101]; exact H) | exact H
  have Ny101 := Aside0.mk hy101
  clear hy101
  obtain ⟨y104, hy104⟩ : ∃ y_ : List Int, y_ = (([Int.tmod a0 65536, Int.tmod (wrap64 (Int.tdiv a0 65536)) 65536, wrap64 (Int.tdiv a0 4294967296)] : List Int)) := ⟨_, rfl⟩
  replace H : ((pyxlaw02_mul.f y101 y104).bind fun t107 => ((pyxlaw02_mul.f t107 (([Int.tmod a0 65536, Int.tmod (wrap64 (Int.tdiv a0 65536)) 65536, wrap64 (Int.tdiv a0 4294967296)] : List Int))).bind fun t113 => (pyxlaw02_cube.l0 k a1 t113 (wrap64 ((t113.length : Int) - 1))))) = some r := by first | (rw [hy104]; with_reducible exact H) | (have H2_ := (Option.bind_some _ _).symm.trans H; rw [hy104]; with_reducible exact H2_) | (have H2_ := (Option.bind_some _ _).symm.trans H; with_reducible exact H2_) | with_reducible exact H | (rw [hy104]; exact H) | exact H
  have Ny104 := Aside0.mk hy104
  clear hy104
  replace H := Option.bind_eq_some_iff.mp H
  obtain ⟨t107, A30, H⟩ := H
  replace H : ((pyxlaw02_mul.f t107 (([Int.tmod a0 65536, Int.tmod (wrap64 (Int.tdiv a0 65536)) 65536, wrap64 (Int.tdiv a0 4294967296)] : List Int))).bind fun t113 => (pyxlaw02_cube.l0 k a1 t113 (wrap64 ((t113.length : Int) - 1)))) = some r := H
  have A3 := Aside0.mk A30
  clear A30
  obtain ⟨y110, hy110⟩ : ∃ y_ : List Int, y_ = (([Int.tmod a0 65536, Int.tmod (wrap64 (Int.tdiv a0 65536)) 65536, wrap64 (Int.tdiv a0 4294967296)] : List Int)) := ⟨_, rfl⟩
  replace H : ((pyxlaw02_mul.f t107 y110).bind fun t113 => (pyxlaw02_cube.l0 k a1 t113 (wrap64 ((t113.length : Int) - 1)))) = some r := by first | (rw [hy110]; with_reducible exact H) | (have H2_ := (Option.bind_some _ _).symm.trans H; rw [hy110]; with_reducible exact H2_) | (have H2_ := (Option.bind_some _ _).symm.trans H; with_reducible exact H2_) | with_reducible exact H | (rw [hy110]; exact H) | exact H
  have Ny110 := Aside0.mk hy110
  clear hy110
  replace H := Option.bind_eq_some_iff.mp H
  obtain ⟨t113, A40, H⟩ := H
  replace H : (pyxlaw02_cube.l0 k a1 t113 (wrap64 ((t113.length : Int) - 1))) = some r := H
  have A4 := Aside0.mk A40
  clear A40
  have H' := Aside0.mk H
  clear H
  go_enter Try.func21, Try.ntmps21
  go_wp2_with (first | ((with_reducible refine gate_dst (N := 15) rfl ?_); refine Kd.R_lit (Kd.int .i64) _ 3 ?hg (N := 15) ?hd (xs := ([Int.tmod a0 65536, Int.tmod (wrap64 (Int.tdiv a0 65536)) 65536, wrap64 (Int.tdiv a0 4294967296)] : List Int)) (inner := [.int .i64 (Int.tmod a0 65536), .int .i64 (Int.tmod (wrap64 (Int.tdiv a0 65536)) 65536), .int .i64 (wrap64 (Int.tdiv a0 4294967296))]) (ok := fun _ => True) (okp := fun _ => True) ?hr ?hp (fun _ hk => hk) trivial (Below.refl _ _) (Nat.le_refl _) (by simp) ?_; (case hd => rfl); (case hg => rfl); (case hr => first | (go_simp; done) | (go_simp; rfl)); (case hp => exact (Reps.one (show Kd.M (Kd.int .i64) _ _ _ (Int.tmod a0 65536) [.int .i64 (Int.tmod a0 65536)] from rfl) (Reps.one (show Kd.M (Kd.int .i64) _ _ _ (Int.tmod (wrap64 (Int.tdiv a0 65536)) 65536) [.int .i64 (Int.tmod (wrap64 (Int.tdiv a0 65536)) 65536)] from rfl) (Reps.one (show Kd.M (Kd.int .i64) _ _ _ (wrap64 (Int.tdiv a0 4294967296)) [.int .i64 (wrap64 (Int.tdiv a0 4294967296))] from rfl) (Reps.none _ _))))); intro v102 w5 ho6 hb hg_ hnew_; clear hg_ hnew_; (first | rw [← Ny101.out] at ho6 | (simp only [Int.reduceToNat] at ho6; rw [← Ny101.out] at ho6)); have n0_ := Aside0.mk (Kd.R_lower ho6 (below_size (by repeat (first | (with_reducible first | exact HB.out | apply below_alloc | apply pw_below_drewN | apply below_drew1) | exact HB.out)))); have n1_ := Aside0.mk (below_step (by repeat (first | (with_reducible first | exact HB.out | apply below_alloc | apply pw_below_drewN | apply below_drew1) | exact HB.out)) hb); clear HB; have HO103 := n0_; have HB := n1_; clear n0_ n1_; clear hb ho6) | ((with_reducible refine gate_dst (N := 23) rfl ?_); refine Kd.R_lit (Kd.int .i64) _ 3 ?hg (N := 23) ?hd (xs := ([Int.tmod a0 65536, Int.tmod (wrap64 (Int.tdiv a0 65536)) 65536, wrap64 (Int.tdiv a0 4294967296)] : List Int)) (inner := [.int .i64 (Int.tmod a0 65536), .int .i64 (Int.tmod (wrap64 (Int.tdiv a0 65536)) 65536), .int .i64 (wrap64 (Int.tdiv a0 4294967296))]) (ok := fun _ => True) (okp := fun _ => True) ?hr ?hp (fun _ hk => hk) trivial (Below.refl _ _) (Nat.le_refl _) (by simp) ?_; (case hd => rfl); (case hg => rfl); (case hr => first | (go_simp; done) | (go_simp; rfl)); (case hp => exact (Reps.one (show Kd.M (Kd.int .i64) _ _ _ (Int.tmod a0 65536) [.int .i64 (Int.tmod a0 65536)] from rfl) (Reps.one (show Kd.M (Kd.int .i64) _ _ _ (Int.tmod (wrap64 (Int.tdiv a0 65536)) 65536) [.int .i64 (Int.tmod (wrap64 (Int.tdiv a0 65536)) 65536)] from rfl) (Reps.one (show Kd.M (Kd.int .i64) _ _ _ (wrap64 (Int.tdiv a0 4294967296)) [.int .i64 (wrap64 (Int.tdiv a0 4294967296))] from rfl) (Reps.none _ _))))); intro v105 w7 ho8 hb hg_ hnew_; clear hg_ hnew_; (first | rw [← Ny104.out] at ho8 | (simp only [Int.reduceToNat] at ho8; rw [← Ny104.out] at ho8)); have n0_ := Aside0.mk (Kd.R_elder' (by (with_reducible repeat (first | apply Kd.R_alloc | apply Kd.R_drewN | apply Kd.R_drew)); exact HO103.out) (Kd.R_base ho8) hb); have n1_ := Aside0.mk (Kd.R_lower (Kd.R_new' ho8 (Kd.R_lt (by (with_reducible repeat (first | apply Kd.R_alloc | apply Kd.R_drewN | apply Kd.R_drew)); exact HO103.out))) (below_size (by repeat (first | (with_reducible first | exact HB.out | apply below_alloc | apply pw_below_drewN | apply below_drew1) | exact HB.out)))); have n2_ := Aside0.mk (below_step (by repeat (first | (with_reducible first | exact HB.out | apply below_alloc | apply pw_below_drewN | apply below_drew1) | exact HB.out)) hb); clear HO103; clear HB; have HO103 := n0_; have HO106 := n1_; have HB := n2_; clear n0_ n1_ n2_; clear hb ho8; obtain ⟨Ao9, co9, eo9⟩ := Kd.R_slice HO103.out; subst eo9; obtain ⟨Ao10, co10, eo10⟩ := Kd.R_slice HO106.out; subst eo10) | ((with_reducible refine gate_callee (f := 44) rfl ?_); refine goesL_ (some 24) rfl rfl Try.func44 (by kernel_rfl) rfl #[.slice Ao9 y101.length co9, .slice Ao10 y104.length co10] rfl (by (try simp only [List.map_toArray, List.map_cons, List.map_nil]); first | done | rfl | (simp only [List.length_drop, List.length_take]; rfl)) ?_; (with_reducible refine (pyxlaw02_mul.calls _ _ y101 _ _ y104 t107 _ ?side1 ?side2 ?side3 ?side4 A3.out).mono ?_); (case side1 => repeat (first | exact (Kd.R_reads' HO103.out).2.2 | (with_reducible refine Kd.C_alloc ?_ _) | (with_reducible refine Kd.C_drewN ?_ _) | (with_reducible refine Kd.C_drew ?_))); (case side2 => exact (Kd.R_reads' HO103.out).2.1); (case side3 => repeat (first | exact (Kd.R_reads' HO106.out).2.2 | (with_reducible refine Kd.C_alloc ?_ _) | (with_reducible refine Kd.C_drewN ?_ _) | (with_reducible refine Kd.C_drew ?_))); (case side4 => exact (Kd.R_reads' HO106.out).2.1); rintro e w11 ⟨v108, rfl, ho0, hb⟩; refine ⟨_, rfl, ?_⟩; have n0_ := Aside0.mk (Kd.R_elder' (by (with_reducible repeat (first | apply Kd.R_alloc | apply Kd.R_drewN | apply Kd.R_drew)); exact HO103.out) (Kd.R_base ho0) hb); have n1_ := Aside0.mk (Kd.R_elder' (by (with_reducible repeat (first | apply Kd.R_alloc | apply Kd.R_drewN | apply Kd.R_drew)); exact HO106.out) (Kd.R_base ho0) hb); have n2_ := Aside0.mk (Kd.R_lower (Kd.R_new' (Kd.R_new' ho0 (Kd.R_lt (by (with_reducible repeat (first | apply Kd.R_alloc | apply Kd.R_drewN | apply Kd.R_drew)); exact HO103.out))) (Kd.R_lt (by (with_reducible repeat (first | apply Kd.R_alloc | apply Kd.R_drewN | apply Kd.R_drew)); exact HO106.out))) (below_size (by repeat (first | (with_reducible first | exact HB.out | apply below_alloc | apply pw_below_drewN | apply below_drew1) | exact HB.out)))); have n3_ := Aside0.mk (below_step (by repeat (first | (with_reducible first | exact HB.out | apply below_alloc | apply pw_below_drewN | apply below_drew1) | exact HB.out)) hb); clear HO103; clear HO106; clear HB; have HO103 := n0_; have HO106 := n1_; have HO109 := n2_; have HB := n3_; clear n0_ n1_ n2_ n3_; (try clear hb); (try clear hb2); (try clear hk); (try clear hi); (try clear ho0)) | ((with_reducible refine gate_dst (N := 32) rfl ?_); refine Kd.R_lit (Kd.int .i64) _ 3 ?hg (N := 32) ?hd (xs := ([Int.tmod a0 65536, Int.tmod (wrap64 (Int.tdiv a0 65536)) 65536, wrap64 (Int.tdiv a0 4294967296)] : List Int)) (inner := [.int .i64 (Int.tmod a0 65536), .int .i64 (Int.tmod (wrap64 (Int.tdiv a0 65536)) 65536), .int .i64 (wrap64 (Int.tdiv a0 4294967296))]) (ok := fun _ => True) (okp := fun _ => True) ?hr ?hp (fun _ hk => hk) trivial (Below.refl _ _) (Nat.le_refl _) (by simp) ?_; (case hd => rfl); (case hg => rfl); (case hr => first | (go_simp; done) | (go_simp; rfl)); (case hp => exact (Reps.one (show Kd.M (Kd.int .i64) _ _ _ (Int.tmod a0 65536) [.int .i64 (Int.tmod a0 65536)] from rfl) (Reps.one (show Kd.M (Kd.int .i64) _ _ _ (Int.tmod (wrap64 (Int.tdiv a0 65536)) 65536) [.int .i64 (Int.tmod (wrap64 (Int.tdiv a0 65536)) 65536)] from rfl) (Reps.one (show Kd.M (Kd.int .i64) _ _ _ (wrap64 (Int.tdiv a0 4294967296)) [.int .i64 (wrap64 (Int.tdiv a0 4294967296))] from rfl) (Reps.none _ _))))); intro v111 w12 ho13 hb hg_ hnew_; clear hg_ hnew_; (first | rw [← Ny110.out] at ho13 | (simp only [Int.reduceToNat] at ho13; rw [← Ny110.out] at ho13)); have n0_ := Aside0.mk (Kd.R_elder' (by (with_reducible repeat (first | apply Kd.R_alloc | apply Kd.R_drewN | apply Kd.R_drew)); exact HO103.out) (Kd.R_base ho13) hb); have n1_ := Aside0.mk (Kd.R_elder' (by (with_reducible repeat (first | apply Kd.R_alloc | apply Kd.R_drewN | apply Kd.R_drew)); exact HO106.out) (Kd.R_base ho13) hb); have n2_ := Aside0.mk (Kd.R_elder' (by (with_reducible repeat (first | apply Kd.R_alloc | apply Kd.R_drewN | apply Kd.R_drew)); exact HO109.out) (Kd.R_base ho13) hb); have n3_ := Aside0.mk (Kd.R_lower (Kd.R_new' (Kd.R_new' (Kd.R_new' ho13 (Kd.R_lt (by (with_reducible repeat (first | apply Kd.R_alloc | apply Kd.R_drewN | apply Kd.R_drew)); exact HO103.out))) (Kd.R_lt (by (with_reducible repeat (first | apply Kd.R_alloc | apply Kd.R_drewN | apply Kd.R_drew)); exact HO106.out))) (Kd.R_lt (by (with_reducible repeat (first | apply Kd.R_alloc | apply Kd.R_drewN | apply Kd.R_drew)); exact HO109.out))) (below_size (by repeat (first | (with_reducible first | exact HB.out | apply below_alloc | apply pw_below_drewN | apply below_drew1) | exact HB.out)))); have n4_ := Aside0.mk (below_step (by repeat (first | (with_reducible first | exact HB.out | apply below_alloc | apply pw_below_drewN | apply below_drew1) | exact HB.out)) hb); clear HO103; clear HO106; clear HO109; clear HB; have HO103 := n0_; have HO106 := n1_; have HO109 := n2_; have HO112 := n3_; have HB := n4_; clear n0_ n1_ n2_ n3_ n4_; clear hb ho13; obtain ⟨Ao14, co14, eo14⟩ := Kd.R_slice HO109.out; subst eo14; obtain ⟨Ao15, co15, eo15⟩ := Kd.R_slice HO112.out; subst eo15) | ((with_reducible refine gate_callee (f := 44) rfl ?_); refine goesL_ (some 33) rfl rfl Try.func44 (by kernel_rfl) rfl #[.slice Ao14 t107.length co14, .slice Ao15 y110.length co15] rfl (by (try simp only [List.map_toArray, List.map_cons, List.map_nil]); first | done | rfl | (simp only [List.length_drop, List.length_take]; rfl)) ?_; (with_reducible refine (pyxlaw02_mul.calls _ _ t107 _ _ y110 t113 _ ?side1 ?side2 ?side3 ?side4 A4.out).mono ?_); (case side1 => repeat (first | exact (Kd.R_reads' HO109.out).2.2 | (with_reducible refine Kd.C_alloc ?_ _) | (with_reducible refine Kd.C_drewN ?_ _) | (with_reducible refine Kd.C_drew ?_))); (case side2 => exact (Kd.R_reads' HO109.out).2.1); (case side3 => repeat (first | exact (Kd.R_reads' HO112.out).2.2 | (with_reducible refine Kd.C_alloc ?_ _) | (with_reducible refine Kd.C_drewN ?_ _) | (with_reducible refine Kd.C_drew ?_))); (case side4 => exact (Kd.R_reads' HO112.out).2.1); rintro e w16 ⟨v114, rfl, ho0, hb⟩; refine ⟨_, rfl, ?_⟩; have n0_ := Aside0.mk (Kd.R_elder' (by (with_reducible repeat (first | apply Kd.R_alloc | apply Kd.R_drewN | apply Kd.R_drew)); exact HO103.out) (Kd.R_base ho0) hb); have n1_ := Aside0.mk (Kd.R_elder' (by (with_reducible repeat (first | apply Kd.R_alloc | apply Kd.R_drewN | apply Kd.R_drew)); exact HO106.out) (Kd.R_base ho0) hb); have n2_ := Aside0.mk (Kd.R_elder' (by (with_reducible repeat (first | apply Kd.R_alloc | apply Kd.R_drewN | apply Kd.R_drew)); exact HO109.out) (Kd.R_base ho0) hb); have n3_ := Aside0.mk (Kd.R_elder' (by (with_reducible repeat (first | apply Kd.R_alloc | apply Kd.R_drewN | apply Kd.R_drew)); exact HO112.out) (Kd.R_base ho0) hb); have n4_ := Aside0.mk (Kd.R_lower (Kd.R_new' (Kd.R_new' (Kd.R_new' (Kd.R_new' ho0 (Kd.R_lt (by (with_reducible repeat (first | apply Kd.R_alloc | apply Kd.R_drewN | apply Kd.R_drew)); exact HO103.out))) (Kd.R_lt (by (with_reducible repeat (first | apply Kd.R_alloc | apply Kd.R_drewN | apply Kd.R_drew)); exact HO106.out))) (Kd.R_lt (by (with_reducible repeat (first | apply Kd.R_alloc | apply Kd.R_drewN | apply Kd.R_drew)); exact HO109.out))) (Kd.R_lt (by (with_reducible repeat (first | apply Kd.R_alloc | apply Kd.R_drewN | apply Kd.R_drew)); exact HO112.out))) (below_size (by repeat (first | (with_reducible first | exact HB.out | apply below_alloc | apply pw_below_drewN | apply below_drew1) | exact HB.out)))); have n5_ := Aside0.mk (below_step (by repeat (first | (with_reducible first | exact HB.out | apply below_alloc | apply pw_below_drewN | apply below_drew1) | exact HB.out)) hb); clear HO103; clear HO106; clear HO109; clear HO112; clear HB; have HO103 := n0_; have HO106 := n1_; have HO109 := n2_; have HO112 := n3_; have HO115 := n4_; have HB := n5_; clear n0_ n1_ n2_ n3_ n4_ n5_; (try clear hb); (try clear hb2); (try clear hk); (try clear hi); (try clear ho0); obtain ⟨Ao17, co17, eo17⟩ := Kd.R_slice HO115.out; subst eo17))
  go_loopg [6] k (fun kq v6 w' => ∃ (x6_1 : Int), v6 = .int .i64 x6_1 ∧ Aside0 (pyxlaw02_cube.l0 kq a1 t113 x6_1 = some r) ∧ Aside0 (kq ≤ k) ∧ Aside0 (Kd.R (Kd.int .i64) 3 w' w.heap.size (fun _ => True) (.slice Ao17 t113.length co17) t113) ∧ Aside0 (Below w.heap.size w w'))
  case atStart => exact ⟨(wrap64 ((t113.length : Int) - 1)), (by first | rfl | (simp; done) | (simp [*]; done)), H', ⟨Nat.le_refl _⟩, ⟨by (with_reducible repeat (first | apply Kd.R_alloc | apply Kd.R_drewN | apply Kd.R_drew)); exact Kd.R_mono HO115.out (fun _ hk => trivial)⟩, ⟨by repeat (first | (with_reducible first | exact HB.out | apply below_alloc | apply pw_below_drewN | apply below_drew1) | exact HB.out)⟩⟩
  case round =>
    clear H'
    try clear c2
    try clear p2
    try clear c4
    try clear p6
    obtain ⟨x6_1, rfl, HA, HK1, HO_5, HB⟩ := hrel
    cases gk with
    | zero => exact absurd HA.out (by simp [pyxlaw02_cube.l0])
    | succ k1 =>
      have H := HA.out
      clear HA
      simp only [pyxlaw02_cube.l0] at H
      by_cases c18 : x6_1 ≥ 0
      · rw [if_pos c18] at H
        have c18b0 : decide (0 ≤ x6_1) = true := decide_eq_true c18
        clear c18
        by_cases c19 : x6_1 = 6
        · rw [if_pos c19] at H
          have c19b0 : (x6_1 == 6) = true := beq_iff_eq.mpr c19
          have c19b1 : (x6_1 != 6) = false := bne_eq_false_iff_eq.mpr c19
          clear c19
          by_cases c20 : 0 ≤ x6_1
          · rw [if_pos c20] at H
            have c20b0 : decide (0 ≤ x6_1) = true := decide_eq_true c20
            clear c20
            by_cases c21 : x6_1 < (t113.length : Int)
            · rw [if_pos c21] at H
              have c21b0 : decide (x6_1 < (t113.length : Int)) = true := decide_eq_true c21
              clear c21
              by_cases c22 : (rd t113 x6_1) = a1
              · rw [if_pos c22] at H
                have c22b0 : ((rd t113 x6_1) == a1) = true := beq_iff_eq.mpr c22
                have c22b1 : ((rd t113 x6_1) != a1) = false := bne_eq_false_iff_eq.mpr c22
                clear c22
                have H' := Aside0.mk H
                clear H
                have p116 : 0 ≤ (x6_1 : Int) := of_decide_eq_true (by first | (with_reducible assumption) | assumption)
                have q116 : x6_1 < (t113.length : Int) := of_decide_eq_true (by first | (with_reducible assumption) | assumption)
                obtain ⟨ad116, e116, hx116_0⟩ := Kd.at_int (Kd.R_reads' HO_5.out).2.2 x6_1 p116 q116
                cases e116
                replace p116 := eq_true p116
                replace q116 := eq_true q116
                go_wp2
                go_roundg k1
                case measure => have := HK1.out; omega
                case rel => exact ⟨(wrap64 (x6_1 - 1)), (by first | rfl | (simp; done) | (simp [*]; done)), H', ⟨by have := HK1.out; omega⟩, ⟨by (with_reducible repeat (first | apply Kd.R_alloc | apply Kd.R_drewN | apply Kd.R_drew)); exact HO_5.out⟩, ⟨by repeat (first | (with_reducible first | exact HB.out | apply below_alloc | apply pw_below_drewN | apply below_drew1) | exact HB.out)⟩⟩
              · rw [if_neg c22] at H
                have c22b0 : ((rd t113 x6_1) == a1) = false := beq_eq_false_iff_ne.mpr c22
                have c22b1 : ((rd t113 x6_1) != a1) = true := bne_iff_ne.mpr c22
                obtain rfl := Option.some.inj H
                have p116 : 0 ≤ (x6_1 : Int) := of_decide_eq_true (by first | (with_reducible assumption) | assumption)
                have q116 : x6_1 < (t113.length : Int) := of_decide_eq_true (by first | (with_reducible assumption) | assumption)
                obtain ⟨ad116, e116, hx116_0⟩ := Kd.at_int (Kd.R_reads' HO_5.out).2.2 x6_1 p116 q116
                cases e116
                replace p116 := eq_true p116
                replace q116 := eq_true q116
                have p117 : 0 ≤ (x6_1 : Int) := of_decide_eq_true (by first | (with_reducible assumption) | assumption)
                have q117 : x6_1 < (t113.length : Int) := of_decide_eq_true (by first | (with_reducible assumption) | assumption)
                obtain ⟨ad117, e117, hx117_0⟩ := Kd.at_int (Kd.R_reads' HO_5.out).2.2 x6_1 p117 q117
                obtain rfl : ad116 = ad117 := (by injection e117)
                replace p117 := eq_true p117
                replace q117 := eq_true q117
                go_wp2
                go_ret
                exact ⟨by first | rfl | (simp [errW_none, errW_some] <;> rfl) | (simp [*, errW_none, errW_some] <;> rfl), by repeat (first | (with_reducible first | exact HB.out | apply below_alloc | apply pw_below_drewN | apply below_drew1) | exact HB.out)⟩
            · rw [if_neg c21] at H
              exact absurd H (by simp)
          · rw [if_neg c20] at H
            exact absurd H (by simp)
        · rw [if_neg c19] at H
          have c19b0 : (x6_1 == 6) = false := beq_eq_false_iff_ne.mpr c19
          have c19b1 : (x6_1 != 6) = true := bne_iff_ne.mpr c19
          by_cases c23 : 0 ≤ x6_1
          · rw [if_pos c23] at H
            have c23b0 : decide (0 ≤ x6_1) = true := decide_eq_true c23
            clear c23
            by_cases c24 : x6_1 < (t113.length : Int)
            · rw [if_pos c24] at H
              have c24b0 : decide (x6_1 < (t113.length : Int)) = true := decide_eq_true c24
              clear c24
              by_cases c25 : (rd t113 x6_1) = 0
              · rw [if_pos c25] at H
                have c25b0 : ((rd t113 x6_1) == 0) = true := beq_iff_eq.mpr c25
                have c25b1 : ((rd t113 x6_1) != 0) = false := bne_eq_false_iff_eq.mpr c25
                clear c25
                have H' := Aside0.mk H
                clear H
                have p118 : 0 ≤ (x6_1 : Int) := of_decide_eq_true (by first | (with_reducible assumption) | assumption)
                have q118 : x6_1 < (t113.length : Int) := of_decide_eq_true (by first | (with_reducible assumption) | assumption)
                obtain ⟨ad118, e118, hx118_0⟩ := Kd.at_int (Kd.R_reads' HO_5.out).2.2 x6_1 p118 q118
                cases e118
                replace p118 := eq_true p118
                replace q118 := eq_true q118
                go_wp2
                go_roundg k1
                case measure => have := HK1.out; omega
                case rel => exact ⟨(wrap64 (x6_1 - 1)), (by first | rfl | (simp; done) | (simp [*]; done)), H', ⟨by have := HK1.out; omega⟩, ⟨by (with_reducible repeat (first | apply Kd.R_alloc | apply Kd.R_drewN | apply Kd.R_drew)); exact HO_5.out⟩, ⟨by repeat (first | (with_reducible first | exact HB.out | apply below_alloc | apply pw_below_drewN | apply below_drew1) | exact HB.out)⟩⟩
              · rw [if_neg c25] at H
                have c25b0 : ((rd t113 x6_1) == 0) = false := beq_eq_false_iff_ne.mpr c25
                have c25b1 : ((rd t113 x6_1) != 0) = true := bne_iff_ne.mpr c25
                obtain rfl := Option.some.inj H
                have p118 : 0 ≤ (x6_1 : Int) := of_decide_eq_true (by first | (with_reducible assumption) | assumption)
                have q118 : x6_1 < (t113.length : Int) := of_decide_eq_true (by first | (with_reducible assumption) | assumption)
                obtain ⟨ad118, e118, hx118_0⟩ := Kd.at_int (Kd.R_reads' HO_5.out).2.2 x6_1 p118 q118
                cases e118
                replace p118 := eq_true p118
                replace q118 := eq_true q118
                have p119 : 0 ≤ (x6_1 : Int) := of_decide_eq_true (by first | (with_reducible assumption) | assumption)
                have q119 : x6_1 < (t113.length : Int) := of_decide_eq_true (by first | (with_reducible assumption) | assumption)
                obtain ⟨ad119, e119, hx119_0⟩ := Kd.at_int (Kd.R_reads' HO_5.out).2.2 x6_1 p119 q119
                obtain rfl : ad118 = ad119 := (by injection e119)
                replace p119 := eq_true p119
                replace q119 := eq_true q119
                go_wp2
                go_ret
                exact ⟨by first | rfl | (simp [errW_none, errW_some] <;> rfl) | (simp [*, errW_none, errW_some] <;> rfl), by repeat (first | (with_reducible first | exact HB.out | apply below_alloc | apply pw_below_drewN | apply below_drew1) | exact HB.out)⟩
            · rw [if_neg c24] at H
              exact absurd H (by simp)
          · rw [if_neg c23] at H
            exact absurd H (by simp)
      · rw [if_neg c18] at H
        have c18b0 : decide (0 ≤ x6_1) = false := decide_eq_false c18
        clear c18
        obtain rfl := Option.some.inj H
        go_wp2
        go_ret
        exact ⟨by first | rfl | (simp [errW_none, errW_some] <;> rfl) | (simp [*, errW_none, errW_some] <;> rfl), by repeat (first | (with_reducible first | exact HB.out | apply below_alloc | apply pw_below_drewN | apply below_drew1) | exact HB.out)⟩

/-! ### pyxlaw02_square: function 23 -/
def pyxlaw02_square.f (a0 : Int) (a1 : Int) (a2 : Int) : Option (Bool) := if (wrap64 ((wrap64 (a0 * a0)) + (wrap64 (Int.tdiv (wrap64 ((wrap64 ((wrap64 (2 * a0)) * a1)) + (wrap64 ((wrap64 ((wrap64 ((wrap64 (Int.tdiv a1 65536)) * (wrap64 (Int.tdiv a1 65536)))) + (wrap64 (Int.tdiv (wrap64 ((wrap64 (2 * (wrap64 (Int.tdiv a1 65536)))) * (Int.tmod a1 65536))) 65536)))) + (wrap64 (Int.tdiv (wrap64 ((wrap64 ((Int.tmod (wrap64 ((wrap64 (2 * (wrap64 (Int.tdiv a1 65536)))) * (Int.tmod a1 65536))) 65536) * 65536)) + (wrap64 ((Int.tmod a1 65536) * (Int.tmod a1 65536))))) 4294967296)))))) 4294967296)))) < a2 then (some true) else (if (wrap64 ((wrap64 (a0 * a0)) + (wrap64 (Int.tdiv (wrap64 ((wrap64 ((wrap64 (2 * a0)) * a1)) + (wrap64 ((wrap64 ((wrap64 ((wrap64 (Int.tdiv a1 65536)) * (wrap64 (Int.tdiv a1 65536)))) + (wrap64 (Int.tdiv (wrap64 ((wrap64 (2 * (wrap64 (Int.tdiv a1 65536)))) * (Int.tmod a1 65536))) 65536)))) + (wrap64 (Int.tdiv (wrap64 ((wrap64 ((Int.tmod (wrap64 ((wrap64 (2 * (wrap64 (Int.tdiv a1 65536)))) * (Int.tmod a1 65536))) 65536) * 65536)) + (wrap64 ((Int.tmod a1 65536) * (Int.tmod a1 65536))))) 4294967296)))))) 4294967296)))) = a2 then (if (Int.tmod (wrap64 ((wrap64 ((wrap64 (2 * a0)) * a1)) + (wrap64 ((wrap64 ((wrap64 ((wrap64 (Int.tdiv a1 65536)) * (wrap64 (Int.tdiv a1 65536)))) + (wrap64 (Int.tdiv (wrap64 ((wrap64 (2 * (wrap64 (Int.tdiv a1 65536)))) * (Int.tmod a1 65536))) 65536)))) + (wrap64 (Int.tdiv (wrap64 ((wrap64 ((Int.tmod (wrap64 ((wrap64 (2 * (wrap64 (Int.tdiv a1 65536)))) * (Int.tmod a1 65536))) 65536) * 65536)) + (wrap64 ((Int.tmod a1 65536) * (Int.tmod a1 65536))))) 4294967296)))))) 4294967296) = 0 then (some ((Int.tmod (wrap64 ((wrap64 ((Int.tmod (wrap64 ((wrap64 (2 * (wrap64 (Int.tdiv a1 65536)))) * (Int.tmod a1 65536))) 65536) * 65536)) + (wrap64 ((Int.tmod a1 65536) * (Int.tmod a1 65536))))) 4294967296) == 0)) else (some false)) else (some false))
set_option maxHeartbeats 8000000 in
set_option maxRecDepth 100000 in
theorem pyxlaw02_square.calls (a0 : Int) (a1 : Int) (a2 : Int) (r : Bool) (w : World) (h : pyxlaw02_square.f a0 a1 a2 = some r) :
    Calls Try.prog 23 #[.int .i64 a0, .int .i64 a1, .int .i64 a2] w fun e w' => e = .returned (.bool r) ∧ Drawn0 w w' := by
  have H : (if (wrap64 ((wrap64 (a0 * a0)) + (wrap64 (Int.tdiv (wrap64 ((wrap64 ((wrap64 (2 * a0)) * a1)) + (wrap64 ((wrap64 ((wrap64 ((wrap64 (Int.tdiv a1 65536)) * (wrap64 (Int.tdiv a1 65536)))) + (wrap64 (Int.tdiv (wrap64 ((wrap64 (2 * (wrap64 (Int.tdiv a1 65536)))) * (Int.tmod a1 65536))) 65536)))) + (wrap64 (Int.tdiv (wrap64 ((wrap64 ((Int.tmod (wrap64 ((wrap64 (2 * (wrap64 (Int.tdiv a1 65536)))) * (Int.tmod a1 65536))) 65536) * 65536)) + (wrap64 ((Int.tmod a1 65536) * (Int.tmod a1 65536))))) 4294967296)))))) 4294967296)))) < a2 then (some true) else (if (wrap64 ((wrap64 (a0 * a0)) + (wrap64 (Int.tdiv (wrap64 ((wrap64 ((wrap64 (2 * a0)) * a1)) + (wrap64 ((wrap64 ((wrap64 ((wrap64 (Int.tdiv a1 65536)) * (wrap64 (Int.tdiv a1 65536)))) + (wrap64 (Int.tdiv (wrap64 ((wrap64 (2 * (wrap64 (Int.tdiv a1 65536)))) * (Int.tmod a1 65536))) 65536)))) + (wrap64 (Int.tdiv (wrap64 ((wrap64 ((Int.tmod (wrap64 ((wrap64 (2 * (wrap64 (Int.tdiv a1 65536)))) * (Int.tmod a1 65536))) 65536) * 65536)) + (wrap64 ((Int.tmod a1 65536) * (Int.tmod a1 65536))))) 4294967296)))))) 4294967296)))) = a2 then (if (Int.tmod (wrap64 ((wrap64 ((wrap64 (2 * a0)) * a1)) + (wrap64 ((wrap64 ((wrap64 ((wrap64 (Int.tdiv a1 65536)) * (wrap64 (Int.tdiv a1 65536)))) + (wrap64 (Int.tdiv (wrap64 ((wrap64 (2 * (wrap64 (Int.tdiv a1 65536)))) * (Int.tmod a1 65536))) 65536)))) + (wrap64 (Int.tdiv (wrap64 ((wrap64 ((Int.tmod (wrap64 ((wrap64 (2 * (wrap64 (Int.tdiv a1 65536)))) * (Int.tmod a1 65536))) 65536) * 65536)) + (wrap64 ((Int.tmod a1 65536) * (Int.tmod a1 65536))))) 4294967296)))))) 4294967296) = 0 then (some ((Int.tmod (wrap64 ((wrap64 ((Int.tmod (wrap64 ((wrap64 (2 * (wrap64 (Int.tdiv a1 65536)))) * (Int.tmod a1 65536))) 65536) * 65536)) + (wrap64 ((Int.tmod a1 65536) * (Int.tmod a1 65536))))) 4294967296) == 0)) else (some false)) else (some false))) = some r := h
  clear h
  by_cases c4 : (wrap64 ((wrap64 (a0 * a0)) + (wrap64 (Int.tdiv (wrap64 ((wrap64 ((wrap64 (2 * a0)) * a1)) + (wrap64 ((wrap64 ((wrap64 ((wrap64 (Int.tdiv a1 65536)) * (wrap64 (Int.tdiv a1 65536)))) + (wrap64 (Int.tdiv (wrap64 ((wrap64 (2 * (wrap64 (Int.tdiv a1 65536)))) * (Int.tmod a1 65536))) 65536)))) + (wrap64 (Int.tdiv (wrap64 ((wrap64 ((Int.tmod (wrap64 ((wrap64 (2 * (wrap64 (Int.tdiv a1 65536)))) * (Int.tmod a1 65536))) 65536) * 65536)) + (wrap64 ((Int.tmod a1 65536) * (Int.tmod a1 65536))))) 4294967296)))))) 4294967296)))) < a2
  · rw [if_pos c4] at H
    have c4b0 : decide ((wrap64 ((wrap64 (a0 * a0)) + (wrap64 (Int.tdiv (wrap64 ((wrap64 ((wrap64 (2 * a0)) * a1)) + (wrap64 ((wrap64 ((wrap64 ((wrap64 (Int.tdiv a1 65536)) * (wrap64 (Int.tdiv a1 65536)))) + (wrap64 (Int.tdiv (wrap64 ((wrap64 (2 * (wrap64 (Int.tdiv a1 65536)))) * (Int.tmod a1 65536))) 65536)))) + (wrap64 (Int.tdiv (wrap64 ((wrap64 ((Int.tmod (wrap64 ((wrap64 (2 * (wrap64 (Int.tdiv a1 65536)))) * (Int.tmod a1 65536))) 65536) * 65536)) + (wrap64 ((Int.tmod a1 65536) * (Int.tmod a1 65536))))) 4294967296)))))) 4294967296)))) < a2) = true := decide_eq_true c4
    clear c4
    obtain rfl := Option.some.inj H
    go_enter Try.func23, Try.ntmps23
    go_wp2
    go_ret
    exact ⟨by first | rfl | (simp; done) | (simp [*]; done), by repeat (first | exact Drawn0.refl _ | apply Drawn0.step)⟩
  · rw [if_neg c4] at H
    have c4b0 : decide ((wrap64 ((wrap64 (a0 * a0)) + (wrap64 (Int.tdiv (wrap64 ((wrap64 ((wrap64 (2 * a0)) * a1)) + (wrap64 ((wrap64 ((wrap64 ((wrap64 (Int.tdiv a1 65536)) * (wrap64 (Int.tdiv a1 65536)))) + (wrap64 (Int.tdiv (wrap64 ((wrap64 (2 * (wrap64 (Int.tdiv a1 65536)))) * (Int.tmod a1 65536))) 65536)))) + (wrap64 (Int.tdiv (wrap64 ((wrap64 ((Int.tmod (wrap64 ((wrap64 (2 * (wrap64 (Int.tdiv a1 65536)))) * (Int.tmod a1 65536))) 65536) * 65536)) + (wrap64 ((Int.tmod a1 65536) * (Int.tmod a1 65536))))) 4294967296)))))) 4294967296)))) < a2) = false := decide_eq_false c4
    clear c4
    by_cases c5 : (wrap64 ((wrap64 (a0 * a0)) + (wrap64 (Int.tdiv (wrap64 ((wrap64 ((wrap64 (2 * a0)) * a1)) + (wrap64 ((wrap64 ((wrap64 ((wrap64 (Int.tdiv a1 65536)) * (wrap64 (Int.tdiv a1 65536)))) + (wrap64 (Int.tdiv (wrap64 ((wrap64 (2 * (wrap64 (Int.tdiv a1 65536)))) * (Int.tmod a1 65536))) 65536)))) + (wrap64 (Int.tdiv (wrap64 ((wrap64 ((Int.tmod (wrap64 ((wrap64 (2 * (wrap64 (Int.tdiv a1 65536)))) * (Int.tmod a1 65536))) 65536) * 65536)) + (wrap64 ((Int.tmod a1 65536) * (Int.tmod a1 65536))))) 4294967296)))))) 4294967296)))) = a2
    · rw [if_pos c5] at H
      have c5b0 : ((wrap64 ((wrap64 (a0 * a0)) + (wrap64 (Int.tdiv (wrap64 ((wrap64 ((wrap64 (2 * a0)) * a1)) + (wrap64 ((wrap64 ((wrap64 ((wrap64 (Int.tdiv a1 65536)) * (wrap64 (Int.tdiv a1 65536)))) + (wrap64 (Int.tdiv (wrap64 ((wrap64 (2 * (wrap64 (Int.tdiv a1 65536)))) * (Int.tmod a1 65536))) 65536)))) + (wrap64 (Int.tdiv (wrap64 ((wrap64 ((Int.tmod (wrap64 ((wrap64 (2 * (wrap64 (Int.tdiv a1 65536)))) * (Int.tmod a1 65536))) 65536) * 65536)) + (wrap64 ((Int.tmod a1 65536) * (Int.tmod a1 65536))))) 4294967296)))))) 4294967296)))) == a2) = true := beq_iff_eq.mpr c5
      have c5b1 : ((wrap64 ((wrap64 (a0 * a0)) + (wrap64 (Int.tdiv (wrap64 ((wrap64 ((wrap64 (2 * a0)) * a1)) + (wrap64 ((wrap64 ((wrap64 ((wrap64 (Int.tdiv a1 65536)) * (wrap64 (Int.tdiv a1 65536)))) + (wrap64 (Int.tdiv (wrap64 ((wrap64 (2 * (wrap64 (Int.tdiv a1 65536)))) * (Int.tmod a1 65536))) 65536)))) + (wrap64 (Int.tdiv (wrap64 ((wrap64 ((Int.tmod (wrap64 ((wrap64 (2 * (wrap64 (Int.tdiv a1 65536)))) * (Int.tmod a1 65536))) 65536) * 65536)) + (wrap64 ((Int.tmod a1 65536) * (Int.tmod a1 65536))))) 4294967296)))))) 4294967296)))) != a2) = false := bne_eq_false_iff_eq.mpr c5
      clear c5
      by_cases c6 : (Int.tmod (wrap64 ((wrap64 ((wrap64 (2 * a0)) * a1)) + (wrap64 ((wrap64 ((wrap64 ((wrap64 (Int.tdiv a1 65536)) * (wrap64 (Int.tdiv a1 65536)))) + (wrap64 (Int.tdiv (wrap64 ((wrap64 (2 * (wrap64 (Int.tdiv a1 65536)))) * (Int.tmod a1 65536))) 65536)))) + (wrap64 (Int.tdiv (wrap64 ((wrap64 ((Int.tmod (wrap64 ((wrap64 (2 * (wrap64 (Int.tdiv a1 65536)))) * (Int.tmod a1 65536))) 65536) * 65536)) + (wrap64 ((Int.tmod a1 65536) * (Int.tmod a1 65536))))) 4294967296)))))) 4294967296) = 0
      · rw [if_pos c6] at H
        have c6b0 : ((Int.tmod (wrap64 ((wrap64 ((wrap64 (2 * a0)) * a1)) + (wrap64 ((wrap64 ((wrap64 ((wrap64 (Int.tdiv a1 65536)) * (wrap64 (Int.tdiv a1 65536)))) + (wrap64 (Int.tdiv (wrap64 ((wrap64 (2 * (wrap64 (Int.tdiv a1 65536)))) * (Int.tmod a1 65536))) 65536)))) + (wrap64 (Int.tdiv (wrap64 ((wrap64 ((Int.tmod (wrap64 ((wrap64 (2 * (wrap64 (Int.tdiv a1 65536)))) * (Int.tmod a1 65536))) 65536) * 65536)) + (wrap64 ((Int.tmod a1 65536) * (Int.tmod a1 65536))))) 4294967296)))))) 4294967296) == 0) = true := beq_iff_eq.mpr c6
        have c6b1 : ((Int.tmod (wrap64 ((wrap64 ((wrap64 (2 * a0)) * a1)) + (wrap64 ((wrap64 ((wrap64 ((wrap64 (Int.tdiv a1 65536)) * (wrap64 (Int.tdiv a1 65536)))) + (wrap64 (Int.tdiv (wrap64 ((wrap64 (2 * (wrap64 (Int.tdiv a1 65536)))) * (Int.tmod a1 65536))) 65536)))) + (wrap64 (Int.tdiv (wrap64 ((wrap64 ((Int.tmod (wrap64 ((wrap64 (2 * (wrap64 (Int.tdiv a1 65536)))) * (Int.tmod a1 65536))) 65536) * 65536)) + (wrap64 ((Int.tmod a1 65536) * (Int.tmod a1 65536))))) 4294967296)))))) 4294967296) != 0) = false := bne_eq_false_iff_eq.mpr c6
        clear c6
        obtain rfl := Option.some.inj H
        go_enter Try.func23, Try.ntmps23
        go_wp2
        go_ret
        exact ⟨by first | rfl | (simp; done) | (simp [*]; done), by repeat (first | exact Drawn0.refl _ | apply Drawn0.step)⟩
      · rw [if_neg c6] at H
        have c6b0 : ((Int.tmod (wrap64 ((wrap64 ((wrap64 (2 * a0)) * a1)) + (wrap64 ((wrap64 ((wrap64 ((wrap64 (Int.tdiv a1 65536)) * (wrap64 (Int.tdiv a1 65536)))) + (wrap64 (Int.tdiv (wrap64 ((wrap64 (2 * (wrap64 (Int.tdiv a1 65536)))) * (Int.tmod a1 65536))) 65536)))) + (wrap64 (Int.tdiv (wrap64 ((wrap64 ((Int.tmod (wrap64 ((wrap64 (2 * (wrap64 (Int.tdiv a1 65536)))) * (Int.tmod a1 65536))) 65536) * 65536)) + (wrap64 ((Int.tmod a1 65536) * (Int.tmod a1 65536))))) 4294967296)))))) 4294967296) == 0) = false := beq_eq_false_iff_ne.mpr c6
        have c6b1 : ((Int.tmod (wrap64 ((wrap64 ((wrap64 (2 * a0)) * a1)) + (wrap64 ((wrap64 ((wrap64 ((wrap64 (Int.tdiv a1 65536)) * (wrap64 (Int.tdiv a1 65536)))) + (wrap64 (Int.tdiv (wrap64 ((wrap64 (2 * (wrap64 (Int.tdiv a1 65536)))) * (Int.tmod a1 65536))) 65536)))) + (wrap64 (Int.tdiv (wrap64 ((wrap64 ((Int.tmod (wrap64 ((wrap64 (2 * (wrap64 (Int.tdiv a1 65536)))) * (Int.tmod a1 65536))) 65536) * 65536)) + (wrap64 ((Int.tmod a1 65536) * (Int.tmod a1 65536))))) 4294967296)))))) 4294967296) != 0) = true := bne_iff_ne.mpr c6
        obtain rfl := Option.some.inj H
        go_enter Try.func23, Try.ntmps23
        go_wp2
        go_ret
        exact ⟨by first | rfl | (simp; done) | (simp [*]; done), by repeat (first | exact Drawn0.refl _ | apply Drawn0.step)⟩
    · rw [if_neg c5] at H
      have c5b0 : ((wrap64 ((wrap64 (a0 * a0)) + (wrap64 (Int.tdiv (wrap64 ((wrap64 ((wrap64 (2 * a0)) * a1)) + (wrap64 ((wrap64 ((wrap64 ((wrap64 (Int.tdiv a1 65536)) * (wrap64 (Int.tdiv a1 65536)))) + (wrap64 (Int.tdiv (wrap64 ((wrap64 (2 * (wrap64 (Int.tdiv a1 65536)))) * (Int.tmod a1 65536))) 65536)))) + (wrap64 (Int.tdiv (wrap64 ((wrap64 ((Int.tmod (wrap64 ((wrap64 (2 * (wrap64 (Int.tdiv a1 65536)))) * (Int.tmod a1 65536))) 65536) * 65536)) + (wrap64 ((Int.tmod a1 65536) * (Int.tmod a1 65536))))) 4294967296)))))) 4294967296)))) == a2) = false := beq_eq_false_iff_ne.mpr c5
      have c5b1 : ((wrap64 ((wrap64 (a0 * a0)) + (wrap64 (Int.tdiv (wrap64 ((wrap64 ((wrap64 (2 * a0)) * a1)) + (wrap64 ((wrap64 ((wrap64 ((wrap64 (Int.tdiv a1 65536)) * (wrap64 (Int.tdiv a1 65536)))) + (wrap64 (Int.tdiv (wrap64 ((wrap64 (2 * (wrap64 (Int.tdiv a1 65536)))) * (Int.tmod a1 65536))) 65536)))) + (wrap64 (Int.tdiv (wrap64 ((wrap64 ((Int.tmod (wrap64 ((wrap64 (2 * (wrap64 (Int.tdiv a1 65536)))) * (Int.tmod a1 65536))) 65536) * 65536)) + (wrap64 ((Int.tmod a1 65536) * (Int.tmod a1 65536))))) 4294967296)))))) 4294967296)))) != a2) = true := bne_iff_ne.mpr c5
      obtain rfl := Option.some.inj H
      go_enter Try.func23, Try.ntmps23
      go_wp2
      go_ret
      exact ⟨by first | rfl | (simp; done) | (simp [*]; done), by repeat (first | exact Drawn0.refl _ | apply Drawn0.step)⟩

end Go.Proofs.Ytamaokokbajlgaa.K
