/-
  Walk: pyxlaw13.RatchTree.
-/
import Derived.Test.YtdklmafkcbjomaaDoorZ7
namespace Go.Proofs.YtdklmafkcbjomaaDoor
set_option linter.unusedVariables false
set_option linter.unusedSimpArgs false
open Go.RowKit Go.Shelf Go.Proofs.YtdklmafkcbjomaaDoorW.PrintWords Go.Proofs.YtdklmafkcbjomaaDoorW.PrintLast Go.Proofs.YtdklmafkcbjomaaDoorW.PrintMore Iter
attribute [local go_sem] Oper.semAt_some

theorem refLabel_some (s : List Int) (lab : ByteArray) (n : Int) (m : Nat) (hm : n = (m : Int)) (h : s.length = 32) (o : byteOk s = true) (hn : m ≤ 8160) (hl : lab.size ≤ 100000) : P.pyxref04_Label.f s lab [] n = some (labelOf s lab [] m, 0) := by
  subst hm
  exact label_some s lab [] m hn o rfl (by rw [h]; decide) hl (by decide)
theorem half_pow (j : Nat) : 2 ^ (j + 1) / 2 = 2 ^ j := by rw [Nat.pow_succ, Nat.mul_div_cancel _ (by decide)]
set_option maxRecDepth 100000 in
set_option maxHeartbeats 2000000 in
theorem tree_calls (A : Option Addr) (c : Nat) (l : List Int) (kb ib : Nat) (hkb : kb < 256) (hib : ib < 65536) (w : World) (hT : TabOk w) (hs : Kd.C (Kd.int .u8) w A l.length l) (hc : l.length ≤ c) (ob : byteOk l = true) :
    Calls Tryd.prog 6 #[.slice A l.length c, .int .u8 (kb : Int), .int .u16 (ib : Int)] w fun e w' => e = .returned (.bool true) ∧ Below w.heap.size w w' := by
  have H0 := Lib.hid (And.intro hT (And.intro hs hc))
  clear hT hs hc
  by_cases h32 : l.length = 32
  case neg =>
    have d0 : ((l.length : Int) != 32) = true := by simp; omega
    clear h32
    go_enter Tryd.func6, Tryd.ntmps6
    go_wp2_with fail
    refine (shown13_calls w H0.out.1).mono ?_
    rintro e W1 ⟨rfl, hb⟩
    go_wp2
    go_ret
    exact ⟨rfl, hb⟩
  have d0 : ((l.length : Int) != 32) = false := by rw [h32]; rfl
  obtain ⟨K, hK⟩ : ∃ K, kb % 6 = K := ⟨_, rfl⟩
  have hK6 : K < 6 := by omega
  have hk5 : IntKind.i64.wrap (kb : Int) = (kb : Int) := IntWalk.i64_in _ ⟨by omega, by omega⟩
  have hk6 : (kb : Int) % 6 = (K : Int) := by omega
  have hi5 : IntKind.i64.wrap (ib : Int) = (ib : Int) := IntWalk.i64_in _ ⟨by omega, by omega⟩
  have H32 := Lib.hid (And.intro h32 (And.intro ob hK6))
  clear h32 ob
  go_enter Tryd.func6, Tryd.ntmps6
  go_wp2_with fail
  refine (shown13_calls w H0.out.1).mono ?_
  rintro e W1 ⟨rfl, hb⟩
  have H1 := Lib.hid hb
  clear hb
  go_wp2
  go_loop [8, 9] (fun n j => ∃ k : Nat, k ≤ K ∧ j = .int .i64 (k : Int) ∧ n = .int .i64 ((2 ^ k : Nat) : Int)) (fun _ j => K - (intOf j).toNat)
  case atStart => exact ⟨0, Nat.zero_le _, rfl, rfl⟩
  case round =>
    obtain ⟨k, hk, rfl, rfl⟩ := hrel
    by_cases hlt : k < K
    · have p2 : (2 : Nat) ^ (k + 1) = 2 * 2 ^ k := by rw [Nat.pow_succ, Nat.mul_comm]
      have p3 : 2 ^ k ≤ 64 := Nat.le_trans (Nat.pow_le_pow_right (by decide) (show k ≤ 6 by omega)) (by decide)
      have d1 : decide ((k : Int) < (K : Int)) = true := by simp; exact hlt
      have w1 : wrap64 (2 * ((2 ^ k : Nat) : Int)) = ((2 ^ (k + 1) : Nat) : Int) := by rw [p2]; generalize 2 ^ k = q at *; unfold wrap64; omega
      have w2 : wrap64 ((k : Int) + 1) = ((k + 1 : Nat) : Int) := by unfold wrap64; omega
      have HW := Lib.hid (And.intro w1 w2)
      clear w1 w2 p2 p3
      generalize ((2 ^ k : Nat) : Int) = q at *
      go_wp2
      rw [HW.out.1]
      exact ⟨⟨k + 1, by omega, by go_num, rfl⟩, by simp [intOf]; omega⟩
    · obtain rfl : k = K := by omega
      have d1 : decide ((k : Int) < (k : Int)) = false := by simp
      obtain ⟨q, hq⟩ : ∃ q, 2 ^ k = q := ⟨_, rfl⟩
      have q0 : 0 < q := by rw [← hq]; exact Nat.two_pow_pos k
      have q1 : q ≤ 64 := by rw [← hq]; exact Nat.le_trans (Nat.pow_le_pow_right (by decide) (show k ≤ 6 by omega)) (by decide)
      obtain ⟨I, hI⟩ : ∃ I, ib % q = I := ⟨_, rfl⟩
      have hIq : I < q := by rw [← hI]; exact Nat.mod_lt _ q0
      have m1 : (ib : Int) % (q : Int) = (I : Int) := by rw [← hI]; rfl
      have z0 : ((q : Int) == 0) = false := by simp; omega
      have HQ := Lib.hid (And.intro hq (And.intro q0 (And.intro q1 hIq)))
      rw [hq]
      clear hq hI hIq hlt d1 hk6 hk
      go_wp2_with fail
      refine (P.pyxref04_Label.calls A c l labTree none 0 [] 32 (labelOf l labTree [] 32) 0 W1 (Kd.C_below H0.out.2.1 H1.out) H0.out.2.2 (Kd.C_nil _ _) (Nat.le_refl _) (refLabel_some l labTree 32 32 rfl H32.out.1 H32.out.2.1 (by decide) (by decide))).mono ?_
      rintro e W2 ⟨v, rfl, hR, hb⟩
      obtain ⟨A2, c2, rfl, h2, hC2⟩ := Kd.R_reads hR
      have H2 := Lib.hid (And.intro h2 (And.intro hC2 (H1.out.trans (hb.mono H1.out.size))))
      clear hR hb h2 hC2 H1
      obtain ⟨G, hG⟩ : ∃ G, leafS l k I = G := ⟨_, rfl⟩
      obtain ⟨S0, hS0⟩ : ∃ S, labelOf l labTree [] 32 = S := ⟨_, rfl⟩
      have HG := Lib.hid (And.intro hG (show S0.length = 32 ∧ byteOk S0 = true ∧ downS I k S0 = G from ⟨by rw [← hS0]; exact labelOf_length _ _ _ _, by rw [← hS0]; exact byteOk_labelOf _ _ _ _, by rw [← hG, ← hS0]; rfl⟩))
      rw [hS0] at H2 ⊢
      obtain ⟨q2, hq2⟩ : ∃ x, q / 2 = x := ⟨_, rfl⟩
      have e2 : (q : Int) / 2 = (q2 : Int) := by omega
      have HQ2 := Lib.hid hq2
      clear hG hS0 hq2
      go_wp2_with fail
      clear e2 m1 z0
      go_loopw [11, 13] (fun vs vm wr => ∃ (j M : Nat) (S : List Int) (B : Option Addr) (d : Nat), j ≤ k ∧ Hid (M = 2 ^ j / 2) ∧ vm = .int .i64 (M : Int) ∧ vs = .slice B S.length d ∧ Hid (S.length ≤ d ∧ Kd.C (Kd.int .u8) wr B S.length S ∧ S.length = 32 ∧ byteOk S = true ∧ downS I j S = G) ∧ Hid (Below w.heap.size w wr)) (fun _ vm _ => (intOf vm).toNat)
      case atStart => exact ⟨k, q2, S0, A2, c2, Nat.le_refl _, Lib.hid (by rw [HQ.out.1, HQ2.out]), rfl, rfl, Lib.hid ⟨H2.out.1, H2.out.2.1, HG.out.2⟩, Lib.hid H2.out.2.2⟩
      case round =>
        obtain ⟨j, M, S, B, d, hj, HM, rfl, rfl, HS, HB⟩ := hrel
        cases j with
        | zero =>
          obtain rfl : M = 0 := HM.out
          clear HM
          have hl := leaf_calls A c l k I wr (H0.out.1.below HB.out H0.out.1.1) (by have := H32.out.2.2; omega) (by rw [HQ.out.1]; exact HQ.out.2.2.2) H32.out.1 H32.out.2.1 (Kd.C_below H0.out.2.1 HB.out) H0.out.2.2
          rw [HQ.out.1, HG.out.1] at hl
          have HL := Lib.hid hl
          clear hl
          go_wp2_with fail
          refine HL.out.mono ?_
          rintro e W3 ⟨v, rfl, hR, hb⟩
          obtain ⟨A3, c3, rfl, h3, hC3⟩ := Kd.R_reads hR
          have H3 := Lib.hid (And.intro h3 (And.intro hC3 (And.intro (HB.out.trans (hb.mono HB.out.size)) (Kd.C_below HS.out.2.1 hb))))
          have HSG := Lib.hid (show S = G from HS.out.2.2.2.2)
          clear hR hb h3 hC3 HL
          go_wp2_with fail
          refine (P.pyxref01_Same.calls A3 c3 G B d S true W3 H3.out.2.1 H3.out.1 H3.out.2.2.2 HS.out.1 (by unfold P.pyxref01_Same.f; rw [HSG.out, if_pos ⟨by rw [← HSG.out]; exact HS.out.2.2.2.1, by rw [← HSG.out]; exact HS.out.2.2.2.1⟩, beq_self_eq_true])).mono ?_
          rintro e W4 ⟨rfl, hq⟩
          have hb := drawn_below hq
          have H4 := Lib.hid (H3.out.2.2.1.trans (hb.mono H3.out.2.2.1.size))
          clear hq hb
          go_wp2
          go_ret
          exact ⟨rfl, H4.out⟩
        | succ j =>
          obtain ⟨r, hr⟩ : ∃ r, 2 ^ j = r := ⟨_, rfl⟩
          obtain rfl : M = r := by rw [HM.out, half_pow, hr]
          clear HM
          have r0 : 0 < M := by rw [← hr]; exact Nat.two_pow_pos j
          have r1 : M ≤ 64 := by rw [← hr]; exact Nat.le_trans (Nat.pow_le_pow_right (by decide) (show j ≤ 6 by omega)) (by decide)
          obtain ⟨t, ht⟩ : ∃ t, I / M = t := ⟨_, rfl⟩
          have d1 : decide (0 < (M : Int)) = true := by simp; omega
          have t1 : t ≤ 64 := by rw [← ht]; exact Nat.le_trans (Nat.div_le_self _ _) (by have := HQ.out.2.2.2; omega)
          have t0 : (0 : Int) ≤ (t : Int) := Int.natCast_nonneg _
          have z1 : ((M : Int) == 0) = false := by simp; omega
          have e1 : (I : Int) / (M : Int) = (t : Int) := by rw [← ht]; rfl
          obtain ⟨m2, hm2⟩ : ∃ x, M / 2 = x := ⟨_, rfl⟩
          have e2 : (M : Int) / 2 = (m2 : Int) := by omega
          have HR := Lib.hid (And.intro hr (And.intro ht (And.intro r0 hm2)))
          have hms : (intOf (.int .i64 (m2 : Int))).toNat < (intOf (.int .i64 (M : Int))).toNat := by simp [intOf]; omega
          have HMS := Lib.hid hms
          clear hr ht hm2 hms
          by_cases hb' : t % 2 = 1
          · have d2 : ((t : Int) % 2 == 1) = true := by simp; omega
            have HB2 := Lib.hid hb'
            clear hb'
            go_wp2_with fail
            refine (P.pyxref04_Label.calls B d S labRight none 0 [] 32 (labelOf S labRight [] 32) 0 wr HS.out.2.1 HS.out.1 (Kd.C_nil _ _) (Nat.le_refl _) (refLabel_some S labRight 32 32 rfl HS.out.2.2.1 HS.out.2.2.2.1 (by decide) (by decide))).mono ?_
            rintro e W3 ⟨v, rfl, hR, hb⟩
            obtain ⟨A3, c3, rfl, h3, hC3⟩ := Kd.R_reads hR
            have H3 := Lib.hid (And.intro h3 (And.intro hC3 (HB.out.trans (hb.mono HB.out.size))))
            have HD := Lib.hid (show downS I j (labelOf S labRight [] 32) = G from by rw [← downS_right I j S (by rw [HR.out.1, HR.out.2.1]; exact HB2.out)]; exact HS.out.2.2.2.2)
            have HO := Lib.hid (And.intro (labelOf_length S labRight [] 32) (byteOk_labelOf S labRight [] 32))
            clear hR hb h3 hC3
            generalize labelOf S labRight [] 32 = S3 at *
            go_wp2
            exact ⟨⟨j, m2, S3, A3, c3, by omega, Lib.hid (by rw [HR.out.1]; exact HR.out.2.2.2.symm), rfl, rfl, Lib.hid ⟨H3.out.1, H3.out.2.1, HO.out.1, HO.out.2, HD.out⟩, Lib.hid H3.out.2.2⟩, HMS.out⟩
          · have d2 : ((t : Int) % 2 == 1) = false := by simp; omega
            have HB2 := Lib.hid hb'
            clear hb'
            go_wp2_with fail
            refine (P.pyxref04_Label.calls B d S labLeft none 0 [] 32 (labelOf S labLeft [] 32) 0 wr HS.out.2.1 HS.out.1 (Kd.C_nil _ _) (Nat.le_refl _) (refLabel_some S labLeft 32 32 rfl HS.out.2.2.1 HS.out.2.2.2.1 (by decide) (by decide))).mono ?_
            rintro e W3 ⟨v, rfl, hR, hb⟩
            obtain ⟨A3, c3, rfl, h3, hC3⟩ := Kd.R_reads hR
            have H3 := Lib.hid (And.intro h3 (And.intro hC3 (HB.out.trans (hb.mono HB.out.size))))
            have HD := Lib.hid (show downS I j (labelOf S labLeft [] 32) = G from by rw [← downS_left I j S (by rw [HR.out.1, HR.out.2.1]; exact HB2.out)]; exact HS.out.2.2.2.2)
            have HO := Lib.hid (And.intro (labelOf_length S labLeft [] 32) (byteOk_labelOf S labLeft [] 32))
            clear hR hb h3 hC3
            generalize labelOf S labLeft [] 32 = S3 at *
            go_wp2
            exact ⟨⟨j, m2, S3, A3, c3, by omega, Lib.hid (by rw [HR.out.1]; exact HR.out.2.2.2.symm), rfl, rfl, Lib.hid ⟨H3.out.1, H3.out.2.1, HO.out.1, HO.out.2, HD.out⟩, Lib.hid H3.out.2.2⟩, HMS.out⟩
end Go.Proofs.YtdklmafkcbjomaaDoor
