/-
  Walk: pyxlaw13.RatchSecrets.
-/
import Derived.Test.YtdklmafkcbjomaaDoorRatSb
import Derived.Test.YtdklmafkcbjomaaDoorX6
import Derived.Deep.DrawnRows
import Derived.Deep.RegionHeld3
namespace Go.Proofs.YtdklmafkcbjomaaDoor
set_option linter.unusedVariables false
set_option linter.unusedSimpArgs false
open Go.RowKit Go.Shelf Go.Proofs.YtdklmafkcbjomaaDoorW.PrintWords Go.Proofs.YtdklmafkcbjomaaDoorW.PrintLast Go.Proofs.YtdklmafkcbjomaaDoorW.PrintMore Iter
attribute [local go_sem] Oper.semAt_some
attribute [local go_sem ↓] Go.wp_at_zero Go.wp_at_succ

theorem one_box (W : World) (cs : Array Value) (t : TypeId) : Blk (W.alloc (.cells cs t)) W.heap.size t cs ∧ Below W.heap.size W (W.alloc (.cells cs t)) := ⟨Blk.new W t cs, (Below.refl _ W).alloc (Nat.le_refl _) _⟩
theorem small_wrap (n : Nat) (h : n < 256) : IntKind.i64.wrap (n : Int) = (n : Int) := IntWalk.i64_in _ ⟨by omega, by omega⟩
theorem below_next {n : Nat} {w W V : World} {p : Prop} (hn : n ≤ w.heap.size) (h : Below n w W ∧ p) (hb : Below W.heap.size W V) : Below n w V := h.1.trans (hb.mono (Nat.le_trans hn h.1.size))
set_option maxRecDepth 100000 in
set_option maxHeartbeats 4000000 in
theorem secrets_short (A : Option Addr) (c : Nat) (l : List Int) (nb ib kb : Nat) (hnb : nb < 256) (hib : ib < 256) (hkb : kb < 256) (w : World) (hT : TabOk w) (hs : Kd.C (Kd.int .u8) w A l.length l) (hc : l.length ≤ c) (ob : byteOk l = true) (h32 : l.length ≠ 32) :
    Calls Tryd.prog 8 #[.agg #[.slice A l.length c, .int .u8 (nb : Int), .int .u8 (ib : Int), .int .u8 (kb : Int)]] w fun e w' => e = .returned (.bool true) ∧ Below w.heap.size w w' := by
  have d0 : ((l.length : Int) != 32) = true := by simp; omega
  obtain ⟨K, hK⟩ : ∃ K, nb % 5 = K := ⟨_, rfl⟩
  have hK6 : K < 6 := by omega
  have hk6 : (nb : Int) % 5 = (K : Int) := by omega
  have hk5 := small_wrap nb hnb
  have HH := Lib.hid (And.intro hc (And.intro h32 (And.intro ob (And.intro hK6 (And.intro hib hkb)))))
  have H0 := Lib.hid (And.intro (hT) (And.intro (hs) (Below.refl w.heap.size w)))
  clear hT hs hc h32 ob hK hK6 hnb hib hkb
  go_enter Tryd.func8, Tryd.ntmps8
  go_upto_region 1 with fail
  obtain ⟨r1_, r3_⟩ := one_box w #[.slice A l.length c, .int .u8 (nb : Int), .int .u8 (ib : Int), .int .u8 (kb : Int)] 58
  have H1 := Lib.hid (And.intro ((H0.out.1).below r3_ (H0.out.1).1) (And.intro (Kd.C_below (H0.out.2.1) r3_) (And.intro (r1_) ((H0.out.2.2).trans (r3_.mono (H0.out.2.2).size)))))
  clear H0
  generalize (w.alloc (Obj.cells #[.slice A l.length c, .int .u8 (nb : Int), .int .u8 (ib : Int), .int .u8 (kb : Int)] 58)) = W1 at *
  clear r1_ r3_
  have p_0 : W1.cell? ⟨w.heap.size, 0, none⟩ = some (.slice A l.length c) := (H1.out.2.2.1).cell 0
  have p_1 : W1.cell? ⟨w.heap.size, 1, none⟩ = some (.int .u8 (nb : Int)) := (H1.out.2.2.1).cell 1
  have p_2 : W1.cell? ⟨w.heap.size, 2, none⟩ = some (.int .u8 (ib : Int)) := (H1.out.2.2.1).cell 2
  have p_3 : W1.cell? ⟨w.heap.size, 3, none⟩ = some (.int .u8 (kb : Int)) := (H1.out.2.2.1).cell 3
  go_wp2_with fail
  clear p_0 p_1 p_2 p_3
  refine (shown13_calls W1 (H1.out.1)).mono ?_
  rintro e W2 ⟨rfl, hb_⟩
  have H2 := Lib.hid (And.intro ((H1.out.1).below hb_ (H1.out.1).1) (And.intro (Kd.C_below (H1.out.2.1) hb_) (And.intro ((H1.out.2.2.1).below hb_ (H1.out.2.2.1).lt) ((H1.out.2.2.2).trans (hb_.mono (H1.out.2.2.2).size)))))
  clear H1
  clear hb_
  go_wp2
  go_loop [8, 9] (fun n j => ∃ k : Nat, k ≤ K ∧ j = .int .i64 (k : Int) ∧ n = .int .i64 ((2 ^ k : Nat) : Int)) (fun _ j => K - (intOf j).toNat)
  case atStart => exact ⟨0, Nat.zero_le _, rfl, rfl⟩
  case round =>
    obtain ⟨k, hk, rfl, rfl⟩ := hrel
    have hK6 := HH.out.2.2.2.1
    by_cases hlt : k < K
    · have p2 : (2 : Nat) ^ (k + 1) = 2 * 2 ^ k := by rw [Nat.pow_succ, Nat.mul_comm]
      have p3 : 2 ^ k ≤ 64 := Nat.le_trans (Nat.pow_le_pow_right (by decide) (show k ≤ 6 by omega)) (by decide)
      have d1 : decide ((k : Int) < (K : Int)) = true := by simp; exact hlt
      have w1 : wrap64 (2 * ((2 ^ k : Nat) : Int)) = ((2 ^ (k + 1) : Nat) : Int) := by rw [p2]; generalize 2 ^ k = q at *; unfold wrap64; omega
      have w2 : wrap64 ((k : Int) + 1) = ((k + 1 : Nat) : Int) := by unfold wrap64; omega
      have HW := Lib.hid (And.intro w1 w2)
      clear w1 w2 p2 p3
      generalize ((2 ^ k : Nat) : Int) = q at *
      go_wp2
      rw [HW.out.1]
      exact ⟨⟨k + 1, by omega, by go_num, rfl⟩, by simp [intOf]; omega⟩
    · obtain rfl : k = K := by omega
      have d1 : decide ((k : Int) < (k : Int)) = false := by simp
      go_wp2
      go_ret
      exact ⟨rfl, H2.out.2.2.2⟩
set_option maxRecDepth 100000 in
set_option maxHeartbeats 4000000 in
theorem secrets_main (A : Option Addr) (c : Nat) (l : List Int) (nb ib kb : Nat) (hnb : nb < 256) (hib : ib < 256) (hkb : kb < 256) (w : World) (hT : TabOk w) (hs : Kd.C (Kd.int .u8) w A l.length l) (hc : l.length ≤ c) (ob : byteOk l = true) (h32 : l.length = 32) :
    Calls Tryd.prog 8 #[.agg #[.slice A l.length c, .int .u8 (nb : Int), .int .u8 (ib : Int), .int .u8 (kb : Int)]] w fun e w' => e = .returned (.bool true) ∧ Below w.heap.size w w' := by
  have d0 : ((l.length : Int) != 32) = false := by rw [h32]; rfl
  obtain ⟨K, hK⟩ : ∃ K, nb % 5 = K := ⟨_, rfl⟩
  have hK6 : K < 6 := by omega
  have hk6 : (nb : Int) % 5 = (K : Int) := by omega
  have hk5 := small_wrap nb hnb
  have HH := Lib.hid (And.intro hc (And.intro h32 (And.intro ob (And.intro hK6 (And.intro hib hkb)))))
  have H0 := Lib.hid (And.intro (hT) (And.intro (hs) (Below.refl w.heap.size w)))
  clear hT hs hc h32 ob hK hK6 hnb hib hkb
  go_enter Tryd.func8, Tryd.ntmps8
  go_upto_region 1 with fail
  obtain ⟨r1_, r3_⟩ := one_box w #[.slice A l.length c, .int .u8 (nb : Int), .int .u8 (ib : Int), .int .u8 (kb : Int)] 58
  have H1 := Lib.hid (And.intro ((H0.out.1).below r3_ (H0.out.1).1) (And.intro (Kd.C_below (H0.out.2.1) r3_) (And.intro (r1_) ((H0.out.2.2).trans (r3_.mono (H0.out.2.2).size)))))
  clear H0
  generalize (w.alloc (Obj.cells #[.slice A l.length c, .int .u8 (nb : Int), .int .u8 (ib : Int), .int .u8 (kb : Int)] 58)) = W1 at *
  clear r1_ r3_
  have p_0 : W1.cell? ⟨w.heap.size, 0, none⟩ = some (.slice A l.length c) := (H1.out.2.2.1).cell 0
  have p_1 : W1.cell? ⟨w.heap.size, 1, none⟩ = some (.int .u8 (nb : Int)) := (H1.out.2.2.1).cell 1
  have p_2 : W1.cell? ⟨w.heap.size, 2, none⟩ = some (.int .u8 (ib : Int)) := (H1.out.2.2.1).cell 2
  have p_3 : W1.cell? ⟨w.heap.size, 3, none⟩ = some (.int .u8 (kb : Int)) := (H1.out.2.2.1).cell 3
  go_wp2_with fail
  clear p_0 p_1 p_2 p_3
  refine (shown13_calls W1 (H1.out.1)).mono ?_
  rintro e W2 ⟨rfl, hb_⟩
  have H2 := Lib.hid (And.intro ((H1.out.1).below hb_ (H1.out.1).1) (And.intro (Kd.C_below (H1.out.2.1) hb_) (And.intro ((H1.out.2.2.1).below hb_ (H1.out.2.2.1).lt) ((H1.out.2.2.2).trans (hb_.mono (H1.out.2.2.2).size)))))
  clear H1
  clear hb_
  go_wp2
  go_loop [8, 9] (fun n j => ∃ k : Nat, k ≤ K ∧ j = .int .i64 (k : Int) ∧ n = .int .i64 ((2 ^ k : Nat) : Int)) (fun _ j => K - (intOf j).toNat)
  case atStart => exact ⟨0, Nat.zero_le _, rfl, rfl⟩
  case round =>
    obtain ⟨k, hk, rfl, rfl⟩ := hrel
    have hK6 := HH.out.2.2.2.1
    by_cases hlt : k < K
    · have p2 : (2 : Nat) ^ (k + 1) = 2 * 2 ^ k := by rw [Nat.pow_succ, Nat.mul_comm]
      have p3 : 2 ^ k ≤ 64 := Nat.le_trans (Nat.pow_le_pow_right (by decide) (show k ≤ 6 by omega)) (by decide)
      have d1 : decide ((k : Int) < (K : Int)) = true := by simp; exact hlt
      have w1 : wrap64 (2 * ((2 ^ k : Nat) : Int)) = ((2 ^ (k + 1) : Nat) : Int) := by rw [p2]; generalize 2 ^ k = q at *; unfold wrap64; omega
      have w2 : wrap64 ((k : Int) + 1) = ((k + 1 : Nat) : Int) := by unfold wrap64; omega
      have HW := Lib.hid (And.intro w1 w2)
      clear w1 w2 p2 p3
      generalize ((2 ^ k : Nat) : Int) = q at *
      go_wp2
      rw [HW.out.1]
      exact ⟨⟨k + 1, by omega, by go_num, rfl⟩, by simp [intOf]; omega⟩
    · obtain rfl : k = K := by omega
      have d1 : decide ((k : Int) < (k : Int)) = false := by simp
      obtain ⟨q, hq⟩ : ∃ q, 2 ^ k = q := ⟨_, rfl⟩
      have q0 : 0 < q := by rw [← hq]; exact Nat.two_pow_pos k
      have q1 : q ≤ 64 := by rw [← hq]; exact Nat.le_trans (Nat.pow_le_pow_right (by decide) (show k ≤ 6 by omega)) (by decide)
      obtain ⟨I, hI⟩ : ∃ I, ib % q = I := ⟨_, rfl⟩
      have hIq : I < q := by rw [← hI]; exact Nat.mod_lt _ q0
      have m1 : (ib : Int) % (q : Int) = (I : Int) := by rw [← hI]; rfl
      have hi5 := small_wrap ib HH.out.2.2.2.2.1
      have z0 : ((q : Int) == 0) = false := by simp; omega
      have HQ := Lib.hid (And.intro hq (And.intro q0 (And.intro q1 hIq)))
      rw [hq]
      clear hq hI hIq hlt hk
      go_wp2_with fail
      refine (start_calls A c l k I q I (by rw [HQ.out.1]) rfl W2 (H2.out.1) (by have := HH.out.2.2.2.1; omega) (by rw [HQ.out.1]; exact HQ.out.2.2.2) HH.out.2.1 HH.out.2.2.1 (H2.out.2.1) HH.out.1).mono ?_
      rintro e W3 ⟨A2, c2, rfl, q1_, q2_, hb_⟩
      have H3 := Lib.hid (And.intro ((H2.out.1).below hb_ (H2.out.1).1) (And.intro (Kd.C_below (H2.out.2.1) hb_) (And.intro ((H2.out.2.2.1).below hb_ (H2.out.2.2.1).lt) (And.intro (q2_) ((H2.out.2.2.2).trans (hb_.mono (H2.out.2.2.2).size))))))
      clear H2
      clear hb_
      have HC := Lib.hid q1_
      clear q1_ q2_ q0 q1 d1 m1 z0 hi5 hk6
      have HG := Lib.hid (And.intro (leafS_length l k I) (byteOk_leafS l k I))
      generalize leafS l k I = G at *
      have g32 : ((G.length : Int) != 32) = false := by rw [HG.out.1]; rfl
      go_upto_region 14 with fail
      have hgs := (H3.out.2.2.2.2).size
      obtain ⟨r1_, r3_⟩ := one_box W3 #[.int .i64 0, .slice A2 G.length c2, .slice none 0 0] 25
      have H4 := Lib.hid (And.intro ((H3.out.1).below r3_ (H3.out.1).1) (And.intro (Kd.C_below (H3.out.2.1) r3_) (And.intro ((H3.out.2.2.1).below r3_ (H3.out.2.2.1).lt) (And.intro (Kd.C_below (H3.out.2.2.2.1) r3_) (And.intro (r1_) ((H3.out.2.2.2.2).trans (r3_.mono (H3.out.2.2.2.2).size)))))))
      clear H3
      generalize (W3.alloc (Obj.cells #[.int .i64 0, .slice A2 G.length c2, .slice none 0 0] 25)) = W4 at *
      obtain ⟨g4, hg4⟩ : ∃ g, W3.heap.size = g := ⟨_, rfl⟩
      rw [hg4] at H4 hgs ⊢
      clear hg4 r1_ r3_
      have HGS := Lib.hid hgs
      clear hgs
      have c_0 : W4.cell? ⟨g4, 0, none⟩ = some (.int .i64 0) := (H4.out.2.2.2.2.1).cell 0
      have c_1 : W4.cell? ⟨g4, 1, none⟩ = some (.slice A2 G.length c2) := (H4.out.2.2.2.2.1).cell 1
      have c_2 : W4.cell? ⟨g4, 2, none⟩ = some (.slice none 0 0) := (H4.out.2.2.2.2.1).cell 2
      go_upto_region 16 with fail
      clear c_0 c_1 c_2 g32
      clear d0
      obtain ⟨K2, hK2⟩ : ∃ K2, kb % 20 = K2 := ⟨_, rfl⟩
      have hk20 : (kb : Int) % 20 = (K2 : Int) := by omega
      have hkb5 := small_wrap kb HH.out.2.2.2.2.2
      have hK20 : K2 < 20 := by omega
      have HK2 := Lib.hid hK20
      clear hK2 hK20
      go_wp2_with fail
      go_loopw [12] (fun vj wr => ∃ (j : Nat) (S : List Int) (B1 : Option Addr) (e1 : Nat) (B2 : Option Addr) (e2 : Nat), vj = .int .i64 (j : Int) ∧ j ≤ K2 ∧ Hid (S.length = 32 ∧ byteOk S = true ∧ S.length ≤ e1 ∧ Kd.C (Kd.int .u8) wr B1 S.length S ∧ Kd.C R.k43 wr B2 0 [] ∧ Blk wr g4 25 #[.int .i64 (j : Int), .slice B1 S.length e1, .slice B2 0 e2] ∧ Below w.heap.size w wr)) (fun vj _ => K2 - (intOf vj).toNat)
      case atStart => exact ⟨0, G, A2, c2, none, 0, rfl, Nat.zero_le _, Lib.hid ⟨HG.out.1, HG.out.2, HC.out, H4.out.2.2.2.1, Kd.C_nil _ _, H4.out.2.2.2.2.1, H4.out.2.2.2.2.2⟩⟩
      case round =>
        obtain ⟨j, S, B1, e1, B2, e2, rfl, hj, HS⟩ := hrel
        by_cases hlt : j < K2
        · have d1 : decide ((j : Int) < (K2 : Int)) = true := by rw [decide_eq_true_eq]; omega
          have hj9 : j < 1000 := by have := HK2.out; omega
          have hw : IntKind.i64.wrap ((j : Int) + 1) = (j : Int) + 1 := IntWalk.i64_in _ ⟨by omega, by omega⟩
          have ht := takeF_nil j S (by omega) HS.out.1 HS.out.2.1
          have hnx := refNext_some S j (by omega) HS.out.1 HS.out.2.1
          have hlk := refLock_some S j (by omega) HS.out.1 HS.out.2.1
          have hlo : lockOk (lockS S j) := ⟨byteOk_labelOf _ _ _ _, byteOk_labelOf _ _ _ _⟩
          have hl0 : (lockS S j).f0 = (j : Int) := rfl
          have hT32 := nextS_length S j
          have hTo := byteOk_nextS S j
          generalize nextS S j = T at *
          generalize lockS S j = LK at *
          have HT := Lib.hid (And.intro ht (And.intro hnx (And.intro hlk (And.intro hlo (And.intro hl0 (And.intro hT32 (And.intro hTo hw)))))))
          clear ht hnx hlk hlo hl0 hT32 hTo hw hj
          have J0 := Lib.hid (And.intro (HS.out.2.2.2.1) (And.intro (HS.out.2.2.2.2.1) (And.intro (HS.out.2.2.2.2.2.1) (Below.refl wr.heap.size wr))))
          have c_0 : wr.cell? ⟨g4, 0, none⟩ = some (.int .i64 (j : Int)) := (J0.out.2.2.1).cell 0
          have c_1 : wr.cell? ⟨g4, 1, none⟩ = some (.slice B1 S.length e1) := (J0.out.2.2.1).cell 1
          have c_2 : wr.cell? ⟨g4, 2, none⟩ = some (.slice B2 0 e2) := (J0.out.2.2.1).cell 2
          go_wp2_with fail
          clear c_0 c_1 c_2
          refine (take_any j (j : Int) (j : Int) rfl B1 S e1 B2 [] e2 wr (j + 1) ((j : Int) + 1) T [] LK 0 HT.out.1 (by omega) (good_nil (by omega) HS.out.1 HS.out.2.1) (J0.out.1) HS.out.2.2.1 (J0.out.2.1) (Nat.zero_le _)).mono ?_
          rintro e W1 ⟨D1, f1, D2, f2, Ak, ck, An, cn, rfl, q1_, q2_, q3_, q4_, q5_, q6_, q7_, q8_, hb_⟩
          have J1 := Lib.hid (And.intro (Kd.C_below (J0.out.1) hb_) (And.intro (Kd.C_below (J0.out.2.1) hb_) (And.intro ((J0.out.2.2.1).below hb_ (J0.out.2.2.1).lt) (And.intro (q2_) (And.intro (q4_) (And.intro (q6_) (And.intro (q8_) ((J0.out.2.2.2).trans (hb_.mono (J0.out.2.2.2).size)))))))))
          clear J0
          clear hb_
          have HQ2 := Lib.hid (And.intro q1_ (And.intro q5_ q7_))
          clear q1_ q2_ q3_ q4_ q5_ q6_ q7_ q8_
          rw [HT.out.2.2.2.2.1]
          go_upto_region 20 with fail
          obtain ⟨r1_, r2_, r3_, r4_⟩ := two_boxes W1 #[.int .i64 ((j : Int) + 1), .slice D1 T.length f1, .slice D2 0 f2] #[.int .i64 (j : Int), .slice Ak LK.f1.length ck, .slice An LK.f2.length cn] 25 43
          have J2 := Lib.hid (And.intro (Kd.C_below (J1.out.1) r3_) (And.intro (Kd.C_below (J1.out.2.1) r3_) (And.intro ((J1.out.2.2.1).below r3_ (J1.out.2.2.1).lt) (And.intro (Kd.C_below (J1.out.2.2.2.1) r3_) (And.intro (Kd.C_below (J1.out.2.2.2.2.1) r3_) (And.intro (Kd.C_below (J1.out.2.2.2.2.2.1) r3_) (And.intro (Kd.C_below (J1.out.2.2.2.2.2.2.1) r3_) (And.intro (r1_) (And.intro (r2_) ((J1.out.2.2.2.2.2.2.2).trans (r3_.mono (J1.out.2.2.2.2.2.2.2).size)))))))))))
          clear J1
          generalize ((W1.alloc (Obj.cells #[.int .i64 ((j : Int) + 1), .slice D1 T.length f1, .slice D2 0 f2] 25)).alloc (Obj.cells #[.int .i64 (j : Int), .slice Ak LK.f1.length ck, .slice An LK.f2.length cn] 43)) = W2 at *
          obtain ⟨g2, hg2⟩ : ∃ g, W1.heap.size = g := ⟨_, rfl⟩
          rw [hg2] at J2 ⊢
          clear hg2 r1_ r3_ r2_ r4_
          have HA1 := Lib.hid (fun (W : World) (hW : Below W2.heap.size W2 W) => R.pyxref13_Next.calls B1 e1 S (j : Int) T W (Kd.C_below (J2.out.1) hW) HS.out.2.2.1 HT.out.2.1)
          have HA2 := Lib.hid (fun (W : World) (hW : Below W2.heap.size W2 W) => R.pyxref13_Lock.calls B1 e1 S (j : Int) (j : Int) LK.f1 LK.f2 W (Kd.C_below (J2.out.1) hW) HS.out.2.2.1 HT.out.2.2.1)
          have HA3 := Lib.hid (fun (W : World) (A1 A2 : Option Addr) (x1 x2 : Nat) (hW : Below W2.heap.size W2 W) (hl1 : LK.f1.length ≤ x1) (hC1 : Kd.C (Kd.int .u8) W A1 LK.f1.length LK.f1) (hl2 : LK.f2.length ≤ x2) (hC2 : Kd.C (Kd.int .u8) W A2 LK.f2.length LK.f2) => R.pyxref13_SameLock.calls (j : Int) Ak ck LK.f1 An cn LK.f2 (j : Int) A1 x1 LK.f1 A2 x2 LK.f2 true W (Kd.C_below (J2.out.2.2.2.2.2.1) hW) HQ2.out.2.1 (Kd.C_below (J2.out.2.2.2.2.2.2.1) hW) HQ2.out.2.2 hC1 hl1 hC2 hl2 (by have h := sameL_ref LK LK HT.out.2.2.2.1 HT.out.2.2.2.1; rw [HT.out.2.2.2.2.1] at h; rw [h, (sameK_eq LK LK).2 rfl]))
          have HST := Lib.hid (fun (W : World) (hW : Below W2.heap.size W2 W) => (Kd.C_string (P := Tryd.prog) (src := 22) (dst := 9) (e := 5) (c := f1) Tryd.underlying22 Tryd.underlying5 Tryd.underlying9 (Kd.C_below (J2.out.2.2.2.1) hW)))
          have HK := Lib.hid (show ∀ W : World, Below W2.heap.size W2 W → (fun (W : World) => Below W2.heap.size W2 W ∧ (Go.convert 22 9 (.slice D1 T.length f1)).run Tryd.prog W = Result.ok (.string (strOfNums T)) W ∧ W.cell? ⟨g2, 0, none⟩ = some (.int .i64 ((j : Int) + 1)) ∧ W.cell? ⟨g2, 1, none⟩ = some (.slice D1 T.length f1) ∧ W.cell? ⟨g2, 2, none⟩ = some (.slice D2 0 f2) ∧ W.cell? ⟨g2 + 1, 0, none⟩ = some (.int .i64 (j : Int)) ∧ W.cell? ⟨g2 + 1, 1, none⟩ = some (.slice Ak LK.f1.length ck) ∧ W.cell? ⟨g2 + 1, 2, none⟩ = some (.slice An LK.f2.length cn) ∧ W.cell? ⟨g4, 0, none⟩ = some (.int .i64 (j : Int)) ∧ W.cell? ⟨g4, 1, none⟩ = some (.slice B1 S.length e1) ∧ W.cell? ⟨g4, 2, none⟩ = some (.slice B2 0 e2)) W from fun W hW => ⟨hW, HST.out W hW, ((J2.out.2.2.2.2.2.2.2.1).below hW (J2.out.2.2.2.2.2.2.2.1).lt).cell 0, ((J2.out.2.2.2.2.2.2.2.1).below hW (J2.out.2.2.2.2.2.2.2.1).lt).cell 1, ((J2.out.2.2.2.2.2.2.2.1).below hW (J2.out.2.2.2.2.2.2.2.1).lt).cell 2, ((J2.out.2.2.2.2.2.2.2.2.1).below hW (J2.out.2.2.2.2.2.2.2.2.1).lt).cell 0, ((J2.out.2.2.2.2.2.2.2.2.1).below hW (J2.out.2.2.2.2.2.2.2.2.1).lt).cell 1, ((J2.out.2.2.2.2.2.2.2.2.1).below hW (J2.out.2.2.2.2.2.2.2.2.1).lt).cell 2, ((J2.out.2.2.1).below hW (J2.out.2.2.1).lt).cell 0, ((J2.out.2.2.1).below hW (J2.out.2.2.1).lt).cell 1, ((J2.out.2.2.1).below hW (J2.out.2.2.1).lt).cell 2⟩)
          have HB0 := Lib.hid (show Below W2.heap.size W2 W2.drew from (Below.refl _ _).drew)
          have hw := HT.out.2.2.2.2.2.2.2
          change Code.wp _ (Code.region _ _ _) _ _ _
          refine wp_region_noPanic ?_
          go_region_held (fun (W : World) => Below W2.heap.size W2 W ∧ (Go.convert 22 9 (.slice D1 T.length f1)).run Tryd.prog W = Result.ok (.string (strOfNums T)) W ∧ W.cell? ⟨g2, 0, none⟩ = some (.int .i64 ((j : Int) + 1)) ∧ W.cell? ⟨g2, 1, none⟩ = some (.slice D1 T.length f1) ∧ W.cell? ⟨g2, 2, none⟩ = some (.slice D2 0 f2) ∧ W.cell? ⟨g2 + 1, 0, none⟩ = some (.int .i64 (j : Int)) ∧ W.cell? ⟨g2 + 1, 1, none⟩ = some (.slice Ak LK.f1.length ck) ∧ W.cell? ⟨g2 + 1, 2, none⟩ = some (.slice An LK.f2.length cn) ∧ W.cell? ⟨g4, 0, none⟩ = some (.int .i64 (j : Int)) ∧ W.cell? ⟨g4, 1, none⟩ = some (.slice B1 S.length e1) ∧ W.cell? ⟨g4, 2, none⟩ = some (.slice B2 0 e2)) (first | exact HK.out _ HB0.out | exact HK.out _ (by assumption)) ((first | (go_at_call 26; refine (HA1.out _ (And.left (by assumption))).mono ?_; rintro e W_ ⟨v_, rfl, hR_, hb0_⟩; obtain ⟨A5, c5, rfl, l5_, C5_⟩ := Kd.R_reads hR_; have cv_ := Kd.C_string (P := Tryd.prog) (src := 22) (dst := 9) (e := 5) (c := c5) Tryd.underlying22 Tryd.underlying5 Tryd.underlying9 C5_; have hb_ : Below W2.heap.size W2 W_ := below_next (Nat.le_refl _) (by assumption) hb0_) | (go_at_call 27; refine (HA2.out _ (And.left (by assumption))).mono ?_; rintro e W_ ⟨v1_, v2_, rfl, hR1_, hR2_, hb0_⟩; obtain ⟨A6, c6, rfl, l6_, C6_⟩ := Kd.R_reads hR1_; obtain ⟨A7, c7, rfl, l7_, C7_⟩ := Kd.R_reads hR2_; have hb_ : Below W2.heap.size W2 W_ := below_next (Nat.le_refl _) (by assumption) hb0_) | (go_at_call 23; refine (HA3.out _ _ _ _ _ (And.left (by assumption)) l6_ C6_ l7_ C7_).mono ?_; rintro e W_ ⟨rfl, hb0_⟩; have hb_ : Below W2.heap.size W2 W_ := below_next (Nat.le_refl _) (by assumption) hb0_)))
          refine NoPanic.normal ?_
          have hB_ := (J2.out.2.2.2.2.2.2.2.2.2).trans (hb_.mono (J2.out.2.2.2.2.2.2.2.2.2).size)
          have bc := (J2.out.2.2.1).below hb_ (J2.out.2.2.1).lt
          have bd := (J2.out.2.2.2.2.2.2.2.1).below hb_ (J2.out.2.2.2.2.2.2.2.1).lt
          have CT := Kd.C_below (J2.out.2.2.2.1) hb_
          have x0 : W_.frozen? ⟨g4, 0, none⟩ = false := bc.frozen 0
          have y0 : W_.cell? ⟨g4, 0, none⟩ = some (.int .i64 (j : Int)) := bc.cell 0
          have z0 : W_.cell? ⟨g2, 0, none⟩ = some (.int .i64 ((j : Int) + 1)) := bd.cell 0
          have x1 : W_.frozen? ⟨g4, 1, none⟩ = false := bc.frozen 1
          have y1 : W_.cell? ⟨g4, 1, none⟩ = some (.slice B1 S.length e1) := bc.cell 1
          have z1 : W_.cell? ⟨g2, 1, none⟩ = some (.slice D1 T.length f1) := bd.cell 1
          have x2 : W_.frozen? ⟨g4, 2, none⟩ = false := bc.frozen 2
          have y2 : W_.cell? ⟨g4, 2, none⟩ = some (.slice B2 0 e2) := bc.cell 2
          have z2 : W_.cell? ⟨g2, 2, none⟩ = some (.slice D2 0 f2) := bd.cell 2
          have HE := Lib.hid (And.intro bc (And.intro CT hB_))
          clear bc bd CT hB_
          go_wp2
          refine ⟨⟨j + 1, T, D1, f1, D2, f2, by go_num, by omega, Lib.hid ⟨HT.out.2.2.2.2.2.1, HT.out.2.2.2.2.2.2.1, HQ2.out.1, C_sub HE.out.2.1 (fun h0 a ha => heap_set3 _ _ _ _ _ _ (by subst ha; exact C_apart HE.out.2.1 h0 HE.out.1 (by intro x; simp))), ⟨rfl, by decide, fun h => absurd h (by decide)⟩, ((HE.out.1.set_ 0 _).set_ 1 _).set_ 2 _, (((HS.out.2.2.2.2.2.2.trans (HE.out.2.2.mono HS.out.2.2.2.2.2.2.size)).setCell HGS.out _).setCell HGS.out _).setCell HGS.out _⟩⟩, ?_⟩
          simp [intOf]
          omega
        · obtain rfl : j = K2 := by omega
          have d1 : decide ((j : Int) < (j : Int)) = false := by simp
          have E0 := Lib.hid (And.intro (HS.out.2.2.2.1) (And.intro (HS.out.2.2.2.2.1) (And.intro (HS.out.2.2.2.2.2.1) (Below.refl wr.heap.size wr))))
          have c_0 : wr.cell? ⟨g4, 0, none⟩ = some (.int .i64 (j : Int)) := (E0.out.2.2.1).cell 0
          have c_1 : wr.cell? ⟨g4, 1, none⟩ = some (.slice B1 S.length e1) := (E0.out.2.2.1).cell 1
          have c_2 : wr.cell? ⟨g4, 2, none⟩ = some (.slice B2 0 e2) := (E0.out.2.2.1).cell 2
          go_wp2_with fail
          clear c_0 c_1 c_2
          refine (R.pyxref13_Right.calls 40 (j : Int) B1 e1 S B2 e2 [] true wr (E0.out.1) HS.out.2.2.1 (E0.out.2.1) (Nat.zero_le _) (by rw [refRight_some _ _ _ 40 (by decide)]; exact congrArg some (good_right (good_nil (n := j) (by have := HK2.out; omega) HS.out.1 HS.out.2.1)))).mono ?_
          rintro e W1 ⟨rfl, hb_⟩
          have E1 := Lib.hid (And.intro (Kd.C_below (E0.out.1) hb_) (And.intro (Kd.C_below (E0.out.2.1) hb_) (And.intro ((E0.out.2.2.1).below hb_ (E0.out.2.2.1).lt) ((E0.out.2.2.2).trans (hb_.mono (E0.out.2.2.2).size)))))
          clear E0
          clear hb_
          go_wp2
          go_ret
          exact ⟨rfl, HS.out.2.2.2.2.2.2.trans ((E1.out.2.2.2).mono HS.out.2.2.2.2.2.2.size)⟩
theorem secrets_calls (A : Option Addr) (c : Nat) (l : List Int) (nb ib kb : Nat) (hnb : nb < 256) (hib : ib < 256) (hkb : kb < 256) (w : World) (hT : TabOk w) (hs : Kd.C (Kd.int .u8) w A l.length l) (hc : l.length ≤ c) (ob : byteOk l = true) :
    Calls Tryd.prog 8 #[.agg #[.slice A l.length c, .int .u8 (nb : Int), .int .u8 (ib : Int), .int .u8 (kb : Int)]] w fun e w' => e = .returned (.bool true) ∧ Below w.heap.size w w' := by
  by_cases h32 : l.length = 32
  · exact secrets_main A c l nb ib kb hnb hib hkb w hT hs hc ob h32
  · exact secrets_short A c l nb ib kb hnb hib hkb w hT hs hc ob h32
end Go.Proofs.YtdklmafkcbjomaaDoor
