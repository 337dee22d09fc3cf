/-
  Walk: pyxlaw03.MacKeys, and its plain facts.
-/
import Derived.Test.YtamaokokbajlgaaMacC
namespace Go.Proofs.Ytamaokokbajlgaa
set_option linter.unusedVariables false
set_option linter.unusedSimpArgs false
open Go.RowKit Go.Proofs.Ytamaokokbajlgaa.L Go.Proofs.YtamaokokbajlgaaW.PrintWords Go.Proofs.YtamaokokbajlgaaW.PrintLast Go.Proofs.YtamaokokbajlgaaW.PrintMore

theorem macKey_take (l : List Int) : (macKey l).take (ownKey l).length = ownKey l := by
  unfold macKey
  rw [List.take_append_of_le_length (Nat.le_refl _), List.take_of_length_le (Nat.le_refl _)]
theorem ownKey_short (l : List Int) (h : l.length ≤ 64) : ownKey l = l := by unfold ownKey; rw [if_neg (by omega)]
theorem macKey_self (l : List Int) : macKey (macKey l) = macKey l := by
  have h := macKey_length l
  generalize macKey l = k at *
  unfold macKey
  rw [ownKey_short k (by omega), h]
  simp
theorem macKey_more (l : List Int) (h : l.length ≤ 63) : macKey (l ++ [0]) = macKey l := by
  unfold macKey
  rw [ownKey_short _ (by simp; omega), ownKey_short l (by omega), List.append_assoc]
  congr 1
  rw [List.length_append, List.length_singleton, show 64 - l.length = (64 - (l.length + 1)) + 1 by omega, List.replicate_succ]
  rfl
theorem macSum_self (l b : List Int) : macSum (macKey l) b = macSum l b := by unfold macSum; rw [macKey_self]
theorem macSum_more (l b : List Int) (h : l.length ≤ 63) : macSum (l ++ [0]) b = macSum l b := by unfold macSum; rw [macKey_more l h]
theorem macKey_zero (l : List Int) (i : Nat) (h : (ownKey l).length ≤ i) : rd (macKey l) (i : Int) = 0 := by
  unfold rd macKey
  rw [Int.toNat_natCast, List.getD_eq_getElem?_getD, List.getElem?_append_right h, List.getElem?_replicate]
  split <;> rfl

set_option maxRecDepth 100000 in
set_option maxHeartbeats 4000000 in
theorem macKeys_big (A0 : Option Addr) (c0 : Nat) (l0 : List Int) (A1 : Option Addr) (c1 : Nat) (l1 : List Int) (w : World) (hr0 : Kd.C (Kd.int .u8) w A0 l0.length l0) (hc0 : l0.length ≤ c0) (hr1 : Kd.C (Kd.int .u8) w A1 l1.length l1) (hc1 : l1.length ≤ c1) (o0 : byteOk l0 = true) (o1 : byteOk l1 = true) (g0 : ¬ 300 < l0.length) (g1 : ¬ 300 < l1.length) (g2 : 64 < l0.length) :
    Calls Try.prog 10 #[.slice A0 l0.length c0, .slice A1 l1.length c1] w fun e w' => e = .returned (.bool true) ∧ Below w.heap.size w w' := by
  have d0 : decide (300 < (l0.length : Int)) = false := by rw [decide_eq_false_iff_not]; omega
  have d1 : decide (300 < (l1.length : Int)) = false := by rw [decide_eq_false_iff_not]; omega
  have hkl := macKey_length l0
  have okk := byteOk_macKey l0 o0
  have hol := ownKey_length l0
  have ook := byteOk_ownKey l0 o0
  have hkt := macKey_take l0
  have hks := macKey_self l0
  have hkz := macKey_zero l0
  have hsf := macSum_self l0 l1
  have hk1 : P.mac_Key.f l0 = some (macKey l0) := by unfold P.mac_Key.f; rw [if_pos ⟨o0, by omega⟩]
  have hs1 : P.mac_Sum.f l0 l1 = some (macSum l0 l1) := by unfold P.mac_Sum.f; rw [if_pos ⟨o0, o1, by omega, by omega⟩]
  have hs2 : P.mac_Sum.f (macKey l0) l1 = some (macSum l0 l1) := by unfold P.mac_Sum.f; rw [if_pos ⟨okk, o1, by omega, by omega⟩, hsf]
  have hk2 : P.mac_Key.f (macKey l0) = some (macKey l0) := by unfold P.mac_Key.f; rw [if_pos ⟨okk, by omega⟩, hks]
  have htl := macSum_length l0 l1
  have otg := byteOk_macSum l0 l1
  have hmore : l0.length ≤ 63 → P.mac_Sum.f (l0 ++ [0]) l1 = some (macSum l0 l1) := fun h => by
    unfold P.mac_Sum.f
    rw [if_pos ⟨(byteOk_append _ _).2 ⟨o0, by decide⟩, o1, by simp; omega, by omega⟩, macSum_more l0 l1 h]
  have esame : ∀ x, byteOk x = true → P.pyxref01_Same.f x x = some true := fun x hx => by unfold P.pyxref01_Same.f; rw [if_pos ⟨hx, hx⟩, beq_self_eq_true]
  generalize macSum l0 l1 = tg at *
  generalize macKey l0 = km at *
  obtain ⟨own, hown⟩ : ∃ x, ownKey l0 = x := ⟨_, rfl⟩
  rw [hown] at hol ook hkt hkz
  have Hown := Lib.hid hown
  have HE := Lib.hid (And.intro hkt (And.intro hks (And.intro hkz (And.intro hk1 (And.intro hs1 (And.intro hs2 (And.intro hk2 (And.intro hmore esame))))))))
  have HL := Lib.hid (And.intro hkl (And.intro htl hol))
  have HO := Lib.hid (And.intro okk (And.intro otg (And.intro ook (And.intro o0 o1))))
  clear hkt hks hkz hk1 hs1 hs2 hk2 hsf hmore esame hkl htl hol okk otg ook o0 o1 hown
  · have d2 : decide (64 < (l0.length : Int)) = true := by rw [decide_eq_true_eq]; omega
    have hrs : P.pyxref02_Sum.f l0 = some own := by
      rw [← Hown.out]
      unfold P.pyxref02_Sum.f ownKey
      rw [if_pos ⟨HO.out.2.2.2.1, by omega⟩, if_pos g2]
    have Hrs := Lib.hid hrs
    clear hrs
    go_enter Try.func10, Try.ntmps10
    go_wp2_with (first
      | (go_at_call 30; (with_reducible refine (P.pyxlaw03_shown.calls true _ rfl).mono ?_); rintro e W1 ⟨rfl, hb1⟩))
    have hC1 := Kd.C_below hr0 hb1
    have hCb := Kd.C_below hr1 hb1
    refine (P.mac_Key.calls A0 c0 l0 km _ hC1 hc0 HE.out.2.2.2.1).mono ?_
    rintro e W2 ⟨v2, rfl, hR2, hb2⟩
    obtain ⟨gk, ck, rfl, -, -, -⟩ := Kd.R_form hR2 (by have := HL.out.1; omega)
    obtain ⟨-, hck, hCk⟩ := Kd.R_reads' hR2
    have hC2 := Kd.C_below hC1 hb2
    have hCb := Kd.C_below hCb hb2
    have hb2 := hb1.trans (hb2.mono hb1.size)
    rw [HL.out.1] at hck hCk ⊢
    clear hR2 hb1 hC1
    go_wp2_with fail
    refine (P.pyxref02_Sum.calls A0 c0 l0 own _ hC2 hc0 Hrs.out).mono ?_
    rintro e W3 ⟨v3, rfl, hR3, hb3⟩
    obtain ⟨Ao, co, rfl, hlo, hO⟩ := Kd.R_reads hR3
    have hC3 := Kd.C_below hC2 hb3
    have hCb := Kd.C_below hCb hb3
    have hCk := Kd.C_below hCk hb3
    have hb3 := hb2.trans (hb3.mono hb2.size)
    clear hR3 hb2 hC2
    have b0 : (0 : Int) ≤ (own.length : Int) := by omega
    have b1 : (own.length : Int) ≤ (ck : Int) := by have := HL.out.2.2; omega
    have hCt : Kd.C (Kd.int .u8) W3 (some ⟨gk, 0, none⟩) own.length own := by
      have h := Kd.C_take (k := Kd.int .u8) (xs := km) (m := own.length) (by rw [HL.out.1]; exact hCk) (by have := HL.out.2.2; have := HL.out.1; omega)
      rw [HE.out.1] at h
      exact h
    go_wp2_with fail
    have HB := Lib.hid hb3
    refine (P.pyxref01_Same.calls (some ⟨gk, 0, none⟩) ck own Ao co own true W3 hCt (by omega) hO hlo (HE.out.2.2.2.2.2.2.2.2 own HO.out.2.2.1)).mono ?_
    rintro e w' ⟨rfl, ⟨n1, rfl⟩⟩
    have hC4 := Kd.C_drewN hC3 n1
    have hCb4 := Kd.C_drewN hCb n1
    have hCk4 := Kd.C_drewN hCk n1
    have hb4 := pw_below_drewN HB.out n1
    generalize W3.drewN n1 = W4 at *
    clear hC3 hCb hCk HB hCt hO hlo
    go_wp2_with fail
    have hcc := P.mac_Key.calls (some ⟨gk, 0, none⟩) ck km km W4 (by rw [HL.out.1]; exact hCk4) (by rw [HL.out.1]; exact hck) HE.out.2.2.2.2.2.2.1
    rw [HL.out.1] at hcc
    refine hcc.mono ?_
    clear hcc
    rintro e W5 ⟨v5, rfl, hR5, hb5⟩
    obtain ⟨A5, c5, rfl, hl5, hC5⟩ := Kd.R_reads hR5
    rw [HL.out.1] at hC5 hl5 ⊢
    have hC6 := Kd.C_below hC4 hb5
    have hCb6 := Kd.C_below hCb4 hb5
    have hCk6 := Kd.C_below hCk4 hb5
    have hb6 := hb4.trans (hb5.mono hb4.size)
    clear hR5 hb5 hC4 hCb4 hCk4 hb4
    go_wp2_with fail
    have HB := Lib.hid hb6
    have hcc := P.pyxref01_Same.calls A5 c5 km (some ⟨gk, 0, none⟩) ck km true W5 (by rw [HL.out.1]; exact hC5) (by rw [HL.out.1]; exact hl5) (by rw [HL.out.1]; exact hCk6) (by rw [HL.out.1]; exact hck) (HE.out.2.2.2.2.2.2.2.2 km HO.out.1)
    rw [HL.out.1] at hcc
    refine hcc.mono ?_
    clear hcc
    rintro e w' ⟨rfl, ⟨n2, rfl⟩⟩
    have hC7 := Kd.C_drewN hC6 n2
    have hCb7 := Kd.C_drewN hCb6 n2
    have hCk7 := Kd.C_drewN hCk6 n2
    have hb7 := pw_below_drewN HB.out n2
    generalize W5.drewN n2 = W7 at *
    clear hC6 hCb6 hCk6 HB hC5 hl5
    obtain ⟨L, hL⟩ : ∃ L, own.length = L := ⟨_, rfl⟩
    have HLn := Lib.hid hL
    have hL64 : L ≤ 64 := by have := HL.out.2.2; omega
    clear hL
    go_wp2_with fail
    go_loop [8] (fun i => ∃ k : Nat, L ≤ k ∧ k ≤ 64 ∧ i = .int .i64 k) (fun i => 64 - (intOf i).toNat)
    case atStart => exact ⟨L, Nat.le_refl _, hL64, by rw [← HLn.out]⟩
    case round =>
      obtain ⟨k, hk1, hk2, rfl⟩ := hrel
      by_cases hlt : k < 64
      · have dk : decide ((k : Int) < 64) = true := by rw [decide_eq_true_eq]; omega
        obtain ⟨a0, ea0, g0'⟩ := Kd.at_int hCk7 (k : Int) (by omega) (by omega)
        cases ea0
        rw [HE.out.2.2.1 k (by have := HLn.out; omega), Int.toNat_natCast] at g0'
        have i0 : (0 : Int) ≤ (k : Int) := by omega
        have i1 : (k : Int) < 64 := by omega
        rw [add_plain] at g0'
        go_wp2
        go_round
        case rel => exact ⟨k + 1, by omega, by omega, by go_num⟩
        case measure => simp [intOf]; omega
      · obtain rfl : k = 64 := by omega
        have dk : decide (((64 : Nat) : Int) < 64) = false := by decide
        have HB := Lib.hid hb7
        go_wp2_with fail
        refine (P.mac_Sum.calls A0 c0 l0 A1 c1 l1 tg W7 hC7 hc0 hCb7 hc1 HE.out.2.2.2.2.1).mono ?_
        rintro e W8 ⟨v8, rfl, hR8, hb8⟩
        obtain ⟨At, ct, rfl, hlt8, hCt⟩ := Kd.R_reads hR8
        rw [HL.out.2.1] at hCt hlt8 ⊢
        have hC8 := Kd.C_below hC7 hb8
        have hCb8 := Kd.C_below hCb7 hb8
        have hCk8 := Kd.C_below hCk7 hb8
        have hb9 := HB.out.trans (hb8.mono HB.out.size)
        clear hR8 hb8 hC7 hCb7 hCk7 HB hb7
        have Hb0 := (Below.refl W8.heap.size W8).alloc (Nat.le_refl _) (Obj.cells #[] 5)
        have HC8 := Lib.hid (And.intro hC8 (And.intro hCb8 (And.intro hCk8 (And.intro hb9 hCt))))
        clear hC8 hCb8 hCk8 hb9 hCt
        go_wp2_with (first
          | ((with_reducible refine gate_builtin (b := .append) (xs := #[.tmp 62, .tmp 63]) rfl ?_); at_builtin; refine Kd.R_append_rows (Kd.int .u8) (w0 := W8) W8.heap.size rfl (.tmp 62) (.tmp 63) 22 5 (.int .u8 0) 1 rfl Try.underlying22 info5 rfl (by decide) (by omega) (.slice (some ⟨W8.heap.size, 0, none⟩) 0 0) [] l0 _ _ _ (fun _ => True) (fun _ => False) rfl rfl ?aO ?aR (fun _ _ h => h) (fun _ h => h.elim) ?aF ?aB ?aS ?aL ?_; (case aR => exact Kd.C_alloc HC8.out.1 _); (case aB => exact Hb0); (case aF => exact (fun _ _ => trivial)); (case aO => exact Kd.R_of_own (own_lit W8 W8.heap.size 5 .u8 [] (Nat.le_refl _) (by simp)) (fun _ _ => trivial)); (case aS => exact Hb0.size); (case aL => (simp; omega)); intro v9 W9 ho9 hb9 hg9 hat9)
          | ((with_reducible refine gate_builtin (b := .append) (xs := #[.tmp 64, .tmp 65]) rfl ?_); at_builtin; refine Kd.R_append_rows (Kd.int .u8) (w0 := W8) W8.heap.size rfl (.tmp 64) (.tmp 65) 22 5 (.int .u8 0) 1 rfl Try.underlying22 info5 rfl (by decide) (by omega) v9 ([] ++ l0) [0] _ _ _ (fun _ => True) (fun _ => False) rfl rfl ?bO ?bR (fun _ _ h => h) (fun _ h => h.elim) ?bF ?bB ?bS ?bL ?_; (case bR => exact c_lit W9 5 [0] (by decide)); (case bB => exact hb9.alloc hb9.size _); (case bF => exact (fun _ _ => trivial)); (case bO => exact Kd.R_alloc ho9 _); (case bS => exact (hb9.alloc hb9.size _).size); (case bL => (simp; omega)); intro v10 W10 ho10 hb10 hg10 hat10))
        obtain ⟨Am, cm, rfl, hlm, hCm⟩ := Kd.R_reads ho10
        rw [List.nil_append] at hCm hlm ⊢
        generalize l0 ++ [0] = lm at *
        have hCb10 := Kd.C_below HC8.out.2.1 hb10
        have hCk10 := Kd.C_below HC8.out.2.2.1 hb10
        have hCt10 := Kd.C_below HC8.out.2.2.2.2 hb10
        have hb11 := HC8.out.2.2.2.1.trans (hb10.mono HC8.out.2.2.2.1.size)
        have HB := Lib.hid hb11
        have HCm := Lib.hid hCm
        clear ho9 hb9 hg9 hat9 ho10 hb10 hg10 hat10 hb11 Hb0 HC8
        have hcc := P.mac_Sum.calls (some ⟨gk, 0, none⟩) ck km A1 c1 l1 tg W10 (by rw [HL.out.1]; exact hCk10) (by rw [HL.out.1]; exact hck) hCb10 hc1 HE.out.2.2.2.2.2.1
        rw [HL.out.1] at hcc
        refine hcc.mono ?_
        clear hcc
        rintro e W11 ⟨v11, rfl, hR11, hb11⟩
        obtain ⟨A11, c11, rfl, hl11, hC11⟩ := Kd.R_reads hR11
        rw [HL.out.2.1] at hC11 hl11 ⊢
        have hCt11 := Kd.C_below hCt10 hb11
        have hCb11 := Kd.C_below hCb10 hb11
        have HCm := Lib.hid (Kd.C_below HCm.out hb11)
        have HB := Lib.hid (HB.out.trans (hb11.mono HB.out.size))
        clear hR11 hb11 hCt10 hCb10 hCk10 hb3
        go_wp2_with fail
        have hcc := P.pyxref01_Same.calls A11 c11 tg At ct tg true W11 (by rw [HL.out.2.1]; exact hC11) (by rw [HL.out.2.1]; exact hl11) (by rw [HL.out.2.1]; exact hCt11) (by rw [HL.out.2.1]; exact hlt8) (HE.out.2.2.2.2.2.2.2.2 tg HO.out.2.1)
        rw [HL.out.2.1] at hcc
        refine hcc.mono ?_
        clear hcc
        rintro e w' ⟨rfl, ⟨n3, rfl⟩⟩
        have hCt12 := Kd.C_drewN hCt11 n3
        have hCb12 := Kd.C_drewN hCb11 n3
        have HCm := Lib.hid (Kd.C_drewN HCm.out n3)
        have HB := Lib.hid (pw_below_drewN HB.out n3)
        generalize W11.drewN n3 = W12 at *
        clear hCt11 hCb11 hC11 hl11
        by_cases g3 : 63 < l0.length
        · have d3 : decide (63 < (l0.length : Int)) = true := by rw [decide_eq_true_eq]; omega
          go_wp2
          go_ret
          exact ⟨rfl, HB.out⟩
        · have d3 : decide (63 < (l0.length : Int)) = false := by rw [decide_eq_false_iff_not]; omega
          have hm3 := HE.out.2.2.2.2.2.2.2.1 (by omega)
          have Hm3 := Lib.hid hm3
          clear hm3
          go_wp2_with fail
          refine (P.mac_Sum.calls Am cm lm A1 c1 l1 tg W12 HCm.out hlm hCb12 hc1 Hm3.out).mono ?_
          rintro e W13 ⟨v13, rfl, hR13, hb13⟩
          obtain ⟨A13, c13, rfl, hl13, hC13⟩ := Kd.R_reads hR13
          rw [HL.out.2.1] at hC13 hl13 ⊢
          have hCt13 := Kd.C_below hCt12 hb13
          have HB := Lib.hid (HB.out.trans (hb13.mono HB.out.size))
          clear hR13 hb13
          go_wp2_with fail
          have hcc := P.pyxref01_Same.calls A13 c13 tg At ct tg true W13 (by rw [HL.out.2.1]; exact hC13) (by rw [HL.out.2.1]; exact hl13) (by rw [HL.out.2.1]; exact hCt13) (by rw [HL.out.2.1]; exact hlt8) (HE.out.2.2.2.2.2.2.2.2 tg HO.out.2.1)
          rw [HL.out.2.1] at hcc
          refine hcc.mono ?_
          clear hcc
          rintro e w' ⟨rfl, ⟨n4, rfl⟩⟩
          have hbf := pw_below_drewN HB.out n4
          go_wp2
          go_ret
          exact ⟨rfl, hbf⟩
set_option maxRecDepth 100000 in
set_option maxHeartbeats 4000000 in
theorem macKeys_small (A0 : Option Addr) (c0 : Nat) (l0 : List Int) (A1 : Option Addr) (c1 : Nat) (l1 : List Int) (w : World) (hr0 : Kd.C (Kd.int .u8) w A0 l0.length l0) (hc0 : l0.length ≤ c0) (hr1 : Kd.C (Kd.int .u8) w A1 l1.length l1) (hc1 : l1.length ≤ c1) (o0 : byteOk l0 = true) (o1 : byteOk l1 = true) (g0 : ¬ 300 < l0.length) (g1 : ¬ 300 < l1.length) (g2 : ¬ 64 < l0.length) :
    Calls Try.prog 10 #[.slice A0 l0.length c0, .slice A1 l1.length c1] w fun e w' => e = .returned (.bool true) ∧ Below w.heap.size w w' := by
  have d0 : decide (300 < (l0.length : Int)) = false := by rw [decide_eq_false_iff_not]; omega
  have d1 : decide (300 < (l1.length : Int)) = false := by rw [decide_eq_false_iff_not]; omega
  have hkl := macKey_length l0
  have okk := byteOk_macKey l0 o0
  have hol := ownKey_length l0
  have ook := byteOk_ownKey l0 o0
  have hkt := macKey_take l0
  have hks := macKey_self l0
  have hkz := macKey_zero l0
  have hsf := macSum_self l0 l1
  have hk1 : P.mac_Key.f l0 = some (macKey l0) := by unfold P.mac_Key.f; rw [if_pos ⟨o0, by omega⟩]
  have hs1 : P.mac_Sum.f l0 l1 = some (macSum l0 l1) := by unfold P.mac_Sum.f; rw [if_pos ⟨o0, o1, by omega, by omega⟩]
  have hs2 : P.mac_Sum.f (macKey l0) l1 = some (macSum l0 l1) := by unfold P.mac_Sum.f; rw [if_pos ⟨okk, o1, by omega, by omega⟩, hsf]
  have hk2 : P.mac_Key.f (macKey l0) = some (macKey l0) := by unfold P.mac_Key.f; rw [if_pos ⟨okk, by omega⟩, hks]
  have htl := macSum_length l0 l1
  have otg := byteOk_macSum l0 l1
  have hmore : l0.length ≤ 63 → P.mac_Sum.f (l0 ++ [0]) l1 = some (macSum l0 l1) := fun h => by
    unfold P.mac_Sum.f
    rw [if_pos ⟨(byteOk_append _ _).2 ⟨o0, by decide⟩, o1, by simp; omega, by omega⟩, macSum_more l0 l1 h]
  have esame : ∀ x, byteOk x = true → P.pyxref01_Same.f x x = some true := fun x hx => by unfold P.pyxref01_Same.f; rw [if_pos ⟨hx, hx⟩, beq_self_eq_true]
  generalize macSum l0 l1 = tg at *
  generalize macKey l0 = km at *
  obtain ⟨own, hown⟩ : ∃ x, ownKey l0 = x := ⟨_, rfl⟩
  rw [hown] at hol ook hkt hkz
  have Hown := Lib.hid hown
  have HE := Lib.hid (And.intro hkt (And.intro hks (And.intro hkz (And.intro hk1 (And.intro hs1 (And.intro hs2 (And.intro hk2 (And.intro hmore esame))))))))
  have HL := Lib.hid (And.intro hkl (And.intro htl hol))
  have HO := Lib.hid (And.intro okk (And.intro otg (And.intro ook (And.intro o0 o1))))
  clear hkt hks hkz hk1 hs1 hs2 hk2 hsf hmore esame hkl htl hol okk otg ook o0 o1 hown
  · have d2 : decide (64 < (l0.length : Int)) = false := by rw [decide_eq_false_iff_not]; omega
    obtain rfl : l0 = own := by rw [← Hown.out, ownKey_short l0 (by omega)]
    go_enter Try.func10, Try.ntmps10
    go_wp2_with (first
      | (go_at_call 30; (with_reducible refine (P.pyxlaw03_shown.calls true _ rfl).mono ?_); rintro e W1 ⟨rfl, hb1⟩))
    have hC1 := Kd.C_below hr0 hb1
    have hCb := Kd.C_below hr1 hb1
    refine (P.mac_Key.calls A0 c0 l0 km _ hC1 hc0 HE.out.2.2.2.1).mono ?_
    rintro e W2 ⟨v2, rfl, hR2, hb2⟩
    obtain ⟨gk, ck, rfl, -, -, -⟩ := Kd.R_form hR2 (by have := HL.out.1; omega)
    obtain ⟨-, hck, hCk⟩ := Kd.R_reads' hR2
    have hC2 := Kd.C_below hC1 hb2
    have hCb := Kd.C_below hCb hb2
    have hb2 := hb1.trans (hb2.mono hb1.size)
    rw [HL.out.1] at hck hCk ⊢
    clear hR2 hb1 hC1
    obtain ⟨W3, hW3⟩ : ∃ W3, W2 = W3 := ⟨_, rfl⟩
    rw [hW3] at hC2 hCb hCk hb2 ⊢
    have hC3 := hC2
    have hO := hC2
    have hlo := hc0
    have hb3 := hb2
    clear hC2 hb2 hW3
    have b0 : (0 : Int) ≤ (l0.length : Int) := by omega
    have b1 : (l0.length : Int) ≤ (ck : Int) := by have := HL.out.2.2; omega
    have hCt : Kd.C (Kd.int .u8) W3 (some ⟨gk, 0, none⟩) l0.length l0 := by
      have h := Kd.C_take (k := Kd.int .u8) (xs := km) (m := l0.length) (by rw [HL.out.1]; exact hCk) (by have := HL.out.2.2; have := HL.out.1; omega)
      rw [HE.out.1] at h
      exact h
    go_wp2_with fail
    have HB := Lib.hid hb3
    refine (P.pyxref01_Same.calls (some ⟨gk, 0, none⟩) ck l0 A0 c0 l0 true W3 hCt (by omega) hO hlo (HE.out.2.2.2.2.2.2.2.2 l0 HO.out.2.2.1)).mono ?_
    rintro e w' ⟨rfl, ⟨n1, rfl⟩⟩
    have hC4 := Kd.C_drewN hC3 n1
    have hCb4 := Kd.C_drewN hCb n1
    have hCk4 := Kd.C_drewN hCk n1
    have hb4 := pw_below_drewN HB.out n1
    generalize W3.drewN n1 = W4 at *
    clear hC3 hCb hCk HB hCt hO hlo
    go_wp2_with fail
    have hcc := P.mac_Key.calls (some ⟨gk, 0, none⟩) ck km km W4 (by rw [HL.out.1]; exact hCk4) (by rw [HL.out.1]; exact hck) HE.out.2.2.2.2.2.2.1
    rw [HL.out.1] at hcc
    refine hcc.mono ?_
    clear hcc
    rintro e W5 ⟨v5, rfl, hR5, hb5⟩
    obtain ⟨A5, c5, rfl, hl5, hC5⟩ := Kd.R_reads hR5
    rw [HL.out.1] at hC5 hl5 ⊢
    have hC6 := Kd.C_below hC4 hb5
    have hCb6 := Kd.C_below hCb4 hb5
    have hCk6 := Kd.C_below hCk4 hb5
    have hb6 := hb4.trans (hb5.mono hb4.size)
    clear hR5 hb5 hC4 hCb4 hCk4 hb4
    go_wp2_with fail
    have HB := Lib.hid hb6
    have hcc := P.pyxref01_Same.calls A5 c5 km (some ⟨gk, 0, none⟩) ck km true W5 (by rw [HL.out.1]; exact hC5) (by rw [HL.out.1]; exact hl5) (by rw [HL.out.1]; exact hCk6) (by rw [HL.out.1]; exact hck) (HE.out.2.2.2.2.2.2.2.2 km HO.out.1)
    rw [HL.out.1] at hcc
    refine hcc.mono ?_
    clear hcc
    rintro e w' ⟨rfl, ⟨n2, rfl⟩⟩
    have hC7 := Kd.C_drewN hC6 n2
    have hCb7 := Kd.C_drewN hCb6 n2
    have hCk7 := Kd.C_drewN hCk6 n2
    have hb7 := pw_below_drewN HB.out n2
    generalize W5.drewN n2 = W7 at *
    clear hC6 hCb6 hCk6 HB hC5 hl5
    obtain ⟨L, hL⟩ : ∃ L, l0.length = L := ⟨_, rfl⟩
    have HLn := Lib.hid hL
    have hL64 : L ≤ 64 := by have := HL.out.2.2; omega
    clear hL
    go_wp2_with fail
    go_loop [8] (fun i => ∃ k : Nat, L ≤ k ∧ k ≤ 64 ∧ i = .int .i64 k) (fun i => 64 - (intOf i).toNat)
    case atStart => exact ⟨L, Nat.le_refl _, hL64, by rw [← HLn.out]⟩
    case round =>
      obtain ⟨k, hk1, hk2, rfl⟩ := hrel
      by_cases hlt : k < 64
      · have dk : decide ((k : Int) < 64) = true := by rw [decide_eq_true_eq]; omega
        obtain ⟨a0, ea0, g0'⟩ := Kd.at_int hCk7 (k : Int) (by omega) (by omega)
        cases ea0
        rw [HE.out.2.2.1 k (by have := HLn.out; omega), Int.toNat_natCast] at g0'
        have i0 : (0 : Int) ≤ (k : Int) := by omega
        have i1 : (k : Int) < 64 := by omega
        rw [add_plain] at g0'
        go_wp2
        go_round
        case rel => exact ⟨k + 1, by omega, by omega, by go_num⟩
        case measure => simp [intOf]; omega
      · obtain rfl : k = 64 := by omega
        have dk : decide (((64 : Nat) : Int) < 64) = false := by decide
        have HB := Lib.hid hb7
        go_wp2_with fail
        refine (P.mac_Sum.calls A0 c0 l0 A1 c1 l1 tg W7 hC7 hc0 hCb7 hc1 HE.out.2.2.2.2.1).mono ?_
        rintro e W8 ⟨v8, rfl, hR8, hb8⟩
        obtain ⟨At, ct, rfl, hlt8, hCt⟩ := Kd.R_reads hR8
        rw [HL.out.2.1] at hCt hlt8 ⊢
        have hC8 := Kd.C_below hC7 hb8
        have hCb8 := Kd.C_below hCb7 hb8
        have hCk8 := Kd.C_below hCk7 hb8
        have hb9 := HB.out.trans (hb8.mono HB.out.size)
        clear hR8 hb8 hC7 hCb7 hCk7 HB hb7
        have Hb0 := (Below.refl W8.heap.size W8).alloc (Nat.le_refl _) (Obj.cells #[] 5)
        have HC8 := Lib.hid (And.intro hC8 (And.intro hCb8 (And.intro hCk8 (And.intro hb9 hCt))))
        clear hC8 hCb8 hCk8 hb9 hCt
        go_wp2_with (first
          | ((with_reducible refine gate_builtin (b := .append) (xs := #[.tmp 62, .tmp 63]) rfl ?_); at_builtin; refine Kd.R_append_rows (Kd.int .u8) (w0 := W8) W8.heap.size rfl (.tmp 62) (.tmp 63) 22 5 (.int .u8 0) 1 rfl Try.underlying22 info5 rfl (by decide) (by omega) (.slice (some ⟨W8.heap.size, 0, none⟩) 0 0) [] l0 _ _ _ (fun _ => True) (fun _ => False) rfl rfl ?aO ?aR (fun _ _ h => h) (fun _ h => h.elim) ?aF ?aB ?aS ?aL ?_; (case aR => exact Kd.C_alloc HC8.out.1 _); (case aB => exact Hb0); (case aF => exact (fun _ _ => trivial)); (case aO => exact Kd.R_of_own (own_lit W8 W8.heap.size 5 .u8 [] (Nat.le_refl _) (by simp)) (fun _ _ => trivial)); (case aS => exact Hb0.size); (case aL => (simp; omega)); intro v9 W9 ho9 hb9 hg9 hat9)
          | ((with_reducible refine gate_builtin (b := .append) (xs := #[.tmp 64, .tmp 65]) rfl ?_); at_builtin; refine Kd.R_append_rows (Kd.int .u8) (w0 := W8) W8.heap.size rfl (.tmp 64) (.tmp 65) 22 5 (.int .u8 0) 1 rfl Try.underlying22 info5 rfl (by decide) (by omega) v9 ([] ++ l0) [0] _ _ _ (fun _ => True) (fun _ => False) rfl rfl ?bO ?bR (fun _ _ h => h) (fun _ h => h.elim) ?bF ?bB ?bS ?bL ?_; (case bR => exact c_lit W9 5 [0] (by decide)); (case bB => exact hb9.alloc hb9.size _); (case bF => exact (fun _ _ => trivial)); (case bO => exact Kd.R_alloc ho9 _); (case bS => exact (hb9.alloc hb9.size _).size); (case bL => (simp; omega)); intro v10 W10 ho10 hb10 hg10 hat10))
        obtain ⟨Am, cm, rfl, hlm, hCm⟩ := Kd.R_reads ho10
        rw [List.nil_append] at hCm hlm ⊢
        generalize l0 ++ [0] = lm at *
        have hCb10 := Kd.C_below HC8.out.2.1 hb10
        have hCk10 := Kd.C_below HC8.out.2.2.1 hb10
        have hCt10 := Kd.C_below HC8.out.2.2.2.2 hb10
        have hb11 := HC8.out.2.2.2.1.trans (hb10.mono HC8.out.2.2.2.1.size)
        have HB := Lib.hid hb11
        have HCm := Lib.hid hCm
        clear ho9 hb9 hg9 hat9 ho10 hb10 hg10 hat10 hb11 Hb0 HC8
        have hcc := P.mac_Sum.calls (some ⟨gk, 0, none⟩) ck km A1 c1 l1 tg W10 (by rw [HL.out.1]; exact hCk10) (by rw [HL.out.1]; exact hck) hCb10 hc1 HE.out.2.2.2.2.2.1
        rw [HL.out.1] at hcc
        refine hcc.mono ?_
        clear hcc
        rintro e W11 ⟨v11, rfl, hR11, hb11⟩
        obtain ⟨A11, c11, rfl, hl11, hC11⟩ := Kd.R_reads hR11
        rw [HL.out.2.1] at hC11 hl11 ⊢
        have hCt11 := Kd.C_below hCt10 hb11
        have hCb11 := Kd.C_below hCb10 hb11
        have HCm := Lib.hid (Kd.C_below HCm.out hb11)
        have HB := Lib.hid (HB.out.trans (hb11.mono HB.out.size))
        clear hR11 hb11 hCt10 hCb10 hCk10 hb3
        go_wp2_with fail
        have hcc := P.pyxref01_Same.calls A11 c11 tg At ct tg true W11 (by rw [HL.out.2.1]; exact hC11) (by rw [HL.out.2.1]; exact hl11) (by rw [HL.out.2.1]; exact hCt11) (by rw [HL.out.2.1]; exact hlt8) (HE.out.2.2.2.2.2.2.2.2 tg HO.out.2.1)
        rw [HL.out.2.1] at hcc
        refine hcc.mono ?_
        clear hcc
        rintro e w' ⟨rfl, ⟨n3, rfl⟩⟩
        have hCt12 := Kd.C_drewN hCt11 n3
        have hCb12 := Kd.C_drewN hCb11 n3
        have HCm := Lib.hid (Kd.C_drewN HCm.out n3)
        have HB := Lib.hid (pw_below_drewN HB.out n3)
        generalize W11.drewN n3 = W12 at *
        clear hCt11 hCb11 hC11 hl11
        by_cases g3 : 63 < l0.length
        · have d3 : decide (63 < (l0.length : Int)) = true := by rw [decide_eq_true_eq]; omega
          go_wp2
          go_ret
          exact ⟨rfl, HB.out⟩
        · have d3 : decide (63 < (l0.length : Int)) = false := by rw [decide_eq_false_iff_not]; omega
          have hm3 := HE.out.2.2.2.2.2.2.2.1 (by omega)
          have Hm3 := Lib.hid hm3
          clear hm3
          go_wp2_with fail
          refine (P.mac_Sum.calls Am cm lm A1 c1 l1 tg W12 HCm.out hlm hCb12 hc1 Hm3.out).mono ?_
          rintro e W13 ⟨v13, rfl, hR13, hb13⟩
          obtain ⟨A13, c13, rfl, hl13, hC13⟩ := Kd.R_reads hR13
          rw [HL.out.2.1] at hC13 hl13 ⊢
          have hCt13 := Kd.C_below hCt12 hb13
          have HB := Lib.hid (HB.out.trans (hb13.mono HB.out.size))
          clear hR13 hb13
          go_wp2_with fail
          have hcc := P.pyxref01_Same.calls A13 c13 tg At ct tg true W13 (by rw [HL.out.2.1]; exact hC13) (by rw [HL.out.2.1]; exact hl13) (by rw [HL.out.2.1]; exact hCt13) (by rw [HL.out.2.1]; exact hlt8) (HE.out.2.2.2.2.2.2.2.2 tg HO.out.2.1)
          rw [HL.out.2.1] at hcc
          refine hcc.mono ?_
          clear hcc
          rintro e w' ⟨rfl, ⟨n4, rfl⟩⟩
          have hbf := pw_below_drewN HB.out n4
          go_wp2
          go_ret
          exact ⟨rfl, hbf⟩
set_option maxRecDepth 100000 in
set_option maxHeartbeats 4000000 in
theorem macKeys_calls (A0 : Option Addr) (c0 : Nat) (l0 : List Int) (A1 : Option Addr) (c1 : Nat) (l1 : List Int) (w : World) (hr0 : Kd.C (Kd.int .u8) w A0 l0.length l0) (hc0 : l0.length ≤ c0) (hr1 : Kd.C (Kd.int .u8) w A1 l1.length l1) (hc1 : l1.length ≤ c1) (o0 : byteOk l0 = true) (o1 : byteOk l1 = true)  :
    Calls Try.prog 10 #[.slice A0 l0.length c0, .slice A1 l1.length c1] w fun e w' => e = .returned (.bool true) ∧ Below w.heap.size w w' := by
  by_cases g0 : 300 < l0.length
  · have d0 : decide (300 < (l0.length : Int)) = true := by rw [decide_eq_true_eq]; omega
    go_enter Try.func10, Try.ntmps10
    go_wp2_with (go_at_call 30; refine (P.pyxlaw03_shown.calls true _ rfl).mono ?_; rintro e W1 ⟨rfl, hb1⟩)
    go_ret
    exact ⟨rfl, hb1⟩
  have d0 : decide (300 < (l0.length : Int)) = false := by rw [decide_eq_false_iff_not]; omega
  by_cases g1 : 300 < l1.length
  · have d1 : decide (300 < (l1.length : Int)) = true := by rw [decide_eq_true_eq]; omega
    go_enter Try.func10, Try.ntmps10
    go_wp2_with (go_at_call 30; refine (P.pyxlaw03_shown.calls true _ rfl).mono ?_; rintro e W1 ⟨rfl, hb1⟩)
    go_ret
    exact ⟨rfl, hb1⟩
  by_cases g2 : 64 < l0.length
  · exact macKeys_big A0 c0 l0 A1 c1 l1 w hr0 hc0 hr1 hc1 o0 o1 g0 g1 g2
  · exact macKeys_small A0 c0 l0 A1 c1 l1 w hr0 hc0 hr1 hc1 o0 o1 g0 g1 g2
end Go.Proofs.Ytamaokokbajlgaa
