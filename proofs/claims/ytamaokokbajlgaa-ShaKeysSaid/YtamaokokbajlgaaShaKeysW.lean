/-
  Walk: pyxlaw02.ShaKeys, over its tables.
-/
import Derived.Test.YtamaokokbajlgaaShaKeys
namespace Go.Proofs.Ytamaokokbajlgaa
set_option linter.unusedVariables false
set_option linter.unusedSimpArgs false
open Go.RowKit Go.Proofs.Ytamaokokbajlgaa.L Go.Proofs.YtamaokokbajlgaaW.PrintWords Go.Proofs.YtamaokokbajlgaaW.PrintLast Go.Proofs.YtamaokokbajlgaaW.PrintMore

theorem wrapD (z : Int) (D : Nat) (h : z = (D : Int)) (hd : D ≤ 64) : wrap64 z = (D : Int) := by rw [h]; unfold wrap64; omega
theorem low32 (v : Nat) (h : v < 4294967296) : IntKind.i64.wrap (v : Int) = (v : Int) ∧ wrap64 ((v : Int) + 1) = ((v + 1 : Nat) : Int) ∧ ((v : Int) + 1) = ((v + 1 : Nat) : Int) := by
  refine ⟨by rw [IntKind.wrap_i64]; omega, by unfold wrap64; omega, by omega⟩
theorem lows (u kv low : Nat) (hu : u ≤ 7) (hk : kv < 4294967296) (hl : u * 4294967296 + kv = low) :
    IntKind.i64.wrap (kv : Int) = (kv : Int) ∧ wrap64 ((u : Int) * 4294967296) = (u : Int) * 4294967296 ∧ wrap64 ((u : Int) * 4294967296 + (kv : Int)) = (low : Int) ∧ wrap64 ((low : Int) + 1) = ((low + 1 : Nat) : Int) ∧ low < 34359738368 ∧ (u : Int) * 4294967296 + (kv : Int) = (low : Int) ∧ ((low : Int) + 1) = ((low + 1 : Nat) : Int) := by
  refine ⟨by rw [IntKind.wrap_i64]; omega, by unfold wrap64; omega, by unfold wrap64; omega, by unfold wrap64; omega, by omega, by omega, by omega⟩

set_option maxRecDepth 100000 in
set_option maxHeartbeats 2000000 in
theorem shaKeys_calls (x : Nat) (hx : x < 256) (w : World) :
    Calls Try.prog 4 #[.int .u8 (x : Int)] w fun e w' => e = .returned (.bool true) ∧ Below w.heap.size w w' := by
  obtain ⟨i, hi⟩ : ∃ i, x % 64 = i := ⟨_, rfl⟩
  have hi64 : i < 64 := by omega
  have ei : (x : Int) % 64 = (i : Int) := by omega
  have hc := cr_tab i hi64
  have hcube := cube_tab i hi64
  have hkv : P.sha_Key.f (i : Int) = some ((Sha.kTab.getD i 0 : Nat) : Int) := by
    unfold P.sha_Key.f
    rw [if_neg (by omega), if_neg (by omega), Int.toNat_natCast]
  have hkw := kTab_ws i
  have hpi : pr i < 314 := by
    have := (prime_gap i hi64).2.1
    unfold qr at this
    rw [if_neg (by omega)] at this
    exact this
  have hq : qr (i + 1) = pr i := by unfold qr; rw [if_neg (by omega)]; rfl
  have q0 : qr 0 = 1 := rfl
  have HT := Lib.hid (And.intro hc (And.intro hcube (And.intro hkv (And.intro hkw (And.intro hpi (And.intro hq q0))))))
  clear hc hcube hkv hkw hpi hq q0 hi
  go_enter Try.func4, Try.ntmps4
  go_wp2_with fail
  refine (P.pyxlaw02_shown.calls true _ rfl).mono ?_
  rintro e W1 ⟨rfl, hb1⟩
  go_wp2_with fail
  simp only [ei]
  clear ei
  go_loopw [5, 6] (fun p n wr => ∃ j : Nat, j ≤ i + 1 ∧ n = .int .i64 ((j : Int) - 1) ∧ p = .int .i64 ((qr j : Nat) : Int) ∧ Aside0 (∃ d, wr = W1.drewN d)) (fun _ n _ => (i - intOf n).toNat)
  case atStart => exact ⟨0, by omega, rfl, by rw [HT.out.2.2.2.2.2.2]; rfl, ⟨0, rfl⟩⟩
  case round =>
    obtain ⟨j, hj, rfl, rfl, ⟨d, rfl⟩⟩ := hrel
    by_cases hlt : j < i + 1
    · obtain ⟨hg1, hg2, hg3, hg4⟩ := prime_gap j (by omega)
      have d1 : decide (((j : Int) - 1) < (i : Int)) = true := by rw [decide_eq_true_eq]; omega
      have Hg := Lib.hid (And.intro hg3 hg4)
      clear hg3 hg4
      obtain ⟨a, ha⟩ : ∃ a, qr j = a := ⟨_, rfl⟩
      obtain ⟨b, hb⟩ : ∃ b, qr (j + 1) = b := ⟨_, rfl⟩
      rw [ha, hb] at Hg hg1
      rw [hb] at hg2
      rw [ha]
      have Hb := Lib.hid (And.intro ha hb)
      clear ha hb
      go_wp2_with fail
      go_loopw [5] (fun p wr => ∃ v : Nat, a < v ∧ v ≤ b ∧ p = .int .i64 (v : Int) ∧ Aside0 (∃ d, wr = W1.drewN d)) (fun p _ => (b - intOf p).toNat)
      case atStart => exact ⟨a + 1, by omega, by omega, by go_num, ⟨d, rfl⟩⟩
      case round =>
        obtain ⟨v, hv1, hv2, rfl, ⟨d2, rfl⟩⟩ := hrel
        by_cases hvb : v < b
        · have hp : K.pyxlaw02_prime.f 40 ((v : Nat) : Int) = some false := (prime_tab v (by omega)).trans (congrArg some (Hg.out.2 v (by omega) hv1 hvb))
          have Hp := Lib.hid hp
          clear hp
          go_wp2_with fail
          refine (K.pyxlaw02_prime.calls 40 (v : Int) false _ Hp.out).mono ?_
          rintro e w' ⟨rfl, ⟨d3, rfl⟩⟩
          go_wp2
          exact ⟨⟨v + 1, by omega, by omega, by go_num, ⟨d2 + d3, rfl⟩⟩, by simp [intOf]; omega⟩
        · obtain rfl : v = b := by omega
          have hp : K.pyxlaw02_prime.f 40 ((v : Nat) : Int) = some true := (prime_tab v (by omega)).trans (congrArg some Hg.out.1)
          have Hp := Lib.hid hp
          clear hp
          go_wp2_with fail
          refine (K.pyxlaw02_prime.calls 40 (v : Int) true _ Hp.out).mono ?_
          rintro e w' ⟨rfl, ⟨d3, rfl⟩⟩
          go_wp2
          exact ⟨⟨j + 1, by omega, by congr 1; omega, by rw [Hb.out.2], ⟨d2 + d3, rfl⟩⟩, by simp [intOf]; omega⟩
    · obtain rfl : j = i + 1 := by omega
      rw [HT.out.2.2.2.2.2.1, show (((i + 1 : Nat) : Int) - 1) = (i : Int) by omega]
      have d1 : decide ((i : Int) < (i : Int)) = false := by simp
      obtain ⟨⟨hc7, hcv⟩, ⟨hq1, hq2⟩, hkv, hkw, hpi, -, -⟩ := HT.out
      have hsq : i < 8 → K.pyxlaw02_square.f ((sr i : Nat) : Int) ((Sha.hTab.getD i 0 : Nat) : Int) ((pr i : Nat) : Int) = some true ∧ K.pyxlaw02_square.f ((sr i : Nat) : Int) ((Sha.hTab.getD i 0 + 1 : Nat) : Int) ((pr i : Nat) : Int) = some false := fun h => square_tab i h
      have hsr : i < 8 → sr i ≤ 7 ∧ ∀ v, v < 8 → (v < sr i ↔ (v + 1) * (v + 1) ≤ pr i) := fun h => sr_tab i h
      generalize pr i = p at *
      generalize cr i = c at *
      generalize sr i = s at *
      obtain ⟨kv, hkvd⟩ : ∃ kv, Sha.kTab.getD i 0 = kv := ⟨_, rfl⟩
      rw [hkvd] at hq1 hq2 hkv hkw
      have HQ := Lib.hid (And.intro hq1 (And.intro hq2 (And.intro hkv (And.intro hsq hsr))))
      have HV := Lib.hid hcv
      clear hq1 hq2 hkv hsq hsr hcv hkvd HT
      go_wp2_with fail
      go_loop [7] (fun v => ∃ u : Nat, u ≤ c ∧ v = .int .i64 (u : Int)) (fun v => c - (intOf v).toNat)
      case atStart => exact ⟨0, Nat.zero_le _, rfl⟩
      case round =>
        obtain ⟨u, hu, rfl⟩ := hrel
        have hcu := HV.out u (by omega)
        obtain ⟨B, hB⟩ : ∃ B, (u + 1) * (u + 1) = B := ⟨_, rfl⟩
        obtain ⟨C, hC⟩ : ∃ C, B * (u + 1) = C := ⟨_, rfl⟩
        rw [hB, hC] at hcu
        have hB64 : B ≤ 64 := by rw [← hB]; exact Nat.mul_le_mul (show u + 1 ≤ 8 by omega) (show u + 1 ≤ 8 by omega)
        have hC512 : C ≤ 512 := by rw [← hC]; exact Nat.mul_le_mul hB64 (show u + 1 ≤ 8 by omega)
        have eB : ((u : Int) + 1) * ((u : Int) + 1) = (B : Int) := by rw [← hB]; simp
        have eC : (B : Int) * ((u : Int) + 1) = (C : Int) := by rw [← hC]; simp
        by_cases hlt : u < c
        · have dC : decide (C ≤ p) = true := by rw [decide_eq_true_eq]; exact hcu.1 hlt
          have hB' : (B : Int) ≤ 64 := by omega
          have hC' : (C : Int) ≤ 512 := by omega
          have wB : wrap64 (((u : Int) + 1) * ((u : Int) + 1)) = (B : Int) := by rw [eB]; unfold wrap64; omega
          have wC : wrap64 ((B : Int) * ((u : Int) + 1)) = (C : Int) := by rw [eC]; unfold wrap64; omega
          clear hcu hB hC eB eC
          go_wp2_with fail
          go_ways
          exact ⟨⟨u + 1, by omega, by go_num⟩, by simp [intOf]; omega⟩
        · obtain rfl : u = c := by omega
          have dC : decide (C ≤ p) = false := by rw [decide_eq_false_iff_not]; intro h; have := hcu.2 h; omega
          have wB : wrap64 (((u : Int) + 1) * ((u : Int) + 1)) = (B : Int) := by rw [eB]; unfold wrap64; omega
          have wC : wrap64 ((B : Int) * ((u : Int) + 1)) = (C : Int) := by rw [eC]; unfold wrap64; omega
          have hkI : 0 ≤ (kv : Int) ∧ (kv : Int) < 4294967296 := by omega
          obtain ⟨low, hlow⟩ : ∃ low, u * 4294967296 + kv = low := ⟨_, rfl⟩
          obtain ⟨hki, hu4, huk, hl1, hL, hlo, hlo1⟩ := lows u kv low (by omega) (by omega) hlow
          have HLO := Lib.hid hlo
          have HLO1 := Lib.hid hlo1
          clear hlo hlo1
          obtain ⟨hq1, hq2, hkv, hsq, hsr⟩ := HQ.out
          rw [hlow] at hq1 hq2
          have HQ := Lib.hid (And.intro hq1 (And.intro hq2 (And.intro hkv (And.intro hsq hsr))))
          clear hcu hB hC eB eC hq1 hq2 hkv hsq hsr hlow hkI
          go_wp2_with fail
          refine (P.sha_Key.calls i kv _ HQ.out.2.2.1).mono ?_
          rintro e W2 ⟨rfl, hb2⟩
          go_wp2_with fail
          rw [HLO.out]
          have KC := K.pyxlaw02_cube.calls 60 (low : Int) (p : Int) true W2 HQ.out.1
          refine KC.mono ?_
          rintro e W3 ⟨rfl, hb3⟩
          clear KC hki hu4 huk wB wC dC hB64 hC512
          go_wp2_with fail
          rw [HLO1.out]
          have KC2 := K.pyxlaw02_cube.calls 60 ((low + 1 : Nat) : Int) (p : Int) false W3 HQ.out.2.1
          refine KC2.mono ?_
          rintro e W4 ⟨rfl, hb4⟩
          clear KC2 hl1 hL
          have H2 := pw_below_drewN hb1 d
          have H3 := H2.trans (hb2.mono H2.size)
          have H4' := H3.trans (hb3.mono H3.size)
          have H4 := Lib.hid (H4'.trans (hb4.mono H4'.size))
          clear H2 H3 H4' hb1 hb2 hb3 hb4
          by_cases h7 : 7 < i
          · have d7 : decide (7 < (i : Int)) = true := by rw [decide_eq_true_eq]; omega
            have d7' : decide (7 < i) = true := by rw [decide_eq_true_eq]; omega
            go_wp2_with fail
            go_ret
            exact ⟨rfl, H4.out⟩
          · have d7 : decide (7 < (i : Int)) = false := by rw [decide_eq_false_iff_not]; omega
            have d7' : decide (7 < i) = false := by rw [decide_eq_false_iff_not]; omega
            go_wp2_with fail
            refine (Start_calls W4).mono ?_
            rintro e W5 ⟨rfl, hb5⟩
            have H5 := Lib.hid (H4.out.trans (hb5.mono H4.out.size))
            clear hb5 H4
            go_wp2_with (refine wpList_store_row rfl 31 _ _ rfl W5.heap.size _ rfl rfl 31 _ (heap_alloc_new _ _) (by rw [wordsV_size, hTab_len]; exact infoStart) (by rw [wordsV_size, hTab_len]; rfl) (by simp [wordsV, Value.oneCell']) ?_)
            rw [zero8]
            have bh := (Blk.new W5 31 (wordsV z8)).setRow_ (wordsV Sha.hTab)
            have H6 := Lib.hid ((H5.out.alloc H5.out.size (.cells (wordsV z8) 31)).trans (Iter.below_setRow (B := w.heap.size) (g := W5.heap.size) (wordsV Sha.hTab) H5.out.size))
            generalize (W5.alloc (.cells (wordsV z8) 31)).setRow W5.heap.size (wordsV Sha.hTab) = W6 at bh H6 ⊢
            obtain ⟨gh, hgh⟩ : ∃ g, W5.heap.size = g := ⟨_, rfl⟩
            rw [hgh] at bh ⊢
            have BH := Lib.hid bh
            have hi8 : i < 8 := by omega
            obtain ⟨hs7, hsv⟩ := HQ.out.2.2.2.2 hi8
            have HS := Lib.hid hsv
            clear bh hsv hgh H5 d7 d7' h7 hkw HLO HLO1 HV
            go_loop [10] (fun v => ∃ r : Nat, r ≤ s ∧ v = .int .i64 (r : Int)) (fun v => s - (intOf v).toNat)
            case atStart => exact ⟨0, Nat.zero_le _, rfl⟩
            case round =>
              obtain ⟨r, hr, rfl⟩ := hrel
              have hsu := HS.out r (by omega)
              obtain ⟨D, hD⟩ : ∃ D, (r + 1) * (r + 1) = D := ⟨_, rfl⟩
              rw [hD] at hsu
              have hD64 : D ≤ 64 := by rw [← hD]; exact Nat.mul_le_mul (show r + 1 ≤ 8 by omega) (show r + 1 ≤ 8 by omega)
              have eD : ((r : Int) + 1) * ((r : Int) + 1) = (D : Int) := by rw [← hD]; simp
              have wD := wrapD _ D eD hD64
              by_cases hlt : r < s
              · have dD : decide (D ≤ p) = true := by rw [decide_eq_true_eq]; exact hsu.1 hlt
                have hD' : (D : Int) ≤ 64 := by omega
                clear hsu hD eD
                go_wp2_with fail
                go_ways
                exact ⟨⟨r + 1, by omega, by go_num⟩, by simp [intOf]; omega⟩
              · obtain rfl : r = s := by omega
                have dD : decide (D ≤ p) = false := by rw [decide_eq_false_iff_not]; intro h; have := hsu.2 h; omega
                clear hsu hD eD
                have hcell := BH.out.cell i
                rw [wordsV_at Sha.hTab i (by rw [hTab_len]; exact hi8)] at hcell
                obtain ⟨hv, hhv⟩ : ∃ hv, Sha.hTab.getD i 0 = hv := ⟨_, rfl⟩
                have hvw := hTab_ws i
                rw [hhv] at hcell hvw
                obtain ⟨hs1, hs2⟩ := HQ.out.2.2.2.1 hi8
                rw [hhv] at hs1 hs2
                have HSQ := Lib.hid (And.intro hs1 hs2)
                clear hs1 hs2 hhv
                obtain ⟨hvi, hv1, hv2⟩ := low32 hv hvw
                have HV2 := Lib.hid hv2
                clear hv2 hvw
                go_wp2_with fail
                have KS1 := K.pyxlaw02_square.calls (r : Int) (hv : Int) (p : Int) true W6 HSQ.out.1
                refine KS1.mono ?_
                rintro e w7 ⟨rfl, ⟨d7, rfl⟩⟩
                clear KS1
                have hcell7 : (W6.drewN d7).cell? ⟨gh, i, none⟩ = some (.int .u32 (hv : Int)) := hcell
                go_wp2_with fail
                rw [HV2.out]
                have KS2 := K.pyxlaw02_square.calls (r : Int) ((hv + 1 : Nat) : Int) (p : Int) false (W6.drewN d7) HSQ.out.2
                refine KS2.mono ?_
                rintro e w8 ⟨rfl, ⟨d8, rfl⟩⟩
                go_wp2_with fail
                go_ret
                exact ⟨rfl, pw_below_drewN H6.out (d7 + d8)⟩
end Go.Proofs.Ytamaokokbajlgaa
