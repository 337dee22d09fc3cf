/-
  Walk: pyxlaw02.ShaBlocks.
-/
import Derived.Test.YtamaokokbajlgaaBlk
import Derived.Deep.QuietTactic
import Derived.BigQuiet
namespace Go.Proofs.Ytamaokokbajlgaa
set_option linter.unusedVariables false
set_option linter.unusedSimpArgs false
open Go.RowKit Go.Proofs.Ytamaokokbajlgaa.L Go.Proofs.YtamaokokbajlgaaW.PrintWords Go.Proofs.YtamaokokbajlgaaW.PrintLast Go.Proofs.YtamaokokbajlgaaW.PrintMore

theorem flat_at (l : List Nat) : ∀ (t j : Nat), t < l.length → j < 4 → (l.flatMap Sha.out4).getD (4 * t + j) 0 = (Sha.out4 (l.getD t 0)).getD j 0 := by
  induction l with
  | nil => intro t j h; simp at h
  | cons x l ih =>
    intro t j ht hj
    have hl : (Sha.out4 x).length = 4 := rfl
    rw [List.flatMap_cons]
    rcases t with _ | t
    · rw [List.getD_eq_getElem?_getD, List.getD_eq_getElem?_getD, List.getElem?_append_left (by omega)]
      simp
    · rw [List.getD_eq_getElem?_getD, List.getElem?_append_right (by omega), hl, show 4 * (t + 1) + j - 4 = 4 * t + j by omega, ← List.getD_eq_getElem?_getD, ih t j (by simpa using ht) hj]
      simp

set_option maxRecDepth 100000 in
set_option maxHeartbeats 8000000 in
theorem shaBlocks_calls (A0 : Option Addr) (c0 : Nat) (l0 : List Int) (w : World) (hr0 : Kd.C (Kd.int .u8) w A0 l0.length l0) (hc0 : l0.length ≤ c0) (o0 : byteOk l0 = true) :
    Calls Try.prog 8 #[.slice A0 l0.length c0] w fun e w' => e = .returned (.bool true) ∧ Below w.heap.size w w' := by
  by_cases g1 : 1000 < l0.length
  · have d1 : decide (1000 < (l0.length : Int)) = true := by rw [decide_eq_true_eq]; omega
    go_enter Try.func8, Try.ntmps8
    go_wp2_with (go_at_call 15; refine (P.pyxlaw02_shown.calls true _ rfl).mono ?_; rintro e W1 ⟨rfl, hb1⟩)
    go_ret
    exact ⟨rfl, hb1⟩
  have d1 : decide (1000 < (l0.length : Int)) = false := by rw [decide_eq_false_iff_not]; omega
  obtain ⟨b, hb⟩ : ∃ b, toB l0 = b := ⟨_, rfl⟩
  have hl0 : l0 = ofB b := by rw [← hb]; exact (ofB_toB l0 o0).symm
  have hBs : Bs b := by rw [← hb]; exact bs_of_ok l0 o0
  have hs0 : P.sha_Sum.f l0 = some (ofB (Sha.sum b)) := by unfold P.sha_Sum.f; rw [if_pos ⟨o0, by omega⟩, hb]
  clear hb
  subst hl0
  have hbl0 : b.length ≤ 1000 := by rw [ofB_length] at g1; omega
  rw [ofB_length] at d1
  have hpadl := Sha.pad_length b.length
  have hpadq := Sha.padLen_le b.length
  have HS0 := Lib.hid hs0
  have HR0 := Lib.hid (And.intro hr0 hc0)
  clear hs0 hr0 hc0 o0 g1
  go_enter Try.func8, Try.ntmps8
  rw [ofB_length]
  go_wp2_with fail
  refine (P.pyxlaw02_shown.calls true _ rfl).mono ?_
  rintro e W1 ⟨rfl, hb1⟩
  have Hb0 := hb1.alloc hb1.size (Obj.cells #[] 5)
  have HC1 := Lib.hid (Kd.C_alloc (Kd.C_below HR0.out.1 hb1) (Obj.cells #[] 5))
  rw [ofB_length] at HC1
  have hsz1 := hb1.size
  clear hb1
  go_wp2_with (first
    | ((with_reducible refine gate_builtin (b := .append) (xs := #[.tmp 16, .tmp 17]) rfl ?_); at_builtin; refine Kd.R_append_rows (Kd.int .u8) (w0 := w) w.heap.size rfl (.tmp 16) (.tmp 17) 22 5 (.int .u8 0) 1 rfl Try.underlying22 info5 rfl (by decide) (by omega) (.slice (some ⟨W1.heap.size, 0, none⟩) 0 0) [] (ofB b) _ _ _ (fun _ => True) (fun _ => False) rfl rfl ?aO ?aR (fun _ _ h => h) (fun _ h => h.elim) ?aF ?aB ?aS ?aL ?_; (case aR => exact HC1.out); (case aB => exact Hb0); (case aF => exact (fun _ _ => trivial)); (case aO => exact Kd.R_lower (Kd.R_of_own (own_lit W1 W1.heap.size 5 .u8 [] (Nat.le_refl _) (by simp)) (fun _ _ => trivial)) hsz1); (case aS => exact Hb0.size); (case aL => (simp; omega)); intro v1 W5 ho1 hb1 hg1 hat1))
  refine (L.sha_Pad.calls 10 (b.length : Int) _ _ (pad_eq b.length (by omega))).mono ?_
  rintro e W6 ⟨v2, rfl, ho2, hb2⟩
  obtain ⟨A4, c4, rfl, hl4, hC4⟩ := Kd.R_reads ho2
  have ho3 := Lib.hid (Kd.R_below ho1 hb2)
  have Hb3 := Lib.hid (hb1.trans (hb2.mono hb1.size))
  have HC4 := Lib.hid hC4
  clear ho1 hb1 hg1 hat1 ho2 hb2 hC4 Hb0 HC1
  go_upto_region 5 with (first
    | ((with_reducible refine gate_builtin (b := .append) (xs := #[.tmp 18, .tmp 21]) rfl ?_); at_builtin; refine Kd.R_append_rows (Kd.int .u8) (w0 := w) w.heap.size rfl (.tmp 18) (.tmp 21) 22 5 (.int .u8 0) 1 rfl Try.underlying22 info5 rfl (by decide) (by omega) v1 ([] ++ ofB b) (ofB (Sha.pad b.length)) A4 (ofB (Sha.pad b.length)).length c4 (fun _ => True) (fun _ => False) rfl rfl ?aO ?aR (fun _ _ h => h) (fun _ h => h.elim) ?aF ?aB ?aS ?aL ?_; (case aR => exact HC4.out); (case aB => exact Hb3.out); (case aF => exact (fun _ _ => trivial)); (case aO => exact ho3.out); (case aS => exact Hb3.out.size); (case aL => rw [List.nil_append, ofB_length, ofB_length]; omega); intro v3 W7 ho4 hb4 hg4 hat4))
  have hlist : [] ++ ofB b ++ ofB (Sha.pad b.length) = ofB (b ++ Sha.pad b.length) := by rw [List.nil_append, ← ofB_append]
  rw [hlist] at ho4
  clear hlist ho3 Hb3 HC4 hg4 hat4
  obtain ⟨all, hall⟩ : ∃ all, b ++ Sha.pad b.length = all := ⟨_, rfl⟩
  have halen : all.length = b.length + (Sha.padLen b.length + 8) := by rw [← hall, List.length_append, hpadl]
  have hab : Bs all := by rw [← hall]; exact hBs.append_ (pad_bs _)
  rw [hall] at ho4
  obtain ⟨m, hm⟩ : ∃ m, all.length / 64 = m := ⟨_, rfl⟩
  have ham : all.length = 64 * m := by omega
  have hfin : Sha.sum b = (Sha.blkTo all Sha.hTab m).flatMap Sha.out4 := by unfold Sha.sum; rw [hall, hm]
  obtain ⟨Aa, ca, rfl, hla, hCa⟩ := Kd.R_reads ho4
  have hLa : (ofB all).length = 64 * m := by rw [ofB_length, ham]
  rw [hLa] at hCa hla ⊢
  obtain ⟨N, hN⟩ : ∃ N, 64 * m = N := ⟨_, rfl⟩
  have hN1 : N ≤ 2000 := by omega
  have q1 : ((N : Int) % 64 != 0) = false := by rw [bne_eq_false_iff_eq]; omega
  have q2 : decide ((N : Int) < (b.length : Int) + 9) = false := by rw [decide_eq_false_iff_not]; omega
  have q3 : decide ((b.length : Int) + 72 < (N : Int)) = false := by rw [decide_eq_false_iff_not]; omega
  have HM := Lib.hid (And.intro hm (And.intro hfin (And.intro hall (And.intro halen (And.intro ham hN)))))
  rw [hN] at hCa hla ⊢
  have HCa := Lib.hid hCa
  have Hb4 := Lib.hid hb4
  clear hm hfin hall halen ham hN hCa hLa ho4 hb4 hpadl hpadq
  go_wp2_with fail
  refine (Start_calls _).mono ?_
  rintro e W9 ⟨rfl, hb7⟩
  have HCa := Lib.hid (Kd.C_below HCa.out hb7)
  have Hb9 := Lib.hid (Hb4.out.trans (hb7.mono Hb4.out.size))
  clear hb7 q1 q2 q3 Hb4
  go_wp2_with (first
    | (refine wpList_store_row rfl 31 (.tmp 5) (.tmp 43) rfl W9.heap.size _ rfl rfl 31 _ (heap_alloc_new _ _) (by rw [wordsV_size, hTab_len]; exact infoStart) (by rw [wordsV_size, hTab_len]; rfl) (by simp [wordsV, Value.oneCell']) ?_))
  rw [zero8]
  have bh := (Blk.new W9 31 (wordsV z8)).setRow_ (wordsV Sha.hTab)
  have hbn := ((Below.refl W9.heap.size W9).alloc (Nat.le_refl _) (.cells (wordsV z8) 31)).trans (Iter.below_setRow (B := W9.heap.size) (g := W9.heap.size) (wordsV Sha.hTab) (Nat.le_refl _))
  generalize (W9.alloc (.cells (wordsV z8) 31)).setRow W9.heap.size (wordsV Sha.hTab) = W10 at bh hbn ⊢
  obtain ⟨gh, hgh⟩ : ∃ g, W9.heap.size = g := ⟨_, rfl⟩
  rw [hgh] at bh ⊢
  go_loopw [6] (fun i wr => ∃ k : Nat, k ≤ m ∧ i = .int .i64 ((64 * k : Nat) : Int) ∧ Blk wr gh 31 (wordsV (Sha.blkTo all Sha.hTab k)) ∧ Below W9.heap.size W9 wr) (fun i _ => 64 * m - (intOf i).toNat)
  case atStart => exact ⟨0, by omega, rfl, bh, hbn⟩
  case round =>
    clear bh hbn
    obtain ⟨k, hk, rfl, bh, hbl⟩ := hrel
    have hbw := blkTo_ws all Sha.hTab hTab_ws k
    have hbl8 := blkTo_len all Sha.hTab hTab_len k
    by_cases hkm : k < m
    · have hnx : Sha.blkTo all Sha.hTab (k + 1) = Sha.mixed (Sha.blkTo all Sha.hTab k) (blkAt all (64 * k)) := rfl
      have Hnx := Lib.hid hnx
      clear hnx
      generalize Sha.blkTo all Sha.hTab k = v at *
      have hN := HM.out.2.2.2.2.2
      have ham := HM.out.2.2.2.2.1
      have hdi : decide (((64 * k : Nat) : Int) < (N : Int)) = true := by rw [decide_eq_true_eq]; omega
      have hw : IntKind.i64.wrap (((64 * k : Nat) : Int) + 64) = ((64 * k : Nat) : Int) + 64 := by rw [IntKind.wrap_i64]; omega
      have hq : 64 * k + 64 ≤ N := by omega
      have hCb : Kd.C (Kd.int .u8) wr (if ca = 64 * k then Aa else Option.map (fun x => x.add (64 * k)) Aa) 64 (ofB (blkAt all (64 * k))) := by
        have h1 := Kd.C_mid (lo := 64 * k) (hi := 64 * k + 64) (c := ca) (xs := ofB all) (w := wr) (A := Aa) (k := Kd.int .u8) (by rw [ofB_length, ham, hN]; exact Kd.C_below HCa.out hbl) (by omega) (by rw [ofB_length]; omega) (by rw [ofB_length]; omega)
        have e1 : ((ofB all).take (64 * k + 64)).drop (64 * k) = ofB (blkAt all (64 * k)) := by simp [ofB, blkAt]
        have e2 : (ofB (blkAt all (64 * k))).length = 64 := by rw [ofB_length]; unfold blkAt; rw [List.length_drop, List.length_take]; omega
        have e3 : (Kd.int .u8).sz = 1 := rfl
        rw [e1, e2, e3, Nat.mul_one] at h1
        exact h1
      have hbb : Bs (blkAt all (64 * k)) := blkAt_bs all hab _
      have hbbl : (blkAt all (64 * k)).length = 64 := by unfold blkAt; rw [List.length_drop, List.length_take]; omega
      generalize blkAt all (64 * k) = bb at *
      have hcap : ¬ ca = 64 * k := by omega
      rw [if_neg hcap] at hCb
      clear ham hN
      obtain ⟨q, hq0⟩ : ∃ q, 64 * k = q := ⟨_, rfl⟩
      rw [hq0] at hdi hw hq hcap hCb ⊢
      have Hq := Lib.hid hq0
      clear hq0
      obtain ⟨x0, x1, x2, x3, x4, x5, x6, x7, rfl⟩ : ∃ x0 x1 x2 x3 x4 x5 x6 x7, v = [x0, x1, x2, x3, x4, x5, x6, x7] := by
        match v, hbl8 with
        | [x0, x1, x2, x3, x4, x5, x6, x7], _ => exact ⟨x0, x1, x2, x3, x4, x5, x6, x7, rfl⟩
      have hml := mixed_len [x0, x1, x2, x3, x4, x5, x6, x7] bb rfl
      have hbk := fun (W : World) (hW : Below wr.heap.size wr W) => block_calls [x0, x1, x2, x3, x4, x5, x6, x7] (Option.map (fun x => x.add q) Aa) (ca - q) (ofB bb) W hbw rfl (by rw [ofB_length, hbbl]; exact Kd.C_below hCb hW) (by rw [ofB_length]; omega) (byteOk_nat bb (by
        intro x hx
        obtain ⟨i, hi, rfl⟩ := List.getElem_of_mem hx
        have := hbb i
        rwa [List.getD_eq_getElem?_getD, List.getElem?_eq_getElem hi] at this))
      simp only [toB_ofB, ofB_length, hbbl] at hbk
      have eb : blockOf [x0, x1, x2, x3, x4, x5, x6, x7] bb = Sha.mixed [x0, x1, x2, x3, x4, x5, x6, x7] bb := by unfold blockOf; rw [if_pos hbbl]
      have ee : blockErr bb = 0 := by unfold blockErr; rw [if_pos hbbl]
      simp only [eb, ee] at hbk
      obtain ⟨y0, y1, y2, y3, y4, y5, y6, y7, hy⟩ : ∃ y0 y1 y2 y3 y4 y5 y6 y7, Sha.mixed [x0, x1, x2, x3, x4, x5, x6, x7] bb = [y0, y1, y2, y3, y4, y5, y6, y7] := by
        match Sha.mixed [x0, x1, x2, x3, x4, x5, x6, x7] bb, hml with
        | [y0, y1, y2, y3, y4, y5, y6, y7], _ => exact ⟨y0, y1, y2, y3, y4, y5, y6, y7, rfl⟩
      simp only [hy] at hbk
      have hbk : ∀ W, Below wr.heap.size wr W → Calls Try.prog 25 #[.agg #[Value.int .u32 (x0 : Int), Value.int .u32 (x1 : Int), Value.int .u32 (x2 : Int), Value.int .u32 (x3 : Int), Value.int .u32 (x4 : Int), Value.int .u32 (x5 : Int), Value.int .u32 (x6 : Int), Value.int .u32 (x7 : Int)], .slice (Option.map (fun x => x.add q) Aa) 64 (ca - q)] W fun e w' => e = .returned (.tuple #[.agg #[Value.int .u32 (y0 : Int), Value.int .u32 (y1 : Int), Value.int .u32 (y2 : Int), Value.int .u32 (y3 : Int), Value.int .u32 (y4 : Int), Value.int .u32 (y5 : Int), Value.int .u32 (y6 : Int), Value.int .u32 (y7 : Int)], .int .i64 0]) ∧ Below W.heap.size W w' := hbk
      have Hbk := Lib.hid hbk
      rw [hy] at Hnx
      have g0 : wr.cell? ⟨gh, 0, none⟩ = some (.int .u32 x0) := bh.cell 0
      have g1 : wr.cell? ⟨gh, 1, none⟩ = some (.int .u32 x1) := bh.cell 1
      have g2 : wr.cell? ⟨gh, 2, none⟩ = some (.int .u32 x2) := bh.cell 2
      have g3 : wr.cell? ⟨gh, 3, none⟩ = some (.int .u32 x3) := bh.cell 3
      have g4 : wr.cell? ⟨gh, 4, none⟩ = some (.int .u32 x4) := bh.cell 4
      have g5 : wr.cell? ⟨gh, 5, none⟩ = some (.int .u32 x5) := bh.cell 5
      have g6 : wr.cell? ⟨gh, 6, none⟩ = some (.int .u32 x6) := bh.cell 6
      have g7 : wr.cell? ⟨gh, 7, none⟩ = some (.int .u32 x7) := bh.cell 7
      have f0 := bh.frozen 0
      have f1 := bh.frozen 1
      have f2 := bh.frozen 2
      have f3 := bh.frozen 3
      have f4 := bh.frozen 4
      have f5 := bh.frozen 5
      have f6 := bh.frozen 6
      have f7 := bh.frozen 7
      have hgl := bh.lt
      have p0 : (0 : Int) ≤ (q : Int) := by omega
      have p1 : (q : Int) ≤ (q : Int) + 64 := by omega
      have p2 : (0 : Int) ≤ (q : Int) + 64 := by omega
      have p3 : (q : Int) + 64 ≤ (ca : Int) := by omega
      have p4 : ((q : Int) + 64).toNat = q + 64 := by omega
      have p5 : q + 64 - q = 64 := by omega
      have Hbl := Lib.hid (And.intro bh hbl)
      clear hbk hy hml eb ee hbb hbbl hCb bh hbl hbw hbl8
      go_upto_region 12 with (fail)
      go_cut [7, 8] (fun v7 v8 wc => ∃ gx : Nat, v7 = .pointer (some ⟨gx, 0, none⟩) ∧ v8 = .int .i64 0 ∧ gh < gx ∧ Aside0 (Blk wc gx 31 (wordsV [y0, y1, y2, y3, y4, y5, y6, y7])) ∧ Aside0 (Blk wc gh 31 (wordsV [x0, x1, x2, x3, x4, x5, x6, x7])) ∧ Aside0 (Below W9.heap.size W9 wc))
      case first =>
        go_region_with (go_at_call 25; (first | refine (Hbk.out wr.drew (Below.refl wr.heap.size wr).drew).mono ?_ | refine (Hbk.out _ ((Below.refl wr.heap.size wr).alloc (Nat.le_refl _) (Obj.cells #[Value.int IntKind.u32 0, Value.int IntKind.u32 0, Value.int IntKind.u32 0, Value.int IntKind.u32 0, Value.int IntKind.u32 0, Value.int IntKind.u32 0, Value.int IntKind.u32 0, Value.int IntKind.u32 0] 31)).drew).mono ?_); rintro e W5 ⟨rfl, hbW⟩; obtain ⟨hcW, hfW⟩ := bcell2 hbW; have hzW : gh < W5.heap.size := (by have := hbW.size; simp at this; omega))
        all_goals
          clear g0 g1 g2 g3 g4 g5 g6 g7 f0 f1 f2 f3 f4 f5 f6 f7 hcW hfW
          first
            | (have bhW : Blk W5 gh _ _ := Blk.below (w := wr.drew) Hbl.out.1 hbW hgl
               have hblW := Hbl.out.2.drew.trans (hbW.mono Hbl.out.2.size)
               have hF := Lib.hid (And.intro (Blk.new W5 31 (wordsV [y0, y1, y2, y3, y4, y5, y6, y7])) (And.intro (bhW.alloc (.cells (wordsV [y0, y1, y2, y3, y4, y5, y6, y7]) 31)) (hblW.alloc hblW.size (.cells (wordsV [y0, y1, y2, y3, y4, y5, y6, y7]) 31))))
               clear bhW hblW hbW Hbl
               go_wp2
               go_meet
               case rel => exact ⟨W5.heap.size, rfl, rfl, hzW, ⟨hF.out.1⟩, ⟨hF.out.2.1⟩, ⟨hF.out.2.2⟩⟩)
            | (have hal := (Below.refl wr.heap.size wr).alloc (Nat.le_refl _) (Obj.cells #[Value.int IntKind.u32 0, Value.int IntKind.u32 0, Value.int IntKind.u32 0, Value.int IntKind.u32 0, Value.int IntKind.u32 0, Value.int IntKind.u32 0, Value.int IntKind.u32 0, Value.int IntKind.u32 0] 31)
               have bhW : Blk W5 gh _ _ := Blk.below (w := (wr.alloc _).drew) (show Blk (wr.alloc _) gh _ _ from Hbl.out.1.alloc _) hbW (by simp; omega)
               have bxW : Blk W5 wr.heap.size 31 (wordsV z8) := Blk.below (w := (wr.alloc _).drew) (show Blk (wr.alloc _) wr.heap.size _ _ from Blk.new wr 31 (wordsV z8)) hbW (by simp)
               have hblW := (Hbl.out.2.trans (hal.drew.mono Hbl.out.2.size)).trans (hbW.mono (by have := Hbl.out.2.size; simp; omega))
               obtain ⟨e5, e6, e7⟩ := eight (x0 := 0) (x1 := 0) (x2 := 0) (x3 := 0) (x4 := 0) (x5 := 0) (x6 := 0) (x7 := 0) bxW y0 y1 y2 y3 y4 y5 y6 y7
               replace e6 := e6 gh _ _ (by omega) bhW
               replace e7 := e7 _ _ Hbl.out.2.size hblW
               have hF := Lib.hid (And.intro e5 (And.intro e6 e7))
               clear bhW bxW hblW hbW e5 e6 e7 hal Hbl
               go_wp2
               go_meet
               case rel => exact ⟨wr.heap.size, rfl, rfl, hgl, ⟨hF.out.1⟩, ⟨hF.out.2.1⟩, ⟨hF.out.2.2⟩⟩)
      case rest =>
      obtain ⟨gx, rfl, rfl, hgx, ⟨bx⟩, ⟨bh⟩, ⟨hbl⟩⟩ := hcut
      clear g0 g1 g2 g3 g4 g5 g6 g7 f0 f1 f2 f3 f4 f5 f6 f7 Hbl Hbk
      have hbl := Lib.hid hbl
      go_wp2_with (first
        | (refine wpList_load_row rfl 31 (.tmp 7) rfl gx rfl 31 _ (0, 0) _ bx Try.underlying31 rfl infoStart ?_)
        | (refine wpList_store_row rfl 31 (.tmp 5) (.tmp 62) rfl gh (wordsV [y0, y1, y2, y3, y4, y5, y6, y7]) rfl rfl 31 _ bh infoStart rfl (by simp [wordsV, Value.oneCell']) ?_))
      have bh2 := bh.setRow_ (wordsV [y0, y1, y2, y3, y4, y5, y6, y7])
      have hb2 := hbl.out.trans (Iter.below_setRow (B := W9.heap.size) (g := gh) (wordsV [y0, y1, y2, y3, y4, y5, y6, y7]) (by omega))
      rw [← Hnx.out] at bh2 hb2 ⊢
      exact ⟨⟨k + 1, by omega, by have := Hq.out; rw [show ((64 * (k + 1) : Nat) : Int) = (q : Int) + 64 by omega], bh2, hb2⟩, by have := Hq.out; simp [intOf]; omega⟩
    · obtain rfl : k = m := by omega
      have hN := HM.out.2.2.2.2.2
      have hd0 : decide (((64 * k : Nat) : Int) < (N : Int)) = false := by rw [decide_eq_false_iff_not]; omega
      have hd0n : decide (64 * k < N) = false := by rw [decide_eq_false_iff_not]; omega
      obtain ⟨q, hq0⟩ : ∃ q, 64 * k = q := ⟨_, rfl⟩
      rw [hq0] at hd0 hd0n ⊢
      clear hN hq0
      have hfin := HM.out.2.1
      generalize Sha.blkTo all Sha.hTab k = hh at *
      have hb10 := Hb9.out.trans (hbl.mono Hb9.out.size)
      have hC10 := Kd.C_below (Kd.C_below HR0.out.1 Hb9.out) hbl
      have hgl := bh.lt
      have H10 := Lib.hid (And.intro hb10 hC10)
      clear hbl hb10 hC10 HCa
      have Hfin := Lib.hid hfin
      clear hfin
      go_wp2_with fail
      have hcs := P.sha_Sum.calls A0 c0 (ofB b) (ofB (Sha.sum b)) wr H10.out.2 HR0.out.2 HS0.out
      rw [ofB_length] at hcs
      refine hcs.mono ?_
      clear hcs
      rintro e W11 ⟨v11, rfl, hR11, hb11⟩
      have hsl : (ofB (Sha.sum b)).length = 32 := by rw [ofB_length, Sha.sum_length]
      obtain ⟨gs, cs, rfl, -, -, -⟩ := Kd.R_form hR11 (by omega)
      obtain ⟨-, hcs, hCs⟩ := Kd.R_reads' hR11
      rw [hsl] at hcs hCs ⊢
      have bh11 := bh.below hb11 hgl
      have hb12 := H10.out.1.trans (hb11.mono H10.out.1.size)
      have hgl11 := bh11.lt
      clear hR11 hb11 bh hgl H10 hsl
      have Hb12 := Lib.hid hb12
      clear hb12
      go_wp2_with fail
      go_loopw [10] (fun i wr => ∃ t : Nat, t ≤ 8 ∧ i = .int .i64 t ∧ Aside0 (∃ n, wr = W11.drewN n)) (fun i _ => 8 - (intOf i).toNat)
      case atStart => exact ⟨0, by omega, rfl, ⟨0, rfl⟩⟩
      case round =>
        obtain ⟨t, ht, rfl, ⟨nd, rfl⟩⟩ := hrel
        by_cases ht8 : t < 8
        · have lx := hbw t
          have gx : W11.cell? ⟨gh, t, none⟩ = some (.int .u32 ((hh.getD t 0 : Nat) : Int)) := (bh11.cell t).trans (wordsV_at _ _ (by omega))
          have cell : ∀ j, j < 4 → W11.cell? ⟨gs, 4 * t + j, none⟩ = some (.int .u8 (((Sha.out4 (hh.getD t 0)).getD j 0 : Nat) : Int)) := fun j hj => by
            obtain ⟨ad, ea, hc⟩ := Kd.at_int hCs ((4 * t + j : Nat) : Int) (by omega) (by omega)
            cases ea
            rw [Int.toNat_natCast, add_plain, rd_ofB, Hfin.out, flat_at hh t j (by omega) hj] at hc
            exact hc
          obtain ⟨x, hx⟩ : ∃ x, hh.getD t 0 = x := ⟨_, rfl⟩
          rw [hx] at gx lx
          simp only [hx] at cell
          have c0' := cell 0 (by omega)
          have c1' := cell 1 (by omega)
          have c2' := cell 2 (by omega)
          have c3' := cell 3 (by omega)
          clear cell hx
          have z0e : (Sha.out4 x).getD 0 0 = x / 16777216 % 256 := by simp [Sha.out4, Nat.shiftRight_eq_div_pow]
          have z1e : (Sha.out4 x).getD 1 0 = x / 65536 % 256 := by simp [Sha.out4, Nat.shiftRight_eq_div_pow]
          have z2e : (Sha.out4 x).getD 2 0 = x / 256 % 256 := by simp [Sha.out4, Nat.shiftRight_eq_div_pow]
          have z3e : (Sha.out4 x).getD 3 0 = x % 256 := by simp [Sha.out4]
          rw [z0e] at c0'
          rw [z1e] at c1'
          rw [z2e] at c2'
          rw [z3e] at c3'
          obtain ⟨z0, hz0⟩ : ∃ z, x / 16777216 % 256 = z := ⟨_, rfl⟩
          obtain ⟨z1, hz1⟩ : ∃ z, x / 65536 % 256 = z := ⟨_, rfl⟩
          obtain ⟨z2, hz2⟩ : ∃ z, x / 256 % 256 = z := ⟨_, rfl⟩
          obtain ⟨z3, hz3⟩ : ∃ z, x % 256 = z := ⟨_, rfl⟩
          rw [hz0] at c0'
          rw [hz1] at c1'
          rw [hz2] at c2'
          rw [hz3] at c3'
          clear z0e z1e z2e z3e
          obtain ⟨p0, hp0⟩ : ∃ p, 4 * t = p := ⟨_, rfl⟩
          rw [hp0] at c0' c1' c2' c3'
          rw [Nat.add_zero] at c0'
          obtain ⟨p1, hp1⟩ : ∃ p, p0 + 1 = p := ⟨_, rfl⟩
          obtain ⟨p2, hp2⟩ : ∃ p, p0 + 2 = p := ⟨_, rfl⟩
          obtain ⟨p3, hp3⟩ : ∃ p, p0 + 3 = p := ⟨_, rfl⟩
          rw [hp1] at c1'
          rw [hp2] at c2'
          rw [hp3] at c3'
          have w0 : IntKind.i64.wrap (4 * (t : Int)) = (p0 : Int) := by rw [IntKind.wrap_i64]; omega
          have w1 : IntKind.i64.wrap ((p0 : Int) + 1) = (p1 : Int) := by rw [IntKind.wrap_i64]; omega
          have w2 : IntKind.i64.wrap ((p0 : Int) + 2) = (p2 : Int) := by rw [IntKind.wrap_i64]; omega
          have w3 : IntKind.i64.wrap ((p0 : Int) + 3) = (p3 : Int) := by rw [IntKind.wrap_i64]; omega
          have l0 : (0 : Int) ≤ (p0 : Int) := by omega
          have l1 : (0 : Int) ≤ (p1 : Int) := by omega
          have l2 : (0 : Int) ≤ (p2 : Int) := by omega
          have l3 : (0 : Int) ≤ (p3 : Int) := by omega
          have u0 : (p0 : Int) < 32 := by omega
          have u1 : (p1 : Int) < 32 := by omega
          have u2 : (p2 : Int) < 32 := by omega
          have u3 : (p3 : Int) < 32 := by omega
          have t0 : (0 : Int) ≤ (t : Int) := by omega
          have t1 : (t : Int) < 8 := by omega
          have hd : decide ((t : Int) < 8) = true := by rw [decide_eq_true_eq]; omega
          obtain ⟨a0, ha0⟩ : ∃ a, z0 * 16777216 = a := ⟨_, rfl⟩
          obtain ⟨a1, ha1⟩ : ∃ a, z1 * 65536 = a := ⟨_, rfl⟩
          obtain ⟨a2, ha2⟩ : ∃ a, z2 * 256 = a := ⟨_, rfl⟩
          obtain ⟨s1, hs1⟩ : ∃ a, a0 + a1 = a := ⟨_, rfl⟩
          obtain ⟨s2, hs2⟩ : ∃ a, s1 + a2 = a := ⟨_, rfl⟩
          have v0 : IntKind.u32.wrap (z0 : Int) = (z0 : Int) := by rw [IntKind.wrap_u32']; omega
          have v1 : IntKind.u32.wrap (z1 : Int) = (z1 : Int) := by rw [IntKind.wrap_u32']; omega
          have v2 : IntKind.u32.wrap (z2 : Int) = (z2 : Int) := by rw [IntKind.wrap_u32']; omega
          have v3 : IntKind.u32.wrap (z3 : Int) = (z3 : Int) := by rw [IntKind.wrap_u32']; omega
          have v4 : IntKind.u32.wrap ((z0 : Int) * 16777216) = (a0 : Int) := by rw [IntKind.wrap_u32']; omega
          have v5 : IntKind.u32.wrap ((z1 : Int) * 65536) = (a1 : Int) := by rw [IntKind.wrap_u32']; omega
          have v6 : IntKind.u32.wrap ((z2 : Int) * 256) = (a2 : Int) := by rw [IntKind.wrap_u32']; omega
          have v7 : IntKind.u32.wrap ((a0 : Int) + (a1 : Int)) = (s1 : Int) := by rw [IntKind.wrap_u32']; omega
          have v8 : IntKind.u32.wrap ((s1 : Int) + (a2 : Int)) = (s2 : Int) := by rw [IntKind.wrap_u32']; omega
          have v9 : IntKind.u32.wrap ((s2 : Int) + (z3 : Int)) = (x : Int) := by rw [IntKind.wrap_u32']; omega
          clear hz0 hz1 hz2 hz3 hp0 hp1 hp2 hp3 ha0 ha1 ha2 hs1 hs2 lx hbw
          go_wp2_with fail
          go_quiet (fail)
          clear w0 w1 w2 w3 v0 v1 v2 v3 v4 v5 v6 v7 v8 v9 c0' c1' c2' c3' gx
          go_wp2
          exact ⟨⟨t + 1, by omega, by go_num, ⟨nd + nq, rfl⟩⟩, by simp [intOf]; omega⟩
        · obtain rfl : t = 8 := by omega
          have hd : decide (((8 : Nat) : Int) < 8) = false := by decide
          have hbf := pw_below_drewN Hb12.out nd
          go_wp2
          go_ret
          exact ⟨rfl, hbf⟩
end Go.Proofs.Ytamaokokbajlgaa
