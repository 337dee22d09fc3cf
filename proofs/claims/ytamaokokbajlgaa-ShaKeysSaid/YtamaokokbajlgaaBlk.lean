/-
  Walks: sha.Block, pyxref02.Block.
-/
import Derived.Test.YtamaokokbajlgaaRefSum
import Derived.Laws.ResultCell
import Derived.Deep.CutBlock
namespace Go.Proofs.Ytamaokokbajlgaa
set_option linter.unusedVariables false
set_option linter.unusedSimpArgs false
open Go.RowKit Go.Proofs.Ytamaokokbajlgaa.L Go.Proofs.YtamaokokbajlgaaW.PrintWords Go.Proofs.YtamaokokbajlgaaW.PrintLast Go.Proofs.YtamaokokbajlgaaW.PrintMore
attribute [local go_sem ↓] Go.wp_at_zero Go.wp_at_succ

theorem results_row_tmp {P : Program} {fn : Func} {p u : Tmp} {ty : TypeId} (h : fn.results = #[.cell p ty, .tmp u]) (tmps : Array Value) (w : World) (g : Nat) (t : TypeId) (cs : Array Value) (fr : Nat × Nat) (d : TypeDesc)
    (hp : tmps.getD p undef = .pointer (some ⟨g, 0, none⟩)) (hg : w.heap[g]? = some (.cells cs t fr))
    (hu : P.underlying ty = some d) (hd : (match d with | .struct _ | .array _ _ => true | _ => false) = true) (hi : (P.info? ty).map (·.size) = some cs.size) :
    (results fn tmps).run P w = .ok (.tuple #[.agg cs, tmps.getD u undef]) w := by
  rw [results_cell_tmp h, hp]
  simp [asAddr, run_loadVar_row w g t ty cs fr d hg hu hd hi, Result.andThen]

def blockOf (h b : List Nat) : List Nat := if b.length = 64 then Sha.mixed h b else h
def blockErr (b : List Nat) : Int := if b.length = 64 then 0 else 1
theorem blockOf_len (h b : List Nat) (hh : h.length = 8) : (blockOf h b).length = 8 := by
  unfold blockOf
  split
  · exact mixed_len _ _ hh
  · exact hh
theorem blockOf_ws (h b : List Nat) (hh : Ws h) : Ws (blockOf h b) := by
  unfold blockOf
  split
  · exact mixed_ws _ _ hh
  · exact hh

set_option maxRecDepth 100000 in
set_option maxHeartbeats 2000000 in
theorem block_calls (h : List Nat) (A1 : Option Addr) (c1 : Nat) (l1 : List Int) (w : World) (hh : Ws h) (hhl : h.length = 8) (hr1 : Kd.C (Kd.int .u8) w A1 l1.length l1) (hc1 : l1.length ≤ c1) (o1 : byteOk l1 = true) :
    Calls Try.prog 25 #[.agg (wordsV h), .slice A1 l1.length c1] w fun e w' => e = .returned (.tuple #[.agg (wordsV (blockOf h (toB l1))), .int .i64 (blockErr (toB l1))]) ∧ Below w.heap.size w w' := by
  have hlb : (toB l1).length = l1.length := by simp [toB]
  have hbs := bs_of_ok l1 o1
  have e1 : l1 = ofB (toB l1) := (ofB_toB l1 o1).symm
  obtain ⟨b, hb⟩ : ∃ b, toB l1 = b := ⟨_, rfl⟩
  rw [hb] at hlb hbs e1 ⊢
  rw [e1] at hr1 hc1 ⊢
  rw [ofB_length] at hr1 hc1 ⊢
  clear hb e1 o1 hlb
  have bh := (Blk.new w 31 (wordsV h)).alloc (.cells (wordsV z8) 31)
  have br := Blk.new (w.alloc (.cells (wordsV h) 31)) 31 (wordsV z8)
  have hbl : Below w.heap.size w ((w.alloc (.cells (wordsV h) 31)).alloc (.cells (wordsV z8) 31)) := ((Below.refl _ w).alloc (Nat.le_refl _) _).alloc (by simp) _
  have hsz : ((w.alloc (.cells (wordsV h) 31)).alloc (.cells (wordsV z8) 31)).heap.size = w.heap.size + 2 := by simp
  rw [World.size_alloc] at br
  have hxl : (wordsV h).size = 8 := by rw [wordsV_size, hhl]
  have h1c : (wordsV h).all (·.oneCell') = true := by simp [wordsV, Value.oneCell']
  have ih8 : (Try.prog.info? 31).map (·.size) = some (wordsV h).size := by rw [hxl]; exact infoStart
  by_cases h64 : b.length = 64
  · have d64 : ((b.length : Int) != 64) = false := by rw [bne_eq_false_iff_eq]; omega
    have eb : blockOf h b = Sha.mixed h b := by unfold blockOf; rw [if_pos h64]
    have ee : blockErr b = 0 := by unfold blockErr; rw [if_pos h64]
    rw [eb, ee]
    clear eb ee
    have hml := mixed_len h b hhl
    have hmx : (wordsV (Sha.mixed h b)).size = 8 := by rw [wordsV_size, hml]
    have hm1 : (wordsV (Sha.mixed h b)).all (·.oneCell') = true := by simp [wordsV, Value.oneCell']
    have im8 : (Try.prog.info? 31).map (·.size) = some (wordsV (Sha.mixed h b)).size := by rw [hmx]; exact infoStart
    rw [← zero8] at bh br hbl hsz
    have H64 := Lib.hid h64
    rw [h64] at hr1 hc1 ⊢
    clear h64 d64
    have HB := Lib.hid (And.intro hbl hr1)
    clear hbl hr1
    go_enter Try.func25, Try.ntmps25
    go_wp2_with fail
    refine (keys_calls _).mono ?_
    rintro e W1 ⟨rfl, hb1⟩
    have bh1 := bh.below hb1 bh.lt
    have br1 := br.below hb1 br.lt
    have hb2 := HB.out.1.trans (hb1.mono (by omega))
    have hC2 := Kd.C_below HB.out.2 hb2
    have hsz1 : w.heap.size + 2 ≤ W1.heap.size := by have := hb1.size; omega
    clear bh br hb1 HB hsz
    have z64l : ∀ w : World, (wordsV Sha.kTab).size = 64 := fun _ => by rw [wordsV_size, kTab_len]
    go_wp2_with (first
      | (refine wpList_store_row rfl 55 (.tmp 6) (.tmp 11) rfl W1.heap.size _ rfl rfl 55 _ (heap_alloc_new _ _) (by rw [wordsV_size, kTab_len]; exact infokeys) (by rw [wordsV_size, kTab_len]; rfl) (by simp [wordsV, Value.oneCell']) ?_)
      | (refine wpList_load_row rfl 31 (.tmp 2) rfl w.heap.size rfl 31 _ (0, 0) _ (Blk.farRow (bh1.alloc _) (by omega) _) Try.underlying31 rfl ih8 ?_))
    rw [zero64 b]
    have bk3 := (Blk.new W1 55 (wordsV (Sha.wordsTo b 0))).setRow_ (wordsV Sha.kTab)
    have br3 := (br1.alloc (.cells (wordsV (Sha.wordsTo b 0)) 55)).farRow (g' := W1.heap.size) (by omega) (wordsV Sha.kTab)
    have hb3 := (hb2.alloc hb2.size (.cells (wordsV (Sha.wordsTo b 0)) 55)).trans (Iter.below_setRow (g := W1.heap.size) (wordsV Sha.kTab) hb2.size)
    have hbn := ((Below.refl W1.heap.size W1).alloc (Nat.le_refl _) (.cells (wordsV (Sha.wordsTo b 0)) 55)).trans (Iter.below_setRow (B := W1.heap.size) (g := W1.heap.size) (wordsV Sha.kTab) (Nat.le_refl _))
    have hC3 := Kd.C_below hC2 hbn
    have hsz3 : w.heap.size + 2 ≤ ((W1.alloc (.cells (wordsV (Sha.wordsTo b 0)) 55)).setRow W1.heap.size (wordsV Sha.kTab)).heap.size := by have := hbn.size; omega
    generalize (W1.alloc (.cells (wordsV (Sha.wordsTo b 0)) 55)).setRow W1.heap.size (wordsV Sha.kTab) = W3 at bk3 br3 hb3 hC3 hsz3 ⊢
    have hBy := bytesAt_of_C (b := b) (by rw [ofB_length, H64.out]; exact hC3)
    refine (mixed_calls h b A1 c1 W1.heap.size W3 hh hhl hbs H64.out hc1 hBy bk3).mono ?_
    rintro e W4 ⟨rfl, hb4⟩
    have br4 := br3.below hb4 br3.lt
    have hb5 := hb3.trans (hb4.mono hb3.size)
    clear bk3 br3 hb3 hC3 hBy hb4 hbn bh1 br1 hb2 hC2
    go_wp2_with (first
      | (refine wpList_store_row rfl 31 (.tmp 4) (.tmp 14) rfl (w.heap.size + 1) (wordsV (Sha.mixed h b)) rfl rfl 31 _ br4 im8 (by rw [hmx]; rfl) hm1 ?_))
    exact bodyPost_ret (results_row_tmp rfl _ _ (w.heap.size + 1) 31 (wordsV (Sha.mixed h b)) (0, 0) _ rfl (setRow_heap _ (w.heap.size + 1) _ _ _ _ br4) Try.underlying31 rfl im8) rfl ⟨rfl, hb5.trans (Iter.below_setRow _ (by omega))⟩
  · have d64 : ((b.length : Int) != 64) = true := by rw [bne_iff_ne]; omega
    have eb : blockOf h b = h := by unfold blockOf; rw [if_neg h64]
    have ee : blockErr b = 1 := by unfold blockErr; rw [if_neg h64]
    rw [eb, ee]
    clear eb ee
    rw [← zero8] at bh br hbl hsz
    have HB := Lib.hid hbl
    clear hbl
    go_enter Try.func25, Try.ntmps25
    go_wp2_with (first
      | (refine wpList_load_row rfl 31 (.tmp 2) rfl w.heap.size rfl 31 _ (0, 0) _ bh Try.underlying31 rfl ih8 ?_)
      | (refine wpList_store_row rfl 31 (.tmp 4) (.tmp 10) rfl (w.heap.size + 1) (wordsV h) rfl rfl 31 _ br ih8 (by rw [hxl]; rfl) h1c ?_))
    exact bodyPost_ret (results_row_tmp rfl _ _ (w.heap.size + 1) 31 (wordsV h) (0, 0) _ rfl (setRow_heap _ (w.heap.size + 1) _ _ _ _ br) Try.underlying31 rfl ih8) rfl ⟨rfl, HB.out.trans (Iter.below_setRow _ (by omega))⟩

set_option maxRecDepth 100000 in
set_option maxHeartbeats 4000000 in
theorem refBlock_calls (h : List Nat) (A1 : Option Addr) (c1 : Nat) (l1 : List Int) (w : World) (hh : Ws h) (hhl : h.length = 8) (hr1 : Kd.C (Kd.int .u8) w A1 l1.length l1) (hc1 : l1.length ≤ c1) (o1 : byteOk l1 = true) :
    Calls Try.prog 26 #[.agg (wordsV h), .slice A1 l1.length c1] w fun e w' => e = .returned (.tuple #[.agg (wordsV (blockOf h (toB l1))), .int .i64 (blockErr (toB l1))]) ∧ Below w.heap.size w w' := by
  have hlb : (toB l1).length = l1.length := by simp [toB]
  have hbs := bs_of_ok l1 o1
  have e1 : l1 = ofB (toB l1) := (ofB_toB l1 o1).symm
  obtain ⟨b, hb⟩ : ∃ b, toB l1 = b := ⟨_, rfl⟩
  rw [hb] at hlb hbs e1 ⊢
  rw [e1] at hr1 hc1 ⊢
  rw [ofB_length] at hr1 hc1 ⊢
  clear hb e1 o1 hlb
  have bh := (Blk.new w 31 (wordsV h)).alloc (.cells (wordsV z8) 31)
  have br := Blk.new (w.alloc (.cells (wordsV h) 31)) 31 (wordsV z8)
  have hbl : Below w.heap.size w ((w.alloc (.cells (wordsV h) 31)).alloc (.cells (wordsV z8) 31)) := ((Below.refl _ w).alloc (Nat.le_refl _) _).alloc (by simp) _
  have hsz : ((w.alloc (.cells (wordsV h) 31)).alloc (.cells (wordsV z8) 31)).heap.size = w.heap.size + 2 := by simp
  rw [World.size_alloc] at br
  have hxl : (wordsV h).size = 8 := by rw [wordsV_size, hhl]
  have h1c : (wordsV h).all (·.oneCell') = true := by simp [wordsV, Value.oneCell']
  have ih8 : (Try.prog.info? 31).map (·.size) = some (wordsV h).size := by rw [hxl]; exact infoStart
  by_cases h64 : b.length = 64
  · have d64 : ((b.length : Int) != 64) = false := by rw [bne_eq_false_iff_eq]; omega
    have eb : blockOf h b = Sha.mixed h b := by unfold blockOf; rw [if_pos h64]
    have ee : blockErr b = 0 := by unfold blockErr; rw [if_pos h64]
    rw [eb, ee]
    clear eb ee
    have hml := mixed_len h b hhl
    have hmx : (wordsV (Sha.mixed h b)).size = 8 := by rw [wordsV_size, hml]
    have hm1 : (wordsV (Sha.mixed h b)).all (·.oneCell') = true := by simp [wordsV, Value.oneCell']
    have im8 : (Try.prog.info? 31).map (·.size) = some (wordsV (Sha.mixed h b)).size := by rw [hmx]; exact infoStart
    rw [← zero8] at bh br hbl hsz
    have H64 := Lib.hid h64
    have eat : blkAt b 0 = b := by unfold blkAt; rw [List.drop_zero, List.take_of_length_le (by omega)]
    rw [h64] at hr1 hc1 ⊢
    clear h64 d64
    have HB := Lib.hid (And.intro hbl hr1)
    clear hbl hr1
    clear ih8 h1c hxl im8 hm1 hmx
    obtain ⟨x0, x1, x2, x3, x4, x5, x6, x7, rfl⟩ : ∃ x0 x1 x2 x3 x4 x5 x6 x7, h = [x0, x1, x2, x3, x4, x5, x6, x7] := by
      match h, hhl with
      | [x0, x1, x2, x3, x4, x5, x6, x7], _ => exact ⟨x0, x1, x2, x3, x4, x5, x6, x7, rfl⟩
    obtain ⟨y0, y1, y2, y3, y4, y5, y6, y7, hy⟩ : ∃ y0 y1 y2 y3 y4 y5 y6 y7, Sha.mixed [x0, x1, x2, x3, x4, x5, x6, x7] b = [y0, y1, y2, y3, y4, y5, y6, y7] := by
      match Sha.mixed [x0, x1, x2, x3, x4, x5, x6, x7] b, hml with
      | [y0, y1, y2, y3, y4, y5, y6, y7], _ => exact ⟨y0, y1, y2, y3, y4, y5, y6, y7, rfl⟩
    have hst : ∀ (W : World) (Ak : Option Addr) (ck : Nat), Kd.C (Kd.int .u8) W A1 64 (ofB b) → Kd.C (Kd.int .u32) W Ak 64 (ofB Sha.kTab) →
        Calls Try.prog 43 #[.agg #[Value.int .u32 (x0 : Int), Value.int .u32 (x1 : Int), Value.int .u32 (x2 : Int), Value.int .u32 (x3 : Int), Value.int .u32 (x4 : Int), Value.int .u32 (x5 : Int), Value.int .u32 (x6 : Int), Value.int .u32 (x7 : Int)], .slice A1 64 c1, .int .i64 0, .slice Ak 64 ck] W fun e w' => e = .returned (.agg #[Value.int .u32 (y0 : Int), Value.int .u32 (y1 : Int), Value.int .u32 (y2 : Int), Value.int .u32 (y3 : Int), Value.int .u32 (y4 : Int), Value.int .u32 (y5 : Int), Value.int .u32 (y6 : Int), Value.int .u32 (y7 : Int)]) ∧ Below W.heap.size W w' := by
      intro W Ak ck hA hk
      have h1 := step_calls [x0, x1, x2, x3, x4, x5, x6, x7] b 0 A1 Ak c1 ck W hh rfl hbs (by have := H64.out; omega) (by have := H64.out; omega) (by rw [ofB_length, H64.out]; exact hc1) (by rw [ofB_length, H64.out]; exact hA) hk
      rw [eat, hy, ofB_length, H64.out] at h1
      exact h1
    have Hst := Lib.hid hst
    have Hyy := Lib.hid hy
    clear hst hy eat hml
    rw [Hyy.out]
    have hz : (ofB Sha.kTab).length = 64 := by rw [ofB_length]; rfl
    go_enter Try.func26, Try.ntmps26
    go_wp2_with fail
    generalize hW0 : (w.alloc (Obj.cells (wordsV [x0, x1, x2, x3, x4, x5, x6, x7]) 31)).alloc _ = W0 at bh br hsz HB ⊢
    clear hW0
    have g0 : W0.cell? ⟨w.heap.size, 0, none⟩ = some (.int .u32 x0) := bh.cell 0
    have g1 : W0.cell? ⟨w.heap.size, 1, none⟩ = some (.int .u32 x1) := bh.cell 1
    have g2 : W0.cell? ⟨w.heap.size, 2, none⟩ = some (.int .u32 x2) := bh.cell 2
    have g3 : W0.cell? ⟨w.heap.size, 3, none⟩ = some (.int .u32 x3) := bh.cell 3
    have g4 : W0.cell? ⟨w.heap.size, 4, none⟩ = some (.int .u32 x4) := bh.cell 4
    have g5 : W0.cell? ⟨w.heap.size, 5, none⟩ = some (.int .u32 x5) := bh.cell 5
    have g6 : W0.cell? ⟨w.heap.size, 6, none⟩ = some (.int .u32 x6) := bh.cell 6
    have g7 : W0.cell? ⟨w.heap.size, 7, none⟩ = some (.int .u32 x7) := bh.cell 7
    have r0 : W0.cell? ⟨w.heap.size + 1, 0, none⟩ = some (.int .u32 0) := br.cell 0
    have r1 : W0.cell? ⟨w.heap.size + 1, 1, none⟩ = some (.int .u32 0) := br.cell 1
    have r2 : W0.cell? ⟨w.heap.size + 1, 2, none⟩ = some (.int .u32 0) := br.cell 2
    have r3 : W0.cell? ⟨w.heap.size + 1, 3, none⟩ = some (.int .u32 0) := br.cell 3
    have r4 : W0.cell? ⟨w.heap.size + 1, 4, none⟩ = some (.int .u32 0) := br.cell 4
    have r5 : W0.cell? ⟨w.heap.size + 1, 5, none⟩ = some (.int .u32 0) := br.cell 5
    have r6 : W0.cell? ⟨w.heap.size + 1, 6, none⟩ = some (.int .u32 0) := br.cell 6
    have r7 : W0.cell? ⟨w.heap.size + 1, 7, none⟩ = some (.int .u32 0) := br.cell 7
    have f0 := br.frozen 0
    have f1 := br.frozen 1
    have f2 := br.frozen 2
    have f3 := br.frozen 3
    have f4 := br.frozen 4
    have f5 := br.frozen 5
    have f6 := br.frozen 6
    have f7 := br.frozen 7
    have l0 : w.heap.size < W0.heap.size := bh.lt
    have l1' : w.heap.size + 1 < W0.heap.size := br.lt
    have BR := Lib.hid br
    clear bh br
    go_region_with (first
      | (go_at_call 42; refine (L.pyxref02_keys.calls _ _ refKeys_eq).mono ?_; rintro e W4 ⟨v4, rfl, ho4, hb4⟩; obtain ⟨Ak, ck, rfl, hlk, hCk⟩ := Kd.R_reads ho4; rw [hz] at hCk ⊢; clear ho4; obtain ⟨hc4, hf4⟩ := bcell2 hb4; have l2 : w.heap.size < W4.heap.size := (by have := hb4.size; simp at this; omega); have l3 : w.heap.size + 1 < W4.heap.size := (by have := hb4.size; simp at this; omega))
      | (go_at_call 43; refine (Hst.out W4 Ak ck (Kd.C_below (Kd.C_drew (Kd.C_below HB.out.2 HB.out.1)) hb4) hCk).mono ?_; rintro e W5 ⟨rfl, hb5⟩; obtain ⟨hc5, hf5⟩ := bcell2 hb5))
    all_goals
      clear g0 g1 g2 g3 g4 g5 g6 g7 r0 r1 r2 r3 r4 r5 r6 r7 f0 f1 f2 f3 f4 f5 f6 f7 hc4 hf4 hc5 hf5
      have br5 : Blk W5 (w.heap.size + 1) 31 (wordsV z8) := Blk.below (Blk.below (w := W0.drew) (show Blk W0 _ _ _ from BR.out) hb4 (by simp; omega)) hb5 l3
      have hbf := (HB.out.1.drew.trans (hb4.mono (by simp; omega))).trans (hb5.mono (by omega))
      obtain ⟨e5, -, e7⟩ := eight (x0 := 0) (x1 := 0) (x2 := 0) (x3 := 0) (x4 := 0) (x5 := 0) (x6 := 0) (x7 := 0) br5 y0 y1 y2 y3 y4 y5 y6 y7
      replace e7 := e7 _ _ (by omega) hbf
      have HF := Lib.hid (And.intro e5 e7)
      clear e5 e7 br5 hbf hb4 hb5 BR
      go_wp2
      exact bodyPost_ret (results_row_tmp rfl _ _ (w.heap.size + 1) 31 (wordsV [y0, y1, y2, y3, y4, y5, y6, y7]) (0, 0) _ rfl HF.out.1 Try.underlying31 rfl infoStart) rfl ⟨rfl, HF.out.2⟩
  · have d64 : ((b.length : Int) != 64) = true := by rw [bne_iff_ne]; omega
    have eb : blockOf h b = h := by unfold blockOf; rw [if_neg h64]
    have ee : blockErr b = 1 := by unfold blockErr; rw [if_neg h64]
    rw [eb, ee]
    clear eb ee
    rw [← zero8] at bh br hbl hsz
    have HB := Lib.hid hbl
    clear hbl
    go_enter Try.func26, Try.ntmps26
    go_wp2_with (first
      | (refine wpList_load_row rfl 31 (.tmp 2) rfl w.heap.size rfl 31 _ (0, 0) _ bh Try.underlying31 rfl ih8 ?_)
      | (refine wpList_store_row rfl 31 (.tmp 4) (.tmp 9) rfl (w.heap.size + 1) (wordsV h) rfl rfl 31 _ br ih8 (by rw [hxl]; rfl) h1c ?_))
    exact bodyPost_ret (results_row_tmp rfl _ _ (w.heap.size + 1) 31 (wordsV h) (0, 0) _ rfl (setRow_heap _ (w.heap.size + 1) _ _ _ _ br) Try.underlying31 rfl ih8) rfl ⟨rfl, HB.out.trans (Iter.below_setRow _ (by omega))⟩
end Go.Proofs.Ytamaokokbajlgaa
