/-
  Walk: pyxref02.Sum, the document's digest.
-/
import Derived.Test.YtamaokokbajlgaaRefPad
import Derived.StillTailTactics
namespace Go.Proofs.Ytamaokokbajlgaa
open Go.RowKit Go.Proofs.Ytamaokokbajlgaa.L Go.Proofs.YtamaokokbajlgaaW.PrintWords Go.Proofs.YtamaokokbajlgaaW.PrintLast Go.Proofs.YtamaokokbajlgaaW.PrintMore

theorem refKeys_eq : L.pyxref02_keys.f = some (ofB Sha.kTab) := by kernel_rfl

namespace P
def pyxref02_Sum.f (l : List Int) : Option (List Int) := if byteOk l = true ∧ l.length ≤ 900000 then some (ofB (Sha.sum (toB l))) else none
set_option maxRecDepth 100000 in
set_option maxHeartbeats 4000000 in
theorem pyxref02_Sum.calls (A0 : Option Addr) (c0 : Nat) (l0 : List Int) (r : List Int) (w : World) (hr0 : Kd.C (Kd.int .u8) w A0 l0.length l0) (hc0 : l0.length ≤ c0) (h : pyxref02_Sum.f l0 = some r) :
    Calls Try.prog 18 #[.slice A0 l0.length c0] w fun e w' => ∃ v0_ : Value, e = .returned (v0_) ∧ Kd.R (Kd.int .u8) 5 w' w.heap.size (fun _ => True) v0_ r ∧ Below w.heap.size w w' := by
  unfold pyxref02_Sum.f at h
  split at h
  case isFalse => cases h
  case isTrue hok =>
  obtain ⟨hby, hlen⟩ := hok
  injection h with h
  obtain ⟨b, hb⟩ : ∃ b, toB l0 = b := ⟨_, rfl⟩
  have hl0 : l0 = ofB b := by rw [← hb]; exact (ofB_toB l0 hby).symm
  have hBs : Bs b := by rw [← hb]; exact bs_of_ok l0 hby
  rw [hb] at h
  subst h
  clear hb hby
  subst hl0
  have hbl0 : b.length ≤ 900000 := by rwa [ofB_length] at hlen
  have hcl := hr0
  have hpadl := Sha.pad_length b.length
  have hpadq := Sha.padLen_le b.length
  go_enter Try.func18, Try.ntmps18
  have Hb0 := (Below.refl w.heap.size w).alloc (Nat.le_refl _) (Obj.cells #[] 5)
  go_wp2_with (first
    | ((with_reducible refine gate_builtin (b := .append) (xs := #[.tmp 9, .tmp 10]) rfl ?_); at_builtin; refine Kd.R_append_rows (Kd.int .u8) (w0 := w) w.heap.size rfl (.tmp 9) (.tmp 10) 22 5 (.int .u8 0) 1 rfl Try.underlying22 info5 rfl (by decide) (by omega) (.slice (some ⟨w.heap.size, 0, none⟩) 0 0) [] (ofB b) _ _ _ (fun _ => True) (fun _ => False) rfl rfl ?aO ?aR (fun _ _ h => h) (fun _ h => h.elim) ?aF ?aB ?aS ?aL ?_; (case aR => exact Kd.C_alloc hcl _); (case aB => exact Hb0); (case aF => exact (fun _ _ => trivial)); (case aO => exact Kd.R_of_own (own_lit w w.heap.size 5 .u8 [] (Nat.le_refl _) (by simp)) (fun _ _ => trivial)); (case aS => exact Hb0.size); (case aL => first | (simp [ofB_length]; omega) | (rw [ofB_length]; simp; omega) | (rw [List.length_nil, ofB_length]; omega)); intro v1 W5 ho1 hb1 hg1 hat1))
  rw [ofB_length]
  refine (L.pyxref02_Pad.calls 80 (b.length : Int) _ _ (refPad_eq b.length (by omega))).mono ?_
  rintro e W6 ⟨v2, rfl, ho2, hb2⟩
  obtain ⟨A4, c4, rfl, hl4, hC4⟩ := Kd.R_reads ho2
  have ho3 := Lib.hid (Kd.R_below ho1 hb2)
  have Hb3 := Lib.hid (hb1.trans (hb2.mono hb1.size))
  have HC4 := Lib.hid hC4
  clear ho1 hb1 hg1 hat1 ho2 hb2 hC4 Hb0
  go_wp2_with (first
    | ((with_reducible refine gate_builtin (b := .append) (xs := #[.tmp 11, .tmp 14]) rfl ?_); at_builtin; refine Kd.R_append_rows (Kd.int .u8) (w0 := w) w.heap.size rfl (.tmp 11) (.tmp 14) 22 5 (.int .u8 0) 1 rfl Try.underlying22 info5 rfl (by decide) (by omega) v1 ([] ++ ofB b) (ofB (Sha.pad b.length)) A4 (ofB (Sha.pad b.length)).length c4 (fun _ => True) (fun _ => False) rfl rfl ?aO ?aR (fun _ _ h => h) (fun _ h => h.elim) ?aF ?aB ?aS ?aL ?_; (case aR => exact HC4.out); (case aB => exact Hb3.out); (case aF => exact (fun _ _ => trivial)); (case aO => exact ho3.out); (case aS => exact Hb3.out.size); (case aL => rw [List.nil_append, ofB_length, ofB_length]; omega); intro v3 W7 ho4 hb4 hg4 hat4))
  have hlist : [] ++ ofB b ++ ofB (Sha.pad b.length) = ofB (b ++ Sha.pad b.length) := by rw [List.nil_append, ← ofB_append]
  rw [hlist] at ho4
  clear hlist ho3 Hb3 HC4 hg4 hat4
  obtain ⟨all, hall⟩ : ∃ all, b ++ Sha.pad b.length = all := ⟨_, rfl⟩
  have halen : all.length = b.length + (Sha.padLen b.length + 8) := by rw [← hall, List.length_append, hpadl]
  have hab : Bs all := by
    intro i
    rw [← hall, List.getD_eq_getElem?_getD, List.getElem?_append]
    split
    · have := hBs i
      rwa [List.getD_eq_getElem?_getD] at this
    · have h1 := byteOk_pad b.length
      have h2 := bs_of_ok _ h1
      rw [toB_ofB] at h2
      have := h2 (i - b.length)
      rwa [List.getD_eq_getElem?_getD] at this
  rw [hall] at ho4
  refine (L.pyxref02_keys.calls _ _ refKeys_eq).mono ?_
  rintro e W8 ⟨v4, rfl, ho5, hb5⟩
  obtain ⟨Ak, ck, rfl, hlk, hCk⟩ := Kd.R_reads ho5
  have ho6 := Kd.R_below ho4 hb5
  have hb6 := hb4.trans (hb5.mono hb4.size)
  obtain ⟨Aa, ca, rfl, hla, hCa⟩ := Kd.R_reads ho6
  clear ho5 hb5 ho4 hb4 ho6
  have HCk := Lib.hid hCk
  have HCa := Lib.hid hCa
  have Hb6 := Lib.hid hb6
  clear hCk hCa hb6
  go_wp2_with fail
  refine (refStart_calls _).mono ?_
  rintro e W9 ⟨rfl, hb7⟩
  have HCk := Lib.hid (Kd.C_below HCk.out hb7)
  have HCa := Lib.hid (Kd.C_below HCa.out hb7)
  have Hb9 := Lib.hid (Hb6.out.trans (hb7.mono Hb6.out.size))
  clear hb7
  go_wp2_with (first
    | (refine wpList_store_row rfl 31 (.tmp 5) (.tmp 17) rfl W9.heap.size _ rfl rfl 31 _ (heap_alloc_new _ _) (by rw [wordsV_size, hTab_len]; exact infoStart) (by rw [wordsV_size, hTab_len]; rfl) (by simp [wordsV, Value.oneCell']) ?_))
  rw [zero8]
  have bh := (Blk.new W9 31 (wordsV z8)).setRow_ (wordsV Sha.hTab)
  have hbn := ((Below.refl W9.heap.size W9).alloc (Nat.le_refl _) (.cells (wordsV z8) 31)).trans (Iter.below_setRow (B := W9.heap.size) (g := W9.heap.size) (wordsV Sha.hTab) (Nat.le_refl _))
  generalize (W9.alloc (.cells (wordsV z8) 31)).setRow W9.heap.size (wordsV Sha.hTab) = W10 at bh hbn ⊢
  have hk64 : (ofB Sha.kTab).length = 64 := by rw [ofB_length]; rfl
  rw [hk64] at HCk ⊢
  obtain ⟨m, hm⟩ : ∃ m, all.length / 64 = m := ⟨_, rfl⟩
  have ham : all.length = 64 * m := by omega
  have hal2 : all.length ≤ 1000000 := by omega
  have hla' : (ofB all).length ≤ ca := hla
  have hLa : Hid ((ofB all).length = 64 * m) := Lib.hid (by rw [ofB_length, ham])
  obtain ⟨gh, hgh⟩ : ∃ g, W9.heap.size = g := ⟨_, rfl⟩
  rw [hgh] at bh ⊢
  go_loopw [6] (fun i wr => ∃ k : Nat, k ≤ m ∧ i = .int .i64 ((64 * k : Nat) : Int) ∧ Blk wr gh 31 (wordsV (Sha.blkTo all Sha.hTab k)) ∧ Below W9.heap.size W9 wr) (fun i _ => 64 * m - (intOf i).toNat)
  case atStart => exact ⟨0, by omega, rfl, bh, hbn⟩
  case round =>
    clear bh hbn
    obtain ⟨k, hk, rfl, bh, hbl⟩ := hrel
    have hbw := blkTo_ws all Sha.hTab hTab_ws k
    have hbl8 := blkTo_len all Sha.hTab hTab_len k
    by_cases hkm : k < m
    · have hnx : Sha.blkTo all Sha.hTab (k + 1) = Sha.mixed (Sha.blkTo all Sha.hTab k) (blkAt all (64 * k)) := rfl
      have Hnx := Lib.hid hnx
      clear hnx
      generalize Sha.blkTo all Sha.hTab k = v at *
      have hdn : decide (64 * k < (ofB all).length) = true := by have := hLa.out; rw [decide_eq_true_eq]; omega
      have hdi : decide (((64 * k : Nat) : Int) < ((ofB all).length : Int)) = true := by have := hLa.out; rw [decide_eq_true_eq]; omega
      have hw : IntKind.i64.wrap (((64 * k : Nat) : Int) + 64) = ((64 * (k + 1) : Nat) : Int) := by rw [IntKind.wrap_i64]; omega
      have hq : 64 * k + 64 ≤ all.length := by omega
      obtain ⟨q, hq0⟩ : ∃ q, 64 * k = q := ⟨_, rfl⟩
      rw [hq0] at hdn hdi hw hq Hnx ⊢
      have Hq := Lib.hid hq0
      have hCa := Kd.C_below HCa.out hbl
      have hCk := Kd.C_below HCk.out hbl
      have Hbl := Lib.hid hbl
      have hgl := bh.lt
      have Hs : Hid ((Try.prog.info? 31).map (·.size) = some (wordsV (Sha.mixed v (blkAt all q))).size ∧ (wordsV v).size = (wordsV (Sha.mixed v (blkAt all q))).size ∧ (wordsV (Sha.mixed v (blkAt all q))).all (·.oneCell') = true) := Lib.hid ⟨by rw [wordsV_size, mixed_len _ _ hbl8]; exact infoStart, by rw [wordsV_size, wordsV_size, mixed_len _ _ hbl8, hbl8], by simp [wordsV, Value.oneCell']⟩
      clear hq0 hbl
      go_wp2_with (first
        | (refine wpList_load_row rfl 31 (.tmp 5) rfl gh rfl 31 _ (0, 0) _ bh Try.underlying31 rfl (by rw [wordsV_size, hbl8]; exact infoStart) ?_)
        | (go_at_call 43; (with_reducible refine (step_calls v all q Aa Ak ca ck _ hbw hbl8 hab hq hal2 hla' hCa hCk).mono ?_); rintro e W11 ⟨rfl, hb11⟩; (have bh11 := bh.below hb11 hgl); (have hb12 := Lib.hid (Hbl.out.trans (hb11.mono Hbl.out.size))); clear hb11)
        | (refine wpList_store_row rfl 31 (.tmp 5) (.tmp 28) rfl gh (wordsV (Sha.mixed v (blkAt all q))) rfl rfl 31 (wordsV v) bh11 Hs.out.1 Hs.out.2.1 Hs.out.2.2 ?_))
      have bh13 := bh11.setRow_ (wordsV (Sha.mixed v (blkAt all q)))
      have hb13 := hb12.out.trans (Iter.below_setRow (B := W9.heap.size) (g := gh) (wordsV (Sha.mixed v (blkAt all q))) (by omega))
      rw [← Hnx.out] at bh13 hb13 ⊢
      exact ⟨⟨k + 1, by omega, by go_num, bh13, hb13⟩, by have := Hq.out; simp [intOf]; omega⟩
    · obtain rfl : k = m := by omega
      obtain ⟨hh, hhe⟩ : ∃ x, Sha.blkTo all Sha.hTab k = x := ⟨_, rfl⟩
      rw [hhe] at bh hbw hbl8
      have hfin : Hid (Sha.sum b = hh.flatMap Sha.out4) := Lib.hid (by unfold Sha.sum; rw [hall, hm, hhe])
      have hd1 : decide (((64 * k : Nat) : Int) < ((ofB all).length : Int)) = false := by have := hLa.out; rw [decide_eq_false_iff_not]; omega
      have hd2 : decide (64 * k < (ofB all).length) = false := by have := hLa.out; rw [decide_eq_false_iff_not]; omega
      obtain ⟨q, hq0⟩ : ∃ q, 64 * k = q := ⟨_, rfl⟩
      rw [hq0] at hd1 hd2 ⊢
      clear hq0 hhe
      go_wp2_with fail
      have hhl : hh.length = 8 := hbl8
      have hR0 : Aside0 (Kd.R (Kd.int .u8) 5 wr w.heap.size (fun _ => True) (.slice none 0 0) (ofB ((hh.take 0).flatMap Sha.out4))) := ⟨Kd.R_nil _ _ _ _ _⟩
      have hbw9 : Below w.heap.size w wr := Hb9.out.trans (hbl.mono Hb9.out.size)
      have hsz9 := Hb9.out.size
      clear hbl HCk HCa Hb6
      obtain ⟨wo, rfl⟩ : ∃ wo : World, wo = wr := ⟨_, rfl⟩
      go_loopw [7, 8] (fun v i wr => ∃ t : Nat, t ≤ 8 ∧ i = .int .i64 t ∧ Aside0 (Kd.R (Kd.int .u8) 5 wr w.heap.size (fun g => g ≠ gh) v (ofB ((hh.take t).flatMap Sha.out4))) ∧ Blk wr gh 31 (wordsV hh) ∧ Below w.heap.size w wr) (fun _ i _ => 8 - (intOf i).toNat)
      case atStart => exact ⟨0, by omega, rfl, ⟨Kd.R_nil _ _ _ _ _⟩, bh, hbw9⟩
      case round =>
        clear bh hbw9 hR0
        obtain ⟨t, ht, rfl, hR, bh, hbl⟩ := hrel
        by_cases ht8 : t < 8
        · have lx := hbw t
          have gx : wr.cell? ⟨gh, t, none⟩ = some (.int .u32 ((hh.getD t 0 : Nat) : Int)) := (bh.cell t).trans (wordsV_at _ _ (by omega))
          obtain ⟨x, hx⟩ : ∃ x, hh.getD t 0 = x := ⟨_, rfl⟩
          rw [hx] at lx gx
          have hx := Lib.hid hx
          have t0 : (0 : Int) ≤ (t : Int) := by omega
          have t1 : (t : Int) < 8 := by omega
          have hd : decide ((t : Int) < 8) = true := by simp; omega
          have hbl' := Lib.hid hbl
          have hgl := bh.lt
          clear hbl hbw
          have hfl := flat_len (hh.take t)
          rw [List.length_take] at hfl
          obtain ⟨y0, hy0⟩ : ∃ y : Nat, x / 16777216 = y := ⟨_, rfl⟩
          obtain ⟨y1, hy1⟩ : ∃ y : Nat, x / 65536 = y := ⟨_, rfl⟩
          obtain ⟨y2, hy2⟩ : ∃ y : Nat, x / 65536 % 256 = y := ⟨_, rfl⟩
          obtain ⟨z1, hz1⟩ : ∃ y : Nat, x / 256 = y := ⟨_, rfl⟩
          obtain ⟨z2, hz2⟩ : ∃ y : Nat, x / 256 % 256 = y := ⟨_, rfl⟩
          obtain ⟨q0, hq0⟩ : ∃ y : Nat, x % 256 = y := ⟨_, rfl⟩
          have E1 : IntKind.u32.wrap ((x : Int) / 16777216) = (y0 : Int) := by rw [IntKind.wrap_u32']; omega
          have E2 : IntKind.u8.wrap (y0 : Int) = (y0 : Int) := by rw [IntKind.wrap_u8]; omega
          have E3 : IntKind.u32.wrap ((x : Int) / 65536) = (y1 : Int) := by rw [IntKind.wrap_u32']; omega
          have E4 : (y1 : Int).tmod 256 = (y2 : Int) := by rw [Int.tmod_eq_emod_of_nonneg (by omega)]; omega
          have E5 : IntKind.u8.wrap (y2 : Int) = (y2 : Int) := by rw [IntKind.wrap_u8]; omega
          have E6 : IntKind.u32.wrap ((x : Int) / 256) = (z1 : Int) := by rw [IntKind.wrap_u32']; omega
          have E7 : (z1 : Int).tmod 256 = (z2 : Int) := by rw [Int.tmod_eq_emod_of_nonneg (by omega)]; omega
          have E8 : IntKind.u8.wrap (z2 : Int) = (z2 : Int) := by rw [IntKind.wrap_u8]; omega
          have E9 : (x : Int).tmod 256 = (q0 : Int) := by rw [Int.tmod_eq_emod_of_nonneg (by omega)]; omega
          have E10 : IntKind.u8.wrap (q0 : Int) = (q0 : Int) := by rw [IntKind.wrap_u8]; omega
          have Hy := Lib.hid (And.intro hy0 (And.intro hy2 (And.intro hz2 hq0)))
          clear hy0 hy1 hy2 hz1 hz2 hq0
          have hob : u7.ownBlock ≠ some gh := fun he => by
            have := hR.out.1 gh he
            omega
          go_wp2_with fail
          go_region_held3 (fun w' => w'.cell? ⟨gh, t, none⟩ = some (.int .u32 (x : Int))) (first | go_keep | (exact cell_grown hg7 (show (wr.alloc _).cell? _ = _ from (World.cell?_alloc_lt _ _ _ hgl).trans gx) (fun e => hob e.symm)))
            ((refine Kd.R_append_rows_step (Kd.int .u8) (w0 := w) w.heap.size (by rfl) (.tmp 33) (.tmp 56) 22 5 (.int .u8 0) 1 rfl Try.underlying22 info5 rfl (by decide) (by omega) u7 (ofB ((hh.take t).flatMap Sha.out4)) [(y0 : Int), (y2 : Int), (z2 : Int), (q0 : Int)] (some ⟨wr.heap.size, 0, none⟩) 4 4 (fun g => g ≠ gh) (fun _ => False) rfl rfl ?aO ?aR (fun _ _ h => h) (fun _ h => h.elim) ?aF ?aB ?aS ?aL ?_; (case aO => exact Kd.R_drew (Kd.R_alloc hR.out _)); (case aR => exact Kd.C_below (c_lit wr 5 [(y0 : Int), (y2 : Int), (z2 : Int), (q0 : Int)] (by simp)) (below_drew (Below.refl _ _))); (case aF => (intro g hg; simp at hg; omega)); (case aB => exact (hbl'.out.alloc hbl'.out.size _).drew); (case aS => exact (hbl'.out.alloc hbl'.out.size _).drew.size); (case aL => (rw [ofB_length]; omega)); intro v7 W7 ho7 hb7 hg7 hat7))
          have hnext : Aside0 (Kd.R (Kd.int .u8) 5 W7 w.heap.size (fun g => g ≠ gh) v7 (ofB ((hh.take (t + 1)).flatMap Sha.out4))) := ⟨by
            obtain ⟨e1, e2, e3, e4⟩ := Hy.out
            rw [out4_snoc hh t (by omega) x hx.out lx]
            rw [show [(x : Int) / 16777216, (x : Int) / 65536 % 256, (x : Int) / 256 % 256, (x : Int) % 256] = [(y0 : Int), (y2 : Int), (z2 : Int), (q0 : Int)] from by rw [← e1, ← e2, ← e3, ← e4]; rfl]
            exact ho7⟩
          have bh7 : Blk W7 gh 31 (wordsV hh) := Blk.grown_ (w := (wr.alloc _).drew) (show Blk (wr.alloc _) gh _ _ from bh.alloc _) hg7 (fun e => hob e.symm)
          have hb7' : Below w.heap.size w W7 := hb7
          clear ho7 hg7 hat7 hR bh gx hob hbl' hb7
          clear E1 E2 E3 E4 E5 E6 E7 E8 E9 E10
          go_wp2
          exact ⟨⟨t + 1, by omega, by go_num, hnext, bh7, hb7'⟩, by simp [intOf]; omega⟩
        · obtain rfl : t = 8 := by omega
          have hd : decide (((8 : Nat) : Int) < 8) = false := by decide
          rw [List.take_of_length_le (by omega)] at hR
          go_wp2
          go_ret
          exact ⟨_, rfl, by rw [hfin.out]; exact Kd.R_mono hR.out (fun _ _ => trivial), hbl⟩
end P
end Go.Proofs.Ytamaokokbajlgaa
