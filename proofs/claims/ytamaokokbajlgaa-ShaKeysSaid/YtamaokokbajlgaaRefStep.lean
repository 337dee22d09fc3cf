/-
  Walk: pyxref02.step, the document's answer for one block.
-/
import Derived.Test.YtamaokokbajlgaaShaFacts
import Derived.Deep.RegionHeld3
import Derived.Deep.DrawnRows
import Derived.BigQuiet
namespace Go.Proofs.Ytamaokokbajlgaa
open Go.RowKit Go.Proofs.YtamaokokbajlgaaW.PrintWords Go.Proofs.YtamaokokbajlgaaW.PrintLast Go.Proofs.YtamaokokbajlgaaW.PrintMore

def blkAt (all : List Nat) (p : Nat) : List Nat := (all.take (p + 64)).drop p
theorem blkAt_getD (all : List Nat) (p i : Nat) (h : i < 64) : (blkAt all p).getD i 0 = all.getD (p + i) 0 := by
  unfold blkAt
  rw [List.getD_eq_getElem?_getD, List.getD_eq_getElem?_getD, List.getElem?_drop, List.getElem?_take_of_lt (by omega)]
theorem blkAt_bs (all : List Nat) (h : Bs all) (p : Nat) : Bs (blkAt all p) := by
  intro i
  unfold blkAt
  rw [List.getD_eq_getElem?_getD, List.getElem?_drop, List.getElem?_take]
  have := h (p + i)
  rw [List.getD_eq_getElem?_getD] at this
  split
  · exact this
  · decide
theorem or_add (a x : Nat) (hx : x < 256) : ((a <<< 8) % 4294967296) ||| x = (a * 256) % 4294967296 + x := by
  have e : (a <<< 8) % 4294967296 = 2 ^ 8 * (a % 16777216) := by rw [Nat.shiftLeft_eq]; omega
  rw [e, ← Nat.two_pow_add_eq_or_of_lt (by omega : x < 2 ^ 8)]
  omega
theorem acc_word (b : List Nat) (hb : Bs b) (p : Nat) : Sha.acc b p 4 = b.getD p 0 * 16777216 + b.getD (p + 1) 0 * 65536 + b.getD (p + 2) 0 * 256 + b.getD (p + 3) 0 := by
  have h0 := hb p
  have h1 := hb (p + 1)
  have h2 := hb (p + 2)
  have h3 := hb (p + 3)
  simp only [Sha.acc, Nat.add_zero]
  rw [or_add _ _ h0, or_add _ _ h1, or_add _ _ h2, or_add _ _ h3]
  omega
theorem rd_ofB (l : List Nat) (i : Nat) : rd (ofB l) (i : Int) = ((l.getD i 0 : Nat) : Int) := by
  unfold rd ofB
  rw [Int.toNat_natCast, List.getD_eq_getElem?_getD, List.getD_eq_getElem?_getD, List.getElem?_map]
  cases l[i]? <;> rfl
theorem word_f (all : List Nat) (hb : Bs all) (p t : Nat) (ht : t < 16) (hl : p + 64 ≤ all.length) (hl2 : all.length ≤ 1000000) :
    L.pyxref02_word.f (ofB all) ((p + 4 * t : Nat) : Int) = some ((Sha.acc (blkAt all p) (4 * t) 4 : Nat) : Int) := by
  have h0 := hb (p + 4 * t)
  have h1 := hb (p + 4 * t + 1)
  have h2 := hb (p + 4 * t + 2)
  have h3 := hb (p + 4 * t + 3)
  have w1 : wrap64 (((p + 4 * t : Nat) : Int) + 1) = ((p + 4 * t + 1 : Nat) : Int) := by unfold wrap64; omega
  have w2 : wrap64 (((p + 4 * t : Nat) : Int) + 2) = ((p + 4 * t + 2 : Nat) : Int) := by unfold wrap64; omega
  have w3 : wrap64 (((p + 4 * t : Nat) : Int) + 3) = ((p + 4 * t + 3 : Nat) : Int) := by unfold wrap64; omega
  unfold L.pyxref02_word.f
  rw [w1, w2, w3, ofB_length, if_pos (by omega), if_pos (by omega), if_pos (by omega), if_pos (by omega), if_pos (by omega), if_pos (by omega), if_pos (by omega), if_pos (by omega), rd_ofB, rd_ofB, rd_ofB, rd_ofB,
    acc_word _ (blkAt_bs all hb p), blkAt_getD _ _ _ (by omega), blkAt_getD _ _ _ (by omega), blkAt_getD _ _ _ (by omega), blkAt_getD _ _ _ (by omega)]
  simp only [← Nat.add_assoc]
  generalize all.getD (p + 4 * t) 0 = x0 at *
  generalize all.getD (p + 4 * t + 1) 0 = x1 at *
  generalize all.getD (p + 4 * t + 2) 0 = x2 at *
  generalize all.getD (p + 4 * t + 3) 0 = x3 at *
  refine congrArg some ?_
  omega

theorem row_add (g k : Nat) : (⟨g, 0, none⟩ : Addr).add k = ⟨g, k, none⟩ := by unfold Addr.add; split <;> simp_all
theorem made_eq (n : Nat) : madeCells (Value.int IntKind.u32 0).cells (n * 1) = wordsV (List.replicate n 0) := by
  apply Array.ext
  · simp [madeCells, wordsV]
  · intro i h1 h2
    simp [madeCells, wordsV, Value.cells, Nat.mod_one]
def z64 : List Nat := List.replicate 64 0
theorem made64 (W : World) : (Instr.makeSlice 60 (.int .i64 64) (.int .i64 64)).run Try.prog W = .ok (.slice (some ⟨W.heap.size, 0, none⟩) 64 64) (W.alloc (.cells (wordsV z64) 28)) := by
  obtain ⟨i, hi, hz⟩ := Option.map_eq_some_iff.1 (show (Try.prog.info? 28).map (fun i => (i.zero, i.size, i.bytes)) = some (some (.int .u32 0), 1, 4) by kernel_rfl)
  simp only [Prod.mk.injEq] at hz
  obtain ⟨h0, h1, h2⟩ := hz
  have h := run_make (P := Try.prog) W 60 28 i (.int .u32 0) Try.underlying60 hi h0 .i64 .i64 64 64 (by omega) (by omega) (by rw [h2]; omega) (by omega)
  rw [h1, made_eq] at h
  exact h

theorem key_cell {w : World} {Ak : Option Addr} (l : List Nat) (hk : Kd.C (Kd.int .u32) w Ak 64 (ofB l)) : ∃ ak, Ak = some ak ∧ ∀ t, t < 64 → w.cell? (ak.add t) = some (.int .u32 ((l.getD t 0 : Nat) : Int)) := by
  obtain ⟨h1, _, h3⟩ := Kd.reads_of_C (enc := Value.int .u32) (d := (0 : Int)) (h1 := fun _ => rfl) hk
  obtain ⟨ak, e, hc⟩ := h3 (by omega)
  refine ⟨ak, e, fun t ht => ?_⟩
  rw [hc t ht]
  congr 2
  have := rd_ofB l t
  unfold rd at this
  rwa [Int.toNat_natCast] at this
theorem key_at {w : World} {Ak : Option Addr} (l : List Nat) (hk : Kd.C (Kd.int .u32) w Ak 64 (ofB l)) : ∃ ak, Ak = some ak ∧ ∀ w', Below w.heap.size w w' → ∀ t, t < 64 → w'.cell? (ak.add t) = some (.int .u32 ((l.getD t 0 : Nat) : Int)) := by
  obtain ⟨ak, rfl, _⟩ := key_cell l hk
  refine ⟨ak, rfl, fun w' hb t ht => ?_⟩
  obtain ⟨ak', e', hc'⟩ := key_cell l (Kd.C_below hk hb)
  injection e' with e'
  rw [e']
  exact hc' t ht
theorem turn_lit (x n : Nat) (m : Int) (hm : m = (n : Int)) (hx : x < 4294967296) (h1 : 1 ≤ n) (h2 : n ≤ 31) (w : World) :
    Calls Try.prog 55 #[.int .u32 x, .int .u32 m] w fun e w' => e = .returned (.int .u32 (Sha.rotr x n)) ∧ w = w' := by
  subst hm
  exact turn_calls x n hx h1 h2 w

set_option maxRecDepth 100000 in
set_option maxHeartbeats 4000000 in
theorem step_calls (h all : List Nat) (p : Nat) (A Ak : Option Addr) (cap ck : Nat) (w : World) (hh : Ws h) (hhl : h.length = 8) (hb : Bs all) (hl : p + 64 ≤ all.length) (hl2 : all.length ≤ 1000000) (hcap : (ofB all).length ≤ cap)
    (hA : Kd.C (Kd.int .u8) w A (ofB all).length (ofB all)) (hk : Kd.C (Kd.int .u32) w Ak 64 (ofB Sha.kTab)) :
    Calls Try.prog 43 #[.agg (wordsV h), .slice A (ofB all).length cap, .int .i64 p, .slice Ak 64 ck] w fun e w' => e = .returned (.agg (wordsV (Sha.mixed h (blkAt all p)))) ∧ Below w.heap.size w w' := by
  obtain ⟨ak, rfl, hkc0⟩ := key_at Sha.kTab hk
  have hkc := Lib.hid hkc0
  clear hkc0 hk
  have hword := fun t ht => word_f all hb p t ht hl hl2
  have hBs := blkAt_bs all hb p
  generalize blkAt all p = B at *
  go_enter Try.func43, Try.ntmps43
  go_wp2_with fail
  rw [made64]
  go_wp2_with fail
  rw [zero8]
  have bh := ((Blk.new w 31 (wordsV h)).alloc (.cells (wordsV z8) 31)).alloc (.cells (wordsV z64) 28)
  have br := (Blk.new (w.alloc (.cells (wordsV h) 31)) 31 (wordsV z8)).alloc (.cells (wordsV z64) 28)
  have bw := Blk.new ((w.alloc (.cells (wordsV h) 31)).alloc (.cells (wordsV z8) 31)) 28 (wordsV z64)
  have hbl : Below w.heap.size w (((w.alloc (.cells (wordsV h) 31)).alloc (.cells (wordsV z8) 31)).alloc (.cells (wordsV z64) 28)) := (((Below.refl _ w).alloc (Nat.le_refl _) _).alloc (by simp) _).alloc (by simp; omega) _
  rw [World.size_alloc] at br
  rw [World.size_alloc, World.size_alloc] at bw
  generalize ((w.alloc (.cells (wordsV h) 31)).alloc (.cells (wordsV z8) 31)).alloc (.cells (wordsV z64) 28) = W0 at bh br bw hbl ⊢
  obtain ⟨gw, hgw⟩ : ∃ g, w.heap.size + 1 + 1 = g := ⟨_, rfl⟩
  rw [hgw] at bw ⊢
  obtain ⟨ad, had⟩ : ∃ ad : Addr, (⟨gw, 0, none⟩ : Addr) = ad := ⟨_, rfl⟩
  rw [had]
  have hadd : ∀ k, ad.add k = ⟨gw, k, none⟩ := fun k => by rw [← had]; exact row_add gw k
  clear had
  have bw : Blk W0 gw 28 (wordsV (Sha.wordsTo B 0)) := bw
  go_loopw [10] (fun i wr => ∃ t : Nat, t ≤ 16 ∧ i = .int .i64 t ∧ Blk wr gw 28 (wordsV (Sha.wordsTo B t)) ∧ Blk wr w.heap.size 31 (wordsV h) ∧ Blk wr (w.heap.size + 1) 31 (wordsV z8) ∧ Below w.heap.size w wr) (fun i _ => 16 - (intOf i).toNat)
  case atStart => exact ⟨0, by omega, rfl, bw, bh, br, hbl⟩
  case round =>
    clear bw bh br hbl
    obtain ⟨t, ht, rfl, bw, bh, br, hbl⟩ := hrel
    have hws := wordsTo_ws B hBs t
    have hwl := wordsTo_len B t
    by_cases h16 : t < 16
    · have hd16 : decide ((t : Int) < 16) = true := by simp; omega
      have hw1 : IntKind.i64.wrap (4 * (t : Int)) = ((4 * t : Nat) : Int) := by rw [IntKind.wrap_i64]; omega
      have hw2 : IntKind.i64.wrap ((p : Int) + ((4 * t : Nat) : Int)) = ((p + 4 * t : Nat) : Int) := by rw [IntKind.wrap_i64]; omega
      have hf := hword t h16
      have hCw := Kd.C_below hA hbl
      have hvt := wordsV_at (Sha.wordsTo B t) t (by omega)
      have hnx : Sha.wordsTo B (t + 1) = (Sha.wordsTo B t).set t (Sha.acc B (4 * t) 4) := by rw [Sha.wordsTo, Sha.wAt, if_pos h16]
      have Hnx := Lib.hid hnx
      have Hbw := Lib.hid (And.intro bw (And.intro bh (And.intro br hbl)))
      have hcw := (bw.cell t).trans hvt
      have hfw := bw.frozen t
      generalize Sha.acc B (4 * t) 4 = a at *
      have t0 : (0 : Int) ≤ (t : Int) := by omega
      have t1 : (t : Int) < 64 := by omega
      have hng : ∀ g, g < gw → g ≠ gw := fun g hg => by omega
      clear hword hws hwl hnx hvt bw bh br hbl
      go_wp2_with (first | (go_at_call 54; refine (L.pyxref02_word.calls A cap (ofB all) _ _ _ hCw hcap hf).mono ?_; rintro e w' ⟨rfl, ⟨nd, rfl⟩⟩; (have hcn : (wr.drewN nd).cell? ⟨gw, t, none⟩ = some (.int .u32 (((Sha.wordsTo B t).getD t 0 : Nat) : Int)) := hcw); (have hfn : (wr.drewN nd).frozen? ⟨gw, t, none⟩ = false := hfw); (obtain ⟨bw, bh, br, hbl⟩ := Hbw.out); (have bw2 : Blk (wr.drewN nd) _ _ _ := bw); (have bh2 : Blk (wr.drewN nd) _ _ _ := bh); (have br2 : Blk (wr.drewN nd) _ _ _ := br); (have hb2 := pw_below_drewN hbl nd); (have HF := Lib.hid (And.intro bw2 (And.intro bh2 (And.intro br2 hb2)))); clear hcw hfw bw2 bh2 br2 hb2 bw bh br hbl Hbw hCw hf; generalize wr.drewN nd = W2 at *))
      obtain ⟨bw, bh, br, hbl⟩ := HF.out
      have bw3 := bw.set_ t (.int .u32 (a : Int))
      rw [wordsV_set, ← Hnx.out] at bw3
      exact ⟨⟨t + 1, by omega, by go_num, bw3, bh.far (p := ⟨gw, t, none⟩) (hng _ (by omega)) _, br.far (p := ⟨gw, t, none⟩) (hng _ (by omega)) _, hbl.setCell (p := ⟨gw, t, none⟩) (by simp; omega) _⟩, by simp [intOf]; omega⟩
    · obtain rfl : t = 16 := by omega
      clear hword hA hcap hws hwl
      go_wp2_with fail
      rw [show ((16 : Nat) : Int) = 16 from rfl]
      obtain ⟨wo, rfl⟩ : ∃ wo : World, wo = wr := ⟨_, rfl⟩
      go_loopw [11] (fun i wr => ∃ t : Nat, 16 ≤ t ∧ t ≤ 64 ∧ i = .int .i64 t ∧ Blk wr gw 28 (wordsV (Sha.wordsTo B t)) ∧ Blk wr w.heap.size 31 (wordsV h) ∧ Blk wr (w.heap.size + 1) 31 (wordsV z8) ∧ Below w.heap.size w wr) (fun i _ => 64 - (intOf i).toNat)
      case atStart => exact ⟨16, by omega, by omega, rfl, bw, bh, br, hbl⟩
      case round =>
        clear bw bh br hbl
        obtain ⟨t, ht16, ht, rfl, bw, bh, br, hbl⟩ := hrel
        have hws := wordsTo_ws B hBs t
        have hwl := wordsTo_len B t
        by_cases h64 : t < 64
        · have hd64 : decide ((t : Int) < 64) = true := by simp; omega
          have hget : ∀ k, k < 64 → (wordsV (Sha.wordsTo B t))[k]? = some (.int .u32 ((Sha.wordsTo B t).getD k 0)) := fun k hk => wordsV_at _ _ (by omega)
          have v15 := hget (t - 15) (by omega)
          have v2 := hget (t - 2) (by omega)
          have v7 := hget (t - 7) (by omega)
          have v16 := hget (t - 16) (by omega)
          have vt := hget t (by omega)
          have hnx : Sha.wordsTo B (t + 1) = (Sha.wordsTo B t).set t (Sha.wNext (Sha.wordsTo B t) t) := by
            rw [Sha.wordsTo, Sha.wAt, if_neg (by omega)]
          unfold Sha.wNext at hnx
          have l15 := hws (t - 15)
          have l2 := hws (t - 2)
          have Hnx := Lib.hid hnx
          clear hnx hget hws hwl
          generalize (Sha.wordsTo B t).getD (t - 15) 0 = x15 at *
          generalize (Sha.wordsTo B t).getD (t - 2) 0 = x2 at *
          generalize (Sha.wordsTo B t).getD (t - 7) 0 = x7 at *
          generalize (Sha.wordsTo B t).getD (t - 16) 0 = x16 at *
          generalize (Sha.wordsTo B t).getD t 0 = xt at *
          obtain ⟨k15, hk15⟩ : ∃ k, t - 15 = k := ⟨_, rfl⟩
          obtain ⟨k2, hk2⟩ : ∃ k, t - 2 = k := ⟨_, rfl⟩
          obtain ⟨k7, hk7⟩ : ∃ k, t - 7 = k := ⟨_, rfl⟩
          obtain ⟨k16, hk16⟩ : ∃ k, t - 16 = k := ⟨_, rfl⟩
          rw [hk15] at v15
          rw [hk2] at v2
          rw [hk7] at v7
          rw [hk16] at v16
          have e15 : IntKind.i64.wrap ((t : Int) - 15) = (k15 : Int) := by rw [IntKind.wrap_i64]; omega
          have e2 : IntKind.i64.wrap ((t : Int) - 2) = (k2 : Int) := by rw [IntKind.wrap_i64]; omega
          have e7 : IntKind.i64.wrap ((t : Int) - 7) = (k7 : Int) := by rw [IntKind.wrap_i64]; omega
          have e16 : IntKind.i64.wrap ((t : Int) - 16) = (k16 : Int) := by rw [IntKind.wrap_i64]; omega
          have a15 : (0 : Int) ≤ (k15 : Int) ∧ (k15 : Int) < 64 := by omega
          have a2 : (0 : Int) ≤ (k2 : Int) ∧ (k2 : Int) < 64 := by omega
          have a7 : (0 : Int) ≤ (k7 : Int) ∧ (k7 : Int) < 64 := by omega
          have a16 : (0 : Int) ≤ (k16 : Int) ∧ (k16 : Int) < 64 := by omega
          obtain ⟨a15, b15⟩ := a15
          obtain ⟨a2, b2⟩ := a2
          obtain ⟨a7, b7⟩ := a7
          obtain ⟨a16, b16⟩ := a16
          have n7 : ¬ t = k7 := by omega
          have n16 : ¬ t = k16 := by omega
          have t0 : (0 : Int) ≤ (t : Int) := by omega
          have t1 : (t : Int) < 64 := by omega
          have hng : ∀ g, g < gw → g ≠ gw := fun g hg => by omega
          clear hk15 hk2 hk7 hk16
          have D0 := u32_xor_nat (Sha.rotr x15 7) (Sha.rotr x15 18) (rotr_lt x15 7 l15) (rotr_lt x15 18 l15)
          have D1 := u32_xor_nat (Sha.rotr x2 17) (Sha.rotr x2 19) (rotr_lt x2 17 l2) (rotr_lt x2 19 l2)
          have E0 : bits .xor .u32 ((Sha.rotr x15 7 ^^^ Sha.rotr x15 18 : Nat) : Int) ((x15 : Int) / 8) = ((Sha.sig0 x15 : Nat) : Int) := xor_shr x15 (Sha.rotr x15 7 ^^^ Sha.rotr x15 18) 3 8 l15 (Nat.xor_lt_two_pow (n := 32) (rotr_lt x15 7 l15) (rotr_lt x15 18 l15)) rfl
          have E1 : bits .xor .u32 ((Sha.rotr x2 17 ^^^ Sha.rotr x2 19 : Nat) : Int) ((x2 : Int) / 1024) = ((Sha.sig1 x2 : Nat) : Int) := xor_shr x2 (Sha.rotr x2 17 ^^^ Sha.rotr x2 19) 10 1024 l2 (Nat.xor_lt_two_pow (n := 32) (rotr_lt x2 17 l2) (rotr_lt x2 19 l2)) rfl
          have m0 := sig0_lt x15 l15
          have m1 := sig1_lt x2 l2
          generalize Sha.sig0 x15 = s0 at *
          generalize Sha.sig1 x2 = s1 at *
          generalize Sha.rotr x15 7 ^^^ Sha.rotr x15 18 = q0 at *
          generalize Sha.rotr x2 17 ^^^ Sha.rotr x2 19 = q1 at *
          have g15 : wr.cell? ⟨gw, k15, none⟩ = some (.int .u32 x15) := by rw [bw.cell k15]; exact v15
          have g2 : wr.cell? ⟨gw, k2, none⟩ = some (.int .u32 x2) := by rw [bw.cell k2]; exact v2
          have g7 : wr.cell? ⟨gw, k7, none⟩ = some (.int .u32 x7) := by rw [bw.cell k7]; exact v7
          have g16 : wr.cell? ⟨gw, k16, none⟩ = some (.int .u32 x16) := by rw [bw.cell k16]; exact v16
          have gt : wr.cell? ⟨gw, t, none⟩ = some (.int .u32 xt) := by rw [bw.cell t]; exact vt
          have ft := bw.frozen t
          have Hbw := Lib.hid (And.intro bw (And.intro bh (And.intro br hbl)))
          clear v15 v2 v7 v16 vt bw bh br hbl hBs
          go_wp2_with (first
            | (go_at_call 55; (with_reducible refine (turn_lit x15 7 7 rfl l15 (by omega) (by omega) _).mono ?_); rintro e w' ⟨rfl, rfl⟩)
            | (go_at_call 55; (with_reducible refine (turn_lit x15 18 18 rfl l15 (by omega) (by omega) _).mono ?_); rintro e w' ⟨rfl, rfl⟩)
            | (go_at_call 55; (with_reducible refine (turn_lit x2 17 17 rfl l2 (by omega) (by omega) _).mono ?_); rintro e w' ⟨rfl, rfl⟩)
            | (go_at_call 55; (with_reducible refine (turn_lit x2 19 19 rfl l2 (by omega) (by omega) _).mono ?_); rintro e w' ⟨rfl, rfl⟩))
          go_region_held3 (fun w' => w'.cell? ⟨gw, k7, none⟩ = some (.int .u32 x7) ∧ w'.cell? ⟨gw, k16, none⟩ = some (.int .u32 x16)) (first | exact ⟨far_cell g7 n7, far_cell g16 n16⟩ | go_keep)
            (fail)
          go_wp2_with fail
          obtain ⟨bw, bh, br, hbl⟩ := Hbw.out
          have hset : Blk (wr.setCell ⟨gw, t, none⟩ (Value.int IntKind.u32 (((((s1 : Int) + x7) % 4294967296 + s0) % 4294967296 + x16) % 4294967296))).drew _ _ _ := bw.set_ t _
          rw [show (((((s1 : Int) + x7) % 4294967296 + s0) % 4294967296 + x16) % 4294967296) = ((((((s1 + x7) % 4294967296 + s0) % 4294967296 + x16) % 4294967296 : Nat)) : Int) from by omega] at hset ⊢
          rw [wordsV_set, ← Hnx.out] at hset
          have hfh := bh.far (p := ⟨gw, t, none⟩) (hng _ (by omega)) (Value.int IntKind.u32 ((((((s1 + x7) % 4294967296 + s0) % 4294967296 + x16) % 4294967296 : Nat)) : Int))
          have hfr := br.far (p := ⟨gw, t, none⟩) (hng _ (by omega)) (Value.int IntKind.u32 ((((((s1 + x7) % 4294967296 + s0) % 4294967296 + x16) % 4294967296 : Nat)) : Int))
          exact ⟨⟨t + 1, by omega, by omega, by go_num, hset, hfh, hfr, (hbl.setCell (p := ⟨gw, t, none⟩) (by simp; omega) _).drew⟩, by simp [intOf]; omega⟩
        · obtain rfl : t = 64 := by omega
          have bw : Blk wr gw 28 (wordsV (Sha.words B)) := bw
          have hws : Ws (Sha.words B) := hws
          have hwl : (Sha.words B).length = 64 := hwl
          obtain ⟨h0, h1, h2, h3, h4, h5, h6, h7, hv⟩ : ∃ h0 h1 h2 h3 h4 h5 h6 h7, h = [h0, h1, h2, h3, h4, h5, h6, h7] := by
            match h, hhl with
            | [h0, h1, h2, h3, h4, h5, h6, h7], _ => exact ⟨h0, h1, h2, h3, h4, h5, h6, h7, rfl⟩
          subst hv
          have c0 : wr.cell? ⟨w.heap.size, 0, none⟩ = some (.int .u32 h0) := bh.cell 0
          have c1 : wr.cell? ⟨w.heap.size, 1, none⟩ = some (.int .u32 h1) := bh.cell 1
          have c2 : wr.cell? ⟨w.heap.size, 2, none⟩ = some (.int .u32 h2) := bh.cell 2
          have c3 : wr.cell? ⟨w.heap.size, 3, none⟩ = some (.int .u32 h3) := bh.cell 3
          have c4 : wr.cell? ⟨w.heap.size, 4, none⟩ = some (.int .u32 h4) := bh.cell 4
          have c5 : wr.cell? ⟨w.heap.size, 5, none⟩ = some (.int .u32 h5) := bh.cell 5
          have c6 : wr.cell? ⟨w.heap.size, 6, none⟩ = some (.int .u32 h6) := bh.cell 6
          have c7 : wr.cell? ⟨w.heap.size, 7, none⟩ = some (.int .u32 h7) := bh.cell 7
          go_wp2_with fail
          rw [show ((64 : Nat) : Int) = 64 from rfl]
          obtain ⟨wo, rfl⟩ : ∃ wo : World, wo = wr := ⟨_, rfl⟩
          clear c0 c1 c2 c3 c4 c5 c6 c7
          go_loopw [24, 16, 17, 18, 19, 20, 21, 22, 23] (fun i ra rc rd rf re rg rx rl wr => ∃ t a c d f e g x l : Nat, t ≤ 64 ∧ i = .int .i64 t ∧ ra = .int .u32 a ∧ rc = .int .u32 c ∧ rd = .int .u32 d ∧ rf = .int .u32 f ∧ re = .int .u32 e ∧ rg = .int .u32 g ∧ rx = .int .u32 x ∧ rl = .int .u32 l ∧
            Sha.mixTo [h0, h1, h2, h3, h4, h5, h6, h7] (Sha.words B) t = [a, c, d, f, e, g, x, l] ∧ Blk wr gw 28 (wordsV (Sha.words B)) ∧ Blk wr w.heap.size 31 (wordsV [h0, h1, h2, h3, h4, h5, h6, h7]) ∧ Blk wr (w.heap.size + 1) 31 (wordsV z8) ∧ Below w.heap.size w wr) (fun i _ _ _ _ _ _ _ _ _ => 64 - (intOf i).toNat)
          case atStart => exact ⟨0, h0, h1, h2, h3, h4, h5, h6, h7, by omega, rfl, rfl, rfl, rfl, rfl, rfl, rfl, rfl, rfl, rfl, bw, bh, br, hbl⟩
          case round =>
            clear bw bh br hbl
            obtain ⟨t, a, c, d, f, e, g, x, l, ht, rfl, rfl, rfl, rfl, rfl, rfl, rfl, rfl, rfl, hm, bw, bh, br, hbl⟩ := hrel
            by_cases h64 : t < 64
            · have hmw := mixTo_ws [h0, h1, h2, h3, h4, h5, h6, h7] (Sha.words B) hh t
              have hstep : Hid (Sha.mixTo [h0, h1, h2, h3, h4, h5, h6, h7] (Sha.words B) (t + 1) = Sha.mixStep (Sha.mixTo [h0, h1, h2, h3, h4, h5, h6, h7] (Sha.words B) t) (Sha.kTab.getD t 0) ((Sha.words B).getD t 0)) := Lib.hid rfl
              rw [hm] at hmw hstep
              have lk := kTab_ws t
              have lw := hws t
              have gk := hkc.out wr hbl t h64
              have gx : wr.cell? ⟨gw, t, none⟩ = some (.int .u32 (((Sha.words B).getD t 0 : Nat) : Int)) := (bw.cell t).trans (wordsV_at _ _ (by omega))
              generalize Sha.kTab.getD t 0 = k at *
              generalize (Sha.words B).getD t 0 = y at *
              have Hbw := Lib.hid (And.intro bw (And.intro bh (And.intro br hbl)))
              clear bw bh br hbl hm hws hwl hBs
              have t0 : (0 : Int) ≤ (t : Int) := by omega
              have t1 : (t : Int) < 64 := by omega
              have hd64 : decide ((t : Int) < 64) = true := by simp; omega
              have la : a < 4294967296 := hmw 0
              have lc : c < 4294967296 := hmw 1
              have ld : d < 4294967296 := hmw 2
              have le : e < 4294967296 := hmw 4
              have lg : g < 4294967296 := hmw 5
              have lx : x < 4294967296 := hmw 6
              clear hmw
              have hnot : bits .xor .u32 (if IntKind.u32.signed = true then -1 else IntKind.u32.max) (e : Int) = ((4294967295 - e : Nat) : Int) := not32 e le
              have hand1 := u32_and_nat e g le lg
              have hand2 := u32_and_nat (4294967295 - e) x (by omega) lx
              have hxor := u32_xor_nat (e &&& g) ((4294967295 - e) &&& x) (Nat.and_lt_two_pow (n := 32) _ lg) (Nat.and_lt_two_pow (n := 32) _ lx)
              have Hch : Hid (Sha.ch e g x = (e &&& g) ^^^ ((4294967295 - e) &&& x)) := Lib.hid rfl
              have ha1 := u32_and_nat a c la lc
              have ha2 := u32_and_nat a d la ld
              have ha3 := u32_and_nat c d lc ld
              have hx1 := u32_xor_nat (a &&& c) (a &&& d) (Nat.and_lt_two_pow (n := 32) _ lc) (Nat.and_lt_two_pow (n := 32) _ ld)
              have hx2 := u32_xor_nat ((a &&& c) ^^^ (a &&& d)) (c &&& d) (Nat.xor_lt_two_pow (n := 32) (Nat.and_lt_two_pow (n := 32) _ lc) (Nat.and_lt_two_pow (n := 32) _ ld)) (Nat.and_lt_two_pow (n := 32) _ ld)
              have Hmaj : Hid (Sha.maj a c d = ((a &&& c) ^^^ (a &&& d)) ^^^ (c &&& d)) := Lib.hid rfl
              generalize (e &&& g) ^^^ ((4294967295 - e) &&& x) = ch at *
              generalize (4294967295 - e) &&& x = ch2 at *
              generalize 4294967295 - e = ne at *
              generalize e &&& g = ch1 at *
              generalize ((a &&& c) ^^^ (a &&& d)) ^^^ (c &&& d) = mj at *
              generalize (a &&& c) ^^^ (a &&& d) = mj1 at *
              generalize a &&& c = mj2 at *
              generalize a &&& d = mj3 at *
              generalize c &&& d = mj4 at *
              have Ra := rotr_lt a 2 la
              have Rb := rotr_lt a 13 la
              have Rc := rotr_lt a 22 la
              have Rd := rotr_lt e 6 le
              have Re := rotr_lt e 11 le
              have Rf := rotr_lt e 25 le
              have S01 := u32_xor_nat _ _ Ra Rb
              have S02 := u32_xor_nat (Sha.rotr a 2 ^^^ Sha.rotr a 13) _ (Nat.xor_lt_two_pow (n := 32) Ra Rb) Rc
              have S11 := u32_xor_nat _ _ Rd Re
              have S12 := u32_xor_nat (Sha.rotr e 6 ^^^ Sha.rotr e 11) _ (Nat.xor_lt_two_pow (n := 32) Rd Re) Rf
              have HS0 : Hid (Sha.Sig0 a = Sha.rotr a 2 ^^^ Sha.rotr a 13 ^^^ Sha.rotr a 22) := Lib.hid rfl
              have HS1 : Hid (Sha.Sig1 e = Sha.rotr e 6 ^^^ Sha.rotr e 11 ^^^ Sha.rotr e 25) := Lib.hid rfl
              clear Ra Rb Rc Rd Re Rf
              generalize (Sha.rotr a 2 ^^^ Sha.rotr a 13) ^^^ Sha.rotr a 22 = s0 at *
              generalize Sha.rotr a 2 ^^^ Sha.rotr a 13 = s01 at *
              generalize (Sha.rotr e 6 ^^^ Sha.rotr e 11) ^^^ Sha.rotr e 25 = s1 at *
              generalize Sha.rotr e 6 ^^^ Sha.rotr e 11 = s11 at *
              clear hhl hh lc ld lg lx
              go_wp2_with fail
              go_region_held3 (fun w' => w'.cell? (ak.add t) = some (.int .u32 (k : Int)) ∧ w'.cell? ⟨gw, t, none⟩ = some (.int .u32 (y : Int))) (go_keep)
                (first
                | (go_at_call 55; (with_reducible refine (turn_lit e 6 6 rfl le (by omega) (by omega) _).mono ?_); rintro e' w' ⟨rfl, rfl⟩)
                | (go_at_call 55; (with_reducible refine (turn_lit e 11 11 rfl le (by omega) (by omega) _).mono ?_); rintro e' w' ⟨rfl, rfl⟩)
                | (go_at_call 55; (with_reducible refine (turn_lit e 25 25 rfl le (by omega) (by omega) _).mono ?_); rintro e' w' ⟨rfl, rfl⟩))
              obtain ⟨T1, hT1⟩ : ∃ T, (((((l + s1) % 4294967296 + ch) % 4294967296 + k) % 4294967296) + y) % 4294967296 = T := ⟨_, rfl⟩
              have eT1 : IntKind.u32.wrap (IntKind.u32.wrap (IntKind.u32.wrap (IntKind.u32.wrap ((l : Int) + (s1 : Int)) + (ch : Int)) + (k : Int)) + (y : Int)) = (T1 : Int) := by
                simp only [IntKind.wrap_u32']
                omega
              rw [eT1]
              obtain ⟨T2, hT2⟩ : ∃ T, (s0 + mj) % 4294967296 = T := ⟨_, rfl⟩
              have eT2 : ((s0 : Int) + (mj : Int)) % 4294967296 = (T2 : Int) := by omega
              obtain ⟨n4, hn4⟩ : ∃ T, (f + T1) % 4294967296 = T := ⟨_, rfl⟩
              have en4 : ((f : Int) + (T1 : Int)) % 4294967296 = (n4 : Int) := by omega
              obtain ⟨n0, hn0⟩ : ∃ T, (T1 + T2) % 4294967296 = T := ⟨_, rfl⟩
              have en0 : ((T1 : Int) + (T2 : Int)) % 4294967296 = (n0 : Int) := by omega
              have hnew : Sha.mixStep [a, c, d, f, e, g, x, l] k y = [n0, a, c, d, n4, e, g, x] := by
                unfold Sha.mixStep Sha.t1Of Sha.t2Of
                simp only [List.getD_cons_zero, List.getD_cons_succ]
                rw [HS1.out, Hch.out, HS0.out, Hmaj.out, hT1, hT2, hn4, hn0]
              have Hnew := Lib.hid (hstep.out.trans hnew)
              clear hnew hstep HS1 Hch HS0 Hmaj hT1 hT2 hn4 hn0 eT1 gk gx hnot hand1 hand2 hxor ha1 ha2 ha3 hx1 hx2 S11 S12 lk lw
              go_wp2_with (first
                | (go_at_call 55; (with_reducible refine (turn_lit a 2 2 rfl la (by omega) (by omega) _).mono ?_); rintro e' w' ⟨rfl, rfl⟩)
                | (go_at_call 55; (with_reducible refine (turn_lit a 13 13 rfl la (by omega) (by omega) _).mono ?_); rintro e' w' ⟨rfl, rfl⟩)
                | (go_at_call 55; (with_reducible refine (turn_lit a 22 22 rfl la (by omega) (by omega) _).mono ?_); rintro e' w' ⟨rfl, rfl⟩))
              obtain ⟨bw, bh, br, hbl⟩ := Hbw.out
              exact ⟨⟨t + 1, n0, a, c, d, n4, e, g, x, by omega, by go_num, by go_num, rfl, rfl, rfl, by go_num, rfl, rfl, rfl, Hnew.out, bw, bh, br, hbl.drew⟩, by simp [intOf]; omega⟩
            · obtain rfl : t = 64 := by omega
              have hd64 : decide (((64 : Nat) : Int) < 64) = false := by decide
              have c0 : wr.cell? ⟨w.heap.size, 0, none⟩ = some (.int .u32 h0) := bh.cell 0
              have c1 : wr.cell? ⟨w.heap.size, 1, none⟩ = some (.int .u32 h1) := bh.cell 1
              have c2 : wr.cell? ⟨w.heap.size, 2, none⟩ = some (.int .u32 h2) := bh.cell 2
              have c3 : wr.cell? ⟨w.heap.size, 3, none⟩ = some (.int .u32 h3) := bh.cell 3
              have c4 : wr.cell? ⟨w.heap.size, 4, none⟩ = some (.int .u32 h4) := bh.cell 4
              have c5 : wr.cell? ⟨w.heap.size, 5, none⟩ = some (.int .u32 h5) := bh.cell 5
              have c6 : wr.cell? ⟨w.heap.size, 6, none⟩ = some (.int .u32 h6) := bh.cell 6
              have c7 : wr.cell? ⟨w.heap.size, 7, none⟩ = some (.int .u32 h7) := bh.cell 7
              have hmx : Hid (Sha.mixed [h0, h1, h2, h3, h4, h5, h6, h7] B = [(h0 + a) % 4294967296, (h1 + c) % 4294967296, (h2 + d) % 4294967296, (h3 + f) % 4294967296, (h4 + e) % 4294967296, (h5 + g) % 4294967296, (h6 + x) % 4294967296, (h7 + l) % 4294967296]) := by
                refine Lib.hid ?_
                unfold Sha.mixed
                rw [hm]
                simp only [Sha.addTo, List.set_cons_zero, List.set_cons_succ, List.getD_cons_zero, List.getD_cons_succ]
              clear hm
              go_wp2_with (refine wpList_store_row rfl 31 (.tmp 8) (.tmp 206) rfl (w.heap.size + 1) _ rfl rfl 31 _ br infoStart rfl (by simp [Value.oneCell']) ?_)
              have hcs : (#[Value.int IntKind.u32 (((h0 : Int) + a) % 4294967296), Value.int IntKind.u32 (((h1 : Int) + c) % 4294967296), Value.int IntKind.u32 (((h2 : Int) + d) % 4294967296), Value.int IntKind.u32 (((h3 : Int) + f) % 4294967296), Value.int IntKind.u32 (((h4 : Int) + e) % 4294967296), Value.int IntKind.u32 (((h5 : Int) + g) % 4294967296), Value.int IntKind.u32 (((h6 : Int) + x) % 4294967296), Value.int IntKind.u32 (((h7 : Int) + l) % 4294967296)] : Array Value) = wordsV (Sha.mixed [h0, h1, h2, h3, h4, h5, h6, h7] B) := by
                rw [hmx.out]
                simp [wordsV]
              rw [hcs]
              have hsz : (wordsV (Sha.mixed [h0, h1, h2, h3, h4, h5, h6, h7] B)).size = 8 := by rw [hmx.out]; rfl
              exact bodyPost_ret (results_cell_row rfl _ _ (w.heap.size + 1) 31 (wordsV (Sha.mixed [h0, h1, h2, h3, h4, h5, h6, h7] B)) (0, 0) _ rfl (setRow_heap wr (w.heap.size + 1) _ _ _ _ br) Try.underlying31 rfl (by rw [hsz]; exact infoStart)) rfl ⟨rfl, hbl.trans (Iter.below_setRow _ (by omega))⟩
end Go.Proofs.Ytamaokokbajlgaa
