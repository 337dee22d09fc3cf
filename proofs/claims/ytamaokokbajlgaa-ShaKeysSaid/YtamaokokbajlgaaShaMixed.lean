/-
  Walk: sha.mixed.
-/
import Derived.Test.YtamaokokbajlgaaShaWords
import Derived.Laws.CopyOwn
import Derived.Deep.RegionLaw
namespace Go.Proofs.Ytamaokokbajlgaa
open Go.RowKit
attribute [local go_sem ↓] Go.wp_at_zero Go.wp_at_succ

theorem mixStep_len (v : List Nat) (k w : Nat) : (Sha.mixStep v k w).length = 8 := by simp [Sha.mixStep]
theorem mixTo_len (v w : List Nat) (hv : v.length = 8) : ∀ t, (Sha.mixTo v w t).length = 8
  | 0 => hv
  | _ + 1 => mixStep_len _ _ _
theorem mod32 (n : Nat) : n % 4294967296 < 4294967296 := Nat.mod_lt _ (by decide)
theorem mixTo_ws (v w : List Nat) (hv : Ws v) : ∀ t, Ws (Sha.mixTo v w t)
  | 0 => hv
  | t + 1 => by
    have ih := mixTo_ws v w hv t
    intro i
    unfold Sha.mixTo Sha.mixStep
    rcases i with _ | _ | _ | _ | _ | _ | _ | _ | i
    · exact mod32 _
    · exact ih 0
    · exact ih 1
    · exact ih 2
    · exact mod32 _
    · exact ih 4
    · exact ih 5
    · exact ih 6
    · simp
theorem kTab_ws : Ws Sha.kTab := by
  intro i
  rcases Nat.lt_or_ge i 64 with h | h
  · exact (by decide +kernel : ∀ i, i < 64 → Sha.kTab.getD i 0 < 4294967296) i h
  · have hl : Sha.kTab.length = 64 := by decide
    rw [List.getD_eq_getElem?_getD, List.getElem?_eq_none (by omega)]
    decide
theorem addTo_len (h v : List Nat) (hh : h.length = 8) : ∀ i, (Sha.addTo h v i).length = 8
  | 0 => hh
  | i + 1 => by rw [Sha.addTo, List.length_set]; exact addTo_len h v hh i
theorem addTo_ws (h v : List Nat) (hh : Ws h) : ∀ i, Ws (Sha.addTo h v i)
  | 0 => hh
  | i + 1 => by rw [Sha.addTo]; exact (addTo_ws h v hh i).set_ _ _ (mod32 _)
theorem mixed_len (h b : List Nat) (hh : h.length = 8) : (Sha.mixed h b).length = 8 := addTo_len _ _ hh 8
theorem mixed_ws (h b : List Nat) (hh : Ws h) : Ws (Sha.mixed h b) := addTo_ws _ _ hh 8

theorem BytesAt.below {w w' : World} {B : Nat} {A : Option Addr} {b : List Nat} (h : BytesAt w B A b) (hb : Below B w w') : BytesAt w' B A b := fun i hi => by
  obtain ⟨ad, e, h1, h2⟩ := h i hi
  exact ⟨ad, e, h1, (hb.cell (by rw [block_of_add]; exact h1)).trans h2⟩
theorem BytesAt.more {w : World} {B B' : Nat} {A : Option Addr} {b : List Nat} (h : BytesAt w B A b) (hb : B ≤ B') : BytesAt w B' A b := fun i hi => by
  obtain ⟨ad, e, h1, h2⟩ := h i hi
  exact ⟨ad, e, by omega, h2⟩
theorem kTab_len : Sha.kTab.length = 64 := by decide
theorem not32 (x : Nat) (h : x < 4294967296) : bits .xor .u32 (if IntKind.u32.signed = true then -1 else IntKind.u32.max) (x : Int) = ((4294967295 - x : Nat) : Int) := by
  rw [if_neg (by decide), show IntKind.u32.max = ((4294967295 : Nat) : Int) from rfl, u32_xor_nat _ _ (by omega) h]
  congr 1
  rw [show 4294967295 - x = 2 ^ 32 - (x + 1) by omega]
  apply Nat.eq_of_testBit_eq
  intro i
  rw [Nat.testBit_xor, Nat.testBit_two_pow_sub_succ h, show 4294967295 = 2 ^ 32 - 1 by decide, Nat.testBit_two_pow_sub_one]
  by_cases hi : i < 32
  · simp [hi]
  · have h3 : x.testBit i = false := Nat.testBit_lt_two_pow (Nat.lt_of_lt_of_le h (Nat.pow_le_pow_right (n := 2) (by omega) (show 32 ≤ i by omega)))
    simp [hi, h3]
theorem info_u32 : (Try.prog.info? 28).map (·.size) = some 1 := by kernel_rfl
def z8 : List Nat := List.replicate 8 0
theorem zero8 : #[Value.int IntKind.u32 0, Value.int IntKind.u32 0, Value.int IntKind.u32 0, Value.int IntKind.u32 0, Value.int IntKind.u32 0, Value.int IntKind.u32 0, Value.int IntKind.u32 0, Value.int IntKind.u32 0] = wordsV z8 := rfl

theorem Blk.farRow {w : World} {g g' : Nat} {t : TypeId} {cs : Array Value} (h : Blk w g t cs) (hp : g ≠ g') (cs' : Array Value) : Blk (w.setRow g' cs') g t cs := by
  unfold Blk at h ⊢
  show (w.heap.modify g' _)[g]? = _
  rw [Array.getElem?_modify, if_neg (by omega)]
  exact h
theorem Blk.setRow_ {w : World} {g : Nat} {t : TypeId} {cs : Array Value} (h : Blk w g t cs) (cs' : Array Value) : Blk (w.setRow g cs') g t cs' := setRow_heap w g _ _ _ _ h
theorem heap_new1 (w : World) (o : Obj) (g : Nat) (h : w.heap.size = g) : (w.alloc o).heap[g]? = some o := by rw [← h]; exact heap_alloc_new w o

theorem src7 {w : World} {g : Nat} {t : TypeId} {v0 v1 v2 v3 v4 v5 v6 v7 : Nat} (h : Blk w g t (wordsV [v0, v1, v2, v3, v4, v5, v6, v7])) (j : Nat) (v : Value) (hj : ([Value.int .u32 (v0 : Int), Value.int .u32 (v1 : Int), Value.int .u32 (v2 : Int), Value.int .u32 (v3 : Int), Value.int .u32 (v4 : Int), Value.int .u32 (v5 : Int), Value.int .u32 (v6 : Int)] : List Value)[j]? = some v) :
    w.cell? ((⟨g, 0, none⟩ : Addr).add j) = some v := by
  have e : (⟨g, 0, none⟩ : Addr).add j = ⟨g, j, none⟩ := by unfold Addr.add; split <;> simp_all
  rw [e, h.cell j]
  rcases j with _ | _ | _ | _ | _ | _ | _ | j
  all_goals first | exact hj | (simp at hj)

set_option maxRecDepth 100000 in
set_option maxHeartbeats 4000000 in
theorem mixed_calls (h b : List Nat) (A : Option Addr) (cap gk : Nat) (w : World) (hh : Ws h) (hhl : h.length = 8) (hb : Bs b) (hlen : b.length = 64) (hcap : 64 ≤ cap) (hA : BytesAt w w.heap.size A b)
    (hk : Blk w gk 55 (wordsV Sha.kTab)) :
    Calls Try.prog 41 #[.agg (wordsV h), .slice A 64 cap, .pointer (some ⟨gk, 0, none⟩)] w fun e w' => e = .returned (.agg (wordsV (Sha.mixed h b))) ∧ Below w.heap.size w w' := by
  go_enter Try.func41, Try.ntmps41
  go_wp2_with fail
  rw [zero8]
  have bh := (Blk.new w 31 (wordsV h)).alloc (.cells (wordsV z8) 31)
  have br := Blk.new (w.alloc (.cells (wordsV h) 31)) 31 (wordsV z8)
  have hbl : Below w.heap.size w ((w.alloc (.cells (wordsV h) 31)).alloc (.cells (wordsV z8) 31)) := ((Below.refl _ w).alloc (Nat.le_refl _) _).alloc (by simp) _
  have hsz : ((w.alloc (.cells (wordsV h) 31)).alloc (.cells (wordsV z8) 31)).heap.size = w.heap.size + 2 := by simp
  rw [World.size_alloc] at br
  generalize (w.alloc (.cells (wordsV h) 31)).alloc (.cells (wordsV z8) 31) = W0 at bh br hbl hsz ⊢
  refine (words_calls b A cap _ hb hlen hcap ((hA.below hbl).more (by omega))).mono ?_
  rintro e W1 ⟨rfl, hb1⟩
  have hgk := hk.lt
  have bk1 : Blk W1 gk _ _ := (hk.below hbl hgk).below hb1 (by omega)
  have bh1 : Blk W1 w.heap.size _ _ := bh.below hb1 (by omega)
  have br1 : Blk W1 (w.heap.size + 1) _ _ := br.below hb1 (by omega)
  have hbl1 : Below w.heap.size w W1 := hbl.trans (hb1.mono (by omega))
  have hsz1 : w.heap.size + 2 ≤ W1.heap.size := by have := hb1.size; omega
  clear hb1 hbl bh br hsz
  have hwl : (Sha.words b).length = 64 := wordsTo_len b 64
  have hws : Ws (Sha.words b) := wordsTo_ws b hb 64
  have bh2 := bh1.alloc (Obj.cells #[Value.int IntKind.u32 0, Value.int IntKind.u32 0, Value.int IntKind.u32 0, Value.int IntKind.u32 0, Value.int IntKind.u32 0, Value.int IntKind.u32 0, Value.int IntKind.u32 0, Value.int IntKind.u32 0, Value.int IntKind.u32 0, Value.int IntKind.u32 0, Value.int IntKind.u32 0, Value.int IntKind.u32 0, Value.int IntKind.u32 0, Value.int IntKind.u32 0, Value.int IntKind.u32 0, Value.int IntKind.u32 0, Value.int IntKind.u32 0, Value.int IntKind.u32 0, Value.int IntKind.u32 0, Value.int IntKind.u32 0, Value.int IntKind.u32 0, Value.int IntKind.u32 0, Value.int IntKind.u32 0, Value.int IntKind.u32 0, Value.int IntKind.u32 0, Value.int IntKind.u32 0, Value.int IntKind.u32 0, Value.int IntKind.u32 0, Value.int IntKind.u32 0, Value.int IntKind.u32 0, Value.int IntKind.u32 0, Value.int IntKind.u32 0, Value.int IntKind.u32 0, Value.int IntKind.u32 0, Value.int IntKind.u32 0, Value.int IntKind.u32 0, Value.int IntKind.u32 0, Value.int IntKind.u32 0, Value.int IntKind.u32 0, Value.int IntKind.u32 0, Value.int IntKind.u32 0, Value.int IntKind.u32 0, Value.int IntKind.u32 0, Value.int IntKind.u32 0, Value.int IntKind.u32 0, Value.int IntKind.u32 0, Value.int IntKind.u32 0, Value.int IntKind.u32 0, Value.int IntKind.u32 0, Value.int IntKind.u32 0, Value.int IntKind.u32 0, Value.int IntKind.u32 0, Value.int IntKind.u32 0, Value.int IntKind.u32 0, Value.int IntKind.u32 0, Value.int IntKind.u32 0, Value.int IntKind.u32 0, Value.int IntKind.u32 0, Value.int IntKind.u32 0, Value.int IntKind.u32 0, Value.int IntKind.u32 0, Value.int IntKind.u32 0, Value.int IntKind.u32 0, Value.int IntKind.u32 0] 55)
  have bh3 := bh2.farRow (g' := W1.heap.size) (by omega) (wordsV (Sha.words b))
  go_wp2_with (first
    | (refine wpList_store_row rfl 55 (.tmp 7) (.tmp 16) rfl W1.heap.size _ rfl rfl 55 _ (heap_alloc_new _ _) (by rw [wordsV_size, hwl]; exact infokeys) (by rw [wordsV_size, hwl]; rfl) (by simp [wordsV, Value.oneCell']) ?_)
    | (refine wpList_load_row rfl 31 (.tmp 3) rfl w.heap.size rfl 31 _ (0, 0) _ bh3 Try.underlying31 rfl (by rw [wordsV_size, hhl]; exact infoStart) ?_)
    | (refine wpList_store_row rfl 31 (.tmp 8) (.tmp 17) rfl (W1.heap.size + 1) _ rfl rfl 31 _ (heap_new1 _ _ _ (by simp)) (by rw [wordsV_size, hhl]; exact infoStart) (by rw [wordsV_size, hhl]; rfl) (by simp [wordsV, Value.oneCell']) ?_))
  rw [zero64 b, zero8]
  rw [zero64 b] at bh2 bh3
  have bk2 := ((bk1.alloc (Obj.cells (wordsV (Sha.wordsTo b 0)) 55)).farRow (g' := W1.heap.size) (by omega) (wordsV (Sha.words b))).alloc (Obj.cells (wordsV z8) 31)
  have bk3 := bk2.farRow (g' := W1.heap.size + 1) (by omega) (wordsV h)
  have br2 := ((br1.alloc (Obj.cells (wordsV (Sha.wordsTo b 0)) 55)).farRow (g' := W1.heap.size) (by omega) (wordsV (Sha.words b))).alloc (Obj.cells (wordsV z8) 31)
  have br3 := br2.farRow (g' := W1.heap.size + 1) (by omega) (wordsV h)
  have bh5 := (bh3.alloc (Obj.cells (wordsV z8) 31)).farRow (g' := W1.heap.size + 1) (by omega) (wordsV h)
  have bw3 := (((Blk.new W1 55 (wordsV (Sha.wordsTo b 0))).setRow_ (wordsV (Sha.words b))).alloc (Obj.cells (wordsV z8) 31)).farRow (g' := W1.heap.size + 1) (by omega) (wordsV h)
  have bv3 := (Blk.new ((W1.alloc (.cells (wordsV (Sha.wordsTo b 0)) 55)).setRow W1.heap.size (wordsV (Sha.words b))) 31 (wordsV z8)).setRow_ (wordsV h)
  rw [size_setRow, World.size_alloc] at bv3
  have q1 := hbl1.alloc (by omega) (.cells (wordsV (Sha.wordsTo b 0)) 55)
  have q2 := q1.trans (Iter.below_setRow (g := W1.heap.size) (wordsV (Sha.words b)) (by omega))
  have q3 := q2.alloc (by simp; omega) (.cells (wordsV z8) 31)
  have hbl3 := q3.trans (Iter.below_setRow (g := W1.heap.size + 1) (wordsV h) (by omega))
  generalize (((W1.alloc (.cells (wordsV (Sha.wordsTo b 0)) 55)).setRow W1.heap.size (wordsV (Sha.words b))).alloc (.cells (wordsV z8) 31)).setRow (W1.heap.size + 1) (wordsV h) = W2 at bk3 br3 bh5 bw3 bv3 hbl3 ⊢
  clear bk2 br2 bh3 bh2 bk1 bh1 br1 hbl1 q1 q2 q3
  generalize W1.heap.size = gw at *
  go_loopw [18] (fun i wr => ∃ t : Nat, t ≤ 64 ∧ i = .int .i64 t ∧ Blk wr (gw + 1) 31 (wordsV (Sha.mixTo h (Sha.words b) t)) ∧ Blk wr gw 55 (wordsV (Sha.words b)) ∧ Blk wr w.heap.size 31 (wordsV h) ∧ Blk wr (w.heap.size + 1) 31 (wordsV z8) ∧ Blk wr gk 55 (wordsV Sha.kTab) ∧ Below w.heap.size w wr) (fun i _ => 64 - (intOf i).toNat)
  case atStart => exact ⟨0, by omega, rfl, bv3, bw3, bh5, br3, bk3, hbl3⟩
  case round =>
    clear bk3 br3 bh5 bw3 bv3 hbl3
    obtain ⟨t, ht, rfl, bv, bw, bh, br, bk, hbl⟩ := hrel
    by_cases h64 : t < 64
    · have hml := mixTo_len h (Sha.words b) hhl t
      have hmw := mixTo_ws h (Sha.words b) hh t
      have hstep : Hid (Sha.mixTo h (Sha.words b) (t + 1) = Sha.mixStep (Sha.mixTo h (Sha.words b) t) (Sha.kTab.getD t 0) ((Sha.words b).getD t 0)) := Lib.hid rfl
      have vk : (wordsV Sha.kTab)[t]? = some (.int .u32 (Sha.kTab.getD t 0)) := wordsV_at _ _ (by rw [kTab_len]; exact h64)
      have vw : (wordsV (Sha.words b))[t]? = some (.int .u32 ((Sha.words b).getD t 0)) := wordsV_at _ _ (by omega)
      have lk := kTab_ws t
      have lw := hws t
      obtain ⟨v0, v1, v2, v3, v4, v5, v6, v7, hv⟩ : ∃ v0 v1 v2 v3 v4 v5 v6 v7, Sha.mixTo h (Sha.words b) t = [v0, v1, v2, v3, v4, v5, v6, v7] := by
        match Sha.mixTo h (Sha.words b) t, hml with
        | [v0, v1, v2, v3, v4, v5, v6, v7], _ => exact ⟨v0, v1, v2, v3, v4, v5, v6, v7, rfl⟩
      rw [hv] at hmw bv hstep
      clear hml hv
      generalize Sha.kTab.getD t 0 = k at *
      generalize (Sha.words b).getD t 0 = x at *
      have g0 : wr.cell? ⟨gw + 1, 0, none⟩ = some (.int .u32 v0) := bv.cell 0
      have g4 : wr.cell? ⟨gw + 1, 4, none⟩ = some (.int .u32 v4) := bv.cell 4
      have t0 : (0 : Int) ≤ (t : Int) := by omega
      have t1 : (t : Int) < 64 := by omega
      have hd64 : decide ((t : Int) < 64) = true := by simp; omega
      clear hk hA hcap hlen hwl hws
      have vk := Lib.hid vk
      have vw := Lib.hid vw
      go_wp2_with fail
      go_region_held3 (fun w' => w'.cell? ⟨gw + 1, 0, none⟩ = some (.int .u32 v0) ∧ w'.cell? ⟨gw + 1, 4, none⟩ = some (.int .u32 v4)) (go_keep) (fail)
      clear g0 g4
      have bv' : Blk wr.drew _ _ _ := bv
      have bw' : Blk wr.drew _ _ _ := bw
      have bh' : Blk wr.drew _ _ _ := bh
      have br' : Blk wr.drew _ _ _ := br
      have bk' : Blk wr.drew _ _ _ := bk
      have hbl' := hbl.drew
      generalize wr.drew = Wa at bv' bw' bh' br' bk' hbl' ⊢
      clear bv bw bh br bk hbl
      have g7 : Wa.cell? ⟨gw + 1, 7, none⟩ = some (.int .u32 v7) := bv'.cell 7
      have g5 : Wa.cell? ⟨gw + 1, 5, none⟩ = some (.int .u32 v5) := bv'.cell 5
      have g6 : Wa.cell? ⟨gw + 1, 6, none⟩ = some (.int .u32 v6) := bv'.cell 6
      have ck : Wa.cell? ⟨gk, t, none⟩ = some (.int .u32 k) := (bk'.cell t).trans vk.out
      have cw : Wa.cell? ⟨gw, t, none⟩ = some (.int .u32 x) := (bw'.cell t).trans vw.out
      have zl := bv'.lt
      have zk := bk'.lt
      have l4 : v4 < 4294967296 := hmw 4
      have HB := Lib.hid (And.intro bv' (And.intro bw' (And.intro bh' (And.intro br' (And.intro bk' hbl')))))
      clear bv' bw' bh' br' bk' hbl'
      have HL := Lib.hid (And.intro hmw (And.intro lk lw))
      have l5 := hmw 5
      have l6 := hmw 6
      change v5 < 4294967296 at l5
      change v6 < 4294967296 at l6
      have hnot : bits .xor .u32 (if IntKind.u32.signed = true then -1 else IntKind.u32.max) (v4 : Int) = ((4294967295 - v4 : Nat) : Int) := not32 v4 l4
      have hand1 := u32_and_nat v4 v5 l4 l5
      have hand2 := u32_and_nat (4294967295 - v4) v6 (by omega) l6
      have hxor := u32_xor_nat (v4 &&& v5) ((4294967295 - v4) &&& v6) (Nat.and_lt_two_pow (n := 32) _ l5) (Nat.and_lt_two_pow (n := 32) _ l6)
      have Hch : Hid (Sha.ch v4 v5 v6 = (v4 &&& v5) ^^^ ((4294967295 - v4) &&& v6)) := Lib.hid rfl
      generalize (v4 &&& v5) ^^^ ((4294967295 - v4) &&& v6) = c at *
      generalize (4294967295 - v4) &&& v6 = c2 at *
      generalize 4294967295 - v4 = nv at *
      generalize v4 &&& v5 = c1 at *
      clear l5 l6
      clear hmw lk lw hd64 hh hb
      go_wp2_with fail
      go_region_held3 (fun w' => w'.cell? ⟨gw + 1, 7, none⟩ = some (.int .u32 v7) ∧ w'.cell? ⟨gw + 1, 5, none⟩ = some (.int .u32 v5) ∧ w'.cell? ⟨gw + 1, 6, none⟩ = some (.int .u32 v6) ∧ w'.cell? ⟨gk, t, none⟩ = some (.int .u32 k) ∧ w'.cell? ⟨gw, t, none⟩ = some (.int .u32 x)) (go_keep)
        (first | (go_at_call 53; refine (turned3 v4 6 11 25 _ _ _ l4 (by omega) (by omega) (by omega) ?_).mono ?_; exact heap_alloc_new _ _; rintro e w' ⟨rfl, rfl⟩))
      obtain ⟨S1, hS1⟩ : ∃ S, (Sha.rotr v4 6 ^^^ Sha.rotr v4 11) ^^^ Sha.rotr v4 25 = S := ⟨_, rfl⟩
      obtain ⟨T1, hT1⟩ : ∃ T, (((((v7 + S1) % 4294967296 + c) % 4294967296 + k) % 4294967296) + x) % 4294967296 = T := ⟨_, rfl⟩
      have eT1 : IntKind.u32.wrap (IntKind.u32.wrap (IntKind.u32.wrap (IntKind.u32.wrap ((v7 : Int) + (S1 : Int)) + (c : Int)) + (k : Int)) + (x : Int)) = (T1 : Int) := by
        simp only [IntKind.wrap_u32']
        omega
      rw [hS1, eT1]
      obtain ⟨bv1, bw1, bh1, br1, bk1, hbl1⟩ := HB.out
      have bv2 : Blk (Wa.alloc (Obj.cells #[Value.int IntKind.i64 6, Value.int IntKind.i64 11, Value.int IntKind.i64 25] 3)).drew _ _ _ := bv1.alloc _
      have bw2 : Blk (Wa.alloc (Obj.cells #[Value.int IntKind.i64 6, Value.int IntKind.i64 11, Value.int IntKind.i64 25] 3)).drew _ _ _ := bw1.alloc _
      have bh2 : Blk (Wa.alloc (Obj.cells #[Value.int IntKind.i64 6, Value.int IntKind.i64 11, Value.int IntKind.i64 25] 3)).drew _ _ _ := bh1.alloc _
      have br2 : Blk (Wa.alloc (Obj.cells #[Value.int IntKind.i64 6, Value.int IntKind.i64 11, Value.int IntKind.i64 25] 3)).drew _ _ _ := br1.alloc _
      have bk2 : Blk (Wa.alloc (Obj.cells #[Value.int IntKind.i64 6, Value.int IntKind.i64 11, Value.int IntKind.i64 25] 3)).drew _ _ _ := bk1.alloc _
      have hbl2 := (hbl1.alloc hbl1.size (Obj.cells #[Value.int IntKind.i64 6, Value.int IntKind.i64 11, Value.int IntKind.i64 25] 3)).drew
      have HT1 := Lib.hid (And.intro hS1 hT1)
      clear HB g7 g5 g6 ck cw zl zk hS1 hT1 eT1 bv1 bw1 bh1 br1 bk1 hbl1 hnot hand1 hand2 hxor
      generalize (Wa.alloc (Obj.cells #[Value.int IntKind.i64 6, Value.int IntKind.i64 11, Value.int IntKind.i64 25] 3)).drew = Wb at bv2 bw2 bh2 br2 bk2 hbl2 ⊢
      have g1 : Wb.cell? ⟨gw + 1, 1, none⟩ = some (.int .u32 v1) := bv2.cell 1
      have g2 : Wb.cell? ⟨gw + 1, 2, none⟩ = some (.int .u32 v2) := bv2.cell 2
      have zl := bv2.lt
      have HB := Lib.hid (And.intro bv2 (And.intro bw2 (And.intro bh2 (And.intro br2 (And.intro bk2 hbl2)))))
      clear bv2 bw2 bh2 br2 bk2 hbl2
      have l0 : v0 < 4294967296 := HL.out.1 0
      have l1 : v1 < 4294967296 := HL.out.1 1
      have l2 : v2 < 4294967296 := HL.out.1 2
      have ha1 := u32_and_nat v0 v1 l0 l1
      have ha2 := u32_and_nat v0 v2 l0 l2
      have ha3 := u32_and_nat v1 v2 l1 l2
      have hx1 := u32_xor_nat (v0 &&& v1) (v0 &&& v2) (Nat.and_lt_two_pow (n := 32) _ l1) (Nat.and_lt_two_pow (n := 32) _ l2)
      have hx2 := u32_xor_nat ((v0 &&& v1) ^^^ (v0 &&& v2)) (v1 &&& v2) (Nat.xor_lt_two_pow (n := 32) (Nat.and_lt_two_pow (n := 32) _ l1) (Nat.and_lt_two_pow (n := 32) _ l2)) (Nat.and_lt_two_pow (n := 32) _ l2)
      have Hmaj : Hid (Sha.maj v0 v1 v2 = ((v0 &&& v1) ^^^ (v0 &&& v2)) ^^^ (v1 &&& v2)) := Lib.hid rfl
      generalize ((v0 &&& v1) ^^^ (v0 &&& v2)) ^^^ (v1 &&& v2) = m at *
      generalize (v0 &&& v1) ^^^ (v0 &&& v2) = m1 at *
      generalize v0 &&& v1 = m2 at *
      generalize v0 &&& v2 = m3 at *
      generalize v1 &&& v2 = m4 at *
      clear l1 l2
      go_wp2_with fail
      go_region_held3 (fun w' => w'.cell? ⟨gw + 1, 1, none⟩ = some (.int .u32 v1) ∧ w'.cell? ⟨gw + 1, 2, none⟩ = some (.int .u32 v2)) (go_keep)
        (first | (go_at_call 53; refine (turned3 v0 2 13 22 _ _ _ l0 (by omega) (by omega) (by omega) ?_).mono ?_; exact heap_alloc_new _ _; rintro e w' ⟨rfl, rfl⟩))
      obtain ⟨S0, hS0⟩ : ∃ S, (Sha.rotr v0 2 ^^^ Sha.rotr v0 13) ^^^ Sha.rotr v0 22 = S := ⟨_, rfl⟩
      obtain ⟨T2, hT2⟩ : ∃ T, (S0 + m) % 4294967296 = T := ⟨_, rfl⟩
      have eT2 : IntKind.u32.wrap ((S0 : Int) + (m : Int)) = (T2 : Int) := by
        simp only [IntKind.wrap_u32']
        omega
      rw [hS0, eT2]
      obtain ⟨bv1, bw1, bh1, br1, bk1, hbl1⟩ := HB.out
      have bv2 : Blk (Wb.alloc (Obj.cells #[Value.int IntKind.i64 2, Value.int IntKind.i64 13, Value.int IntKind.i64 22] 3)).drew _ _ _ := bv1.alloc _
      have bw2 : Blk (Wb.alloc (Obj.cells #[Value.int IntKind.i64 2, Value.int IntKind.i64 13, Value.int IntKind.i64 22] 3)).drew _ _ _ := bw1.alloc _
      have bh2 : Blk (Wb.alloc (Obj.cells #[Value.int IntKind.i64 2, Value.int IntKind.i64 13, Value.int IntKind.i64 22] 3)).drew _ _ _ := bh1.alloc _
      have br2 : Blk (Wb.alloc (Obj.cells #[Value.int IntKind.i64 2, Value.int IntKind.i64 13, Value.int IntKind.i64 22] 3)).drew _ _ _ := br1.alloc _
      have bk2 : Blk (Wb.alloc (Obj.cells #[Value.int IntKind.i64 2, Value.int IntKind.i64 13, Value.int IntKind.i64 22] 3)).drew _ _ _ := bk1.alloc _
      have hbl2 := (hbl1.alloc hbl1.size (Obj.cells #[Value.int IntKind.i64 2, Value.int IntKind.i64 13, Value.int IntKind.i64 22] 3)).drew
      have HT2 := Lib.hid (And.intro hS0 hT2)
      clear HB g1 g2 zl hS0 hT2 eT2 bv1 bw1 bh1 br1 bk1 hbl1 ha1 ha2 ha3 hx1 hx2 l0
      generalize (Wb.alloc (Obj.cells #[Value.int IntKind.i64 2, Value.int IntKind.i64 13, Value.int IntKind.i64 22] 3)).drew = Wc at bv2 bw2 bh2 br2 bk2 hbl2 ⊢
      have HB := Lib.hid (And.intro bv2 (And.intro bw2 (And.intro bh2 (And.intro br2 (And.intro bk2 hbl2)))))
      have zl := bv2.lt
      clear bw2 bh2 br2 bk2 hbl2
      go_wp2_with fail
      go_region_law ((refine step_copy_splice (by rfl) _ _ 60 60 (by rfl) 28 Try.underlying60 info_u32 _ _ _ _ _ _ (by rfl) (by rfl) (gw + 1) 1 [Value.int .u32 (v0 : Int), Value.int .u32 (v1 : Int), Value.int .u32 (v2 : Int), Value.int .u32 (v3 : Int), Value.int .u32 (v4 : Int), Value.int .u32 (v5 : Int), Value.int .u32 (v6 : Int), Value.int .u32 (v7 : Int)] 31 (by exact bv2) [Value.int .u32 (v0 : Int), Value.int .u32 (v1 : Int), Value.int .u32 (v2 : Int), Value.int .u32 (v3 : Int), Value.int .u32 (v4 : Int), Value.int .u32 (v5 : Int), Value.int .u32 (v6 : Int)] (by rfl) (fun _ => ⟨rfl, _, rfl, fun j v hj => src7 bv2 j v hj⟩) (by simp) (by simp [Value.oneCell']) (gw + 1) Wc (by first | exact Below.refl _ _ | exact (Below.refl _ _).drew) (Nat.le_refl _) ?_; intro Wd hd hbd))
      obtain ⟨_, bw1, bh1, br1, bk1, hbl1⟩ := HB.out
      have hgw := bw1.lt
      have bvd : Blk Wd (gw + 1) 31 (wordsV [v0, v0, v1, v2, v3, v4, v5, v6]) := hd.out
      have bwd := bw1.below hbd (by omega)
      have bhd := bh1.below hbd (by omega)
      have brd := br1.below hbd (by omega)
      have bkd := bk1.below hbd (by omega)
      have hbld := hbl1.trans (hbd.mono (by omega))
      have e4 : IntKind.u32.wrap ((v3 : Int) + (T1 : Int)) = (((v3 + T1) % 4294967296 : Nat) : Int) := by simp only [IntKind.wrap_u32']; omega
      have e0 : IntKind.u32.wrap ((T1 : Int) + (T2 : Int)) = (((T1 + T2) % 4294967296 : Nat) : Int) := by simp only [IntKind.wrap_u32']; omega
      have hnew : Sha.mixStep [v0, v1, v2, v3, v4, v5, v6, v7] k x = [(T1 + T2) % 4294967296, v0, v1, v2, (v3 + T1) % 4294967296, v4, v5, v6] := by
        have h1 : Sha.t1Of [v0, v1, v2, v3, v4, v5, v6, v7] k x = T1 := by
          obtain ⟨hs, ht⟩ := HT1.out
          rw [← ht, ← hs, ← Hch.out]
          rfl
        have h2 : Sha.t2Of [v0, v1, v2, v3, v4, v5, v6, v7] = T2 := by
          obtain ⟨hs, ht⟩ := HT2.out
          rw [← ht, ← hs, ← Hmaj.out]
          rfl
        rw [Sha.mixStep, h1, h2]
        rfl
      generalize (v3 + T1) % 4294967296 = n4 at *
      generalize (T1 + T2) % 4294967296 = n0 at *
      have bv4 := bvd.set_ 4 (.int .u32 (n4 : Int))
      have bv5 : Blk ((Wd.setCell ⟨gw + 1, 4, none⟩ (.int .u32 (n4 : Int))).setCell ⟨gw + 1, 0, none⟩ (.int .u32 (n0 : Int))) (gw + 1) 31 (wordsV [n0, v0, v1, v2, n4, v4, v5, v6]) := bv4.set_ 0 (.int .u32 (n0 : Int))
      rw [← hnew, ← hstep.out] at bv5
      have hne : ∀ (g : Nat), g < gw + 1 → g ≠ (gw + 1) := fun g hg => by omega
      have bw5 := (bwd.far (p := ⟨gw + 1, 4, none⟩) (by simp) (.int .u32 (n4 : Int))).far (p := ⟨gw + 1, 0, none⟩) (by simp) (.int .u32 (n0 : Int))
      have bh5 := (bhd.far (p := ⟨gw + 1, 4, none⟩) (by simp; omega) (.int .u32 (n4 : Int))).far (p := ⟨gw + 1, 0, none⟩) (by simp; omega) (.int .u32 (n0 : Int))
      have br5 := (brd.far (p := ⟨gw + 1, 4, none⟩) (by simp; omega) (.int .u32 (n4 : Int))).far (p := ⟨gw + 1, 0, none⟩) (by simp; omega) (.int .u32 (n0 : Int))
      have bk5 := (bkd.far (p := ⟨gw + 1, 4, none⟩) (by simp; omega) (.int .u32 (n4 : Int))).far (p := ⟨gw + 1, 0, none⟩) (by simp; omega) (.int .u32 (n0 : Int))
      have hbl5 := (hbld.setCell (p := ⟨gw + 1, 4, none⟩) (by simp; omega) (.int .u32 (n4 : Int))).setCell (p := ⟨gw + 1, 0, none⟩) (by simp; omega) (.int .u32 (n0 : Int))
      have HF := Lib.hid (And.intro bv5 (And.intro bw5 (And.intro bh5 (And.intro br5 (And.intro bk5 hbl5)))))
      have g4 : Wd.cell? ⟨gw + 1, 4, none⟩ = some (.int .u32 v3) := bvd.cell 4
      have f4 := bvd.frozen 4
      have g0 : Wd.cell? ⟨gw + 1, 0, none⟩ = some (.int .u32 v0) := bvd.cell 0
      have f0 := bvd.frozen 0
      clear bv4 bv5 bw5 bh5 br5 bk5 hbl5 hbld bkd brd bhd bwd bvd hnew hne hstep HB hbl1 bk1 br1 bh1 bw1 hd hbd HT1 HT2 Hch Hmaj HL bv2 zl hgw
      go_wp2
      exact ⟨⟨t + 1, by omega, by go_num, HF.out⟩, by simp [intOf]; omega⟩
    · obtain rfl : t = 64 := by omega
      have hvl := mixTo_len h (Sha.words b) hhl 64
      have hvw := mixTo_ws h (Sha.words b) hh 64
      obtain ⟨V, hV⟩ : ∃ V, Sha.mixTo h (Sha.words b) 64 = V := ⟨_, rfl⟩
      have hres : Hid (Sha.mixed h b = Sha.addTo h V 8) := by rw [← hV]; exact Lib.hid rfl
      rw [hV] at bv hvl hvw
      clear hV
      have hd64 : decide (((64 : Nat) : Int) < 64) = false := by decide
      clear hk hA hcap hlen hwl hws
      go_wp2_with fail
      obtain ⟨wo, rfl⟩ : ∃ wo : World, wo = wr := ⟨_, rfl⟩
      go_loopw [84] (fun i wi => ∃ j : Nat, j ≤ 8 ∧ i = .int .i64 j ∧ Blk wi w.heap.size 31 (wordsV (Sha.addTo h V j)) ∧ Blk wi (gw + 1) 31 (wordsV V) ∧ Blk wi (w.heap.size + 1) 31 (wordsV z8) ∧ Below w.heap.size w wi) (fun i _ => 8 - (intOf i).toNat)
      case atStart => exact ⟨0, by omega, rfl, bh, bv, br, hbl⟩
      case round =>
        clear bh bv br bw bk hbl
        obtain ⟨j, hj, rfl, bh, bv, br, hbl⟩ := hrel
        have hal := addTo_len h V hhl j
        have haw := addTo_ws h V hh j
        by_cases hj8 : j < 8
        · have vx : (wordsV (Sha.addTo h V j))[j]? = some (.int .u32 ((Sha.addTo h V j).getD j 0)) := wordsV_at _ _ (by omega)
          have vy : (wordsV V)[j]? = some (.int .u32 (V.getD j 0)) := wordsV_at _ _ (by omega)
          have hnx : Hid (Sha.addTo h V (j + 1) = (Sha.addTo h V j).set j (((Sha.addTo h V j).getD j 0 + V.getD j 0) % 4294967296)) := Lib.hid rfl
          have lx := haw j
          have ly := hvw j
          generalize (Sha.addTo h V j).getD j 0 = x at *
          generalize V.getD j 0 = y at *
          have gx : wr.cell? ⟨w.heap.size, j, none⟩ = some (.int .u32 x) := (bh.cell j).trans vx
          have gy : wr.cell? ⟨gw + 1, j, none⟩ = some (.int .u32 y) := (bv.cell j).trans vy
          have fx := bh.frozen j
          have j0 : (0 : Int) ≤ (j : Int) := by omega
          have j1 : (j : Int) < 8 := by omega
          have exy : IntKind.u32.wrap ((x : Int) + (y : Int)) = (((x + y) % 4294967296 : Nat) : Int) := by simp only [IntKind.wrap_u32']; omega
          have hset := bh.set_ j (.int .u32 (((x + y) % 4294967296 : Nat) : Int))
          rw [wordsV_set, ← hnx.out] at hset
          have hv2 := bv.far (p := ⟨w.heap.size, j, none⟩) (by simp; omega) (.int .u32 (((x + y) % 4294967296 : Nat) : Int))
          have hr2 := br.far (p := ⟨w.heap.size, j, none⟩) (by simp) (.int .u32 (((x + y) % 4294967296 : Nat) : Int))
          have hb2 := hbl.setCell (p := ⟨w.heap.size, j, none⟩) (by simp) (.int .u32 (((x + y) % 4294967296 : Nat) : Int))
          generalize (x + y) % 4294967296 = z at *
          have HF := Lib.hid (And.intro hset (And.intro hv2 (And.intro hr2 hb2)))
          clear hset hv2 hr2 hb2 bh bv br hbl vx vy hnx haw hal lx ly hres
          have hnn : ¬ w.heap.size = gw + 1 := by omega
          go_wp2_with fail
          go_region
          go_wp2
          exact ⟨⟨j + 1, by omega, by go_num, HF.out.1, HF.out.2.1, HF.out.2.2.1, HF.out.2.2.2.drew⟩, by simp [intOf]; omega⟩
        · obtain rfl : j = 8 := by omega
          have hdj : decide (((8 : Nat) : Int) < 8) = false := by decide
          go_wp2_with (first
            | (refine wpList_load_row rfl 31 (.tmp 3) rfl w.heap.size rfl 31 _ (0, 0) _ bh Try.underlying31 rfl (by rw [wordsV_size, hal]; exact infoStart) ?_)
            | (refine wpList_store_row rfl 31 (.tmp 6) (.tmp 96) rfl (w.heap.size + 1) _ rfl rfl 31 _ br (by rw [wordsV_size, hal]; exact infoStart) (by rw [wordsV_size, wordsV_size, hal]; rfl) (by simp [wordsV, Value.oneCell']) ?_))
          exact bodyPost_ret (results_cell_row rfl _ _ (w.heap.size + 1) 31 (wordsV (Sha.addTo h V 8)) (0, 0) _ rfl (setRow_heap wr (w.heap.size + 1) _ _ _ _ br) Try.underlying31 rfl (by rw [wordsV_size, hal]; exact infoStart)) rfl ⟨by rw [hres.out], hbl.trans (Iter.below_setRow _ (by omega))⟩
end Go.Proofs.Ytamaokokbajlgaa
