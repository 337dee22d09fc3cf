/-
  The lower layers, walked and in closed forms, part 2: MathA, ShaPad, ShaSum, Text, Sha2, HandA, ShaFacts, RefStep, RefPad, RefSum, Mac, M0, M1, MacB, RowsMark, KdfA, AppendIn, KdfFirst, KdfSeq, KdfExpand, KdfPassA, BytW, BytC, KdfPassSeq, KdfPass, KdfLabel, Q0, Q1, Q2, KdfRef, KdfRefLabel, RatA, MathB, RatB, U0.
-/
import Derived.Test.YtdklmafkcbjomaaDoorG0
import Derived.Test.YtdklmafkcbjomaaDoorG1
import Derived.Test.YtdklmafkcbjomaaDoorChecked
import Derived.Test.YtdklmafkcbjomaaDoorHWords
import Derived.Test.YtdklmafkcbjomaaDoorHLast
import Derived.Test.YtdklmafkcbjomaaDoorHMore
import Derived.Test.YtdklmafkcbjomaaDoorProg
import Derived.Test.YtdklmafkcbjomaaDoorHRepsOne
import Derived.Lib.Hide
import Derived.Deep.QuietTactic
import Derived.BigQuiet
import Derived.Lib.SlBytesConst
import Derived.OpenShut
import Derived.Deep.RegionHeld3
import Derived.Deep.DrawnRows
import Derived.StillTailTactics
import Derived.Lib.AppendZeros
import Derived.Below
import Derived.Deep.Draws
import Derived.Deep.AppendLies
import Derived.Maps.AppendAt
import Derived.OwnWalk
import Derived.Laws.BytesArg
import Derived.Laws.MakeOwn
import Derived.Laws.OwnMore
import Derived.Deep.OwnRows
import Derived.Tactics
import Derived.Lib.ConvBytes
import Derived.Laws.Slices
import Derived.WalkKit
import Derived.KernelRfl
import Derived.RowKit3
import Derived.Deep.LoopGhost
import Derived.WideLaws
import Derived.Deep.DeepCutAuto
import Derived.Deep.CutBlock
import Derived.Laws.Rows
import Derived.Lib.AppendStr
import Derived.ArgAppend
import Derived.Laws.IdiomCopy
import Derived.OrdersHeld
import Derived.Laws.BitsLemmas
import Derived.RowKit
import Derived.OwnWalkIn
/-! MathA -/
namespace Go.Proofs.YtdklmafkcbjomaaDoor
set_option linter.unusedVariables false
set_option linter.unusedSimpArgs false
open Go.RowKit Go.Proofs.YtdklmafkcbjomaaDoorW.PrintWords Go.Proofs.YtdklmafkcbjomaaDoorW.PrintLast
attribute [local go_sem] Oper.semAt_some
/-- The table of math/bits. -/
def deB : List Int := [0, 1, 56, 2, 57, 49, 28, 3, 61, 58, 42, 50, 38, 29, 17, 4, 62, 47, 59, 36, 45, 43, 51, 22, 53, 39, 33, 30, 24, 18, 12, 5, 63, 55, 48, 27, 60, 41, 37, 16, 46, 35, 44, 21, 52, 32, 23, 11, 54, 26, 40, 15, 34, 20, 31, 10, 25, 14, 19, 9, 13, 8, 7, 6]
/-- The world holds the table. -/
def TabOk (w : World) : Prop := 2 ≤ w.heap.size ∧ ∀ i, i < 64 → w.cell? ⟨1, i, none⟩ = some (.int .u8 (deB.getD i 0))
/-- Where the table is looked into. -/
def tzAt (x : Int) : Int := IntKind.u64.wrap (bits BinOp.and IntKind.u64 x (IntKind.u64.wrap (-x)) * 285870213051353865) / 288230376151711744
def levF : Nat → Nat → Nat
  | 0, _ => 0
  | f + 1, x => if x % 2 = 1 then levF f (x / 2) + 1 else 0
def lev (x : Nat) : Nat := levF 11 x
def tzOk (x : Nat) : Bool := (bits BinOp.xor IntKind.u64 IntKind.u64.max (x : Int) != 0) && decide (0 ≤ tzAt (bits BinOp.xor IntKind.u64 IntKind.u64.max (x : Int))) && decide (tzAt (bits BinOp.xor IntKind.u64 IntKind.u64.max (x : Int)) < 64) && (deB.getD (tzAt (bits BinOp.xor IntKind.u64 IntKind.u64.max (x : Int))).toNat 0 == (lev x : Int))
set_option maxRecDepth 100000 in
theorem tzOk_all : (List.range 2047).all tzOk = true := by decide +kernel
set_option maxRecDepth 100000 in
set_option maxHeartbeats 1000000 in
theorem tz64 (x : Int) (j : Nat) (v : Int) (w : World) (hx : (x == 0) = false) (hE : tzAt x = (j : Int)) (hj : j < 64) (hc : w.cell? ⟨1, j, none⟩ = some (.int .u8 v)) (hv : IntKind.i64.wrap v = v) :
    Calls Tryd.prog 81 #[.int .u64 x] w fun e w' => e = .returned (.int .i64 v) ∧ Below w.heap.size w w' := by
  have h1 : (0 : Int) ≤ (j : Int) := by omega
  have h2 : (j : Int) < 64 := by omega
  unfold tzAt at hE
  go_enter Tryd.func81, Tryd.ntmps81
  go_wp2
  go_ret
  exact ⟨rfl, Below.refl _ _⟩
set_option maxRecDepth 100000 in
set_option maxHeartbeats 1000000 in
theorem tz (x : Int) (j : Nat) (v : Int) (w : World) (hx : (x == 0) = false) (hE : tzAt x = (j : Int)) (hj : j < 64) (hc : w.cell? ⟨1, j, none⟩ = some (.int .u8 v)) (hv : IntKind.i64.wrap v = v) :
    Calls Tryd.prog 70 #[.int .u64 x] w fun e w' => e = .returned (.int .i64 v) ∧ Below w.heap.size w w' := by
  have H := Lib.hid (tz64 x j v w hx hE hj hc hv)
  clear hx hE hj hc hv
  go_enter Tryd.func70, Tryd.ntmps70
  go_wp2_with fail
  refine H.out.mono ?_
  rintro e w1 ⟨rfl, hb⟩
  go_wp2
  go_ret
  exact ⟨rfl, hb⟩
theorem levF_le : ∀ f x, levF f x ≤ f
  | 0, _ => Nat.le_refl _
  | f + 1, x => by
    unfold levF
    split
    · have := levF_le f (x / 2); omega
    · omega
theorem lev_le (x : Nat) : lev x ≤ 11 := levF_le 11 x
set_option maxRecDepth 100000 in
set_option maxHeartbeats 1000000 in
theorem level_calls (x : Nat) (w : World) (h1 : x < 2047) (hT : TabOk w) :
    Calls Tryd.prog 59 #[.int .i64 (x : Int)] w fun e w' => e = .returned (.int .i64 (lev x : Int)) ∧ Below w.heap.size w w' := by
  have ho := List.all_eq_true.1 tzOk_all x (List.mem_range.2 h1)
  simp only [tzOk, Bool.and_eq_true, decide_eq_true_eq, bne_iff_ne, ne_eq, beq_iff_eq] at ho
  obtain ⟨⟨⟨o1, o2⟩, o3⟩, o4⟩ := ho
  obtain ⟨j, hj⟩ := Int.eq_ofNat_of_zero_le o2
  have hj64 : j < 64 := by omega
  have hl := lev_le x
  have H := Lib.hid (tz _ j (lev x : Int) w (beq_eq_false_iff_ne.mpr o1) hj hj64 (by rw [hT.2 j hj64, ← o4, hj]; rfl) (by rw [IntKind.wrap_i64]; omega))
  have d0 : decide ((x : Int) < 0) = false := by simp
  have d1 : decide (2047 ≤ (x : Int)) = false := by simp; omega
  have d2 : decide (2047 ≤ x) = false := by simp; omega
  clear o1 o2 o3 o4 hj hj64 hl hT
  go_enter Tryd.func59, Tryd.ntmps59
  go_wp2_with fail
  refine H.out.mono ?_
  rintro e w1 ⟨rfl, hb⟩
  go_wp2
  go_ret
  exact ⟨rfl, hb⟩
end Go.Proofs.YtdklmafkcbjomaaDoor

/-! ShaPad -/
namespace Go.Proofs.YtdklmafkcbjomaaDoor
open Go.RowKit Go.Proofs.YtdklmafkcbjomaaDoor.L Go.Proofs.YtdklmafkcbjomaaDoorW.PrintWords Go.Proofs.YtdklmafkcbjomaaDoorW.PrintLast Go.Proofs.YtdklmafkcbjomaaDoorW.PrintMore
def ofB (b : List Nat) : List Int := b.map fun (x : Nat) => (x : Int)
def toB (l : List Int) : List Nat := l.map Int.toNat
def byteOk (l : List Int) : Bool := l.all fun x => decide (0 ≤ x) && decide (x < 256)
theorem ofB_length (b : List Nat) : (ofB b).length = b.length := by simp [ofB]
theorem ofB_toB (l : List Int) (h : byteOk l = true) : ofB (toB l) = l := by
  unfold ofB toB
  rw [List.map_map]
  conv => rhs; rw [← List.map_id l]
  refine List.map_congr_left fun x hx => ?_
  unfold byteOk at h
  have := List.all_eq_true.1 h x hx
  simp only [Bool.and_eq_true, decide_eq_true_eq] at this
  simp
  omega
theorem ofB_append (a b : List Nat) : ofB (a ++ b) = ofB a ++ ofB b := by simp [ofB]
theorem padLen_eq (n : Nat) : wrap64 (1 + (Int.tmod (wrap64 (119 - (Int.tmod (n : Int) 64))) 64)) = (Sha.padLen n : Int) := by
  have h1 : Int.tmod (n : Int) 64 = ((n % 64 : Nat) : Int) := rfl
  have h2 : wrap64 (119 - ((n % 64 : Nat) : Int)) = ((119 - n % 64 : Nat) : Int) := by unfold wrap64; omega
  have h3 : Int.tmod ((119 - n % 64 : Nat) : Int) 64 = (((119 - n % 64) % 64 : Nat) : Int) := rfl
  rw [h1, h2, h3]
  unfold Sha.padLen wrap64
  omega
theorem shr_at (n : Nat) (hn : n ≤ 1125899906842624) (s : Nat) (hs : s ≤ 56) : (shr .i64 (wrap64 ((n : Int) * 8)) (s : Int)) % 256 = ((n * 8 / 2 ^ s % 256 : Nat) : Int) := by
  have h1 : wrap64 ((n : Int) * 8) = ((n * 8 : Nat) : Int) := by unfold wrap64; omega
  rw [h1]
  show ((n * 8 : Nat) : Int) / 2 ^ (min (s : Int).toNat 64) % 256 = _
  rw [show min (s : Int).toNat 64 = s by omega]
  simp
def beTail (m : Nat) : Nat → List Nat
  | 0 => []
  | j + 1 => m / 2 ^ (8 * j) % 256 :: beTail m j
theorem beTail_eight (m : Nat) : beTail m 8 = Sha.be m := by simp [beTail, Sha.be]
theorem pad_loop (n : Nat) (hn : n ≤ 1125899906842624) : ∀ (j : Nat) (y : List Int), j ≤ 8 → y.length ≤ 100 - j → sha_Pad.l0 (j + 1) n y (8 * (j : Int) - 8) = some (y ++ ofB (beTail (n * 8) j))
  | 0, y, _, _ => by
    rw [sha_Pad.l0]
    rw [if_neg (by omega)]
    simp [beTail, ofB]
  | j + 1, y, hj, hy => by
    rw [sha_Pad.l0]
    have e : 8 * ((j + 1 : Nat) : Int) - 8 = ((8 * j : Nat) : Int) := by omega
    rw [e, if_pos (by omega), if_pos (by omega), if_pos (by omega), shr_at n hn (8 * j) (by omega), show wrap64 (((8 * j : Nat) : Int) - 8) = 8 * (j : Int) - 8 by unfold wrap64; omega]
    have ih := pad_loop n hn j (y ++ [((n * 8 / 2 ^ (8 * j) % 256 : Nat) : Int)]) (by omega) (by simp; omega)
    rw [ih, List.append_assoc]
    rfl
theorem pad_head (n : Nat) : (List.replicate (Sha.padLen n) (0 : Int)).set 0 128 = ofB (128 :: List.replicate (Sha.padLen n - 1) 0) := by
  have := (Sha.padLen_le n).1
  obtain ⟨k, hk⟩ : ∃ k, Sha.padLen n = k + 1 := ⟨Sha.padLen n - 1, by omega⟩
  rw [hk]
  simp [ofB, List.replicate_succ]
theorem pad_eq (n : Nat) (hn : n ≤ 1125899906842624) : sha_Pad.f 10 n = some (ofB (Sha.pad n)) := by
  have hp := Sha.padLen_le n
  unfold sha_Pad.f
  rw [if_neg (by omega), decide_eq_false (by omega)]
  simp only [sha_Pad.j0]
  rw [if_neg (by simp), padLen_eq n, if_pos (by omega), if_pos (by omega)]
  simp only [Option.bind_some, Int.toNat_natCast, List.length_replicate]
  rw [if_pos (by omega), show (0 : Int).toNat = 0 from rfl, pad_head]
  have h := pad_loop n hn 8 (ofB (128 :: List.replicate (Sha.padLen n - 1) 0)) (by omega) (by rw [ofB_length]; simp; omega)
  rw [show (8 * ((8 : Nat) : Int) - 8) = 56 by omega] at h
  rw [h, beTail_eight, ← ofB_append]
  rfl
theorem pad_none (k : Nat) (n : Int) (hn : n < 0 ∨ 1125899906842624 < n) : sha_Pad.f (k + 1) n = some [] := by
  unfold sha_Pad.f
  rcases hn with h | h
  · rw [if_pos h]
    simp [sha_Pad.j0]
  · rw [if_neg (by omega), decide_eq_true (by omega)]
    simp [sha_Pad.j0]
end Go.Proofs.YtdklmafkcbjomaaDoor

/-! ShaSum -/
namespace Go.Proofs.YtdklmafkcbjomaaDoor
set_option linter.unusedVariables false
set_option linter.unusedSimpArgs false
open Go.RowKit Go.Proofs.YtdklmafkcbjomaaDoor.L Go.Proofs.YtdklmafkcbjomaaDoorW.PrintWords Go.Proofs.YtdklmafkcbjomaaDoorW.PrintLast Go.Proofs.YtdklmafkcbjomaaDoorW.PrintMore
attribute [local go_sem ↓] Go.wp_at_zero Go.wp_at_succ
theorem bytesAt_of_C {w : World} {A : Option Addr} {b : List Nat} (h : Kd.C (Kd.int .u8) w A (ofB b).length (ofB b)) : BytesAt w w.heap.size A b := by
  intro i hi
  obtain ⟨ad, rfl, hc⟩ := Kd.at_int h (i : Int) (by omega) (by rw [ofB_length]; omega)
  have hc' : w.cell? (ad.add i) = some (.int .u8 (b.getD i 0)) := by
    have e : rd (ofB b) (i : Int) = ((b.getD i 0 : Nat) : Int) := by simp [rd, ofB, hi]
    rw [← e]
    simpa using hc
  have hb := block_lt_of_cell hc'
  rw [block_of_add] at hb
  exact ⟨ad, rfl, hb, hc'⟩
theorem blkTo_len (b h : List Nat) (hh : h.length = 8) : ∀ k, (Sha.blkTo b h k).length = 8
  | 0 => hh
  | k + 1 => by rw [Sha.blkTo]; exact mixed_len _ _ (blkTo_len b h hh k)
theorem blkTo_ws (b h : List Nat) (hh : Ws h) : ∀ k, Ws (Sha.blkTo b h k)
  | 0 => hh
  | k + 1 => by rw [Sha.blkTo]; exact mixed_ws _ _ (blkTo_ws b h hh k)
theorem hTab_ws : Ws Sha.hTab := by
  intro i
  rcases Nat.lt_or_ge i 8 with h | h
  · exact (by decide +kernel : ∀ i, i < 8 → Sha.hTab.getD i 0 < 4294967296) i h
  · have hl : Sha.hTab.length = 8 := by decide
    rw [List.getD_eq_getElem?_getD, List.getElem?_eq_none (by omega)]
    decide
theorem hTab_len : Sha.hTab.length = 8 := by decide
theorem bs_of_ok (l : List Int) (h : byteOk l = true) : Bs (toB l) := by
  intro i
  unfold byteOk at h
  rw [List.all_eq_true] at h
  by_cases hi : i < l.length
  · have := h l[i] (List.getElem_mem hi)
    simp only [Bool.and_eq_true, decide_eq_true_eq] at this
    simp [toB, hi]
    omega
  · rw [List.getD_eq_getElem?_getD, List.getElem?_eq_none (by simp [toB]; omega)]
    decide
theorem Bs.cut {b : List Nat} (h : Bs b) (lo hi : Nat) : Bs ((b.take hi).drop lo) := by
  intro i
  have h2 := h (lo + i)
  rw [List.getD_eq_getElem?_getD] at h2 ⊢
  rw [List.getElem?_drop, List.getElem?_take]
  split
  · exact h2
  · decide
theorem Bs.drop_ {b : List Nat} (h : Bs b) (k : Nat) : Bs (b.drop k) := by
  intro i
  have h2 := h (k + i)
  rw [List.getD_eq_getElem?_getD] at h2 ⊢
  rwa [List.getElem?_drop]
theorem Bs.append_ {a b : List Nat} (h : Bs a) (hb : Bs b) : Bs (a ++ b) := by
  intro i
  have h1 := h i
  have h2 := hb (i - a.length)
  rw [List.getD_eq_getElem?_getD] at h1 h2 ⊢
  rw [List.getElem?_append]
  split
  · exact h1
  · exact h2
theorem bs_mem {b : List Nat} (h : ∀ x ∈ b, x < 256) : Bs b := by
  intro i
  by_cases hi : i < b.length
  · rw [List.getD_eq_getElem?_getD, List.getElem?_eq_getElem hi]
    exact h _ (List.getElem_mem hi)
  · rw [List.getD_eq_getElem?_getD, List.getElem?_eq_none (by omega)]
    decide
theorem pad_bs (n : Nat) : Bs (Sha.pad n) := by
  refine bs_mem fun x hx => ?_
  unfold Sha.pad Sha.be at hx
  simp only [List.mem_cons, List.mem_append, List.mem_replicate, List.not_mem_nil, or_false] at hx
  rcases hx with h | h | h | h | h | h | h | h | h | h <;> omega
theorem BytesAt.cut {w : World} {B : Nat} {A : Option Addr} {b : List Nat} (h : BytesAt w B A b) (lo hi : Nat) (hh : hi ≤ b.length) : BytesAt w B (A.map (·.add lo)) ((b.take hi).drop lo) := by
  intro i hi2
  rw [List.length_drop, List.length_take] at hi2
  obtain ⟨ad, rfl, h1, h2⟩ := h (lo + i) (by omega)
  refine ⟨ad.add lo, rfl, by rw [block_of_add]; exact h1, ?_⟩
  rw [add_of_add, h2]
  congr 2
  simp only [List.getD_eq_getElem?_getD, List.getElem?_drop, List.getElem?_take]
  rw [if_pos (by omega)]
theorem bcell2 {B : Nat} {W w1 : World} (hb : Below B W w1) : (∀ b o, b < B → w1.cell? ⟨b, o, none⟩ = W.cell? ⟨b, o, none⟩) ∧ (∀ b o, b < B → w1.frozen? ⟨b, o, none⟩ = W.frozen? ⟨b, o, none⟩) :=
  ⟨fun b o h => hb.cell (p := ⟨b, o, none⟩) h, fun b o h => hb.frozen (p := ⟨b, o, none⟩) h⟩
theorem Blk.setW {w : World} {g : Nat} {t : TypeId} {l : List Nat} (h : Blk w g t (wordsV l)) (i v : Nat) : Blk (w.setCell ⟨g, i, none⟩ (.int .u32 (v : Int))) g t (wordsV (l.set i v)) := by
  rw [← wordsV_set]
  exact h.set_ i _
theorem Blk.grown_ {w w' : World} {g : Nat} {t : TypeId} {cs : Array Value} {row : Option Nat} (h : Blk w g t cs) (hb : w.grownBy w' row) (hg : some g ≠ row) : Blk w' g t cs := (hb.block g h.lt hg).trans h
theorem own_ne {v : Value} {h s g : Nat} (hat : v.ownBlock = some h ∨ ∃ b, v.ownBlock = some b ∧ s ≤ b) (h1 : g < h) (h2 : h ≤ s) : some g ≠ v.ownBlock := by
  rcases hat with e | ⟨b, e, hb⟩
  · rw [e]; simp; omega
  · rw [e]; simp; omega
theorem index_w8 (l : List Nat) (t : Nat) (ht : t < 8) (hl : l.length = 8) (W : World) : (Instr.index 105 (.agg (wordsV l)) (.int .i64 (t : Int))).run Tryd.prog W = .ok (.int .u32 (l.getD t 0)) W := by
  have hv := wordsV_at l t (by omega)
  unfold Instr.index
  simp [go_sem, part, hv, Tryd.isAgg104, Tryd.sizeOf104, ht]
theorem flat_len (l : List Nat) : (l.flatMap Sha.out4).length = 4 * l.length := by
  induction l with
  | nil => rfl
  | cons x l ih => rw [List.flatMap_cons, List.length_append, ih]; simp [Sha.out4]; omega
theorem out4_ints (x : Nat) (h : x < 4294967296) : ofB (Sha.out4 x) = [(x : Int) / 16777216, (x : Int) / 65536 % 256, (x : Int) / 256 % 256, (x : Int) % 256] := by
  unfold ofB Sha.out4
  simp only [List.map_cons, List.map_nil, Nat.shiftRight_eq_div_pow]
  simp
  omega
theorem out4_snoc (l : List Nat) (t : Nat) (ht : t < l.length) (x : Nat) (hx : l.getD t 0 = x) (lx : x < 4294967296) :
    ofB ((l.take (t + 1)).flatMap Sha.out4) = ofB ((l.take t).flatMap Sha.out4) ++ [(x : Int) / 16777216, (x : Int) / 65536 % 256, (x : Int) / 256 % 256, (x : Int) % 256] := by
  rw [List.take_succ_eq_append_getElem ht, List.flatMap_append, ofB_append, ← out4_ints x lx]
  have : l[t] = x := by rw [← hx]; simp [ht]
  rw [this]
  simp
theorem c_lit (W : World) (e : Nat) (xs : List Int) (hm : xs.length ≤ 9223372036854775807) : Kd.C (Kd.int .u8) (W.alloc (.cells (nums .u8 xs).toArray e)) (some ⟨W.heap.size, 0, none⟩) xs.length xs := by
  obtain ⟨A, c, e1, _, hC⟩ := Kd.R_reads (Kd.R_of_own (enc := Value.int .u8) (h1 := fun _ => rfl) (own_lit W 0 e .u8 xs (Nat.zero_le _) hm) (fun _ _ => trivial) : Kd.R (Kd.int .u8) e _ 0 (fun _ => True) _ xs)
  injection e1 with e1
  subst e1
  exact hC
theorem eight {W : World} {g : Nat} {T : TypeId} {x0 x1 x2 x3 x4 x5 x6 x7 : Nat} (h : Blk W g T (wordsV [x0, x1, x2, x3, x4, x5, x6, x7])) (y0 y1 y2 y3 y4 y5 y6 y7 : Nat) :
    Blk ((((((((W.setCell ⟨g, 0, none⟩ (.int .u32 (y0 : Int))).setCell ⟨g, 1, none⟩ (.int .u32 (y1 : Int))).setCell ⟨g, 2, none⟩ (.int .u32 (y2 : Int))).setCell ⟨g, 3, none⟩ (.int .u32 (y3 : Int))).setCell ⟨g, 4, none⟩ (.int .u32 (y4 : Int))).setCell ⟨g, 5, none⟩ (.int .u32 (y5 : Int))).setCell ⟨g, 6, none⟩ (.int .u32 (y6 : Int))).setCell ⟨g, 7, none⟩ (.int .u32 (y7 : Int))) g T (wordsV [y0, y1, y2, y3, y4, y5, y6, y7]) ∧
    (∀ g' T' cs, g' ≠ g → Blk W g' T' cs → Blk ((((((((W.setCell ⟨g, 0, none⟩ (.int .u32 (y0 : Int))).setCell ⟨g, 1, none⟩ (.int .u32 (y1 : Int))).setCell ⟨g, 2, none⟩ (.int .u32 (y2 : Int))).setCell ⟨g, 3, none⟩ (.int .u32 (y3 : Int))).setCell ⟨g, 4, none⟩ (.int .u32 (y4 : Int))).setCell ⟨g, 5, none⟩ (.int .u32 (y5 : Int))).setCell ⟨g, 6, none⟩ (.int .u32 (y6 : Int))).setCell ⟨g, 7, none⟩ (.int .u32 (y7 : Int))) g' T' cs) ∧
    (∀ B w0, B ≤ g → Below B w0 W → Below B w0 ((((((((W.setCell ⟨g, 0, none⟩ (.int .u32 (y0 : Int))).setCell ⟨g, 1, none⟩ (.int .u32 (y1 : Int))).setCell ⟨g, 2, none⟩ (.int .u32 (y2 : Int))).setCell ⟨g, 3, none⟩ (.int .u32 (y3 : Int))).setCell ⟨g, 4, none⟩ (.int .u32 (y4 : Int))).setCell ⟨g, 5, none⟩ (.int .u32 (y5 : Int))).setCell ⟨g, 6, none⟩ (.int .u32 (y6 : Int))).setCell ⟨g, 7, none⟩ (.int .u32 (y7 : Int)))) :=
  ⟨((((((((h.setW 0 y0).setW 1 y1).setW 2 y2).setW 3 y3).setW 4 y4).setW 5 y5).setW 6 y6).setW 7 y7), fun g' T' cs hne hk => ((((((((hk.far (p := ⟨g, 0, none⟩) hne (.int .u32 (y0 : Int))).far (p := ⟨g, 1, none⟩) hne (.int .u32 (y1 : Int))).far (p := ⟨g, 2, none⟩) hne (.int .u32 (y2 : Int))).far (p := ⟨g, 3, none⟩) hne (.int .u32 (y3 : Int))).far (p := ⟨g, 4, none⟩) hne (.int .u32 (y4 : Int))).far (p := ⟨g, 5, none⟩) hne (.int .u32 (y5 : Int))).far (p := ⟨g, 6, none⟩) hne (.int .u32 (y6 : Int))).far (p := ⟨g, 7, none⟩) hne (.int .u32 (y7 : Int))), fun B w0 hB hb => ((((((((hb.setCell (p := ⟨g, 0, none⟩) hB (.int .u32 (y0 : Int))).setCell (p := ⟨g, 1, none⟩) hB (.int .u32 (y1 : Int))).setCell (p := ⟨g, 2, none⟩) hB (.int .u32 (y2 : Int))).setCell (p := ⟨g, 3, none⟩) hB (.int .u32 (y3 : Int))).setCell (p := ⟨g, 4, none⟩) hB (.int .u32 (y4 : Int))).setCell (p := ⟨g, 5, none⟩) hB (.int .u32 (y5 : Int))).setCell (p := ⟨g, 6, none⟩) hB (.int .u32 (y6 : Int))).setCell (p := ⟨g, 7, none⟩) hB (.int .u32 (y7 : Int)))⟩
theorem eightR {W : World} {g e : Nat} {T : TypeId} {base : Nat} {l : List Nat} {v : Value} {xs : List Int} (hT : e ≠ T) (hb : Blk W g T (wordsV l)) (h : Kd.R (Kd.int .u8) e W base (fun _ => True) v xs) (y0 y1 y2 y3 y4 y5 y6 y7 : Nat) :
    Kd.R (Kd.int .u8) e ((((((((W.setCell ⟨g, 0, none⟩ (.int .u32 (y0 : Int))).setCell ⟨g, 1, none⟩ (.int .u32 (y1 : Int))).setCell ⟨g, 2, none⟩ (.int .u32 (y2 : Int))).setCell ⟨g, 3, none⟩ (.int .u32 (y3 : Int))).setCell ⟨g, 4, none⟩ (.int .u32 (y4 : Int))).setCell ⟨g, 5, none⟩ (.int .u32 (y5 : Int))).setCell ⟨g, 6, none⟩ (.int .u32 (y6 : Int))).setCell ⟨g, 7, none⟩ (.int .u32 (y7 : Int))) base (fun _ => True) v xs :=
  (Kd.R_set (Kd.R_set (Kd.R_set (Kd.R_set (Kd.R_set (Kd.R_set (Kd.R_set (Kd.R_set h hb (by intro q hq; simp [Kd.int, Kd.scalar] at hq; subst hq; exact hT) 0 (.int .u32 (y0 : Int))) (Blk.setW hb 0 y0) (by intro q hq; simp [Kd.int, Kd.scalar] at hq; subst hq; exact hT) 1 (.int .u32 (y1 : Int))) (Blk.setW (Blk.setW hb 0 y0) 1 y1) (by intro q hq; simp [Kd.int, Kd.scalar] at hq; subst hq; exact hT) 2 (.int .u32 (y2 : Int))) (Blk.setW (Blk.setW (Blk.setW hb 0 y0) 1 y1) 2 y2) (by intro q hq; simp [Kd.int, Kd.scalar] at hq; subst hq; exact hT) 3 (.int .u32 (y3 : Int))) (Blk.setW (Blk.setW (Blk.setW (Blk.setW hb 0 y0) 1 y1) 2 y2) 3 y3) (by intro q hq; simp [Kd.int, Kd.scalar] at hq; subst hq; exact hT) 4 (.int .u32 (y4 : Int))) (Blk.setW (Blk.setW (Blk.setW (Blk.setW (Blk.setW hb 0 y0) 1 y1) 2 y2) 3 y3) 4 y4) (by intro q hq; simp [Kd.int, Kd.scalar] at hq; subst hq; exact hT) 5 (.int .u32 (y5 : Int))) (Blk.setW (Blk.setW (Blk.setW (Blk.setW (Blk.setW (Blk.setW hb 0 y0) 1 y1) 2 y2) 3 y3) 4 y4) 5 y5) (by intro q hq; simp [Kd.int, Kd.scalar] at hq; subst hq; exact hT) 6 (.int .u32 (y6 : Int))) (Blk.setW (Blk.setW (Blk.setW (Blk.setW (Blk.setW (Blk.setW (Blk.setW hb 0 y0) 1 y1) 2 y2) 3 y3) 4 y4) 5 y5) 6 y6) (by intro q hq; simp [Kd.int, Kd.scalar] at hq; subst hq; exact hT) 7 (.int .u32 (y7 : Int)))
namespace P
def sha_Sum.f (l : List Int) : Option (List Int) := if byteOk l = true ∧ l.length ≤ 140737488351232 then some (ofB (Sha.sum (toB l))) else none
set_option maxRecDepth 100000 in
set_option maxHeartbeats 4000000 in
theorem sha_Sum.calls (A0 : Option Addr) (c0 : Nat) (l0 : List Int) (r : List Int) (w : World) (hr0 : Kd.C (Kd.int .u8) w A0 l0.length l0) (hc0 : l0.length ≤ c0) (h : sha_Sum.f l0 = some r) :
    Calls Tryd.prog 87 #[.slice A0 l0.length c0] w fun e w' => ∃ v0_ : Value, e = .returned (v0_) ∧ Kd.R (Kd.int .u8) 5 w' w.heap.size (fun _ => True) v0_ r ∧ Below w.heap.size w w' := by
  unfold sha_Sum.f at h
  split at h
  case isFalse => cases h
  case isTrue hok =>
  obtain ⟨hby, hlen⟩ := hok
  injection h with h
  obtain ⟨b, hb⟩ : ∃ b, toB l0 = b := ⟨_, rfl⟩
  have hl0 : l0 = ofB b := by rw [← hb]; exact (ofB_toB l0 hby).symm
  have hBs : Bs b := by rw [← hb]; exact bs_of_ok l0 hby
  rw [hb] at h
  subst h
  clear hb hby
  subst hl0
  rw [ofB_length] at hlen hc0
  have hA : BytesAt w w.heap.size A0 b := bytesAt_of_C hr0
  have HC := Lib.hid hr0
  clear hr0
  rw [ofB_length]
  obtain ⟨m, hm⟩ : ∃ m, b.length / 64 = m := ⟨_, rfl⟩
  obtain ⟨n, hn⟩ : ∃ n, b.length = n := ⟨_, rfl⟩
  have hmn : 64 * m ≤ n ∧ n < 64 * m + 64 := by omega
  have em : (n : Int) / 64 = (m : Int) := by omega
  rw [hn] at hlen hc0 ⊢
  have Hn := Lib.hid hn
  have Hm := Lib.hid hm
  clear hn hm
  obtain ⟨hm1, hm2⟩ := hmn
  go_enter Tryd.func87, Tryd.ntmps87
  go_wp2_with fail
  refine (keys_calls _).mono ?_
  rintro e W1 ⟨rfl, hb1⟩
  go_wp2_with (first
    | (refine wpList_store_row rfl 118 (.tmp 3) (.tmp 12) rfl W1.heap.size _ rfl rfl 118 _ (heap_alloc_new _ _) (by rw [wordsV_size, kTab_len]; exact infokeys) (by rw [wordsV_size, kTab_len]; rfl) (by simp [wordsV, Value.oneCell']) ?_))
  rw [zero64 []]
  have bk := (Blk.new W1 118 (wordsV (Sha.wordsTo [] 0))).setRow_ (wordsV Sha.kTab)
  have hb2 := (hb1.alloc hb1.size (.cells (wordsV (Sha.wordsTo [] 0)) 118)).trans (Iter.below_setRow (B := w.heap.size) (g := W1.heap.size) (wordsV Sha.kTab) hb1.size)
  have hgk := bk.lt
  have hkw := hb1.size
  generalize (W1.alloc (.cells (wordsV (Sha.wordsTo [] 0)) 118)).setRow W1.heap.size (wordsV Sha.kTab) = W2 at bk hb2 hgk ⊢
  generalize W1.heap.size = gk at *
  clear hb1
  refine (Start_calls _).mono ?_
  rintro e W3 ⟨rfl, hb3⟩
  have bk3 := bk.below hb3 hgk
  have hb4 := hb2.trans (hb3.mono hb2.size)
  have hz3 := hb3.size
  go_wp2_with (first
    | (refine wpList_store_row rfl 105 (.tmp 4) (.tmp 13) rfl W3.heap.size _ rfl rfl 105 _ (heap_alloc_new _ _) (by rw [wordsV_size, hTab_len]; exact infoStart) (by rw [wordsV_size, hTab_len]; rfl) (by simp [wordsV, Value.oneCell']) ?_))
  rw [zero8]
  have bh := (Blk.new W3 105 (wordsV z8)).setRow_ (wordsV Sha.hTab)
  have bk4 := (bk3.alloc (.cells (wordsV z8) 105)).farRow (g' := W3.heap.size) (by omega) (wordsV Sha.hTab)
  have hb5 := (hb4.alloc hb4.size (.cells (wordsV z8) 105)).trans (Iter.below_setRow (B := w.heap.size) (g := W3.heap.size) (wordsV Sha.hTab) hb4.size)
  have hgh : gk < W3.heap.size := by omega
  generalize (W3.alloc (.cells (wordsV z8) 105)).setRow W3.heap.size (wordsV Sha.hTab) = W4 at bk4 bh hb5 ⊢
  generalize W3.heap.size = gh at *
  clear bk3 bk hb4 hb3 hz3 hgk hb2
  go_wp2_with fail
  go_loopw [6] (fun i wr => ∃ k : Nat, k ≤ m ∧ i = .int .i64 ((64 * k : Nat) : Int) ∧ Blk wr gh 105 (wordsV (Sha.blkTo b Sha.hTab k)) ∧ Blk wr gk 118 (wordsV Sha.kTab) ∧ Below w.heap.size w wr) (fun i _ => 64 * m - (intOf i).toNat)
  case atStart => exact ⟨0, by omega, rfl, bh, bk4, hb5⟩
  case round =>
    clear bh bk4 hb5
    obtain ⟨k, hk, rfl, bh, bk, hbl⟩ := hrel
    have hhl := blkTo_len b Sha.hTab hTab_len k
    have hhw := blkTo_ws b Sha.hTab hTab_ws k
    by_cases hkm : k < m
    · have hlt : decide (((64 * k : Nat) : Int) < (m : Int) * 64) = true := by simp; omega
      have hcap : ¬ c0 = 64 * k := by omega
      have hA1 : BytesAt wr wr.heap.size (A0.map (·.add (64 * k))) ((b.take (64 * k + 64)).drop (64 * k)) := ((hA.cut (64 * k) (64 * k + 64) (by rw [Hn.out]; omega)).below hbl).more hbl.size
      have hl1 : ((b.take (64 * k + 64)).drop (64 * k)).length = 64 := by rw [List.length_drop, List.length_take, Hn.out]; omega
      have hbs1 : Bs ((b.take (64 * k + 64)).drop (64 * k)) := hBs.cut _ _
      have hnx : Hid (Sha.blkTo b Sha.hTab (k + 1) = Sha.mixed (Sha.blkTo b Sha.hTab k) ((b.take (64 * k + 64)).drop (64 * k))) := Lib.hid rfl
      generalize (b.take (64 * k + 64)).drop (64 * k) = bb at *
      generalize Sha.blkTo b Sha.hTab k = hh at *
      have i0 : (0 : Int) ≤ ((64 * k : Nat) : Int) := by omega
      have i1 : ((64 * k : Nat) : Int) + 64 ≤ (n : Int) := by omega
      have i2 : (n : Int) ≤ (c0 : Int) := by omega
      have ew : IntKind.i64.wrap (((64 * k : Nat) : Int) + 64) = ((64 * k + 64 : Nat) : Int) := by rw [IntKind.wrap_i64]; omega
      obtain ⟨q, hq⟩ : ∃ q, 64 * k = q := ⟨_, rfl⟩
      rw [hq] at hlt hcap hA1 i0 i1 ew ⊢
      have e4 : q + 64 - q = 64 := by omega
      have s1 : (0 : Int) ≤ (q : Int) + 64 := by omega
      have s2 : (q : Int) + 64 ≤ (c0 : Int) := by omega
      have s3 : ((q : Int) + 64).toNat = q + 64 := by omega
      have Hq := Lib.hid hq
      clear hq em
      obtain ⟨x0, x1, x2, x3, x4, x5, x6, x7, rfl⟩ : ∃ x0 x1 x2 x3 x4 x5 x6 x7, hh = [x0, x1, x2, x3, x4, x5, x6, x7] := by
        match hh, hhl with
        | [x0, x1, x2, x3, x4, x5, x6, x7], _ => exact ⟨x0, x1, x2, x3, x4, x5, x6, x7, rfl⟩
      have g0 : wr.cell? ⟨gh, 0, none⟩ = some (.int .u32 x0) := bh.cell 0
      have g1 : wr.cell? ⟨gh, 1, none⟩ = some (.int .u32 x1) := bh.cell 1
      have g2 : wr.cell? ⟨gh, 2, none⟩ = some (.int .u32 x2) := bh.cell 2
      have g3 : wr.cell? ⟨gh, 3, none⟩ = some (.int .u32 x3) := bh.cell 3
      have g4 : wr.cell? ⟨gh, 4, none⟩ = some (.int .u32 x4) := bh.cell 4
      have g5 : wr.cell? ⟨gh, 5, none⟩ = some (.int .u32 x5) := bh.cell 5
      have g6 : wr.cell? ⟨gh, 6, none⟩ = some (.int .u32 x6) := bh.cell 6
      have g7 : wr.cell? ⟨gh, 7, none⟩ = some (.int .u32 x7) := bh.cell 7
      have hgl := bh.lt
      have hgk := bk.lt
      go_wp2_with fail
      have hml := mixed_len [x0, x1, x2, x3, x4, x5, x6, x7] bb rfl
      obtain ⟨y0, y1, y2, y3, y4, y5, y6, y7, hy⟩ : ∃ y0 y1 y2 y3 y4 y5 y6 y7, Sha.mixed [x0, x1, x2, x3, x4, x5, x6, x7] bb = [y0, y1, y2, y3, y4, y5, y6, y7] := by
        match Sha.mixed [x0, x1, x2, x3, x4, x5, x6, x7] bb, hml with
        | [y0, y1, y2, y3, y4, y5, y6, y7], _ => exact ⟨y0, y1, y2, y3, y4, y5, y6, y7, rfl⟩
      clear hml
      have hmix : Calls Tryd.prog 91 #[.agg #[Value.int .u32 (x0 : Int), Value.int .u32 (x1 : Int), Value.int .u32 (x2 : Int), Value.int .u32 (x3 : Int), Value.int .u32 (x4 : Int), Value.int .u32 (x5 : Int), Value.int .u32 (x6 : Int), Value.int .u32 (x7 : Int)], .slice (Option.map (fun x => x.add q) A0) 64 (c0 - q), .pointer (some ⟨gk, 0, none⟩)] wr.drew fun e w' => e = .returned (.agg #[Value.int .u32 (y0 : Int), Value.int .u32 (y1 : Int), Value.int .u32 (y2 : Int), Value.int .u32 (y3 : Int), Value.int .u32 (y4 : Int), Value.int .u32 (y5 : Int), Value.int .u32 (y6 : Int), Value.int .u32 (y7 : Int)]) ∧ Below wr.heap.size wr.drew w' := by
        have h1 := mixed_calls [x0, x1, x2, x3, x4, x5, x6, x7] bb (Option.map (fun x => x.add q) A0) (c0 - q) gk wr.drew hhw rfl hbs1 hl1 (by omega) (by exact hA1) (by exact bk)
        rw [hy] at h1
        exact h1
      have Hmix := Lib.hid hmix
      have Hy := Lib.hid hy
      clear hmix hy
      have f0 := bh.frozen 0
      have f1 := bh.frozen 1
      have f2 := bh.frozen 2
      have f3 := bh.frozen 3
      have f4 := bh.frozen 4
      have f5 := bh.frozen 5
      have f6 := bh.frozen 6
      have f7 := bh.frozen 7
      go_region_with (go_at_call 91; refine Hmix.out.mono ?_; rintro e W5 ⟨rfl, hbW⟩; obtain ⟨hcW, hfW⟩ := bcell2 hbW)
      have b5 : Blk W5 gh _ _ := Blk.below (w := wr.drew) bh hbW hgl
      have k5 : Blk W5 gk _ _ := Blk.below (w := wr.drew) bk hbW hgk
      have q5 := hbl.drew.trans (hbW.mono hbl.size)
      obtain ⟨e5, e6, e7⟩ := eight b5 y0 y1 y2 y3 y4 y5 y6 y7
      replace e6 := e6 gk _ _ (by omega) k5
      replace e7 := e7 _ _ (by omega) q5
      rw [← Hy.out, ← hnx.out] at e5
      have HF := Lib.hid (And.intro e5 (And.intro e6 e7))
      clear e5 e6 e7 b5 k5 q5 hcW hfW bh bk hbl
      go_wp2
      exact ⟨⟨k + 1, by omega, by have := Hq.out; rw [show ((64 * (k + 1) : Nat) : Int) = (q : Int) + 64 by omega], HF.out⟩, by have := Hq.out; simp [intOf]; omega⟩
    · obtain rfl : k = m := by omega
      have hlt : decide (((64 * k : Nat) : Int) < (k : Int) * 64) = false := by simp; omega
      have hA2 := hA
      have hdrop : Kd.C (Kd.int .u8) wr (if c0 = k * 64 then A0 else Option.map (fun x => x.add (k * 64)) A0) (n - k * 64) (ofB (b.drop (64 * k))) := by
        have h1 := Kd.C_drop (m := k * 64) (c := c0) (Kd.C_below HC.out hbl) (by rw [ofB_length, Hn.out]; omega) (by rw [ofB_length, Hn.out]; exact hc0)
        have e1 : (ofB b).drop (k * 64) = ofB (b.drop (64 * k)) := by simp [ofB, Nat.mul_comm]
        rw [e1, ofB_length, List.length_drop, Hn.out] at h1
        have e2 : 64 * k = k * 64 := Nat.mul_comm _ _
        have e3 : (Kd.int .u8).sz = 1 := rfl
        rw [e3, Nat.mul_one] at h1
        rw [e2] at h1 ⊢
        exact h1
      have hpadl := Sha.pad_length n
      have hpadq := Sha.padLen_le n
      have Hb0 := hbl.alloc hbl.size (Obj.cells #[] 5)
      obtain ⟨q, hq⟩ : ∃ q, 64 * k = q := ⟨_, rfl⟩
      have h63 : decide ((q : Int) < (k : Int) * 64) = false := by simp; omega
      rw [show ((64 * k : Nat) : Int) = (q : Int) by rw [hq]]
      have Hq := Lib.hid hq
      clear hq hlt em
      have hdrop := Lib.hid hdrop
      have HB := Lib.hid (And.intro bh (And.intro bk hbl))
      have hgl := bh.lt
      have hgkl := bk.lt
      clear bh bk
      go_upto_region 8 with (fail)
      go_cut [7] (fun v7 wc => Aside0 (Kd.R (Kd.int .u8) 5 wc w.heap.size (fun _ => True) v7 (ofB (b.drop (64 * k) ++ Sha.pad n))) ∧ Blk wc gh 105 (wordsV (Sha.blkTo b Sha.hTab k)) ∧ Blk wc gk 118 (wordsV Sha.kTab) ∧ Below w.heap.size w wc)
      case first =>
        go_wp2_with (first
          | ((with_reducible refine gate_builtin (b := .append) (xs := #[.tmp 30, .tmp 33]) rfl ?_); at_builtin; refine Kd.R_append_rows (Kd.int .u8) (w0 := w) w.heap.size rfl (.tmp 30) (.tmp 33) 22 5 (.int .u8 0) 1 rfl Tryd.underlying22 info5 rfl (by decide) (by omega) (.slice (some ⟨wr.heap.size, 0, none⟩) 0 0) [] (ofB (b.drop (64 * k))) _ _ _ (fun _ => True) (fun _ => False) rfl rfl ?aO ?aR (fun _ _ h => h) (fun _ h => h.elim) ?aF ?aB ?aS ?aL ?_; (case aR => exact Kd.C_alloc hdrop.out _); (case aB => exact Hb0); (case aF => exact (fun _ _ => trivial)); (case aO => exact Kd.R_of_own (own_lit wr w.heap.size 5 .u8 [] hbl.size (by simp)) (fun _ _ => trivial)); (case aS => exact Hb0.size); (case aL => simp; omega); intro v1 W5 ho1 hb1 hg1 hat1))
        all_goals
          refine (sha_Pad.calls 10 (n : Int) _ _ (pad_eq n (by omega))).mono ?_
          rintro e W6 ⟨v2, rfl, ho2, hb2⟩
          obtain ⟨A4, c4, rfl, hl4, hC4⟩ := Kd.R_reads ho2
          have ho3 := Lib.hid (Kd.R_below ho1 hb2)
          have hb3 := hb1.trans (hb2.mono hb1.size)
          obtain ⟨bh0, bk0, hbl0⟩ := HB.out
          have hs5 := hg1.size
          rw [World.size_alloc] at hs5
          have bh5 := ((bh0.alloc (Obj.cells #[] 5)).grown_ hg1 (by simp [Value.ownBlock]; omega)).below hb2 (by omega)
          have bk5 := ((bk0.alloc (Obj.cells #[] 5)).grown_ hg1 (by simp [Value.ownBlock]; omega)).below hb2 (by omega)
          have nh := own_ne (g := gh) (h := wr.heap.size) hat1 (by omega) (by simp)
          have nk := own_ne (g := gk) (h := wr.heap.size) hat1 (by omega) (by simp)
          have HB5 := Lib.hid (And.intro bh5 (And.intro bk5 (And.intro nh nk)))
          have Hb3 := Lib.hid hb3
          have HC4 := Lib.hid hC4
          have hl34 := Hn.out
          rw [ofB_length, Sha.pad_length] at hl4
          clear bh5 bk5 nh nk bh0 bk0 hbl0 hg1 hat1 ho1 hb1 ho2 hb2 hb3 hC4
          rw [ofB_length, Sha.pad_length]
          go_wp2_with (first
            | ((with_reducible refine gate_builtin (b := .append) (xs := #[.tmp 34, .tmp 37]) rfl ?_); at_builtin; refine Kd.R_append_rows (Kd.int .u8) (w0 := w) w.heap.size rfl (.tmp 34) (.tmp 37) 22 5 (.int .u8 0) 1 rfl Tryd.underlying22 info5 rfl (by decide) (by omega) v1 ([] ++ ofB (b.drop (64 * k))) (ofB (Sha.pad n)) A4 (Sha.padLen n + 8) c4 (fun _ => True) (fun _ => False) rfl rfl ?aO ?aR (fun _ _ h => h) (fun _ h => h.elim) ?aF ?aB ?aS ?aL ?_; (case aR => (have := HC4.out; rw [ofB_length, Sha.pad_length] at this; exact this)); (case aB => exact Hb3.out); (case aF => exact (fun _ _ => trivial)); (case aO => exact ho3.out); (case aS => exact Hb3.out.size); (case aL => simp [ofB_length]; omega); intro v3 W7 ho4 hb4 hg4 hat4))
          all_goals
            have hfin : Aside0 (Kd.R (Kd.int .u8) 5 W7 w.heap.size (fun _ => True) v3 (ofB (b.drop (64 * k) ++ Sha.pad n))) := ⟨by rw [ofB_append]; exact ho4⟩
            obtain ⟨bh5, bk5, nh, nk⟩ := HB5.out
            have HF := Lib.hid (And.intro hfin (And.intro (bh5.grown_ hg4 nh) (And.intro (bk5.grown_ hg4 nk) hb4)))
            clear hfin bh5 bk5 nh nk ho4 hg4 hat4 hb4
            go_wp2
            first
              | (go_meet; case rel => exact HF.out)
              | (have hcc : c0 = k * 64 := by assumption
                 subst hcc
                 go_meet
                 case rel => exact HF.out)
      case rest =>
        clear hdrop HB h63 hA2 hpadq hpadl hgl hgkl
        obtain ⟨hR, bh, bk, hbl⟩ := hcut
        obtain ⟨A5, c5, rfl, hl5, hC5⟩ := Kd.R_reads hR.out
        obtain ⟨y, hy⟩ : ∃ y, b.drop (64 * k) ++ Sha.pad n = y := ⟨_, rfl⟩
        rw [hy] at hC5 hl5 hR ⊢
        have hB5 : BytesAt wc wc.heap.size A5 y := bytesAt_of_C hC5
        rw [ofB_length] at hl5 ⊢
        have hyl : y.length = n - 64 * k + (Sha.padLen n + 8) := by rw [← hy, List.length_append, List.length_drop, Hn.out, Sha.pad_length]
        have hyq := Sha.padLen_le n
        obtain ⟨m2, hm2⟩ : ∃ m2, y.length = 64 * m2 := ⟨y.length / 64, by omega⟩
        have Hy := Lib.hid hy
        have Hm2 := Lib.hid hm2
        have hms : 64 * m2 ≤ c5 := by omega
        have hm2s : 64 * m2 ≤ 140737488360000 := by omega
        have hBy : Bs y := by rw [← hy]; exact (hBs.drop_ _).append_ (pad_bs n)
        rw [hm2]
        clear hy hm2 hyl hyq hl5 hC5 hB5
        obtain ⟨h0, hh0⟩ : ∃ h0, Sha.blkTo b Sha.hTab k = h0 := ⟨_, rfl⟩
        have hl0 : h0.length = 8 := by rw [← hh0]; exact blkTo_len b Sha.hTab hTab_len k
        have hw0 : Ws h0 := by rw [← hh0]; exact blkTo_ws b Sha.hTab hTab_ws k
        rw [hh0] at bh
        have Hh0 := Lib.hid hh0
        clear hh0 hhl hhw
        rw [ofB_length, Hm2.out] at hR
        go_wp2_with fail
        go_loopw [8] (fun i wr => ∃ j : Nat, j ≤ m2 ∧ i = .int .i64 ((64 * j : Nat) : Int) ∧ Blk wr gh 105 (wordsV (Sha.blkTo y h0 j)) ∧ Blk wr gk 118 (wordsV Sha.kTab) ∧ Aside0 (Kd.R (Kd.int .u8) 5 wr w.heap.size (fun _ => True) (.slice A5 (64 * m2) c5) (ofB y)) ∧ Below w.heap.size w wr) (fun i _ => 64 * m2 - (intOf i).toNat)
        case atStart => exact ⟨0, by omega, rfl, bh, bk, hR, hbl⟩
        case round =>
          clear bh bk hbl hR
          obtain ⟨j, hj, rfl, bh, bk, hR, hbl⟩ := hrel
          have hhl := blkTo_len y h0 hl0 j
          have hhw := blkTo_ws y h0 hw0 j
          by_cases hkm : j < m2
          · have hlt : decide (64 * j < 64 * m2) = true := by simp; omega
            have hcap : ¬ c5 = 64 * j := by omega
            have hBy5 : BytesAt wr wr.heap.size A5 y := by
              obtain ⟨A6, c6, e6, _, hC6⟩ := Kd.R_reads hR.out
              injection e6 with e6 e7 e8
              subst e6
              exact bytesAt_of_C hC6
            have hA1 : BytesAt wr wr.heap.size (A5.map (·.add (64 * j))) ((y.take (64 * j + 64)).drop (64 * j)) := hBy5.cut (64 * j) (64 * j + 64) (by rw [Hm2.out]; omega)
            have hl1 : ((y.take (64 * j + 64)).drop (64 * j)).length = 64 := by rw [List.length_drop, List.length_take, Hm2.out]; omega
            have hbs1 : Bs ((y.take (64 * j + 64)).drop (64 * j)) := hBy.cut _ _
            have hnx : Hid (Sha.blkTo y h0 (j + 1) = Sha.mixed (Sha.blkTo y h0 j) ((y.take (64 * j + 64)).drop (64 * j))) := Lib.hid rfl
            clear hBy5
            generalize (y.take (64 * j + 64)).drop (64 * j) = bb at *
            generalize Sha.blkTo y h0 j = hh at *
            obtain ⟨M, hM⟩ : ∃ M, 64 * m2 = M := ⟨_, rfl⟩
            obtain ⟨q2, hq2⟩ : ∃ q2, 64 * j = q2 := ⟨_, rfl⟩
            have i0 : (0 : Int) ≤ (q2 : Int) := by omega
            have ew : IntKind.i64.wrap ((q2 : Int) + 64) = (q2 : Int) + 64 := by rw [IntKind.wrap_i64]; omega
            have s1 : (0 : Int) ≤ (q2 : Int) + 64 := by omega
            have s2 : (q2 : Int) + 64 ≤ (c5 : Int) := by omega
            have s3 : ((q2 : Int) + 64).toNat = q2 + 64 := by omega
            have e4 : q2 + 64 - q2 = 64 := by omega
            rw [hq2] at hlt hcap hA1 ⊢
            rw [hM] at hlt hR hms ⊢
            have Hq2 := Lib.hid (And.intro hq2 hM)
            clear hq2 hM
            obtain ⟨x0, x1, x2, x3, x4, x5, x6, x7, rfl⟩ : ∃ x0 x1 x2 x3 x4 x5 x6 x7, hh = [x0, x1, x2, x3, x4, x5, x6, x7] := by
              match hh, hhl with
              | [x0, x1, x2, x3, x4, x5, x6, x7], _ => exact ⟨x0, x1, x2, x3, x4, x5, x6, x7, rfl⟩
            have g0 : wr.cell? ⟨gh, 0, none⟩ = some (.int .u32 x0) := bh.cell 0
            have g1 : wr.cell? ⟨gh, 1, none⟩ = some (.int .u32 x1) := bh.cell 1
            have g2 : wr.cell? ⟨gh, 2, none⟩ = some (.int .u32 x2) := bh.cell 2
            have g3 : wr.cell? ⟨gh, 3, none⟩ = some (.int .u32 x3) := bh.cell 3
            have g4 : wr.cell? ⟨gh, 4, none⟩ = some (.int .u32 x4) := bh.cell 4
            have g5 : wr.cell? ⟨gh, 5, none⟩ = some (.int .u32 x5) := bh.cell 5
            have g6 : wr.cell? ⟨gh, 6, none⟩ = some (.int .u32 x6) := bh.cell 6
            have g7 : wr.cell? ⟨gh, 7, none⟩ = some (.int .u32 x7) := bh.cell 7
            have hgl := bh.lt
            have hgk := bk.lt
            have hml := mixed_len [x0, x1, x2, x3, x4, x5, x6, x7] bb rfl
            obtain ⟨y0, y1, y2, y3, y4, y5, y6, y7, hy⟩ : ∃ y0 y1 y2 y3 y4 y5 y6 y7, Sha.mixed [x0, x1, x2, x3, x4, x5, x6, x7] bb = [y0, y1, y2, y3, y4, y5, y6, y7] := by
              match Sha.mixed [x0, x1, x2, x3, x4, x5, x6, x7] bb, hml with
              | [y0, y1, y2, y3, y4, y5, y6, y7], _ => exact ⟨y0, y1, y2, y3, y4, y5, y6, y7, rfl⟩
            clear hml
            have hmix : Calls Tryd.prog 91 #[.agg #[Value.int .u32 (x0 : Int), Value.int .u32 (x1 : Int), Value.int .u32 (x2 : Int), Value.int .u32 (x3 : Int), Value.int .u32 (x4 : Int), Value.int .u32 (x5 : Int), Value.int .u32 (x6 : Int), Value.int .u32 (x7 : Int)], .slice (Option.map (fun x => x.add q2) A5) 64 (c5 - q2), .pointer (some ⟨gk, 0, none⟩)] wr.drew fun e w' => e = .returned (.agg #[Value.int .u32 (y0 : Int), Value.int .u32 (y1 : Int), Value.int .u32 (y2 : Int), Value.int .u32 (y3 : Int), Value.int .u32 (y4 : Int), Value.int .u32 (y5 : Int), Value.int .u32 (y6 : Int), Value.int .u32 (y7 : Int)]) ∧ Below wr.heap.size wr.drew w' := by
              have h1 := mixed_calls [x0, x1, x2, x3, x4, x5, x6, x7] bb (Option.map (fun x => x.add q2) A5) (c5 - q2) gk wr.drew hhw rfl hbs1 hl1 (by omega) (by exact hA1) (by exact bk)
              rw [hy] at h1
              exact h1
            have Hmix := Lib.hid hmix
            have Hyy := Lib.hid hy
            clear hmix hy
            have f0 := bh.frozen 0
            have f1 := bh.frozen 1
            have f2 := bh.frozen 2
            have f3 := bh.frozen 3
            have f4 := bh.frozen 4
            have f5 := bh.frozen 5
            have f6 := bh.frozen 6
            have f7 := bh.frozen 7
            go_wp2_with fail
            go_region_with (go_at_call 91; refine Hmix.out.mono ?_; rintro e W5 ⟨rfl, hbW⟩; obtain ⟨hcW, hfW⟩ := bcell2 hbW)
            have b5 : Blk W5 gh _ _ := Blk.below (w := wr.drew) bh hbW hgl
            have k5 : Blk W5 gk _ _ := Blk.below (w := wr.drew) bk hbW hgk
            have r5 : Kd.R (Kd.int .u8) 5 W5 w.heap.size (fun _ => True) _ _ := Kd.R_below (Kd.R_drew hR.out) hbW
            have q5 := hbl.drew.trans (hbW.mono hbl.size)
            have r6 := Aside0.mk (eightR (by decide) b5 r5 y0 y1 y2 y3 y4 y5 y6 y7)
            obtain ⟨e5, e6, e7⟩ := eight b5 y0 y1 y2 y3 y4 y5 y6 y7
            replace e6 := e6 gk _ _ (by omega) k5
            replace e7 := e7 _ _ (by omega) q5
            rw [← Hyy.out, ← hnx.out] at e5
            have HF := Lib.hid (And.intro e5 (And.intro e6 (And.intro r6 e7)))
            clear e5 e6 e7 r6 r5 b5 k5 q5 hcW hfW bh bk hbl hR
            go_wp2
            exact ⟨⟨j + 1, by omega, by have := Hq2.out.1; rw [show ((64 * (j + 1) : Nat) : Int) = (q2 : Int) + 64 by omega], HF.out⟩, by have := Hq2.out.1; have := Hq2.out.2; simp [intOf]; omega⟩
          · obtain rfl : j = m2 := by omega
            obtain ⟨q2, hq2⟩ : ∃ q2, 64 * j = q2 := ⟨_, rfl⟩
            rw [hq2] at hR ⊢
            have hlt : decide (q2 < q2) = false := by simp
            have Hq2 := Lib.hid hq2
            clear hq2
            generalize hH : Sha.blkTo y h0 j = hh at *
            have HH := Lib.hid hH
            clear hH
            clear hlt
            obtain ⟨i5, hi5, hz50, hz51, hz52⟩ := info_parts info5
            have Hi5 := Lib.hid (And.intro hi5 (And.intro hz50 (And.intro hz51 hz52)))
            have hb5 : i5.bytes ≤ 1 := by omega
            clear hi5 hz50 hz51 hz52
            have HBB := Lib.hid (And.intro bh hbl)
            have hws := hbl.size
            clear bk hR bh hbl
            go_wp2_with (first
              | ((with_reducible refine gate_dst (N := 52) rfl ?_); refine wpList_make_own _ rfl (.const (.int .i64 0)) (.const (.int .i64 32)) 22 rfl w.heap.size 5 i5 (.int .u8 0) 1 Tryd.underlying22 Hi5.out.1 Hi5.out.2.1 Hi5.out.2.2.1 .i64 .i64 32 32 rfl rfl rfl (by omega) (by decide) hws ?_; intro W6 hown6 hg6)
              | (have bh6 := HBB.out.1.grown_ hg6 (by simp); refine wpList_load_row rfl 105 (.tmp 4) rfl gh rfl 105 _ (0, 0) _ bh6 Tryd.underlying105 rfl (by rw [wordsV_size, hhl]; exact infoStart) ?_))
            have hR6 : Aside0 (Kd.R (Kd.int .u8) 5 W6 w.heap.size (fun _ => True) (.slice (some ⟨wr.heap.size, 0, none⟩) 0 32) (ofB ((hh.take 0).flatMap Sha.out4))) := ⟨Kd.R_of_own (enc := Value.int .u8) (h1 := fun _ => rfl) (xs := []) hown6 (fun _ _ => trivial)⟩
            have hb6 := HBB.out.2.grown hg6 hws (fun g h => by cases h)
            obtain ⟨wo, rfl⟩ : ∃ wo : World, wo = wr := ⟨_, rfl⟩
            go_loopw [9, 54] (fun v i wr => ∃ t : Nat, t ≤ 8 ∧ i = .int .i64 t ∧ Aside0 (Kd.R (Kd.int .u8) 5 wr w.heap.size (fun _ => True) v (ofB ((hh.take t).flatMap Sha.out4))) ∧ Below w.heap.size w wr) (fun _ i _ => 8 - (intOf i).toNat)
            case atStart => exact ⟨0, by omega, rfl, hR6, hb6⟩
            case round =>
              clear hR6 hb6 hown6 hg6 HBB
              obtain ⟨t, ht, rfl, hR, hbl⟩ := hrel
              by_cases ht8 : t < 8
              · have hix := fun W => index_w8 hh t ht8 hhl W
                have lx := hhw t
                obtain ⟨x, hx⟩ : ∃ x, hh.getD t 0 = x := ⟨_, rfl⟩
                rw [hx] at hix lx
                have hx := Lib.hid hx
                have t0 : (0 : Int) ≤ (t : Int) := by omega
                have t1 : (t : Int) < 8 := by omega
                have hd : decide ((t : Int) < 8) = true := by simp; omega
                have hbl' := Lib.hid hbl
                clear hbl
                have hfl := flat_len (hh.take t)
                rw [List.length_take] at hfl
                have hb4 := hbl'.out.alloc hbl'.out.size (Obj.cells #[Value.int IntKind.u8 ((x : Int) / 16777216), Value.int IntKind.u8 ((x : Int) / 65536 % 256), Value.int IntKind.u8 ((x : Int) / 256 % 256), Value.int IntKind.u8 ((x : Int) % 256)] 5)
                have Hb4 := Lib.hid hb4
                clear hb4
                go_wp2_with (first | ((with_reducible refine gate_builtin (b := .append) (xs := #[.tmp 57, .tmp 69]) rfl ?_); at_builtin; refine Kd.R_append_rows (Kd.int .u8) (w0 := w) w.heap.size rfl (.tmp 57) (.tmp 69) 22 5 (.int .u8 0) 1 rfl Tryd.underlying22 info5 rfl (by decide) (by omega) u9 (ofB ((hh.take t).flatMap Sha.out4)) [(x : Int) / 16777216, (x : Int) / 65536 % 256, (x : Int) / 256 % 256, (x : Int) % 256] (some ⟨wr.heap.size, 0, none⟩) 4 4 (fun _ => True) (fun _ => False) rfl rfl ?aO ?aR (fun _ _ h => h) (fun _ h => h.elim) ?aF ?aB ?aS ?aL ?_; (case aO => exact Kd.R_alloc hR.out _); (case aR => exact c_lit wr 5 [(x : Int) / 16777216, (x : Int) / 65536 % 256, (x : Int) / 256 % 256, (x : Int) % 256] (by simp)); (case aF => exact fun _ _ => trivial); (case aB => exact Hb4.out); (case aS => exact Hb4.out.size); (case aL => rw [ofB_length]; omega); intro v7 W7 ho7 hb7 hg7 hat7))
                have hnext : Aside0 (Kd.R (Kd.int .u8) 5 W7 w.heap.size (fun _ => True) v7 (ofB ((hh.take (t + 1)).flatMap Sha.out4))) := ⟨by
                  rw [out4_snoc hh t (by omega) x hx.out lx]
                  exact ho7⟩
                clear ho7 hg7 hat7 Hb4 hbl' hR hix
                go_wp2
                exact ⟨⟨t + 1, by omega, by go_num, hnext, hb7⟩, by simp [intOf]; omega⟩
              · obtain rfl : t = 8 := by omega
                have hd : decide (((8 : Nat) : Int) < 8) = false := by decide
                have hfin : Sha.sum b = hh.flatMap Sha.out4 := by
                  rw [Sha.sum_split, Hm.out, Hn.out, Hy.out, Hh0.out, Hm2.out, show 64 * j / 64 = j by omega, HH.out]
                rw [List.take_of_length_le (by omega)] at hR
                have Hfin := Lib.hid hfin
                clear hfin
                go_wp2
                go_ret
                exact ⟨_, rfl, by rw [Hfin.out]; exact hR.out, hbl⟩
end P
end Go.Proofs.YtdklmafkcbjomaaDoor

/-! Sha2 -/
namespace Go.Proofs.YtdklmafkcbjomaaDoor
set_option linter.unusedVariables false
set_option linter.unusedSimpArgs false
open Go.RowKit Go.Proofs.YtdklmafkcbjomaaDoor.L Go.Proofs.YtdklmafkcbjomaaDoorW.PrintWords Go.Proofs.YtdklmafkcbjomaaDoorW.PrintLast Go.Proofs.YtdklmafkcbjomaaDoorW.PrintMore
theorem c_marked (W : World) (e : Nat) (fr : Nat × Nat) (xs : List Int) (hm : xs.length ≤ 9223372036854775807) : Kd.C (Kd.int .u8) (W.alloc (.cells (nums .u8 xs).toArray e fr)) (some ⟨W.heap.size, 0, none⟩) xs.length xs := by
  refine Kd.C_of_reads (enc := Value.int .u8) (d := 0) (h1 := fun _ => rfl) ⟨rfl, hm, fun _ => ⟨_, rfl, fun j hj => ?_⟩⟩
  have e1 : (⟨W.heap.size, 0, none⟩ : Addr).add j = ⟨W.heap.size, j, none⟩ := by unfold Addr.add; split <;> simp_all
  rw [e1, cell_of_row _ _ _ _ _ _ (heap_alloc_new W _)]
  simp [nums, hj]
namespace P
end P
namespace P
end P
end Go.Proofs.YtdklmafkcbjomaaDoor

/-! HandA -/
namespace Go.Proofs.YtdklmafkcbjomaaDoor
set_option linter.unusedVariables false
set_option linter.unusedSimpArgs false
open Go.RowKit Go.Proofs.YtdklmafkcbjomaaDoorW.PrintWords Go.Proofs.YtdklmafkcbjomaaDoorW.PrintLast Go.Proofs.YtdklmafkcbjomaaDoorW.PrintMore
theorem map_u8_inj (a b : List Int) (ha : byteOk a = true) (hb : byteOk b = true) (h : (a.map fun n => UInt8.ofNat n.toNat) = b.map fun n => UInt8.ofNat n.toNat) : a = b := by
  rw [← ofB_toB a ha, ← ofB_toB b hb]
  refine congrArg ofB ?_
  have h2 := congrArg (List.map UInt8.toNat) h
  rw [List.map_map, List.map_map] at h2
  have key : ∀ l : List Int, byteOk l = true → l.map (UInt8.toNat ∘ fun n => UInt8.ofNat n.toNat) = toB l := by
    intro l hl
    refine List.map_congr_left fun x hx => ?_
    have := List.all_eq_true.1 hl x hx
    simp only [Bool.and_eq_true, decide_eq_true_eq] at this
    simp only [Function.comp]
    rw [UInt8.toNat_ofNat']
    omega
  rw [key a ha, key b hb] at h2
  exact h2
theorem strOfNums_inj (a b : List Int) (ha : byteOk a = true) (hb : byteOk b = true) : ((strOfNums a).toList == (strOfNums b).toList) = (a == b) := by
  rw [strOfNums, strOfNums, ByteArray.toList_mk, ByteArray.toList_mk, Bool.eq_iff_iff, beq_iff_eq, beq_iff_eq]
  exact ⟨map_u8_inj a b ha hb, fun h => by rw [h]⟩
namespace P
def sha_Pad.f (n : Int) : Option (List Int) := some (if n < 0 then [] else if 1125899906842624 < n then [] else ofB (Sha.pad n.toNat))
theorem sha_Pad.calls (a0 : Int) (r : List Int) (w : World) (h : sha_Pad.f a0 = some r) :
    Calls Tryd.prog 92 #[.int .i64 a0] w fun e w' => ∃ v0_ : Value, e = .returned (v0_) ∧ Kd.R (Kd.int .u8) 5 w' w.heap.size (fun _ => True) v0_ r ∧ Below w.heap.size w w' := by
  unfold sha_Pad.f at h
  injection h with h
  by_cases h0 : a0 < 0
  · rw [if_pos h0] at h
    subst h
    exact L.sha_Pad.calls 10 a0 [] w (pad_none 9 a0 (.inl h0))
  · rw [if_neg h0] at h
    by_cases h1 : 1125899906842624 < a0
    · rw [if_pos h1] at h
      subst h
      exact L.sha_Pad.calls 10 a0 [] w (pad_none 9 a0 (.inr h1))
    · rw [if_neg h1] at h
      subst h
      obtain ⟨n, rfl⟩ := Int.eq_ofNat_of_zero_le (show 0 ≤ a0 by omega)
      exact L.sha_Pad.calls 10 (n : Int) _ w (pad_eq n (by omega))
def pyxref01_Same.f (l0 : List Int) (l1 : List Int) : Option (Bool) := if byteOk l0 = true ∧ byteOk l1 = true then some (l0 == l1) else none
theorem pyxref01_Same.calls (A0 : Option Addr) (c0 : Nat) (l0 : List Int) (A1 : Option Addr) (c1 : Nat) (l1 : List Int) (r : Bool) (w : World) (hr0 : Kd.C (Kd.int .u8) w A0 l0.length l0) (hc0 : l0.length ≤ c0) (hr1 : Kd.C (Kd.int .u8) w A1 l1.length l1) (hc1 : l1.length ≤ c1) (h : pyxref01_Same.f l0 l1 = some r) :
    Calls Tryd.prog 16 #[.slice A0 l0.length c0, .slice A1 l1.length c1] w fun e w' => e = .returned (.bool r) ∧ Drawn0 w w' := by
  unfold pyxref01_Same.f at h
  split at h
  case isFalse => cases h
  case isTrue hok =>
  exact L.pyxref01_Same.calls A0 c0 l0 A1 c1 l1 r w hr0 hc0 hr1 hc1 (by rw [← h]; exact congrArg some (strOfNums_inj l0 l1 hok.1 hok.2))
end P
end Go.Proofs.YtdklmafkcbjomaaDoor

/-! ShaFacts -/
namespace Go.Proofs.YtdklmafkcbjomaaDoor
open Go.RowKit Go.Proofs.YtdklmafkcbjomaaDoorW.PrintWords Go.Proofs.YtdklmafkcbjomaaDoorW.PrintLast
theorem Sha.addTo_length (h v : List Nat) : ∀ i, (Sha.addTo h v i).length = h.length
  | 0 => rfl
  | i + 1 => by rw [Sha.addTo, List.length_set, Sha.addTo_length h v i]
theorem Sha.mixed_length (h b : List Nat) : (Sha.mixed h b).length = h.length := Sha.addTo_length _ _ _
theorem Sha.blkTo_length (b h : List Nat) : ∀ k, (Sha.blkTo b h k).length = h.length
  | 0 => rfl
  | k + 1 => by rw [Sha.blkTo, Sha.mixed_length, Sha.blkTo_length b h k]
theorem Sha.hTab_length : Sha.hTab.length = 8 := by decide +kernel
theorem Sha.out_length : ∀ l : List Nat, (l.flatMap Sha.out4).length = 4 * l.length
  | [] => rfl
  | x :: l => by rw [List.flatMap_cons, List.length_append, Sha.out_length l, List.length_cons, show (Sha.out4 x).length = 4 from rfl]; omega
theorem Sha.sum_length (b : List Nat) : (Sha.sum b).length = 32 := by
  unfold Sha.sum
  rw [Sha.out_length, Sha.blkTo_length, Sha.hTab_length]
theorem byteOk_iff (l : List Int) : byteOk l = true ↔ ∀ x ∈ l, 0 ≤ x ∧ x < 256 := by
  unfold byteOk
  rw [List.all_eq_true]
  simp
theorem byteOk_append (a b : List Int) : byteOk (a ++ b) = true ↔ byteOk a = true ∧ byteOk b = true := by
  simp [byteOk, List.all_append]
theorem byteOk_nat (b : List Nat) (h : ∀ x ∈ b, x < 256) : byteOk (ofB b) = true := by
  rw [byteOk_iff]
  intro x hx
  obtain ⟨y, hy, rfl⟩ := List.mem_map.1 hx
  have := h y hy
  omega
theorem byteOk_of_wf (l : List Int) (h : ∀ x ∈ l, (Lit.int .u8 x).wf = true) : byteOk l = true := by
  rw [byteOk_iff]
  intro x hx
  have h := Go.bounds_u8 (h x hx)
  omega
theorem byteOk_sum (b : List Nat) : byteOk (ofB (Sha.sum b)) = true := by
  refine byteOk_nat _ fun x hx => ?_
  unfold Sha.sum at hx
  obtain ⟨y, _, hy⟩ := List.mem_flatMap.1 hx
  simp only [Sha.out4, List.mem_cons, List.not_mem_nil, or_false] at hy
  omega
end Go.Proofs.YtdklmafkcbjomaaDoor

/-! Mac -/
namespace Go.Proofs.YtdklmafkcbjomaaDoor
set_option linter.unusedVariables false
set_option linter.unusedSimpArgs false
open Go.RowKit Go.Proofs.YtdklmafkcbjomaaDoor.L Go.Proofs.YtdklmafkcbjomaaDoorW.PrintWords Go.Proofs.YtdklmafkcbjomaaDoorW.PrintLast Go.Proofs.YtdklmafkcbjomaaDoorW.PrintMore
theorem info_u8 : (Tryd.prog.info? 5).map (·.size) = some 1 := by kernel_rfl
theorem grown_none_below {w w' : World} (h : w.grownBy w' none) : Below w.heap.size w w' := ⟨h.os, h.tape, h.output, h.size, fun i hi => h.block i hi (by simp)⟩
/-- A key, or its digest. -/
def ownKey (l : List Int) : List Int := if 64 < l.length then ofB (Sha.sum (toB l)) else l
def macKey (l : List Int) : List Int := ownKey l ++ List.replicate (64 - (ownKey l).length) 0
theorem ownKey_length (l : List Int) : (ownKey l).length ≤ 64 := by
  unfold ownKey
  split
  · rw [ofB_length, Sha.sum_length]
    omega
  · omega
theorem macKey_length (l : List Int) : (macKey l).length = 64 := by
  have := ownKey_length l
  unfold macKey
  rw [List.length_append, List.length_replicate]
  omega
theorem byteOk_replicate (n : Nat) (x : Int) (h0 : 0 ≤ x) (h1 : x < 256) : byteOk (List.replicate n x) = true := by
  rw [byteOk_iff]
  intro y hy
  have := List.eq_of_mem_replicate hy
  omega
theorem byteOk_ownKey (l : List Int) (h : byteOk l = true) : byteOk (ownKey l) = true := by
  unfold ownKey
  split
  · exact byteOk_sum _
  · exact h
theorem byteOk_macKey (l : List Int) (h : byteOk l = true) : byteOk (macKey l) = true := (byteOk_append _ _).2 ⟨byteOk_ownKey l h, byteOk_replicate _ _ (by omega) (by omega)⟩
theorem keyTail (k : List Int) (h : k.length ≤ 64) : k.take (min k.length (List.replicate (64 : Int).toNat (0 : Int)).length) ++ (List.replicate (64 : Int).toNat (0 : Int)).drop (min k.length (List.replicate (64 : Int).toNat (0 : Int)).length) = k ++ List.replicate (64 - k.length) 0 := by
  have e : (List.replicate (64 : Int).toNat (0 : Int)).length = 64 := by simp
  rw [e, Nat.min_eq_left h, List.take_of_length_le (Nat.le_refl _), List.drop_replicate]
  rfl
namespace P
def mac_Key.f (l : List Int) : Option (List Int) := if byteOk l = true ∧ l.length ≤ 900000 then some (macKey l) else none
set_option maxRecDepth 100000 in
set_option maxHeartbeats 2000000 in
theorem mac_Key.calls (A0 : Option Addr) (c0 : Nat) (l0 : List Int) (r : List Int) (w : World) (hr0 : Kd.C (Kd.int .u8) w A0 l0.length l0) (hc0 : l0.length ≤ c0) (h : mac_Key.f l0 = some r) :
    Calls Tryd.prog 84 #[.slice A0 l0.length c0] w fun e w' => ∃ v0_ : Value, e = .returned (v0_) ∧ Kd.R (Kd.int .u8) 5 w' w.heap.size (fun _ => True) v0_ r ∧ Below w.heap.size w w' := by
  unfold mac_Key.f at h
  split at h
  case isFalse => cases h
  case isTrue hok =>
  injection h with h
  by_cases hlt : 64 < l0.length
  · have hd : decide (64 < (l0.length : Int)) = true := by rw [decide_eq_true_eq]; omega
    have hs : sha_Sum.f l0 = some (ofB (Sha.sum (toB l0))) := by unfold sha_Sum.f; rw [if_pos ⟨hok.1, by omega⟩]
    have hk : ownKey l0 = ofB (Sha.sum (toB l0)) := by unfold ownKey; rw [if_pos hlt]
    unfold macKey at h
    rw [hk] at h
    have Hh := Lib.hid h
    clear h hk
    have hlen : (ofB (Sha.sum (toB l0))).length = 32 := by rw [ofB_length, Sha.sum_length]
    generalize ofB (Sha.sum (toB l0)) = y at *
    have Hlen := Lib.hid hlen
    have Hs := Lib.hid hs
    clear hs hlen
    go_enter Tryd.func84, Tryd.ntmps84
    go_wp2_with (first
      | (go_at_call 87; (with_reducible refine (sha_Sum.calls A0 c0 l0 y w hr0 hc0 Hs.out).mono ?_); rintro e W1 ⟨v1, rfl, hR1, hb1⟩; obtain ⟨A1, c1, rfl, hl1, hC1⟩ := Kd.R_reads hR1; clear hR1)
      | ((with_reducible refine gate_dst (N := 9) rfl ?_); refine Kd.R_make (Kd.int .u8) (w0 := w) w.heap.size 5 rfl (N := 9) rfl 22 _ _ rfl 64 rfl rfl Tryd.underlying22 (.int .u8 0) 1 info5 rfl (by decide) (by omega) (0 : Int) (ok := fun _ => True) (okp := fun _ => False) ?zK (fun _ h => h.elim) trivial (by omega) (by decide) ?zB ?zS ?_; (case zK => exact (by rfl)); (case zB => exact hb1); (case zS => exact hb1.size); intro v2 W2 hR2 hb2 hg2 hat2)
      | ((with_reducible refine gate_builtin (b := .copy) (xs := #[.tmp 10, .tmp 11]) rfl ?_); refine Kd.R_copy (0 : Int) (w0 := w) w.heap.size rfl (.tmp 10) (.tmp 11) 22 22 5 rfl Tryd.underlying22 info_u8 v2 _ y _ _ _ (fun _ => True) rfl rfl hR2 ?zC hb2 hb2.size ?_; (case zC => exact Kd.C_below hC1 (grown_none_below hg2)); intro W3 hR3 hb3 hg3))
    go_ret
    refine ⟨v2, rfl, ?_, hb3⟩
    rw [← Hh.out, ← keyTail y (by have := Hlen.out; omega)]
    exact hR3
  · have hd : decide (64 < (l0.length : Int)) = false := by rw [decide_eq_false_iff_not]; omega
    have hk : ownKey l0 = l0 := by unfold ownKey; rw [if_neg hlt]
    unfold macKey at h
    rw [hk] at h
    have Hh := Lib.hid h
    clear h hk
    go_enter Tryd.func84, Tryd.ntmps84
    go_wp2_with (first
      | ((with_reducible refine gate_dst (N := 9) rfl ?_); refine Kd.R_make (Kd.int .u8) (w0 := w) w.heap.size 5 rfl (N := 9) rfl 22 _ _ rfl 64 rfl rfl Tryd.underlying22 (.int .u8 0) 1 info5 rfl (by decide) (by omega) (0 : Int) (ok := fun _ => True) (okp := fun _ => False) ?zK (fun _ h => h.elim) trivial (by omega) (by decide) ?zB ?zS ?_; (case zK => exact (by rfl)); (case zB => exact Below.refl _ _); (case zS => exact Nat.le_refl _); intro v2 W2 hR2 hb2 hg2 hat2)
      | ((with_reducible refine gate_builtin (b := .copy) (xs := #[.tmp 10, .tmp 11]) rfl ?_); refine Kd.R_copy (0 : Int) (w0 := w) w.heap.size rfl (.tmp 10) (.tmp 11) 22 22 5 rfl Tryd.underlying22 info_u8 v2 _ l0 _ _ _ (fun _ => True) rfl rfl hR2 ?zC hb2 hb2.size ?_; (case zC => exact Kd.C_below hr0 (grown_none_below hg2)); intro W3 hR3 hb3 hg3))
    go_ret
    refine ⟨v2, rfl, ?_, hb3⟩
    rw [← Hh.out, ← keyTail l0 (by omega)]
    exact hR3
end P
/-! slices.Grow, of nil. -/
set_option maxRecDepth 100000 in
theorem grow_nil (n : Nat) (w : World) (h1 : 1 ≤ n) (hn : n ≤ 100000000) :
    Calls Tryd.prog 93 #[.slice none 0 0, .int .i64 n] w fun e w' => ∃ v, e = .returned v ∧ Kd.R (Kd.int .u8) 5 w' w.heap.size (fun _ => True) v [] ∧ Below w.heap.size w w' := by
  obtain ⟨i0, hi, hz0, hz1, hz2⟩ := info_parts info5
  have hrun := fun ty => Lib.run_append_nil_zeros (P := Tryd.prog) w 22 3 ty 5 i0 (.int .u8 0) .i64 .i64 Tryd.underlying22 Tryd.underlying3 hi hz0 n (by omega) (by omega) (by omega) (by rw [hz2]; omega)
  have Hrun := Lib.hid hrun
  have Hi := Lib.hid (And.intro hi (And.intro hz0 (And.intro hz1 hz2)))
  clear hrun hi hz0 hz1 hz2
  have d1 : decide ((n : Int) < 0) = false := by rw [decide_eq_false_iff_not]; omega
  have d2 : decide ((0 : Int) < (n : Int)) = true := by rw [decide_eq_true_eq]; omega
  have hc1 := grownCap_ge w n 0 5
  have hc2 := grownCap_le_maxLen w n 0 5 (by unfold maxLen; omega)
  generalize grownCap w n 0 5 = G at *
  go_enter Tryd.func93, Tryd.ntmps93
  go_wp2_with (at_builtin; refine Lib.wpList_append_run _ rfl _ _ _ _ rfl _ _ rfl rfl _ _ (Hrun.out _) ?_)
  go_ret
  have hb : Below w.heap.size w ((w.alloc (Obj.cells (Builtin.zeroCells #[Value.int IntKind.u8 0] n ++ Builtin.zeroCells #[Value.int IntKind.u8 0] (G - n)) 5)).drew) := ((Below.refl _ w).alloc (Nat.le_refl _) _).drew
  refine ⟨_, rfl, Kd.R_drew (Kd.R_of_own (enc := Value.int .u8) (h1 := fun _ => rfl) (xs := []) (World.ownsRow_made (base := w.heap.size) (e := 5) (size := 1) w _ G (Nat.le_refl _) hc2 ?_) (fun _ _ => trivial)), hb⟩
  simp [Builtin.zeroCells]
  omega
set_option maxRecDepth 100000 in
theorem grow_any (n : Nat) (w : World) (hn : n ≤ 100000000) :
    Calls Tryd.prog 93 #[.slice none 0 0, .int .i64 n] w fun e w' => ∃ v, e = .returned v ∧ Kd.R (Kd.int .u8) 5 w' w.heap.size (fun _ => True) v [] ∧ Below w.heap.size w w' := by
  rcases Nat.eq_zero_or_pos n with rfl | h1
  · go_enter Tryd.func93, Tryd.ntmps93
    go_wp2
    go_ret
    exact ⟨_, rfl, Kd.R_nil _ _ _ _ _, Below.refl _ _⟩
  · exact grow_nil n w h1 hn
/-! slices.Concat. -/
def rowAt (xs : List (List Int)) (i : Nat) : List Int := xs.getD i []
theorem at_rows {w : World} {A : Option Addr} {n : Nat} {xs : List (List Int)} (h : Kd.C (Kd.slice 5 (Kd.int .u8)) w A n xs) (i : Nat) (h1 : i < n) : ∃ ad A0 c0, A = some ad ∧ w.cell? (ad.add i) = some (.slice A0 (rowAt xs i).length c0) ∧ (rowAt xs i).length ≤ c0 ∧ (Kd.int .u8).C w A0 (rowAt xs i).length (rowAt xs i) := by
  obtain ⟨ad, c, e, _, hK, hc0⟩ := Kd.C_get h ([] : List Int) (i : Int) (by omega) (by omega)
  rw [Int.toNat_natCast] at hK hc0
  have hc : ∀ j u, c[j]? = some u → w.cell? (ad.add (i * 1 + j)) = some u := hc0
  obtain ⟨A0, c0, rfl, l0, g0⟩ := hK
  exact ⟨ad, A0, c0, e, by have hq := hc 0 _ rfl; rwa [Nat.mul_one, Nat.add_zero] at hq, l0, g0⟩
theorem flat_take (l : List (List Int)) (i : Nat) (h : i < l.length) : (l.take (i + 1)).flatten = (l.take i).flatten ++ rowAt l i := by
  rw [List.take_succ_eq_append_getElem h, List.flatten_append]
  simp [rowAt, List.getD_eq_getElem?_getD, List.getElem?_eq_getElem h]
theorem flat_le (l : List (List Int)) (i : Nat) : (l.take i).flatten.length ≤ l.flatten.length := by
  have e : l.flatten = (l.take i).flatten ++ (l.drop i).flatten := by rw [← List.flatten_append, List.take_append_drop]
  rw [e, List.length_append]
  omega
namespace P
def slices_Concat.f (l : List (List Int)) : Option (List Int) := if l.flatten.length ≤ 100000000 then some l.flatten else none
set_option maxRecDepth 100000 in
set_option maxHeartbeats 2000000 in
theorem slices_Concat.calls (A0 : Option Addr) (c0 : Nat) (l0 : List (List Int)) (r : List Int) (w : World) (hr0 : Kd.C (Kd.slice 5 (Kd.int .u8)) w A0 l0.length l0) (hc0 : l0.length ≤ c0) (h : slices_Concat.f l0 = some r) :
    Calls Tryd.prog 88 #[.slice A0 l0.length c0] w fun e w' => ∃ v0_ : Value, e = .returned (v0_) ∧ Kd.R (Kd.int .u8) 5 w' w.heap.size (fun _ => True) v0_ r ∧ Below w.heap.size w w' := by
  unfold slices_Concat.f at h
  split at h
  case isFalse => cases h
  case isTrue hok =>
  injection h with h
  subst h
  have hn : l0.length ≤ 9223372036854775807 := hr0.2.1
  obtain ⟨N, hN⟩ : ∃ N, l0.length = N := ⟨_, rfl⟩
  rw [hN] at hr0 hn ⊢
  have HN := Lib.hid hN
  clear hN hc0
  have hz : (l0.take 0).flatten = [] := rfl
  go_enter Tryd.func88, Tryd.ntmps88
  go_wp2_with fail
  go_loop [3, 11] (fun s i => ∃ k : Nat, k ≤ N ∧ i = .int .i64 k ∧ s = .int .i64 ((l0.take k).flatten.length : Nat)) (fun _ i => N - (intOf i).toNat)
  case atStart => exact ⟨0, Nat.zero_le _, rfl, rfl⟩
  case round =>
    obtain ⟨k, hk, rfl, rfl⟩ := hrel
    by_cases hlt : k < N
    · obtain ⟨ad, A1, c1, rfl, hcell, hl1, hC1⟩ := at_rows hr0 k hlt
      have hsn := flat_take l0 k (by have := HN.out; omega)
      have hle := flat_le l0 (k + 1)
      have hlen : (l0.take (k + 1)).flatten.length = (l0.take k).flatten.length + (rowAt l0 k).length := by rw [hsn, List.length_append]
      generalize (l0.take k).flatten.length = S at *
      have ew : IntKind.i64.wrap ((S : Int) + ((rowAt l0 k).length : Int)) = (((l0.take (k + 1)).flatten.length : Nat) : Int) := by rw [IntKind.wrap_i64]; omega
      obtain ⟨S1, hS1⟩ : ∃ x, (l0.take (k + 1)).flatten.length = x := ⟨_, rfl⟩
      rw [hS1] at hle hlen ew
      have HS1 := Lib.hid hS1
      clear hS1
      have d0 : decide ((S1 : Int) < 0) = false := by rw [decide_eq_false_iff_not]; omega
      clear hsn
      have Hl := Lib.hid hlen
      clear hlen
      have i0 : (0 : Int) ≤ (k : Int) := by omega
      have i1 : (k : Int) < (N : Int) := by omega
      go_wp2
      go_round
      case rel => exact ⟨k + 1, by omega, by go_num, by rw [HS1.out]⟩
      case measure => simp [intOf]; omega
    · obtain rfl : k = N := by omega
      have e0 : l0.take k = l0 := List.take_of_length_le (by have := HN.out; omega)
      rw [e0]
      have d1 : decide ((k : Int) < (k : Int)) = false := by simp
      have d2 : decide (k < k) = false := by simp
      obtain ⟨T, hT⟩ : ∃ T, l0.flatten.length = T := ⟨_, rfl⟩
      rw [hT] at hok ⊢
      have HT := Lib.hid hT
      clear hT
      go_wp2_with (go_at_call 93; (with_reducible refine (grow_any T _ hok).mono ?_); rintro e W1 ⟨v1, rfl, hR1, hb1⟩)
      have hR1 : Aside0 (Kd.R (Kd.int .u8) 5 W1 w.heap.size (fun _ => True) v1 (l0.take 0).flatten) := ⟨hR1⟩
      clear hz d1 d2 e0
      go_loopw [6, 27] (fun v i wr => ∃ j : Nat, j ≤ k ∧ i = .int .i64 j ∧ Aside0 (Kd.R (Kd.int .u8) 5 wr w.heap.size (fun _ => True) v (l0.take j).flatten) ∧ Below w.heap.size w wr) (fun _ i _ => k - (intOf i).toNat)
      case atStart => exact ⟨0, Nat.zero_le _, rfl, hR1, hb1⟩
      case round =>
        clear hR1 hb1
        obtain ⟨j, hj, rfl, hR, hbl⟩ := hrel
        by_cases hlt : j < k
        · obtain ⟨ad, A1, c1, rfl, hcell0, hl1, hC1⟩ := at_rows hr0 j hlt
          have hcell := (hbl.cell (World.block_lt_of_cell? w _ hcell0)).trans hcell0
          have hC2 := Kd.C_below hC1 hbl
          have hsn := flat_take l0 j (by have := HN.out; omega)
          have hle := flat_le l0 (j + 1)
          rw [HT.out] at hle
          have hlen : (l0.take (j + 1)).flatten.length = (l0.take j).flatten.length + (rowAt l0 j).length := by rw [hsn, List.length_append]
          have Hsn := Lib.hid hsn
          have Hl := Lib.hid (And.intro hlen hle)
          have Hbl := Lib.hid hbl
          clear hlen hle hsn hcell0 hbl hC1
          have i0 : (0 : Int) ≤ (j : Int) := by omega
          have i1 : (j : Int) < (k : Int) := by omega
          go_wp2_with (first | ((with_reducible refine gate_builtin (b := .append) (xs := #[.tmp 31, .tmp 32]) rfl ?_); at_builtin; refine Kd.R_append_rows (Kd.int .u8) (w0 := w) w.heap.size rfl (.tmp 31) (.tmp 32) 22 5 (.int .u8 0) 1 rfl Tryd.underlying22 info5 rfl (by decide) (by omega) u6 (l0.take j).flatten (rowAt l0 j) _ _ _ (fun _ => True) (fun _ => False) rfl rfl ?aO ?aR (fun _ _ h => h) (fun _ h => h.elim) ?aF ?aB ?aS ?aL ?_; (case aR => exact hC2); (case aB => exact Hbl.out); (case aF => exact (fun _ _ => trivial)); (case aO => exact hR.out); (case aS => exact Hbl.out.size); (case aL => (have h1 := Hl.out.1; have h2 := Hl.out.2; omega)); intro v7 W7 ho7 hb7 hg7 hat7))
          have hnext : Aside0 (Kd.R (Kd.int .u8) 5 W7 w.heap.size (fun _ => True) v7 (l0.take (j + 1)).flatten) := ⟨by rw [Hsn.out]; exact ho7⟩
          clear ho7 hg7 hat7 Hbl hR hcell hC2
          go_wp2
          exact ⟨⟨j + 1, by omega, by go_num, hnext, hb7⟩, by simp [intOf]; omega⟩
        · obtain rfl : j = k := by omega
          have e0 : l0.take j = l0 := List.take_of_length_le (by have := HN.out; omega)
          rw [e0] at hR
          have d1 : decide ((j : Int) < (j : Int)) = false := by simp
          have d2 : decide (j < j) = false := by simp
          clear e0
          go_wp2
          go_ret
          exact ⟨_, rfl, hR.out, hbl⟩
end P
/-! slices.Clone, of a row that isn't nil. -/
set_option maxRecDepth 100000 in
theorem clone_calls (ad : Addr) (c : Nat) (l : List Int) (w : World) (hC : Kd.C (Kd.int .u8) w (some ad) l.length l) (hl : l.length ≤ 100000000) :
    Calls Tryd.prog 86 #[.slice (some ad) l.length c] w fun e w' => ∃ v, e = .returned v ∧ Kd.R (Kd.int .u8) 5 w' w.heap.size (fun _ => True) v l ∧ Below w.heap.size w w' := by
  have hq := fun w' => Lib.run_eql_slice_nil (P := Tryd.prog) w' 22 5 (some ad) l.length c 0 0 Tryd.underlying22
  have Hb0 := (Below.refl w.heap.size w).alloc (Nat.le_refl _) (Obj.cells #[] 5)
  have HC := Lib.hid (Kd.C_alloc hC (Obj.cells #[] 5))
  obtain ⟨n, hn⟩ : ∃ n, l.length = n := ⟨_, rfl⟩
  rw [hn] at hq HC hl ⊢
  clear hC hn
  go_enter Tryd.func86, Tryd.ntmps86
  go_wp2_with (first | ((with_reducible refine gate_builtin (b := .append) (xs := #[.tmp 5, .tmp 6]) rfl ?_); at_builtin; refine Kd.R_append_rows (Kd.int .u8) (w0 := w) w.heap.size rfl (.tmp 5) (.tmp 6) 22 5 (.int .u8 0) 1 rfl Tryd.underlying22 info5 rfl (by decide) (by omega) (.slice (some ⟨w.heap.size, 0, none⟩) 0 0) [] l _ _ _ (fun _ => True) (fun _ => False) rfl rfl ?aO ?aR (fun _ _ h => h) (fun _ h => h.elim) ?aF ?aB ?aS ?aL ?_; (case aR => exact HC.out); (case aB => exact Hb0); (case aF => exact (fun _ _ => trivial)); (case aO => exact Kd.R_of_own (own_lit w w.heap.size 5 .u8 [] (Nat.le_refl _) (by simp)) (fun _ _ => trivial)); (case aS => exact Hb0.size); (case aL => (simp; omega)); intro v7 W7 ho7 hb7 hg7 hat7))
  go_ret
  exact ⟨v7, rfl, by rw [List.nil_append] at ho7; exact ho7, hb7⟩
/-! mac.Sum's closure: the key's block, each byte's bits turned. -/
def xorB (l : List Int) (y : Int) : List Int := l.map fun x => Go.bits .xor .u8 x y
def xorTo (l : List Int) (y : Int) (i : Nat) : List Int := xorB (l.take i) y ++ l.drop i
theorem xorB_length (l : List Int) (y : Int) : (xorB l y).length = l.length := by simp [xorB]
theorem xorTo_length (l : List Int) (y : Int) (i : Nat) : (xorTo l y i).length = l.length := by simp [xorTo, xorB]; omega
theorem xorTo_at (l : List Int) (y : Int) (i : Nat) (h : i < l.length) : rd (xorTo l y i) (i : Int) = l.getD i 0 := by
  unfold rd xorTo
  rw [Int.toNat_natCast, List.getD_eq_getElem?_getD, List.getD_eq_getElem?_getD, List.getElem?_append_right (by simp [xorB]; omega), List.getElem?_drop]
  congr 2
  simp [xorB]
  omega
theorem xorTo_succ (l : List Int) (y : Int) (i : Nat) (h : i < l.length) : (xorTo l y i).set i (Go.bits .xor .u8 (l.getD i 0) y) = xorTo l y (i + 1) := by
  apply List.ext_getElem?
  intro j
  have hl : (xorB (l.take i) y).length = i := by simp [xorB]; omega
  have hl1 : (xorB (l.take (i + 1)) y).length = i + 1 := by simp [xorB]; omega
  rw [List.getElem?_set, xorTo_length]
  unfold xorTo
  by_cases e : i = j
  · subst e
    rw [if_pos rfl, if_pos h, List.getElem?_append_left (by omega)]
    simp [xorB, List.getElem?_take, h, List.getD_eq_getElem?_getD]
  · rw [if_neg e]
    rcases Nat.lt_or_ge j i with hj | hj
    · rw [List.getElem?_append_left (by omega), List.getElem?_append_left (by omega)]
      simp [xorB, List.getElem?_take, hj, show j < i + 1 by omega]
    · rw [List.getElem?_append_right (by omega), List.getElem?_append_right (by omega), hl, hl1, List.getElem?_drop, List.getElem?_drop]
      congr 1
      omega
set_option maxRecDepth 100000 in
set_option maxHeartbeats 1000000 in
theorem with_calls (y : Int) (ad : Addr) (c g : Nat) (l : List Int) (w : World) (hcell : w.cell? ⟨g, 0, none⟩ = some (.slice (some ad) 64 c)) (hC : Kd.C (Kd.int .u8) w (some ad) 64 l) (hl : l.length = 64) :
    Calls Tryd.prog 85 #[.int .u8 y, .pointer (some ⟨g, 0, none⟩)] w fun e w' => ∃ v, e = .returned v ∧ Kd.R (Kd.int .u8) 5 w' w.heap.size (fun _ => True) v (xorB l y) ∧ Below w.heap.size w w' := by
  have hcl := fun w => clone_calls ad c l w
  rw [hl] at hcl
  have Hcl := Lib.hid hcl
  have HL := Lib.hid hl
  clear hcl hl
  go_enter Tryd.func85, Tryd.ntmps85
  go_wp2_with (go_at_call 86; (with_reducible refine (Hcl.out w hC (by omega)).mono ?_); rintro e W1 ⟨v1, rfl, hR1, hb1⟩; obtain ⟨gv, cap, rfl, hgv, -⟩ := Kd.R_form hR1 (by have := HL.out; omega); rw [HL.out])
  have ho : W1.ownsRow w.heap.size 5 1 (.slice (some ⟨gv, 0, none⟩) 64 cap) 64 (nums .u8 (xorTo l y 0)) := by
    have h := Kd.own_of_R hR1
    rw [HL.out] at h
    exact h
  clear hR1 hcell hC
  go_loopw [5, 10] (fun _ i wr => ∃ k : Nat, k ≤ 64 ∧ i = .int .i64 k ∧ Aside0 (wr.ownsRow w.heap.size 5 1 (.slice (some ⟨gv, 0, none⟩) 64 cap) 64 (nums .u8 (xorTo l y k))) ∧ Below w.heap.size w wr) (fun _ i _ => 64 - (intOf i).toNat)
  case atStart => exact ⟨0, Nat.zero_le _, rfl, ⟨ho⟩, hb1⟩
  case round =>
    clear ho hb1
    obtain ⟨k, hk, rfl, ho, hbl⟩ := hrel
    by_cases hlt : k < 64
    · obtain ⟨hc, hf⟩ := own_at ho.out (k : Int) (by omega) (by omega)
      rw [xorTo_at l y k (by have := HL.out; omega), Int.toNat_natCast] at hc
      rw [Int.toNat_natCast] at hf
      have hs := own_store ho.out (k : Int) (Go.bits .xor .u8 (l.getD k 0) y)
      rw [Int.toNat_natCast, xorTo_succ l y k (by have := HL.out; omega)] at hs
      have hb2 : Below w.heap.size w (wr.setCell ⟨gv, k, none⟩ (.int .u8 (Go.bits .xor .u8 (l.getD k 0) y))) := hbl.setCell hgv _
      have HS := Lib.hid (And.intro hs.1 hb2)
      clear hs hb2 hbl ho
      have i0 : (0 : Int) ≤ (k : Int) := by omega
      have i1 : (k : Int) < 64 := by omega
      have d1 : decide ((k : Int) < 64) = true := by rw [decide_eq_true_eq]; omega
      go_wp2
      exact ⟨⟨k + 1, by omega, by go_num, ⟨HS.out.1⟩, HS.out.2⟩, by simp [intOf]; omega⟩
    · obtain rfl : k = 64 := by omega
      have d1 : decide (((64 : Nat) : Int) < 64) = false := by decide
      have e0 : xorTo l y 64 = xorB l y := by
        unfold xorTo
        rw [List.take_of_length_le (by have := HL.out; omega), List.drop_eq_nil_of_le (by have := HL.out; omega), List.append_nil]
      have hlx : (xorB l y).length = 64 := by rw [xorB_length]; exact HL.out
      have hfin : Aside0 (Kd.R (Kd.int .u8) 5 wr w.heap.size (fun _ => True) (.slice (some ⟨gv, 0, none⟩) 64 cap) (xorB l y)) := by
        rw [e0] at ho
        exact ⟨Kd.R_of_own (enc := Value.int .u8) (h1 := fun _ => rfl) (by rw [hlx]; exact ho.out) (fun _ _ => trivial)⟩
      clear e0 hlx ho
      go_wp2
      go_ret
      exact ⟨_, rfl, hfin.out, hbl⟩
/-! mac.joined and mac.Sum. -/
def dig (l : List Int) : List Int := ofB (Sha.sum (toB l))
def macSum (k b : List Int) : List Int := dig (xorB (macKey k) 92 ++ dig (xorB (macKey k) 54 ++ b))
theorem dig_length (l : List Int) : (dig l).length = 32 := by unfold dig; rw [ofB_length, Sha.sum_length]
theorem byteOk_dig (l : List Int) : byteOk (dig l) = true := byteOk_sum _
theorem macSum_length (k b : List Int) : (macSum k b).length = 32 := dig_length _
theorem byteOk_macSum (k b : List Int) : byteOk (macSum k b) = true := byteOk_dig _
theorem byteOk_xorB (l : List Int) (y : Int) (h : byteOk l = true) (h0 : 0 ≤ y) (h1 : y < 256) : byteOk (xorB l y) = true := by
  rw [byteOk_iff] at h ⊢
  intro z hz
  unfold xorB at hz
  obtain ⟨x, hx, rfl⟩ := List.mem_map.1 hz
  obtain ⟨a0, a1⟩ := h x hx
  obtain ⟨n, rfl⟩ := Int.eq_ofNat_of_zero_le a0
  obtain ⟨m, rfl⟩ := Int.eq_ofNat_of_zero_le h0
  rw [u8_xor_nat n m (by omega) (by omega)]
  have : n ^^^ m < 2 ^ 8 := Nat.xor_lt_two_pow (by omega) (by omega)
  omega
/-- Two rows, laid as one row of rows. -/
theorem c_two (W : World) (T : Nat) (A B : Option Addr) (c d : Nat) (x y : List Int) (hx : Kd.C (Kd.int .u8) W A x.length x) (hcx : x.length ≤ c) (hy : Kd.C (Kd.int .u8) W B y.length y) (hcy : y.length ≤ d) :
    Kd.C (Kd.slice 5 (Kd.int .u8)) (W.alloc (.cells #[.slice A x.length c, .slice B y.length d] T)) (some ⟨W.heap.size, 0, none⟩) 2 [x, y] := by
  refine ⟨rfl, by omega, fun _ => ⟨_, rfl, fun j p hj => ?_⟩⟩
  have hcell : ∀ j, (W.alloc (.cells #[.slice A x.length c, .slice B y.length d] T)).cell? ((⟨W.heap.size, 0, none⟩ : Addr).add j) = (#[Value.slice A x.length c, .slice B y.length d] : Array Value)[j]? := fun j => by
    rw [add_plain]
    exact cell_of_row _ _ _ _ _ _ (heap_alloc_new W _)
  rcases j with _ | _ | j
  · injection hj with hj
    subst hj
    refine ⟨[.slice A x.length c], rfl, ⟨A, c, rfl, hcx, Kd.C_alloc hx _⟩, fun i u hu => ?_⟩
    rcases i with _ | i
    · exact (hcell 0).trans hu
    · cases hu
  · injection hj with hj
    subst hj
    refine ⟨[.slice B y.length d], rfl, ⟨B, d, rfl, hcy, Kd.C_alloc hy _⟩, fun i u hu => ?_⟩
    rcases i with _ | i
    · exact (hcell 1).trans hu
    · cases hu
  · cases hj
theorem joined_calls (A0 : Option Addr) (c0 : Nat) (l0 : List (List Int)) (w : World) (hr0 : Kd.C (Kd.slice 5 (Kd.int .u8)) w A0 l0.length l0) (hc0 : l0.length ≤ c0) (h : l0.flatten.length ≤ 100000000) :
    Calls Tryd.prog 79 #[.slice A0 l0.length c0] w fun e w' => ∃ v0_ : Value, e = .returned (v0_) ∧ Kd.R (Kd.int .u8) 5 w' w.heap.size (fun _ => True) v0_ l0.flatten ∧ Below w.heap.size w w' := by
  have hc := P.slices_Concat.calls A0 c0 l0 l0.flatten w hr0 hc0 (by unfold P.slices_Concat.f; rw [if_pos h])
  have Hc := Lib.hid hc
  clear hc
  go_enter Tryd.func79, Tryd.ntmps79
  go_wp2_with (go_at_call 88; (with_reducible refine Hc.out.mono ?_); rintro e W1 ⟨v1, rfl, hR1, hb1⟩)
  go_ret
  exact ⟨v1, rfl, hR1, hb1⟩
namespace P
def mac_Sum.f (k b : List Int) : Option (List Int) := if byteOk k = true ∧ byteOk b = true ∧ k.length ≤ 900000 ∧ b.length ≤ 800000 then some (macSum k b) else none
set_option maxRecDepth 100000 in
set_option maxHeartbeats 2000000 in
theorem mac_Sum.calls (A0 : Option Addr) (c0 : Nat) (l0 : List Int) (A1 : Option Addr) (c1 : Nat) (l1 : List Int) (r : List Int) (w : World) (hr0 : Kd.C (Kd.int .u8) w A0 l0.length l0) (hc0 : l0.length ≤ c0) (hr1 : Kd.C (Kd.int .u8) w A1 l1.length l1) (hc1 : l1.length ≤ c1) (h : mac_Sum.f l0 l1 = some r) :
    Calls Tryd.prog 78 #[.slice A0 l0.length c0, .slice A1 l1.length c1] w fun e w' => ∃ v0_ : Value, e = .returned (v0_) ∧ Kd.R (Kd.int .u8) 5 w' w.heap.size (fun _ => True) v0_ r ∧ Below w.heap.size w w' := by
  unfold mac_Sum.f at h
  split at h
  case isFalse => cases h
  case isTrue hok =>
  injection h with h
  obtain ⟨o0, o1, n0, n1⟩ := hok
  have hk : mac_Key.f l0 = some (macKey l0) := by unfold mac_Key.f; rw [if_pos ⟨o0, n0⟩]
  have hkl := macKey_length l0
  have ok := byteOk_macKey l0 o0
  unfold macSum at h
  generalize macKey l0 = k at *
  have Hk := Lib.hid hk
  have Hh := Lib.hid h
  have HL := Lib.hid hkl
  have Hc := Lib.hid (mac_Key.calls A0 c0 l0 k w hr0 hc0 hk)
  clear hk h hkl
  go_enter Tryd.func78, Tryd.ntmps78
  go_wp2_with fail
  refine Hc.out.mono ?_
  rintro e W1 ⟨v1, rfl, hR1, hb1⟩
  obtain ⟨gv, cap, rfl, hgv, hgl, -⟩ := Kd.R_form hR1 (by have := HL.out; omega)
  obtain ⟨-, hcap, hCk⟩ := Kd.R_reads' hR1
  rw [HL.out] at hcap hCk ⊢
  clear hR1
  have hcell0 : (W1.alloc (Obj.cells #[Value.slice (some { block := gv, off := 0 }) 64 cap] 22)).cell? ⟨W1.heap.size, 0, none⟩ = some (.slice (some ⟨gv, 0, none⟩) 64 cap) := cell_of_row _ _ _ _ _ _ (heap_alloc_new W1 _)
  have hC0 := Kd.C_alloc hCk (Obj.cells #[Value.slice (some { block := gv, off := 0 }) 64 cap] 22)
  have hb0 := hb1.alloc hb1.size (Obj.cells #[Value.slice (some { block := gv, off := 0 }) 64 cap] 22)
  have Hcell := Lib.hid (And.intro hcell0 (And.intro hC0 hb0))
  have Hk2 := Lib.hid (And.intro ok (And.intro o0 (And.intro o1 (And.intro n0 n1))))
  clear hcell0 hC0 hb0 hCk hb1 ok o0 o1 n0 n1
  go_wp2_with fail
  refine (with_calls 92 ⟨gv, 0, none⟩ cap W1.heap.size k _ Hcell.out.1 Hcell.out.2.1 HL.out).mono ?_
  rintro e W3 ⟨v3, rfl, hR3, hb3⟩
  obtain ⟨A3, c3, rfl, hl3, hC3⟩ := Kd.R_reads hR3
  have Hcell3 := Lib.hid (And.intro (pw_cell_below hb3 Hcell.out.1) (And.intro (Kd.C_below Hcell.out.2.1 hb3) (Hcell.out.2.2.trans (hb3.mono Hcell.out.2.2.size))))
  clear hR3 hb3 Hcell
  go_wp2_with fail
  refine (with_calls 54 ⟨gv, 0, none⟩ cap W1.heap.size k _ Hcell3.out.1 Hcell3.out.2.1 HL.out).mono ?_
  rintro e W4 ⟨v4, rfl, hR4, hb4⟩
  obtain ⟨A4, c4, rfl, hl4, hC4⟩ := Kd.R_reads hR4
  have hx3 := Kd.C_below hC3 hb4
  have hb5 := Hcell3.out.2.2.trans (hb4.mono Hcell3.out.2.2.size)
  have hy1 := Kd.C_below hr1 hb5
  clear hR4 hb4 Hcell3 hC3
  have hL54 := xorB_length k 54
  have hL92 := xorB_length k 92
  have q54 := byteOk_xorB k 54 Hk2.out.1 (by omega) (by omega)
  have q92 := byteOk_xorB k 92 Hk2.out.1 (by omega) (by omega)
  generalize xorB k 54 = k54 at *
  generalize xorB k 92 = k92 at *
  have hc2 := c_two W4 22 A4 A1 c4 c1 k54 l1 hC4 hl4 hy1 hc1
  have e5 : [k54, l1].flatten = k54 ++ l1 := by simp
  have n5 : (k54 ++ l1).length = 64 + l1.length := by rw [List.length_append, hL54, HL.out]
  have hj := joined_calls (some ⟨W4.heap.size, 0, none⟩) 2 [k54, l1] _ hc2 (Nat.le_refl _) (by rw [e5, n5]; have := Hk2.out.2.2.2.2; omega)
  rw [e5] at hj
  have Hj := Lib.hid hj
  have H5 := Lib.hid (And.intro n5 (And.intro hL54 (And.intro hL92 (And.intro q54 q92))))
  have hb6 := hb5.alloc hb5.size (Obj.cells #[.slice A4 k54.length c4, .slice A1 l1.length c1] 22)
  have Hb6 := Lib.hid (And.intro hb6 (Kd.C_alloc hx3 (Obj.cells #[.slice A4 k54.length c4, .slice A1 l1.length c1] 22)))
  clear hj hc2 e5 n5 hL54 hL92 q54 q92 hb6 hx3 hb5 hy1 hC4
  go_wp2_with fail
  refine Hj.out.mono ?_
  rintro e W7 ⟨v7, rfl, hR7, hb7⟩
  obtain ⟨A7, c7, rfl, hl7, hC7⟩ := Kd.R_reads hR7
  have Hb7 := Lib.hid (And.intro (Hb6.out.1.trans (hb7.mono Hb6.out.1.size)) (Kd.C_below Hb6.out.2 hb7))
  clear hR7 hb7 Hb6 Hj
  have hs1 : sha_Sum.f (k54 ++ l1) = some (dig (k54 ++ l1)) := by
    unfold sha_Sum.f
    rw [if_pos ⟨(byteOk_append _ _).2 ⟨H5.out.2.2.2.1, Hk2.out.2.2.1⟩, by have := H5.out.1; have := Hk2.out.2.2.2.2; omega⟩]
    rfl
  have Hs1 := Lib.hid hs1
  clear hs1
  generalize k54 ++ l1 = m1 at *
  go_wp2_with fail
  refine (sha_Sum.calls A7 c7 m1 _ _ hC7 hl7 Hs1.out).mono ?_
  rintro e W8 ⟨v8, rfl, hR8, hb8⟩
  have hd8 := dig_length m1
  have od8 := byteOk_dig m1
  generalize dig m1 = d1 at *
  obtain ⟨A8, c8, rfl, hl8, hC8⟩ := Kd.R_reads hR8
  have hx8 := Kd.C_below Hb7.out.2 hb8
  have hb9 := Hb7.out.1.trans (hb8.mono Hb7.out.1.size)
  clear hR8 hb8 Hb7
  have hc9 := c_two W8 22 A3 A8 c3 c8 k92 d1 hx8 hl3 hC8 hl8
  have e9 : [k92, d1].flatten = k92 ++ d1 := by simp
  have n9 : (k92 ++ d1).length = 96 := by rw [List.length_append, H5.out.2.2.1, HL.out, hd8]
  have hj := joined_calls (some ⟨W8.heap.size, 0, none⟩) 2 [k92, d1] _ hc9 (Nat.le_refl _) (by rw [e9, n9]; omega)
  rw [e9] at hj
  have Hj := Lib.hid hj
  have hs2 : sha_Sum.f (k92 ++ d1) = some (dig (k92 ++ d1)) := by
    unfold sha_Sum.f
    rw [if_pos ⟨(byteOk_append _ _).2 ⟨H5.out.2.2.2.2, od8⟩, by omega⟩]
    rfl
  have Hs2 := Lib.hid hs2
  have hb10 := hb9.alloc hb9.size (Obj.cells #[.slice A3 k92.length c3, .slice A8 d1.length c8] 22)
  have Hb10 := Lib.hid hb10
  clear hj hc9 e9 n9 hs2 hx8 hb9 hb10 hC8 hd8 od8
  go_wp2_with fail
  refine Hj.out.mono ?_
  rintro e W11 ⟨v11, rfl, hR11, hb11⟩
  obtain ⟨A11, c11, rfl, hl11, hC11⟩ := Kd.R_reads hR11
  have Hb11 := Lib.hid (Hb10.out.trans (hb11.mono Hb10.out.size))
  clear hR11 hb11 Hb10 Hj
  generalize k92 ++ d1 = m2 at *
  go_wp2_with fail
  refine (sha_Sum.calls A11 c11 m2 _ _ hC11 hl11 Hs2.out).mono ?_
  rintro e W12 ⟨v12, rfl, hR12, hb12⟩
  have hfin : Aside0 (Kd.R (Kd.int .u8) 5 W12 w.heap.size (fun _ => True) v12 r) := ⟨by
    rw [← Hh.out]
    exact Kd.R_lower hR12 Hb11.out.size⟩
  have Hb12 := Hb11.out.trans (hb12.mono Hb11.out.size)
  clear hR12 hb12 Hb11
  go_wp2
  go_ret
  exact ⟨_, rfl, hfin.out, Hb12⟩
end P
end Go.Proofs.YtdklmafkcbjomaaDoor

/-! M0 -/
namespace Go.Proofs.YtdklmafkcbjomaaDoor.M
open Go.Proofs.YtdklmafkcbjomaaDoor.P
open Go.RowKit Go.Proofs.YtdklmafkcbjomaaDoorW.PrintWords Go.Proofs.YtdklmafkcbjomaaDoorW.PrintLast Go.Proofs.YtdklmafkcbjomaaDoorW.PrintMore
attribute [local go_sem] max2_int min2_int max_two min_two max_three min_three max_four min_four   -- for this text's walks alone
set_option linter.unusedVariables false
set_option linter.unusedSimpArgs false
def errW : Option Int → Value
  | none => .nilIface
  | some c => .iface 0 (.int .i64 c)
theorem errW_none : errW none = .nilIface := rfl
theorem errW_some (c : Int) : errW (some c) = .iface 0 (.int .i64 c) := rfl
theorem info5 : (Tryd.prog.info? 5).map (fun i => (i.zero, i.size, i.bytes)) = some (some (.int .u8 0), 1, 1) := by kernel_rfl
-- the values' own types
end Go.Proofs.YtdklmafkcbjomaaDoor.M

/-! M1 -/
namespace Go.Proofs.YtdklmafkcbjomaaDoor.M
open Go.Proofs.YtdklmafkcbjomaaDoor.P
open Go.RowKit Go.Proofs.YtdklmafkcbjomaaDoorW.PrintWords Go.Proofs.YtdklmafkcbjomaaDoorW.PrintLast Go.Proofs.YtdklmafkcbjomaaDoorW.PrintMore
attribute [local go_sem] max2_int min2_int max_two min_two max_three min_three max_four min_four   -- for this text's walks alone
set_option linter.unusedVariables false
set_option linter.unusedSimpArgs false
-- NOT PRINTED: function 93 (slices_Grow_byte_byte)
/-! ### mac_joined: function 79 -/
def mac_joined.f (l0 : List (List Int)) : Option (List Int) := (slices_Concat.f l0).bind fun t101 => (some t101)
set_option maxHeartbeats 8000000 in
set_option maxRecDepth 100000 in
theorem mac_joined.calls (A0 : Option Addr) (c0 : Nat) (l0 : List (List Int)) (r : List Int) (w : World) (hr0 : Kd.C (Kd.slice 5 (Kd.int .u8)) w A0 l0.length l0) (hc0 : l0.length ≤ c0) (h : mac_joined.f l0 = some r) :
    Calls Tryd.prog 79 #[.slice A0 l0.length c0] w fun e w' => ∃ v0_ : Value, e = .returned (v0_) ∧ Kd.R (Kd.int .u8) 5 w' w.heap.size (fun _ => True) v0_ r ∧ Below w.heap.size w w' := by
  have HR0 := Aside0.mk hr0
  have HC0 := Aside0.mk hc0
  clear hr0 hc0
  have HB := Aside0.mk (Below.refl w.heap.size w)
  have H : ((slices_Concat.f l0).bind fun t101 => (some t101)) = some r := h
  clear h
  replace H := Option.bind_eq_some_iff.mp H
  obtain ⟨t101, A20, H⟩ := H
  replace H : (some t101) = some r := H
  have A2 := Aside0.mk A20
  clear A20
  obtain rfl := Option.some.inj H
  go_enter Tryd.func79, Tryd.ntmps79
  go_wp2_with (first | ((with_reducible refine gate_callee (f := 88) rfl ?_); refine goesL_ (some 4) rfl rfl Tryd.func88 (by kernel_rfl) rfl #[.slice A0 l0.length c0] rfl (by (try simp only [List.map_toArray, List.map_cons, List.map_nil]); first | done | rfl | (simp only [List.length_drop, List.length_take]; rfl)) ?_; (with_reducible refine (slices_Concat.calls _ _ l0 t101 _ ?side1 ?side2 A2.out).mono ?_); (case side1 => repeat (first | exact HR0.out | (with_reducible refine Kd.C_alloc ?_ _) | (with_reducible refine Kd.C_drewN ?_ _) | (with_reducible refine Kd.C_drew ?_))); (case side2 => exact HC0.out); rintro e w3 ⟨v102, rfl, ho0, hb⟩; refine ⟨_, rfl, ?_⟩; have n0_ := Aside0.mk (Kd.R_lower ho0 (below_size (by repeat (first | (with_reducible first | exact HB.out | apply below_alloc | apply pw_below_drewN | apply below_drew1) | exact HB.out)))); have n1_ := Aside0.mk (below_step (by repeat (first | (with_reducible first | exact HB.out | apply below_alloc | apply pw_below_drewN | apply below_drew1) | exact HB.out)) hb); clear HB; have HO103 := n0_; have HB := n1_; clear n0_ n1_; (try clear hb); (try clear hb2); (try clear hk); (try clear hi); (try clear ho0)))
  go_ret
  exact ⟨_, by first | rfl | (simp [errW_none, errW_some] <;> rfl) | (simp [*, errW_none, errW_some] <;> rfl), by (with_reducible repeat (first | apply Kd.R_alloc | apply Kd.R_drewN | apply Kd.R_drew)); exact HO103.out, by repeat (first | (with_reducible first | exact HB.out | apply below_alloc | apply pw_below_drewN | apply below_drew1) | exact HB.out)⟩
-- NOT PRINTED: function 94 (sha_primes)
-- NOT PRINTED: function 101 (bits_Mul64)
-- NOT PRINTED: function 102 (bits_Add64)
-- NOT PRINTED: function 99 (sha_above)
-- NOT PRINTED: function 95 (sha_root)
-- NOT PRINTED: function 89 (sha_keys)
-- NOT PRINTED: function 90 (sha_Start)
-- NOT PRINTED: function 100 (bits_RotateLeft32)
-- NOT PRINTED: function 97 (sha_turned)
-- NOT PRINTED: function 96 (sha_words)
-- NOT PRINTED: function 91 (sha_mixed)
-- NOT PRINTED: function 92 (sha_Pad)
/-! ### mac_All: function 69 -/
def mac_All.f (l0 : List Int) (l1 : List (List Int)) : Option (List Int) := (mac_joined.f l1).bind fun t104 => ((mac_Sum.f l0 t104).bind fun t107 => (some t107))
set_option maxHeartbeats 8000000 in
set_option maxRecDepth 100000 in
theorem mac_All.calls (A0 : Option Addr) (c0 : Nat) (l0 : List Int) (A1 : Option Addr) (c1 : Nat) (l1 : List (List Int)) (r : List Int) (w : World) (hr0 : Kd.C (Kd.int .u8) w A0 l0.length l0) (hc0 : l0.length ≤ c0) (hr1 : Kd.C (Kd.slice 5 (Kd.int .u8)) w A1 l1.length l1) (hc1 : l1.length ≤ c1) (h : mac_All.f l0 l1 = some r) :
    Calls Tryd.prog 69 #[.slice A0 l0.length c0, .slice A1 l1.length c1] w fun e w' => ∃ v0_ : Value, e = .returned (v0_) ∧ Kd.R (Kd.int .u8) 5 w' w.heap.size (fun _ => True) v0_ r ∧ Below w.heap.size w w' := by
  have HR0 := Aside0.mk hr0
  have HC0 := Aside0.mk hc0
  clear hr0 hc0
  have HR1 := Aside0.mk hr1
  have HC1 := Aside0.mk hc1
  clear hr1 hc1
  have HB := Aside0.mk (Below.refl w.heap.size w)
  have H : ((mac_joined.f l1).bind fun t104 => ((mac_Sum.f l0 t104).bind fun t107 => (some t107))) = some r := h
  clear h
  replace H := Option.bind_eq_some_iff.mp H
  obtain ⟨t104, A30, H⟩ := H
  replace H : ((mac_Sum.f l0 t104).bind fun t107 => (some t107)) = some r := H
  have A3 := Aside0.mk A30
  clear A30
  replace H := Option.bind_eq_some_iff.mp H
  obtain ⟨t107, A40, H⟩ := H
  replace H : (some t107) = some r := H
  have A4 := Aside0.mk A40
  clear A40
  obtain rfl := Option.some.inj H
  go_enter Tryd.func69, Tryd.ntmps69
  go_wp2_with (first | ((with_reducible refine gate_callee (f := 79) rfl ?_); refine goesL_ (some 7) rfl rfl Tryd.func79 (by kernel_rfl) rfl #[.slice A1 l1.length c1] rfl (by (try simp only [List.map_toArray, List.map_cons, List.map_nil]); first | done | rfl | (simp only [List.length_drop, List.length_take]; rfl)) ?_; (with_reducible refine (mac_joined.calls _ _ l1 t104 _ ?side1 ?side2 A3.out).mono ?_); (case side1 => repeat (first | exact HR1.out | (with_reducible refine Kd.C_alloc ?_ _) | (with_reducible refine Kd.C_drewN ?_ _) | (with_reducible refine Kd.C_drew ?_))); (case side2 => exact HC1.out); rintro e w5 ⟨v105, rfl, ho0, hb⟩; refine ⟨_, rfl, ?_⟩; have n0_ := Aside0.mk (Kd.R_lower ho0 (below_size (by repeat (first | (with_reducible first | exact HB.out | apply below_alloc | apply pw_below_drewN | apply below_drew1) | exact HB.out)))); have n1_ := Aside0.mk (below_step (by repeat (first | (with_reducible first | exact HB.out | apply below_alloc | apply pw_below_drewN | apply below_drew1) | exact HB.out)) hb); clear HB; have HO106 := n0_; have HB := n1_; clear n0_ n1_; (try clear hb); (try clear hb2); (try clear hk); (try clear hi); (try clear ho0); obtain ⟨Ao6, co6, eo6⟩ := Kd.R_slice HO106.out; subst eo6) | ((with_reducible refine gate_callee (f := 78) rfl ?_); refine goesL_ (some 8) rfl rfl Tryd.func78 (by kernel_rfl) rfl #[.slice A0 l0.length c0, .slice Ao6 t104.length co6] rfl (by (try simp only [List.map_toArray, List.map_cons, List.map_nil]); first | done | rfl | (simp only [List.length_drop, List.length_take]; rfl)) ?_; (with_reducible refine (mac_Sum.calls _ _ l0 _ _ t104 t107 _ ?side1 ?side2 ?side3 ?side4 A4.out).mono ?_); (case side1 => repeat (first | exact (Kd.C_below HR0.out HB.out) | (with_reducible refine Kd.C_alloc ?_ _) | (with_reducible refine Kd.C_drewN ?_ _) | (with_reducible refine Kd.C_drew ?_))); (case side2 => exact HC0.out); (case side3 => repeat (first | exact (Kd.R_reads' HO106.out).2.2 | (with_reducible refine Kd.C_alloc ?_ _) | (with_reducible refine Kd.C_drewN ?_ _) | (with_reducible refine Kd.C_drew ?_))); (case side4 => exact (Kd.R_reads' HO106.out).2.1); rintro e w7 ⟨v108, rfl, ho0, hb⟩; refine ⟨_, rfl, ?_⟩; have n0_ := Aside0.mk (Kd.R_elder' (by (with_reducible repeat (first | apply Kd.R_alloc | apply Kd.R_drewN | apply Kd.R_drew)); exact HO106.out) (Kd.R_base ho0) hb); have n1_ := Aside0.mk (Kd.R_lower (Kd.R_new' ho0 (Kd.R_lt (by (with_reducible repeat (first | apply Kd.R_alloc | apply Kd.R_drewN | apply Kd.R_drew)); exact HO106.out))) (below_size (by repeat (first | (with_reducible first | exact HB.out | apply below_alloc | apply pw_below_drewN | apply below_drew1) | exact HB.out)))); have n2_ := Aside0.mk (below_step (by repeat (first | (with_reducible first | exact HB.out | apply below_alloc | apply pw_below_drewN | apply below_drew1) | exact HB.out)) hb); clear HO106; clear HB; have HO106 := n0_; have HO109 := n1_; have HB := n2_; clear n0_ n1_ n2_; (try clear hb); (try clear hb2); (try clear hk); (try clear hi); (try clear ho0)))
  go_ret
  exact ⟨_, by first | rfl | (simp [errW_none, errW_some] <;> rfl) | (simp [*, errW_none, errW_some] <;> rfl), by (with_reducible repeat (first | apply Kd.R_alloc | apply Kd.R_drewN | apply Kd.R_drew)); exact Kd.R_mono HO109.out (fun _ hk => trivial), by repeat (first | (with_reducible first | exact HB.out | apply below_alloc | apply pw_below_drewN | apply below_drew1) | exact HB.out)⟩
-- NOT PRINTED: function 73 (pyxref02_Pad)
-- NOT PRINTED: function 74 (pyxref02_keys)
-- NOT PRINTED: function 75 (pyxref02_Start)
-- NOT PRINTED: function 82 (pyxref02_word)
-- NOT PRINTED: function 83 (pyxref02_turn)
-- NOT PRINTED: function 76 (pyxref02_step)
end Go.Proofs.YtdklmafkcbjomaaDoor.M

/-! MacB -/
namespace Go.Proofs.YtdklmafkcbjomaaDoor
set_option linter.unusedVariables false
set_option linter.unusedSimpArgs false
open Go.RowKit Go.Proofs.YtdklmafkcbjomaaDoorW.PrintWords Go.Proofs.YtdklmafkcbjomaaDoorW.PrintLast Go.Proofs.YtdklmafkcbjomaaDoorW.PrintMore
namespace P
def mac_All.f (k : List Int) (l : List (List Int)) : Option (List Int) := if byteOk k = true ∧ byteOk l.flatten = true ∧ k.length ≤ 900000 ∧ l.flatten.length ≤ 800000 then some (macSum k l.flatten) else none
theorem mac_All.calls (A0 : Option Addr) (c0 : Nat) (l0 : List Int) (A1 : Option Addr) (c1 : Nat) (l1 : List (List Int)) (r : List Int) (w : World) (hr0 : Kd.C (Kd.int .u8) w A0 l0.length l0) (hc0 : l0.length ≤ c0) (hr1 : Kd.C (Kd.slice 5 (Kd.int .u8)) w A1 l1.length l1) (hc1 : l1.length ≤ c1) (h : mac_All.f l0 l1 = some r) :
    Calls Tryd.prog 69 #[.slice A0 l0.length c0, .slice A1 l1.length c1] w fun e w' => ∃ v0_ : Value, e = .returned (v0_) ∧ Kd.R (Kd.int .u8) 5 w' w.heap.size (fun _ => True) v0_ r ∧ Below w.heap.size w w' := by
  unfold mac_All.f at h
  split at h
  case isFalse => cases h
  case isTrue hok =>
    obtain ⟨h1, h2, h3, h4⟩ := hok
    refine M.mac_All.calls A0 c0 l0 A1 c1 l1 r w hr0 hc0 hr1 hc1 ?_
    rw [← h]
    unfold M.mac_All.f M.mac_joined.f P.slices_Concat.f P.mac_Sum.f
    rw [if_pos (by omega), Option.bind_some, Option.bind_some, if_pos ⟨h1, h2, h3, h4⟩, Option.bind_some]
end P
namespace P
end P
end Go.Proofs.YtdklmafkcbjomaaDoor

/-! RowsMark -/
namespace Go.Proofs.YtdklmafkcbjomaaDoor
set_option linter.unusedVariables false
set_option linter.unusedSimpArgs false
open Go.RowKit Go.Proofs.YtdklmafkcbjomaaDoorW.PrintWords Go.Proofs.YtdklmafkcbjomaaDoorW.PrintLast Go.Proofs.YtdklmafkcbjomaaDoorW.PrintMore Iter
/-- The first k rows, as one. -/
def outTo (R : Nat → List Int) : Nat → List Int
  | 0 => []
  | k + 1 => outTo R k ++ R k
theorem outTo_length (R : Nat → List Int) (h : ∀ k, (R k).length = 32) : ∀ k, (outTo R k).length = 32 * k
  | 0 => rfl
  | k + 1 => by rw [outTo, List.length_append, outTo_length R h k, h]; omega
theorem outTo_prefix (R : Nat → List Int) (a : Nat) : ∀ d, ∃ l, outTo R (a + d) = outTo R a ++ l
  | 0 => ⟨[], by simp⟩
  | d + 1 => by
    obtain ⟨l, hl⟩ := outTo_prefix R a d
    exact ⟨l ++ R (a + d), by rw [← Nat.add_assoc, outTo, hl, List.append_assoc]⟩
/-- The first n bytes of rows of 32 bytes. -/
def firstOf (R : Nat → List Int) (n : Nat) : List Int := (outTo R ((n + 31) / 32)).take n
theorem firstOf_length (R : Nat → List Int) (h : ∀ k, (R k).length = 32) (n : Nat) : (firstOf R n).length = n := by
  unfold firstOf
  rw [List.length_take, outTo_length R h]
  omega
theorem firstOf_any (R : Nat → List Int) (h : ∀ k, (R k).length = 32) (n k : Nat) (hk : n ≤ 32 * k) : (outTo R k).take n = firstOf R n := by
  unfold firstOf
  obtain ⟨l, hl⟩ := outTo_prefix R ((n + 31) / 32) (k - (n + 31) / 32)
  rw [show (n + 31) / 32 + (k - (n + 31) / 32) = k by omega] at hl
  rw [hl, List.take_append_of_le_length (by rw [outTo_length R h]; omega)]
theorem C_kept {W W' : World} {A : Option Addr} {n : Nat} {xs : List Int} (h : Kd.C (Kd.int .u8) W A n xs) (hk : KeepsCells W W') : Kd.C (Kd.int .u8) W' A n xs := by
  refine ⟨h.1, h.2.1, fun hn => ?_⟩
  obtain ⟨ad, e, hc⟩ := h.2.2 hn
  refine ⟨ad, e, fun j p hj => ?_⟩
  obtain ⟨c, hs, hr, hcell⟩ := hc j p hj
  exact ⟨c, hs, hr, fun i u hu => hk.cell (hcell i u hu)⟩
/-- What an iterator hands over in a round: row R k, laid behind the mark. -/
def REl (R : Nat → List Int) (k m : Nat) (args : Array Value) (W : World) : Prop :=
  ∃ A c, args = #[.slice A (R k).length c] ∧ (R k).length ≤ c ∧ Kd.C (Kd.int .u8) W A (R k).length (R k) ∧ ∀ a, A = some a → m ≤ a.block
theorem REl_kept (R : Nat → List Int) (k m : Nat) (args : Array Value) (W W' : World) (h : REl R k m args W) (hk : KeepsCells W W') : REl R k m args W' := by
  obtain ⟨A, c, e, hc, hC, hm⟩ := h
  exact ⟨A, c, e, hc, C_kept hC hk, hm⟩
/-- What a body keeps of what it was handed. -/
def RKp (args : Array Value) (W W' : World) : Prop := ∀ A n c xs, args = #[.slice A n c] → Kd.C (Kd.int .u8) W A n xs → Kd.C (Kd.int .u8) W' A n xs
theorem RKp_kept (args : Array Value) (A A' C C' : World) (h1 : KeepsCells A A') (h2 : KeepsCells C C') (h : RKp args A' C) : RKp args A C' :=
  fun B n c xs e hC => C_kept (h B n c xs e (C_kept hC h1)) h2
end Go.Proofs.YtdklmafkcbjomaaDoor

/-! KdfA -/
namespace Go.Proofs.YtdklmafkcbjomaaDoor
set_option linter.unusedVariables false
set_option linter.unusedSimpArgs false
open Go.RowKit Go.Proofs.YtdklmafkcbjomaaDoorW.PrintWords Go.Proofs.YtdklmafkcbjomaaDoorW.PrintLast Go.Proofs.YtdklmafkcbjomaaDoorW.PrintMore Iter
theorem byteOk_outTo (R : Nat → List Int) (h : ∀ k, byteOk (R k) = true) : ∀ k, byteOk (outTo R k) = true
  | 0 => rfl
  | k + 1 => by rw [outTo, byteOk_append]; exact ⟨byteOk_outTo R h k, h k⟩
theorem byteOk_take (l : List Int) (n : Nat) (h : byteOk l = true) : byteOk (l.take n) = true := by
  rw [← List.take_append_drop n l, byteOk_append] at h
  exact h.1
theorem byteOk_firstOf (R : Nat → List Int) (h : ∀ k, byteOk (R k) = true) (n : Nat) : byteOk (firstOf R n) = true := byteOk_take _ _ (byteOk_outTo R h _)
/-- The blocks of Expand. -/
def kdfT (key info : List Int) : Nat → List Int
  | 0 => []
  | i + 1 => macSum key (kdfT key info i ++ info ++ [(((i + 1) % 256 : Nat) : Int)])
theorem kdfT_length (key info : List Int) (i : Nat) : (kdfT key info (i + 1)).length = 32 := by rw [kdfT, macSum_length]
theorem byteOk_kdfT (key info : List Int) : ∀ i, byteOk (kdfT key info i) = true
  | 0 => rfl
  | i + 1 => by rw [kdfT]; exact byteOk_macSum _ _
def expandOf (key info : List Int) (n : Nat) : List Int := firstOf (fun k => kdfT key info (k + 1)) n
end Go.Proofs.YtdklmafkcbjomaaDoor

/-! AppendIn -/
namespace Go.Proofs.YtdklmafkcbjomaaDoor
set_option linter.unusedVariables false
set_option linter.unusedSimpArgs false
open Go.RowKit Go.Proofs.YtdklmafkcbjomaaDoorW.PrintWords Go.Proofs.YtdklmafkcbjomaaDoorW.PrintLast Go.Proofs.YtdklmafkcbjomaaDoorW.PrintMore Iter
theorem bytes_info : ∃ i0, Tryd.prog.info? 5 = some i0 ∧ i0.zero = some (.int .u8 0) ∧ i0.size = 1 ∧ i0.bytes = 1 := by
  have h : (Tryd.prog.info? 5).map (fun i => (i.zero, i.size, i.bytes)) = some (some (.int .u8 0), 1, 1) := by kernel_rfl
  obtain ⟨i0, hi, hz⟩ := Option.map_eq_some_iff.1 h
  simp only [Prod.mk.injEq] at hz
  exact ⟨i0, hi, hz⟩
set_option maxRecDepth 100000 in
set_option maxHeartbeats 1000000 in
theorem wpListIn_append_bytes {F : Fence} {n : Nat} {ops : Array Oper} {rest : List Oper} {o : Oper} {a : Act} {Q : Exit → Act → World → Prop} (W : World) (hgd : o.guard = none) (s x : Operand)
    (ho : o.op = Op.call { callee := Callee.builtin Builtin.append, args := #[s, x], argTypes := #[22, 22] })
    (base : Nat) (v : Value) (xs ys : List Int) (ad : Addr) (c : Nat) (ok : Nat → Prop) (hs : a.eval s = v) (hx : a.eval x = .slice (some ad) ys.length c)
    (HO : Kd.R (Kd.int .u8) 5 W base ok v xs) (HC : Kd.C (Kd.int .u8) W (some ad) ys.length ys) (hfresh : ∀ k, W.heap.size ≤ k → ok k) (hbase : base ≤ W.heap.size) (hl : xs.length + ys.length ≤ 1000000)
    (h : ∀ v1 w1, Kd.R (Kd.int .u8) 5 w1 base ok v1 (xs ++ ys) → W.grownBy w1 v.ownBlock → wpListIn F n Tryd.prog ops Q rest (a.put o.dst v1) w1) :
    wpListIn F n Tryd.prog ops Q (o :: rest) a W := by
  obtain ⟨i0, hi, hz0, hz1, hz2⟩ := bytes_info
  have hcell : ∀ j u, (encs (Value.int .u8) ys)[j]? = some u → W.cell? (ad.add j) = some u := by
    intro j u hu
    have hj : j < ys.length := by
      have := (List.getElem?_eq_some_iff.1 hu).1
      simpa [encs] using this
    obtain ⟨ad', e, hc⟩ := HC.2.2 (by omega)
    injection e with e
    subst e
    obtain ⟨cs, hl1, hr, hc2⟩ := hc j _ (List.getElem?_eq_getElem hj)
    have hr : cs = [Value.int .u8 ys[j]] := hr
    have := hc2 0 (Value.int .u8 ys[j]) (by rw [hr]; rfl)
    rw [show j * (Kd.int IntKind.u8).sz + 0 = j from by show j * 1 + 0 = j; omega] at this
    rw [this]
    simp [encs, hj] at hu
    rw [hu]
  have hown := Kd.own_of_R HO
  obtain ⟨v', w', hrun, r1, r2, r3, r4⟩ := run_append_own_at (P := Tryd.prog) W base 22 o.type 5 i0 (.int .u8 0) 1 1 Tryd.underlying22 hi hz0 hz1 hz2 rfl (by omega) v xs.length _ hown ad ys.length c (encs (Value.int .u8) ys) (by simp [encs]) hcell
    (by intro u hu; simp [encs] at hu; obtain ⟨p, _, rfl⟩ := hu; rfl) (by simp only [maxLen]; omega) (by omega) hbase
  refine wpListIn_plain hgd fun K hK' => ?_
  unfold Oper.wpIn
  refine ⟨?_, ?_⟩
  · simp [Oper.about, ho, resolve, Target.leads, Sem.run_pure]
  · rw [Oper.semAt_plain F _ _ (by rw [ho]; intro c hc'; cases hc')]
    simp [execOp, ho, resolve, invoke, builtin, hs, hx, hrun, Result.andThen]
    refine hK' _ _ (h v' w' (Kd.R_of_own (enc := Value.int .u8) (h1 := fun _ => rfl) ?_ ?_) r2)
    · rw [List.length_append, show encs (Value.int .u8) (xs ++ ys) = encs (Value.int .u8) xs ++ encs (Value.int .u8) ys from by simp [encs]]
      exact r1
    · intro k hk
      rcases r4 with r4 | r4
      · exact HO.1 k (by rw [← r4]; exact hk)
      · rw [r4] at hk
        injection hk with hk
        exact hfresh k (by omega)
end Go.Proofs.YtdklmafkcbjomaaDoor

/-! KdfFirst -/
namespace Go.Proofs.YtdklmafkcbjomaaDoor
set_option linter.unusedVariables false
set_option linter.unusedSimpArgs false
open Go.RowKit Go.Proofs.YtdklmafkcbjomaaDoorW.PrintWords Go.Proofs.YtdklmafkcbjomaaDoorW.PrintLast Go.Proofs.YtdklmafkcbjomaaDoorW.PrintMore Iter
attribute [local go_sem] Oper.semAt_some
theorem R_kept {W W' : World} {base : Nat} {ok : Nat → Prop} {v : Value} {xs : List Int} (h : Kd.R (Kd.int .u8) 5 W base ok v xs) (hk : KeepsCells W W') : Kd.R (Kd.int .u8) 5 W' base ok v xs :=
  Kd.R_mono (Kd.R_move (Kd.R_bound h) (fun k hb => by obtain ⟨_, _, _, q, _, cells, hc⟩ := hb; exact (hk.same _ _ hc rfl).trans hc.symm)) (fun _ hb => hb.1)
theorem C_same {W W' : World} {ad : Addr} {n : Nat} {xs : List Int} (h : Kd.C (Kd.int .u8) W (some ad) n xs) (hs : W'.heap[ad.block]? = W.heap[ad.block]?) : Kd.C (Kd.int .u8) W' (some ad) n xs := by
  refine ⟨h.1, h.2.1, fun hn => ?_⟩
  obtain ⟨ad', e, hc⟩ := h.2.2 hn
  have e' : ad = ad' := Option.some.inj e
  subst e'
  refine ⟨ad, rfl, fun j p hj => ?_⟩
  obtain ⟨c, hl, hr, hcell⟩ := hc j p hj
  exact ⟨c, hl, hr, fun i u hu => (World.cell?_of_block (by unfold Addr.add; split <;> exact hs)).trans (hcell i u hu)⟩
theorem C_some {W : World} {A : Option Addr} {n : Nat} {xs : List Int} (h : Kd.C (Kd.int .u8) W A n xs) (hn : 0 < n) : ∃ ad, A = some ad ∧ ad.block < W.heap.size := by
  obtain ⟨ad, e, hc⟩ := h.2.2 hn
  have hx : 0 < xs.length := by rw [h.1]; exact hn
  obtain ⟨c, hl, hr, hcell⟩ := hc 0 _ (List.getElem?_eq_getElem hx)
  have hr : c = [Value.int .u8 xs[0]] := hr
  have h2 := World.block_lt_of_cell? W _ (hcell 0 (Value.int .u8 xs[0]) (by rw [hr]; rfl))
  refine ⟨ad, e, ?_⟩
  unfold Addr.add at h2
  split at h2 <;> exact h2
/-- Between rounds: the cell of out holds the rows so far, the cell of n its number. -/
def IFirst (R : Nat → List Int) (n g B : Nat) (k m : Nat) (W : World) : Prop :=
  ∃ v, Blk W g 3 #[.int .i64 (n : Int)] ∧ Blk W (g + 1) 22 #[v] ∧ Kd.R (Kd.int .u8) 5 W B (fun b => b < m ∧ g + 1 < b) v (outTo R k) ∧ 32 * k < n ∧ g + 1 < m
theorem IFirst_kept (R : Nat → List Int) (n g B : Nat) (k m : Nat) (W W' : World) (h : IFirst R n g B k m W) (hk : KeepsCells W W') : IFirst R n g B k m W' := by
  obtain ⟨v, h1, h2, h3, h4⟩ := h
  exact ⟨v, h1.kept hk, h2.kept hk, R_kept h3 hk, h4⟩
theorem IFirst_below (R : Nat → List Int) (n g B : Nat) (k m : Nat) (W W' : World) (h : IFirst R n g B k m W) (hb : Below m W W') : IFirst R n g B k m W' := by
  obtain ⟨v, h1, h2, h3, h4, h5⟩ := h
  exact ⟨v, h1.below hb (by omega), h2.below hb h5, Kd.R_step h3 (fun b hk _ => hb.block b hk.1), h4, h5⟩
theorem IFirst_mono (R : Nat → List Int) (n g B : Nat) (k m m' : Nat) (W : World) (h : IFirst R n g B k m W) (hm : m ≤ m') : IFirst R n g B k m' W := by
  obtain ⟨v, h1, h2, h3, h4, h5⟩ := h
  exact ⟨v, h1, h2, Kd.R_mono h3 (fun b hk => ⟨by omega, hk.2⟩), h4, by omega⟩
/-- Behind the loop. -/
def XFirst (R : Nat → List Int) (n g B : Nat) (c : Code) (_ : Nat) (W : World) : Prop :=
  c = .exit 0 ∧ ∃ v k, Blk W g 3 #[.int .i64 (n : Int)] ∧ Blk W (g + 1) 22 #[v] ∧ Kd.R (Kd.int .u8) 5 W B (fun _ => True) v (outTo R k) ∧ n ≤ 32 * k ∧ k < 260
theorem XFirst_own (R : Nat → List Int) (n g B : Nat) (c : Code) : CellOwn (XFirst R n g B c) := fun _ _ _ h hk => by
  obtain ⟨e, v, k, h1, h2, h3, h4⟩ := h
  exact ⟨e, v, k, h1.kept hk, h2.kept hk, R_kept h3 hk, h4⟩
theorem wpIn_scope {c : Code} {n : Nat} {P : Program} {Q : Exit → Act → World → Prop} {a : Act} {w : World} (h : c.wpIn Fence.wide n P (Exit.noGoto Q) a w) : (Code.scope c).wpIn Fence.wide n P Q a w :=
  wpIn_wide.2 (wp_scope_straight ((wpIn_wide (n := n)).1 h))
/-- A round's writes: the append, and the store of what it gives. -/
theorem first_round (R : Nat → List Int) (n g B k m : Nat) (W w1 : World) (v v1 : Value) (hB : B ≤ g) (c0 : Blk W g 3 #[.int .i64 (n : Int)]) (c1 : Blk W (g + 1) 22 #[v])
    (hv : Kd.R (Kd.int .u8) 5 W B (fun b => b < m ∧ g + 1 < b) v (outTo R k)) (hgm : g + 1 < m) (hmW : m ≤ W.heap.size)
    (hv1 : Kd.R (Kd.int .u8) 5 w1 B (fun b => g + 1 < b) v1 (outTo R (k + 1))) (hg : W.grownBy w1 v.ownBlock) (ad : Addr) (c : Nat) (had : m ≤ ad.block) (hadl : ad.block < W.heap.size) :
    KeepsOthers W (w1.setCell ⟨g + 1, 0, none⟩ v1) ∧ Blk (w1.setCell ⟨g + 1, 0, none⟩ v1) g 3 #[.int .i64 (n : Int)] ∧ Blk (w1.setCell ⟨g + 1, 0, none⟩ v1) (g + 1) 22 #[v1] ∧
      Kd.R (Kd.int .u8) 5 (w1.setCell ⟨g + 1, 0, none⟩ v1) B (fun b => b < (w1.setCell ⟨g + 1, 0, none⟩ v1).heap.size ∧ g + 1 < b) v1 (outTo R (k + 1)) ∧
      Below B W (w1.setCell ⟨g + 1, 0, none⟩ v1) ∧ RKp #[.slice (some ad) 32 c] W (w1.setCell ⟨g + 1, 0, none⟩ v1) ∧ g + 1 < (w1.setCell ⟨g + 1, 0, none⟩ v1).heap.size := by
  have hne : ∀ b, b ≤ g + 1 → some b ≠ v.ownBlock := fun b hb e => by have := (hv.1 b e.symm).2; omega
  have hsz : (w1.setCell ⟨g + 1, 0, none⟩ v1).heap.size = w1.heap.size := by simp [World.setCell]
  have c0' : Blk w1 g 3 #[.int .i64 (n : Int)] := (hg.block g c0.lt (hne g (by omega))).trans c0
  have c1' : Blk w1 (g + 1) 22 #[v] := (hg.block (g + 1) c1.lt (hne _ (Nat.le_refl _))).trans c1
  have hR2 := Kd.R_far (p := ⟨g + 1, 0, none⟩) hv1 (fun b hb => by have : g + 1 < b := hb; show b ≠ g + 1; omega) v1
  refine ⟨?_, c0'.far (by show g ≠ g + 1; omega) v1, c1'.set_ 0 v1, ?_, ?_, ?_, ?_⟩
  · refine (KeepsOthers.of_grownBy hg ?_).trans (KeepsOthers.setCell _ _ _)
    intro j o hj ho
    obtain ⟨_, _, _, q, _, cells, hc⟩ := (Kd.R_bound hv).1 j hj
    rw [hc] at ho
    injection ho with ho
    rw [← ho]
    rfl
  · exact Kd.R_mono (Kd.R_bound hR2) (fun b hb => ⟨hb.2.2.1, hb.1⟩)
  · refine ⟨hg.os, hg.tape, hg.output, by rw [hsz]; exact hg.size, fun b hb => ?_⟩
    rw [Below.heap_setCell w1 ⟨g + 1, 0, none⟩ v1 b (by show b ≠ g + 1; omega)]
    exact hg.block b (by omega) (hne b (by omega))
  · intro A n' c' xs e hC
    injection e with e
    injection e with e _
    injection e with e1 e2 e3
    subst e1
    refine C_same hC ?_
    rw [Below.heap_setCell w1 ⟨g + 1, 0, none⟩ v1 ad.block (by show ad.block ≠ g + 1; omega)]
    exact hg.block _ hadl (fun e => by have := (hv.1 _ e.symm).1; omega)
  · rw [hsz]
    exact Nat.lt_of_lt_of_le (by omega) hg.size
set_option maxRecDepth 100000 in
set_option maxHeartbeats 2000000 in
theorem first_in (R : Nat → List Int) (hR : ∀ k, (R k).length = 32) (n : Nat) (hn : n ≤ 8160) (gf : Nat) (lb : Array Value) (w : World)
    (eg : ∀ args w, (callFunc gf args).run Tryd.prog w = .ok (.enter gf args) w)
    (hseq : SeqMark Tryd.prog gf lb (REl R) 256 w.heap.size RKp w) :
    CallsIn Fence.wide 5 Tryd.prog 67 #[.int .i64 (n : Int), .func (.func gf) #[] lb] w fun e w' => ∃ v, e = .returned v ∧ Kd.R (Kd.int .u8) 5 w' w.heap.size (fun _ => True) v (firstOf R n) ∧ Below w.heap.size w w' := by
  refine callsIn_of_wp_marks Tryd.func67 rfl trivial ?_ rfl
  simp only [Tryd.ntmps67, List.size_toArray, List.length_cons, List.length_nil, Nat.reduceAdd, Nat.reduceSub, Array.replicate_succ, Array.replicate_zero, List.push_toArray, List.append_toArray, List.nil_append, List.cons_append]
  have hb0 := ((Below.refl w.heap.size w).alloc (Nat.le_refl _) (.cells #[.int .i64 (n : Int)] 3)).alloc (by simp) (.cells #[.slice none 0 0] 22)
  by_cases h0 : n = 0
  · subst h0
    gi_wp2_with (refine wpIn_scope ?_)
    exact ⟨_, results_tmp rfl _ _ _, _, rfl, Kd.R_nil _ _ _ _ _, hb0⟩
  · have h0' : ((n : Int) == 0) = false := by simp; omega
    have b0 := (Blk.new w 3 #[.int .i64 (n : Int)]).alloc (.cells #[.slice none 0 0] 22)
    have b1 := Blk.new (w.alloc (.cells #[.int .i64 (n : Int)] 3)) 22 #[.slice none 0 0]
    rw [World.size_alloc] at b1
    have hsz : ((w.alloc (.cells #[.int .i64 (n : Int)] 3)).alloc (.cells #[.slice none 0 0] 22)).heap.size = w.heap.size + 2 := by simp
    gi_wp2_with (first | (refine wpIn_scope ?_) | (refine wpIn_label ?_))
    generalize (w.alloc (.cells #[.int .i64 (n : Int)] 3)).alloc (.cells #[.slice none 0 0] 22) = W0 at b1 b0 hb0 hsz ⊢
    refine wpIn_range_mark (n := 3) (gf := gf) (lb := lb) rfl eg hseq hb0 (by omega) (fun k m args W h => by obtain ⟨A, c, e, _⟩ := h; rw [e]; rfl) (REl_kept R) RKp_kept
      (IFirst R n w.heap.size w.heap.size) (XFirst R n w.heap.size w.heap.size) (IFirst_kept R n _ _) (IFirst_below R n _ _) (IFirst_mono R n _ _) (XFirst_own R n _ _)
      ⟨_, b0, b1, Kd.R_nil _ _ _ _ _, by omega, by omega⟩
      (fun args => { tmps := #[.int .i64 (n : Int), .func (.func gf) #[] lb, .pointer (some ⟨w.heap.size, 0, none⟩), undef, .slice none 0 0, .pointer (some ⟨w.heap.size + 1, 0, none⟩), args.getD 0 undef, .int .i64 (n : Int), .bool false, undef, .func (.func gf) #[] lb, args.getD 0 undef, undef, undef, undef, undef, undef, undef, undef, undef, undef, undef], defers := [] })
      ?assign ?body ?stop
    case assign =>
      rintro l k m args W K ⟨A, c, rfl, _⟩ hK
      rw [hR k] at hK
      gi_wp2
      exact hK
    case body =>
      rintro l k m args W hk ⟨v, c0, c1, hv, hkn, hgm⟩ hmW ⟨A, c, rfl, hlc, hC, hA⟩ hbW
      rw [hR k] at *
      obtain ⟨ad, rfl, had⟩ := C_some hC (by omega)
      have hadm := hA ad rfl
      show Code.wpIn _ _ _ _ _ { tmps := #[.int .i64 (n : Int), .func (.func gf) #[] lb, .pointer (some ⟨w.heap.size, 0, none⟩), undef, .slice none 0 0, .pointer (some ⟨w.heap.size + 1, 0, none⟩), .slice (some ad) 32 c, .int .i64 (n : Int), .bool false, undef, .func (.func gf) #[] lb, .slice (some ad) 32 c, undef, undef, undef, undef, undef, undef, undef, undef, undef, undef], defers := [] } W
      have hcell := c1.cell 0
      have hcell : W.cell? ⟨w.heap.size + 1, 0, none⟩ = some v := hcell
      gi_wp2_with (first
        | (refine wpListIn_append_bytes W rfl (.tmp 12) (.tmp 13) rfl w.heap.size v (outTo R k) (R k) ad c (fun b => w.heap.size + 1 < b) rfl (by rw [hR k]; rfl) (Kd.R_mono hv (fun b hb => hb.2)) (by rw [hR k]; exact hC) (fun b hb => by omega) (by omega) (by rw [outTo_length R hR, hR k]; omega) ?_; intro v1 w1 hv1 hg1; (have hv1 : Kd.R (Kd.int .u8) 5 w1 w.heap.size (fun b => w.heap.size + 1 < b) v1 (outTo R (k + 1)) := hv1); obtain ⟨A1, cc1, hve, hl1, hC1⟩ := Kd.R_reads hv1; rw [outTo_length R hR] at hve; subst hve; (have H := Lib.hid (first_round R n w.heap.size w.heap.size k m W w1 v _ (Nat.le_refl _) c0 c1 hv hgm hmW hv1 hg1 ad c hadm had)); (have q1 : w1.cell? ⟨w.heap.size + 1, 0, none⟩ = some v := (World.cell?_of_block (hg1.block (w.heap.size + 1) c1.lt (fun e => by have := (hv.1 _ e.symm).2; omega))).trans hcell); (have c1w : Blk w1 (w.heap.size + 1) 22 #[v] := (hg1.block (w.heap.size + 1) c1.lt (fun e => by have := (hv.1 _ e.symm).2; omega)).trans c1); (have q2 : w1.frozen? ⟨w.heap.size + 1, 0, none⟩ = false := c1w.frozen 0); (have c0w : Blk w1 w.heap.size 3 #[.int .i64 (n : Int)] := (hg1.block w.heap.size c0.lt (fun e => by have := (hv.1 _ e.symm).2; omega)).trans c0); (have q3 : w1.cell? ⟨w.heap.size, 0, none⟩ = some (.int .i64 (n : Int)) := c0w.cell 0); clear hl1 hC1 hv1))
      · obtain ⟨r1, r2, r3, r4, r5, r6, r7⟩ := H.out
        exact ⟨r1, ⟨rfl, _, k + 1, r2, r3, Kd.R_mono r4 (fun _ _ => trivial), by omega, by omega⟩, r5⟩
      · obtain ⟨r1, r2, r3, r4, r5, r6, r7⟩ := H.out
        exact ⟨r1, by omega, ⟨_, r2, r3, r4, by omega, r7⟩, r5, r6⟩
    case stop =>
      rintro D c k W ⟨rfl, v, k', c0, c1, hv, hkn, hk'⟩ hbW hD hDB
      have hlen := outTo_length R hR k'
      have htk := Kd.R_reads hv
      obtain ⟨A, cc, rfl, hlc, hC⟩ := htk
      have hres := Kd.R_take (m := n) hv (by omega)
      rw [firstOf_any R hR n k' hkn] at hres
      rw [hlen] at hlc hv
      have hcell : W.cell? ⟨w.heap.size + 1, 0, none⟩ = some (.slice A (outTo R k').length cc) := c1.cell 0
      have hcelln : W.cell? ⟨w.heap.size, 0, none⟩ = some (.int .i64 (n : Int)) := c0.cell 0
      have hcc : (n : Int) ≤ (cc : Int) := by omega
      have H := Lib.hid (And.intro hres hC)
      clear hres hC hv
      gi_wp2_with fail
      show bodyPostM Fence.wide 5 _ _ _ .ret _ _
      refine ⟨by simp, .inl ⟨_, _, rfl, run_takeDeferred hD, ?_⟩⟩
      exact ⟨_, results_tmp rfl _ _ _, _, rfl, R_kept H.out.1 (KeepsCells.putObj _ hD rfl), hbW.trans (below_putObj _ (by omega))⟩
end Go.Proofs.YtdklmafkcbjomaaDoor

/-! KdfSeq -/
namespace Go.Proofs.YtdklmafkcbjomaaDoor
set_option linter.unusedVariables false
set_option linter.unusedSimpArgs false
open Go.RowKit Go.Proofs.YtdklmafkcbjomaaDoorW.PrintWords Go.Proofs.YtdklmafkcbjomaaDoorW.PrintLast Go.Proofs.YtdklmafkcbjomaaDoorW.PrintMore Iter
attribute [local go_sem] Oper.semAt_some
theorem c_three (W : World) (T : Nat) (A B D : Option Addr) (c d e : Nat) (x y z : List Int) (hx : Kd.C (Kd.int .u8) W A x.length x) (hcx : x.length ≤ c) (hy : Kd.C (Kd.int .u8) W B y.length y) (hcy : y.length ≤ d)
    (hz : Kd.C (Kd.int .u8) W D z.length z) (hcz : z.length ≤ e) :
    Kd.C (Kd.slice 5 (Kd.int .u8)) (W.alloc (.cells #[.slice A x.length c, .slice B y.length d, .slice D z.length e] T)) (some ⟨W.heap.size, 0, none⟩) 3 [x, y, z] := by
  refine ⟨rfl, by omega, fun _ => ⟨_, rfl, fun j p hj => ?_⟩⟩
  have hcell : ∀ j, (W.alloc (.cells #[.slice A x.length c, .slice B y.length d, .slice D z.length e] T)).cell? ((⟨W.heap.size, 0, none⟩ : Addr).add j) = (#[Value.slice A x.length c, .slice B y.length d, .slice D z.length e] : Array Value)[j]? := fun j => by
    rw [add_plain]
    exact cell_of_row _ _ _ _ _ _ (heap_alloc_new W _)
  rcases j with _ | _ | _ | j
  · injection hj with hj
    subst hj
    refine ⟨[.slice A x.length c], rfl, ⟨A, c, rfl, hcx, Kd.C_alloc hx _⟩, fun i u hu => ?_⟩
    rcases i with _ | i
    · exact (hcell 0).trans hu
    · cases hu
  · injection hj with hj
    subst hj
    refine ⟨[.slice B y.length d], rfl, ⟨B, d, rfl, hcy, Kd.C_alloc hy _⟩, fun i u hu => ?_⟩
    rcases i with _ | i
    · exact (hcell 1).trans hu
    · cases hu
  · injection hj with hj
    subst hj
    refine ⟨[.slice D z.length e], rfl, ⟨D, e, rfl, hcz, Kd.C_alloc hz _⟩, fun i u hu => ?_⟩
    rcases i with _ | i
    · exact (hcell 2).trans hu
    · cases hu
  · cases hj
theorem kdfT_step (key info : List Int) (k : Nat) (hk0 : byteOk key = true) (hi0 : byteOk info = true) (lk : key.length ≤ 900000) (li : info.length ≤ 700000) :
    P.mac_All.f key [kdfT key info k, info, [(((k + 1) % 256 : Nat) : Int)]] = some (kdfT key info (k + 1)) := by
  have hl : (kdfT key info k).length ≤ 32 := by
    cases k with
    | zero => simp [kdfT]
    | succ k => rw [kdfT_length]; omega
  have e : [kdfT key info k, info, [(((k + 1) % 256 : Nat) : Int)]].flatten = kdfT key info k ++ info ++ [(((k + 1) % 256 : Nat) : Int)] := by simp
  have hb : byteOk (kdfT key info k ++ info ++ [(((k + 1) % 256 : Nat) : Int)]) = true := by
    rw [byteOk_append, byteOk_append]
    refine ⟨⟨byteOk_kdfT _ _ _, hi0⟩, ?_⟩
    simp [byteOk]
    omega
  unfold P.mac_All.f
  rw [e, if_pos ⟨hk0, hb, lk, by simp; omega⟩, kdfT]
set_option maxRecDepth 100000 in
set_option maxHeartbeats 2000000 in
theorem expand_seq (key info : List Int) (gk gi : Nat) (Ak Ai : Option Addr) (ck ci : Nat) (w0 : World) (hk0 : byteOk key = true) (hi0 : byteOk info = true) (lk : key.length ≤ 900000) (li : info.length ≤ 700000)
    (bk : Blk w0 gk 22 #[.slice Ak key.length ck]) (bi : Blk w0 gi 22 #[.slice Ai info.length ci]) (hck : key.length ≤ ck) (hci : info.length ≤ ci)
    (rk : Kd.C (Kd.int .u8) w0 Ak key.length key) (ri : Kd.C (Kd.int .u8) w0 Ai info.length info) :
    SeqMark Tryd.prog 68 #[.pointer (some ⟨gk, 0, none⟩), .pointer (some ⟨gi, 0, none⟩)] (REl fun k => kdfT key info (k + 1)) 256 w0.heap.size RKp w0 := by
  intro n l J Jx W hW hJ hJx hY h0
  have HF := Lib.hid (And.intro (kdfT_step key info · hk0 hi0 lk li) (And.intro hck (And.intro hci (And.intro rk ri))))
  have HJ := Lib.hid (And.intro hJ hY)
  clear hk0 hi0 lk li hck hci rk ri hJ hY
  refine callsIn_of_wp Tryd.func68 rfl trivial ?_ rfl
  simp only [Tryd.ntmps68, List.size_toArray, List.length_cons, List.length_nil, Nat.reduceAdd, Nat.reduceSub, Array.replicate_succ, Array.replicate_zero, List.push_toArray, List.append_toArray, List.nil_append, List.cons_append]
  gi_wp2
  gi_loopw [4, 5] (fun t i wr => ∃ (k m : Nat) (A : Option Addr) (c : Nat), k < 256 ∧ i = .int .i64 ((k + 1 : Nat) : Int) ∧ t = .slice A (kdfT key info k).length c ∧ (kdfT key info k).length ≤ c ∧ Aside0 (Kd.C (Kd.int .u8) wr A (kdfT key info k).length (kdfT key info k)) ∧ m ≤ wr.heap.size ∧ Aside0 (J k m wr) ∧ Below w0.heap.size w0 wr) (fun _ i _ => 300 - (intOf i).toNat)
  case atStart => exact ⟨0, W.heap.size, none, 0, by omega, rfl, rfl, Nat.le_refl _, ⟨Kd.C_nil _ _⟩, Nat.le_refl _, ⟨h0⟩, hW⟩
  case round =>
    obtain ⟨k, m, A, c, hk, rfl, rfl, hlc, hC, hm, hj, hb⟩ := hrel
    have hT := HF.out.1 k
    have e1 : ((k : Int) + 1) % 256 = (((k + 1) % 256 : Nat) : Int) := by omega
    generalize kdfT key info k = T at *
    have ck1 : wr.cell? ⟨gk, 0, none⟩ = some (.slice Ak key.length ck) := (bk.below hb bk.lt).cell 0
    have ci1 : wr.cell? ⟨gi, 0, none⟩ = some (.slice Ai info.length ci) := (bi.below hb bi.lt).cell 0
    have HT := Lib.hid hT
    clear hT
    have HE := Lib.hid e1
    clear e1
    gi_wp2_with fail
    rw [HE.out]
    generalize (((k + 1) % 256 : Nat) : Int) = x at *
    obtain ⟨hck, hci, rk, ri⟩ := HF.out.2
    have hs1 : (wr.alloc (Obj.cells #[Value.int IntKind.u8 x] 5)).heap.size = wr.heap.size + 1 := by simp
    have cx : Kd.C (Kd.int .u8) (wr.alloc (Obj.cells #[Value.int IntKind.u8 x] 5)) (some ⟨wr.heap.size, 0, none⟩) 1 [x] := c_marked wr 5 (0, 0) [x] (by simp)
    have cW := c_three (wr.alloc (Obj.cells #[Value.int IntKind.u8 x] 5)) 22 A Ai (some ⟨wr.heap.size, 0, none⟩) c ci 1 T info [x] (Kd.C_alloc hC.out _) hlc (Kd.C_alloc (Kd.C_below ri hb) _) hci cx (Nat.le_refl _)
    rw [hs1] at cW
    have kW : Kd.C (Kd.int .u8) ((wr.alloc (Obj.cells #[Value.int IntKind.u8 x] 5)).alloc (Obj.cells #[Value.slice A T.length c, Value.slice Ai info.length ci, Value.slice (some ⟨wr.heap.size, 0, none⟩) 1 1] 22)) Ak key.length key := Kd.C_alloc (Kd.C_alloc (Kd.C_below rk hb) _) _
    have bm := ((Below.refl m wr).alloc hm (Obj.cells #[Value.int IntKind.u8 x] 5)).alloc (by rw [hs1]; omega) (Obj.cells #[Value.slice A T.length c, Value.slice Ai info.length ci, Value.slice (some ⟨wr.heap.size, 0, none⟩) 1 1] 22)
    have bw := (hb.alloc hb.size (Obj.cells #[Value.int IntKind.u8 x] 5)).alloc (by rw [hs1]; have := hb.size; omega) (Obj.cells #[Value.slice A T.length c, Value.slice Ai info.length ci, Value.slice (some ⟨wr.heap.size, 0, none⟩) 1 1] 22)
    have hs2 : ((wr.alloc (Obj.cells #[Value.int IntKind.u8 x] 5)).alloc (Obj.cells #[Value.slice A T.length c, Value.slice Ai info.length ci, Value.slice (some ⟨wr.heap.size, 0, none⟩) 1 1] 22)).heap.size = wr.heap.size + 2 := by simp
    have cW : Kd.C (Kd.slice 5 (Kd.int .u8)) ((wr.alloc (Obj.cells #[Value.int IntKind.u8 x] 5)).alloc (Obj.cells #[Value.slice A T.length c, Value.slice Ai info.length ci, Value.slice (some ⟨wr.heap.size, 0, none⟩) 1 1] 22)) (some ⟨wr.heap.size + 1, 0, none⟩) 3 [T, info, [x]] := cW
    generalize (wr.alloc (Obj.cells #[Value.int IntKind.u8 x] 5)).alloc (Obj.cells #[Value.slice A T.length c, Value.slice Ai info.length ci, Value.slice (some ⟨wr.heap.size, 0, none⟩) 1 1] 22) = W2 at *
    refine ⟨trivial, (callsIn_wide.2 (P.mac_All.calls Ak ck key (some ⟨wr.heap.size + 1, 0, none⟩) 3 [T, info, [x]] _ W2 kW hck cW (Nat.le_refl _) HT.out)).mono ?_⟩
    rintro e W3 ⟨v3, rfl, hR3, hb3⟩
    have hT32 := kdfT_length key info k
    obtain ⟨g3, c3, rfl, hg3, -⟩ := Kd.R_form hR3 (by rw [hT32]; omega)
    obtain ⟨A3, c3', e3, hl3, hC3⟩ := Kd.R_reads hR3
    injection e3 with ea _ ec
    subst ea
    subst ec
    have hj3 := HJ.out.1 k m wr W3 hj.out (bm.trans (hb3.mono (by omega)))
    have hbW3 := bw.trans (hb3.mono (by have := hb.size; omega))
    have hm3 : m ≤ W3.heap.size := by have := hb3.size; omega
    have hEl : REl (fun k => kdfT key info (k + 1)) k m #[.slice (some ⟨g3, 0, none⟩) (kdfT key info (k + 1)).length c3] W3 := ⟨_, _, rfl, hl3, hC3, fun a ha => by cases ha; show m ≤ g3; omega⟩
    obtain ⟨fn, tmps, assign, body, hy, hRnd⟩ := HJ.out.2 k m _ W3 hk hj3 hm3 hEl hbW3
    obtain ⟨T3, hT3⟩ : ∃ T3, kdfT key info (k + 1) = T3 := ⟨_, rfl⟩
    have hd : (fun k => kdfT key info (k + 1)) k = T3 := hT3
    rw [hT3] at hl3 hC3 hy hRnd hT32 ⊢
    have HT3 := Lib.hid (And.intro hT3 hT32)
    clear hT3 hd hT32
    clear cW kW bm bw hs1 hs2 cx hR3 hb3 ck1 ci1 hEl hj3 hC hj HT HE
    have HC3 := Lib.hid (And.intro hC3 (And.intro hl3 hbW3))
    clear hC3 hl3 hbW3 hck hci rk ri hb hlc
    gi_wp2
    refine hRnd.mono ?_
    rintro e W' (⟨rfl, hk1, hj', hb', hkp⟩ | ⟨rfl, hx⟩)
    · gi_wp2
      trace_state
      go_roundw
      case rel => exact ⟨k + 1, W'.heap.size, some ⟨g3, 0, none⟩, c3, by omega, by go_num, by rw [HT3.out.1], by rw [HT3.out.1]; exact HC3.out.2.1, by rw [HT3.out.1]; exact ⟨hkp _ _ _ _ rfl HC3.out.1⟩, Nat.le_refl _, ⟨hj'⟩, HC3.out.2.2.trans hb'⟩
      case measure => simp [intOf]; omega
    · gi_wp2
      refine bodyPost_ret (results_none rfl _ _ _) rfl ?_
      exact ⟨⟨_, rfl⟩, k, hx⟩
end Go.Proofs.YtdklmafkcbjomaaDoor

/-! KdfExpand -/
namespace Go.Proofs.YtdklmafkcbjomaaDoor
set_option linter.unusedVariables false
set_option linter.unusedSimpArgs false
open Go.RowKit Go.Proofs.YtdklmafkcbjomaaDoorW.PrintWords Go.Proofs.YtdklmafkcbjomaaDoorW.PrintLast Go.Proofs.YtdklmafkcbjomaaDoorW.PrintMore Iter
theorem expand_enters (args : Array Value) (w : World) : (callFunc 68 args).run Tryd.prog w = .ok (.enter 68 args) w := enters_of Tryd.func68 (by kernel_rfl) rfl args w
theorem expandOf_length (key info : List Int) (n : Nat) : (expandOf key info n).length = n := firstOf_length _ (fun k => kdfT_length key info k) n
theorem byteOk_expandOf (key info : List Int) (n : Nat) : byteOk (expandOf key info n) = true := byteOk_firstOf _ (fun k => byteOk_kdfT key info (k + 1)) n
namespace P
def kdf_Expand.f (key info : List Int) (n : Int) : Option (List Int × Int) :=
  if n < 0 then some ([], 1) else if 8160 < n then some ([], 1) else if byteOk key = true ∧ byteOk info = true ∧ key.length ≤ 900000 ∧ info.length ≤ 700000 then some (expandOf key info n.toNat, 0) else none
set_option maxRecDepth 100000 in
set_option maxHeartbeats 2000000 in
theorem kdf_Expand.calls (A0 : Option Addr) (c0 : Nat) (l0 : List Int) (A1 : Option Addr) (c1 : Nat) (l1 : List Int) (a2 : Int) (r1 : List Int) (r2 : Int) (w : World) (hr0 : Kd.C (Kd.int .u8) w A0 l0.length l0) (hc0 : l0.length ≤ c0) (hr1 : Kd.C (Kd.int .u8) w A1 l1.length l1) (hc1 : l1.length ≤ c1) (h : kdf_Expand.f l0 l1 a2 = some (r1, r2)) :
    Calls Tryd.prog 58 #[.slice A0 l0.length c0, .slice A1 l1.length c1, .int .i64 a2] w fun e w' => ∃ v0_ : Value, e = .returned (.tuple #[v0_, .int .i64 r2]) ∧ Kd.R (Kd.int .u8) 5 w' w.heap.size (fun _ => True) v0_ r1 ∧ Below w.heap.size w w' := by
  have hb0 := ((Below.refl w.heap.size w).alloc (Nat.le_refl _) (.cells #[.slice A0 l0.length c0] 22)).alloc (by simp) (.cells #[.slice A1 l1.length c1] 22)
  unfold kdf_Expand.f at h
  by_cases h0 : a2 < 0
  · rw [if_pos h0] at h
    injection h with h
    injection h with h1 h2
    subst h1 h2
    have d0 : decide (a2 < 0) = true := by simp [h0]
    go_enter Tryd.func58, Tryd.ntmps58
    go_wp2
    go_ret2
    exact ⟨_, rfl, Kd.R_nil _ _ _ _ _, hb0⟩
  rw [if_neg h0] at h
  have d0 : decide (a2 < 0) = false := by simp; omega
  by_cases h1 : 8160 < a2
  · rw [if_pos h1] at h
    injection h with h
    injection h with h1' h2
    subst h1' h2
    have d1 : decide (8160 < a2) = true := by simp [h1]
    go_enter Tryd.func58, Tryd.ntmps58
    go_wp2
    go_ret2
    exact ⟨_, rfl, Kd.R_nil _ _ _ _ _, hb0⟩
  rw [if_neg h1] at h
  have d1 : decide (8160 < a2) = false := by simp; omega
  split at h
  case isFalse => cases h
  case isTrue hok =>
  injection h with h
  injection h with h1' h2
  subst h1' h2
  obtain ⟨n, rfl⟩ := Int.eq_ofNat_of_zero_le (show 0 ≤ a2 by omega)
  rw [Int.toNat_natCast]
  obtain ⟨o1, o2, o3, o4⟩ := hok
  have b0 := (Blk.new w 22 #[.slice A0 l0.length c0]).alloc (.cells #[.slice A1 l1.length c1] 22)
  have b1 := Blk.new (w.alloc (.cells #[.slice A0 l0.length c0] 22)) 22 #[.slice A1 l1.length c1]
  rw [World.size_alloc] at b1
  have k0 : Kd.C (Kd.int .u8) ((w.alloc (.cells #[.slice A0 l0.length c0] 22)).alloc (.cells #[.slice A1 l1.length c1] 22)) A0 l0.length l0 := Kd.C_alloc (Kd.C_alloc hr0 _) _
  have k1 : Kd.C (Kd.int .u8) ((w.alloc (.cells #[.slice A0 l0.length c0] 22)).alloc (.cells #[.slice A1 l1.length c1] 22)) A1 l1.length l1 := Kd.C_alloc (Kd.C_alloc hr1 _) _
  have hseq := expand_seq l0 l1 w.heap.size (w.heap.size + 1) A0 A1 c0 c1 ((w.alloc (.cells #[.slice A0 l0.length c0] 22)).alloc (.cells #[.slice A1 l1.length c1] 22)) o1 o2 o3 o4 b0 b1 hc0 hc1 k0 k1
  have hcall := callsIn_wide.1 (first_in (fun k => kdfT l0 l1 (k + 1)) (fun k => kdfT_length l0 l1 k) n (by omega) 68 #[.pointer (some ⟨w.heap.size, 0, none⟩), .pointer (some ⟨w.heap.size + 1, 0, none⟩)] _ expand_enters hseq)
  have HC := Lib.hid (And.intro hcall hb0)
  clear hcall hseq hb0 b0 b1 k0 k1 o1 o2 o3 o4 hr0 hr1 hc0 hc1
  go_enter Tryd.func58, Tryd.ntmps58
  go_wp2_with fail
  refine HC.out.1.mono ?_
  rintro e W1 ⟨v, rfl, hR, hb⟩
  go_wp2_with fail
  go_ret2
  exact ⟨_, rfl, Kd.R_lower hR (by simp; omega), HC.out.2.trans (hb.mono (by simp; omega))⟩
end P
end Go.Proofs.YtdklmafkcbjomaaDoor

/-! BytW -/
namespace Go.Proofs.YtdklmafkcbjomaaDoor
set_option linter.unusedVariables false
set_option linter.unusedSimpArgs false
open Go.RowKit
/-- Byte i of w of a number, the greatest first. -/
def numAt (n w i : Nat) : Int := ((n / 256 ^ (w - 1 - i) % 256 : Nat) : Int)
def numB (n w : Nat) : List Int := (List.range w).map (numAt n w)
theorem numB_length (n w : Nat) : (numB n w).length = w := by simp [numB]
theorem byteOk_numB (n w : Nat) : byteOk (numB n w) = true := by
  rw [byteOk_iff]
  intro x hx
  obtain ⟨i, _, rfl⟩ := List.mem_map.1 hx
  unfold numAt
  omega
/-- Is it a number of so many bytes? -/
def numOk (n w : Int) : Prop := 1 ≤ w ∧ w ≤ 7 ∧ 0 ≤ n ∧ n < 256 ^ w.toNat
instance (n w : Int) : Decidable (numOk n w) := by unfold numOk; infer_instance
def numOf (n w : Int) : List Int × Int := if numOk n w then (numB n.toNat w.toNat, 0) else ([], 1)
theorem numOf_bad (n w : Int) (h : ¬ numOk n w) : numOf n w = ([], 1) := if_neg h
/-- A length's bytes. -/
def lenB (n : Nat) : List Int := if n < 64 then numB n 1 else if n < 16384 then numB (n + 16384) 2 else numB (n + 2147483648) 4
theorem byteOk_lenB (n : Nat) : byteOk (lenB n) = true := by
  unfold lenB
  split
  · exact byteOk_numB _ _
  · split <;> exact byteOk_numB _ _
theorem lenB_length (n : Nat) : (lenB n).length ≤ 4 := by
  unfold lenB
  split
  · rw [numB_length]; omega
  · split <;> rw [numB_length] <;> omega
def lenOf (n : Int) : List Int × Int := if 0 ≤ n ∧ n ≤ 1073741823 then (lenB n.toNat, 0) else ([], 1)
/-- A row's bytes. -/
def rowB (l : List Int) : List Int := lenB l.length ++ l
def rowOf (l : List Int) : List Int × Int := if l.length ≤ 1073741823 then (rowB l, 0) else ([], 1)
theorem rowOf_small (l : List Int) (h : l.length ≤ 1073741823) : rowOf l = (rowB l, 0) := if_pos h
theorem pow256 (m : Nat) : ((256 ^ m : Nat) : Int) = (256 : Int) ^ m := by simp
theorem numOf_small (n : Nat) (w : Nat) (h1 : 1 ≤ w) (h2 : w ≤ 7) (h : n < 256 ^ w) : numOf n w = (numB n w, 0) := by
  unfold numOf
  rw [if_pos]
  · simp
  · refine ⟨by omega, by omega, by omega, ?_⟩
    rw [Int.toNat_natCast, ← pow256]
    exact Int.ofNat_lt.2 h
theorem byteOk_rowB (l : List Int) (h : byteOk l = true) : byteOk (rowB l) = true := (byteOk_append _ _).2 ⟨byteOk_lenB _, h⟩
theorem rowB_length (l : List Int) : (rowB l).length ≤ l.length + 4 := by
  unfold rowB
  rw [List.length_append]
  have := lenB_length l.length
  omega
end Go.Proofs.YtdklmafkcbjomaaDoor

/-! BytC -/
namespace Go.Proofs.YtdklmafkcbjomaaDoor
set_option linter.unusedVariables false
set_option linter.unusedSimpArgs false
open Go.RowKit Go.Proofs.YtdklmafkcbjomaaDoorW.PrintWords Go.Proofs.YtdklmafkcbjomaaDoorW.PrintLast Go.Proofs.YtdklmafkcbjomaaDoorW.PrintMore
theorem shr_nat (n m : Nat) (h : m ≤ 7) : shr .i64 (n : Int) (8 * (m : Int)) = ((n / 256 ^ m : Nat) : Int) := by
  unfold shr
  rw [Nat.min_eq_left (by simp [IntKind.bits]; omega), show (8 * (m : Int)).toNat = 8 * m by omega]
  rw [show (2 : Int) ^ (8 * m) = ((256 ^ m : Nat) : Int) by rw [Int.pow_mul]; simp]
  exact (Int.natCast_ediv _ _).symm
/-- The bytes so far. -/
def numUpto (n w i : Nat) : List Int := (List.range w).map fun j => if j < i then numAt n w j else 0
theorem numUpto_length (n w i : Nat) : (numUpto n w i).length = w := by simp [numUpto]
theorem numUpto_all (n w : Nat) : numUpto n w w = numB n w := by
  unfold numUpto numB
  apply List.map_congr_left
  intro j hj
  rw [if_pos (List.mem_range.1 hj)]
theorem numUpto_zero (n w : Nat) : numUpto n w 0 = List.replicate w 0 := by
  apply List.ext_getElem
  · simp [numUpto]
  · intro j h1 h2
    simp [numUpto]
theorem numUpto_set (n w i : Nat) (h : i < w) : (numUpto n w i).set i (numAt n w i) = numUpto n w (i + 1) := by
  apply List.ext_getElem
  · simp [numUpto]
  · intro j h1 h2
    rw [List.getElem_set]
    by_cases hi : i = j
    · subst hi
      simp [numUpto]
    · rw [if_neg hi]
      by_cases hlt : j < i
      · simp [numUpto, hlt, show j < i + 1 by omega]
      · simp [numUpto, hlt, show ¬ j < i + 1 by omega]
theorem byt_num_l0 (n w : Nat) (hw : w ≤ 7) : ∀ (d k i : Nat), i + d = w → d < k → B.byt_Num.l0 k (n : Int) (w : Int) (numUpto n w i) (w : Int) (i : Int) = some (numB n w, 0)
  | 0, k, i, hi, hk => by
    obtain ⟨k, rfl⟩ : ∃ m, k = m + 1 := ⟨k - 1, by omega⟩
    rw [B.byt_Num.l0, if_neg (by omega), show i = w by omega, numUpto_all]
  | d + 1, k, i, hi, hk => by
    obtain ⟨k, rfl⟩ : ∃ m, k = m + 1 := ⟨k - 1, by omega⟩
    have e1 : wrap64 (8 * wrap64 (wrap64 ((w : Int) - 1) - (i : Int))) = 8 * ((w - 1 - i : Nat) : Int) := by unfold wrap64; omega
    have e2 : wrap64 ((i : Int) + 1) = ((i + 1 : Nat) : Int) := by unfold wrap64; omega
    rw [B.byt_Num.l0, if_pos (by omega), e1, if_pos (by omega), if_pos (by omega), if_pos (by rw [numUpto_length]; omega), shr_nat n _ (by omega), e2, Int.toNat_natCast,
      show ((n / 256 ^ (w - 1 - i) : Nat) : Int) % 256 = numAt n w i by unfold numAt; omega, numUpto_set n w i (by omega)]
    exact byt_num_l0 n w hw d k (i + 1) (by omega) (by omega)
theorem byt_num_eq (n w : Int) (k : Nat) (hk : 9 < k) : B.byt_Num.f k n w = some (numOf n w) := by
  obtain ⟨k, rfl⟩ : ∃ m, k = m + 1 := ⟨k - 1, by omega⟩
  have hbad : ∀ x1, B.byt_Num.j0 (k + 1) n x1 true = some ([], 1) := fun x1 => by rw [B.byt_Num.j0, if_pos rfl]
  unfold B.byt_Num.f
  by_cases h1 : w < 1
  · rw [if_pos h1, hbad, numOf_bad _ _ (fun h => by have := h.1; omega)]
  by_cases h2 : w > 7
  · rw [if_neg h1, if_pos h2, hbad, numOf_bad _ _ (fun h => by have := h.2.1; omega)]
  by_cases h3 : n < 0
  · rw [if_neg h1, if_neg h2, if_pos h3, hbad, numOf_bad _ _ (fun h => by have := h.2.2.1; omega)]
  obtain ⟨N, rfl⟩ := Int.eq_ofNat_of_zero_le (show 0 ≤ n by omega)
  obtain ⟨V, rfl⟩ := Int.eq_ofNat_of_zero_le (show 0 ≤ w by omega)
  have e : wrap64 (8 * (V : Int)) = 8 * (V : Int) := by unfold wrap64; omega
  rw [if_neg h1, if_neg h2, if_neg h3, e, if_pos (by omega), shr_nat N V (by omega)]
  by_cases h4 : N < 256 ^ V
  · rw [Nat.div_eq_of_lt h4]
    rw [numOf_small N V (by omega) (by omega) h4, B.byt_Num.j0, if_neg (by simp), if_pos (by omega), if_pos (by omega), Option.bind_some, Int.toNat_natCast, ← numUpto_zero N V, numUpto_length]
    exact byt_num_l0 N V (by omega) V k 0 (by omega) (by omega)
  · have h5 : ¬ numOk (N : Int) (V : Int) := by
      rintro ⟨-, -, -, h⟩
      rw [Int.toNat_natCast, ← pow256] at h
      exact h4 (Int.ofNat_lt.1 h)
    have h6 : 0 < N / 256 ^ V := Nat.div_pos (by omega) (Nat.pow_pos (by omega))
    rw [numOf_bad _ _ h5, show decide (((N / 256 ^ V : Nat) : Int) > 0) = true by rw [decide_eq_true_eq]; omega, hbad]
theorem numOk_of (n w : Nat) (h1 : 1 ≤ w) (h2 : w ≤ 7) (h : n < 256 ^ w) : numOf (n : Int) (w : Int) = (numB n w, 0) := numOf_small n w h1 h2 h
theorem or_pow (n a s : Nat) (h : n < 2 ^ s) : n ||| a * 2 ^ s = n + a * 2 ^ s := by
  rw [Nat.or_comm, Nat.mul_comm, ← Nat.two_pow_add_eq_or_of_lt h]
  omega
theorem i64_or (a b : Nat) (ha : a < 9223372036854775808) (hb : b < 9223372036854775808) : Go.bits .or .i64 (a : Int) (b : Int) = ((a ||| b : Nat) : Int) := by
  have hx : a ||| b < 2 ^ 63 := Nat.or_lt_two_pow (by omega) (by omega)
  have ho : ∀ q : Nat, q < 9223372036854775808 → (BitVec.ofInt 64 (q : Int)).toNat = q := fun q hq => by
    rw [BitVec.ofInt_natCast, BitVec.toNat_ofNat]; exact Nat.mod_eq_of_lt (by omega)
  show IntKind.i64.wrap ((BitVec.ofInt 64 (a : Int) ||| BitVec.ofInt 64 (b : Int)).toNat : Int) = _
  rw [BitVec.toNat_or, ho a ha, ho b hb]
  generalize a ||| b = q at *
  simp [IntKind.wrap, IntKind.bits, IntKind.signed]
  omega
theorem byt_len_eq (n : Int) (k : Nat) (hk : 30 < k) : B.byt_Len.f k n = some (lenOf n) := by
  obtain ⟨k, rfl⟩ : ∃ m, k = m + 1 := ⟨k - 1, by omega⟩
  have hbad : B.byt_Len.j0 (k + 1) n true = some ([], 1) := by rw [B.byt_Len.j0, if_pos rfl]
  unfold B.byt_Len.f
  by_cases h1 : n < 0
  · rw [if_pos h1, hbad]
    exact congrArg some (if_neg (by omega)).symm
  by_cases h2 : n > 1073741823
  · rw [if_neg h1, show decide (n > 1073741823) = true by rw [decide_eq_true_eq]; exact h2, hbad]
    exact congrArg some (if_neg (by omega)).symm
  obtain ⟨N, rfl⟩ := Int.eq_ofNat_of_zero_le (show 0 ≤ n by omega)
  have hL : lenOf (N : Int) = (lenB N, 0) := if_pos (by omega)
  rw [hL, if_neg h1, show decide ((N : Int) > 1073741823) = false by rw [decide_eq_false_iff_not]; exact h2, B.byt_Len.j0, if_neg (by simp)]
  unfold lenB B.byt_wide.f
  by_cases h3 : N < 64
  · have e : Go.bits .or .i64 (N : Int) (shl .i64 0 (wrap64 (wrap64 (8 * 1) - 2))) = ((N : Nat) : Int) := by
      rw [show shl .i64 0 (wrap64 (wrap64 (8 * 1) - 2)) = ((0 : Nat) : Int) from by decide +kernel, i64_or _ _ (by omega) (by omega), Nat.or_zero]
    rw [if_pos (by omega), if_pos h3, Option.bind_some, if_pos (by decide +kernel)]
    dsimp only
    rw [e, byt_num_eq _ _ k (by omega), Option.bind_some, show (1 : Int) = ((1 : Nat) : Int) from rfl, numOk_of _ 1 (by omega) (by omega) (by omega)]
  by_cases h4 : N < 16384
  · have e : Go.bits .or .i64 (N : Int) (shl .i64 1 (wrap64 (wrap64 (8 * 2) - 2))) = ((N + 16384 : Nat) : Int) := by
      rw [show shl .i64 1 (wrap64 (wrap64 (8 * 2) - 2)) = ((1 * 2 ^ 14 : Nat) : Int) from by decide +kernel, i64_or _ _ (by omega) (by omega), or_pow N 1 14 (by omega)]
    rw [if_neg (by omega), if_pos (by omega), if_neg h3, if_pos h4, Option.bind_some, if_pos (by decide +kernel)]
    dsimp only
    rw [e, byt_num_eq _ _ k (by omega), Option.bind_some, show (2 : Int) = ((2 : Nat) : Int) from rfl, numOk_of _ 2 (by omega) (by omega) (by omega)]
  · have e : Go.bits .or .i64 (N : Int) (shl .i64 2 (wrap64 (wrap64 (8 * 4) - 2))) = ((N + 2147483648 : Nat) : Int) := by
      rw [show shl .i64 2 (wrap64 (wrap64 (8 * 4) - 2)) = ((2 * 2 ^ 30 : Nat) : Int) from by decide +kernel, i64_or _ _ (by omega) (by omega), or_pow N 2 30 (by omega)]
    rw [if_neg (by omega), if_neg (by omega), if_neg h3, if_neg h4, Option.bind_some, if_pos (by decide +kernel)]
    dsimp only
    rw [e, byt_num_eq _ _ k (by omega), Option.bind_some, show (4 : Int) = ((4 : Nat) : Int) from rfl, numOk_of _ 4 (by omega) (by omega) (by omega)]
theorem lenOf_row (l : List Int) : lenOf (l.length : Int) = if l.length ≤ 1073741823 then (lenB l.length, 0) else ([], 1) := by
  unfold lenOf
  by_cases h : l.length ≤ 1073741823
  · rw [if_pos (by omega), if_pos h, Int.toNat_natCast]
  · rw [if_neg (by omega), if_neg h]
theorem byt_row_eq (l : List Int) (k : Nat) (hk : 30 < k) : B.byt_Row.f k l = some (rowOf l) := by
  have hl := lenB_length l.length
  unfold B.byt_Row.f rowOf
  rw [byt_len_eq _ k hk, Option.bind_some, lenOf_row]
  by_cases h : l.length ≤ 1073741823
  · rw [if_pos h, if_pos h, if_pos rfl, if_pos (by dsimp only; omega)]
    rfl
  · rw [if_neg h, if_neg h, if_neg (by simp)]
namespace P
def byt_Num.f (n w : Int) : Option (List Int × Int) := some (numOf n w)
theorem byt_Num.calls (a0 : Int) (a1 : Int) (r1 : List Int) (r2 : Int) (w : World) (h : byt_Num.f a0 a1 = some (r1, r2)) :
    Calls Tryd.prog 56 #[.int .i64 a0, .int .i64 a1] w fun e w' => ∃ v0_ : Value, e = .returned (.tuple #[v0_, .int .i64 r2]) ∧ Kd.R (Kd.int .u8) 5 w' w.heap.size (fun _ => True) v0_ r1 ∧ Below w.heap.size w w' :=
  B.byt_Num.calls 40 a0 a1 r1 r2 w (by rw [byt_num_eq _ _ 40 (by omega)]; exact h)
def byt_Row.f (l0 : List Int) : Option (List Int × Int) := some (rowOf l0)
theorem byt_Row.calls (A0 : Option Addr) (c0 : Nat) (l0 : List Int) (r1 : List Int) (r2 : Int) (w : World) (hr0 : Kd.C (Kd.int .u8) w A0 l0.length l0) (hc0 : l0.length ≤ c0) (h : byt_Row.f l0 = some (r1, r2)) :
    Calls Tryd.prog 57 #[.slice A0 l0.length c0] w fun e w' => ∃ v0_ : Value, e = .returned (.tuple #[v0_, .int .i64 r2]) ∧ Kd.R (Kd.int .u8) 5 w' w.heap.size (fun _ => True) v0_ r1 ∧ Below w.heap.size w w' :=
  B.byt_Row.calls 40 A0 c0 l0 r1 r2 w hr0 hc0 (by rw [byt_row_eq _ 40 (by omega)]; exact h)
end P
end Go.Proofs.YtdklmafkcbjomaaDoor

/-! KdfLabel -/
namespace Go.Proofs.YtdklmafkcbjomaaDoor
set_option linter.unusedVariables false
set_option linter.unusedSimpArgs false
open Go.RowKit Go.Proofs.YtdklmafkcbjomaaDoorW.PrintWords Go.Proofs.YtdklmafkcbjomaaDoorW.PrintLast Go.Proofs.YtdklmafkcbjomaaDoorW.PrintMore Iter
/-- 'MLS 1.0 '. -/
def mls : List Int := [77, 76, 83, 32, 49, 46, 48, 32]
def mlsS : ByteArray := ⟨#[77, 76, 83, 32, 49, 46, 48, 32]⟩
theorem byteOk_bytesOf (s : ByteArray) : byteOk (bytesOf s) = true := by
  rw [byteOk_iff]
  intro x hx
  obtain ⟨c, _, rfl⟩ := List.mem_map.1 hx
  have := c.toNat_lt
  omega
theorem bytesOf_append (s t : ByteArray) : bytesOf (s ++ t) = bytesOf s ++ bytesOf t := by
  unfold bytesOf
  simp [ByteArray.data_append]
theorem mls_bytes : bytesOf mlsS = mls := by decide +kernel
/-- What Label expands. -/
def labelRow (label : ByteArray) (context : List Int) (n : Nat) : List Int := numB n 2 ++ rowB (mls ++ bytesOf label) ++ rowB context
def labelOf (secret : List Int) (label : ByteArray) (context : List Int) (n : Nat) : List Int := expandOf secret (labelRow label context n) n
theorem byteOk_mls (s : ByteArray) : byteOk (mls ++ bytesOf s) = true := (byteOk_append _ _).2 ⟨by decide, byteOk_bytesOf s⟩
theorem byteOk_labelRow (label : ByteArray) (context : List Int) (n : Nat) (h : byteOk context = true) : byteOk (labelRow label context n) = true := by
  unfold labelRow
  rw [byteOk_append, byteOk_append]
  exact ⟨⟨byteOk_numB _ _, byteOk_rowB _ (byteOk_mls label)⟩, byteOk_rowB _ h⟩
theorem labelRow_length (label : ByteArray) (context : List Int) (n : Nat) : (labelRow label context n).length ≤ label.size + context.length + 18 := by
  have h1 := rowB_length (mls ++ bytesOf label)
  have h2 := rowB_length context
  have h3 := numB_length n 2
  have h4 : (mls ++ bytesOf label).length = label.size + 8 := by rw [List.length_append, bytesOf_length]; exact Nat.add_comm _ _
  unfold labelRow
  rw [List.length_append, List.length_append]
  omega
/-- Rows, one behind the other, each with its length ahead. -/
def infoTo (b : List Int) (R : Nat → List Int) : Nat → List Int
  | 0 => b
  | k + 1 => infoTo b R k ++ rowB (R k)
theorem infoTo_two (n : Nat) (t l : List Int) : infoTo (numB n 2) (fun k => if k = 0 then t else l) 2 = numB n 2 ++ rowB t ++ rowB l := rfl
/-- A conversion of a string to bytes. -/
theorem bytes_C (W : World) (s : ByteArray) (hs : s.size ≤ 9223372036854775807) : Kd.C (Kd.int .u8) (Lib.bytesWorld W 5 s) (some ⟨W.heap.size, 0, none⟩) (bytesOf s).length (bytesOf s) := by
  have h := bytes_reads W 5 s hs
  rw [bytesOf_length]
  exact Kd.C_of_reads (enc := Value.int .u8) (d := (0 : Int)) (h1 := fun _ => rfl) h
namespace P
def kdf_Label.f (secret : List Int) (label : ByteArray) (context : List Int) (n : Int) : Option (List Int × Int) :=
  if n < 0 then some ([], 1) else if 8160 < n then some ([], 1) else if byteOk secret = true ∧ byteOk context = true ∧ secret.length ≤ 900000 ∧ label.size ≤ 100000 ∧ context.length ≤ 100000 then some (labelOf secret label context n.toNat, 0) else none
set_option maxRecDepth 100000 in
set_option maxHeartbeats 2000000 in
theorem kdf_Label.calls (A0 : Option Addr) (c0 : Nat) (l0 : List Int) (a1 : ByteArray) (A2 : Option Addr) (c2 : Nat) (l2 : List Int) (a3 : Int) (r1 : List Int) (r2 : Int) (w : World) (hr0 : Kd.C (Kd.int .u8) w A0 l0.length l0) (hc0 : l0.length ≤ c0) (hr2 : Kd.C (Kd.int .u8) w A2 l2.length l2) (hc2 : l2.length ≤ c2) (h : kdf_Label.f l0 a1 l2 a3 = some (r1, r2)) :
    Calls Tryd.prog 47 #[.slice A0 l0.length c0, .string a1, .slice A2 l2.length c2, .int .i64 a3] w fun e w' => ∃ v0_ : Value, e = .returned (.tuple #[v0_, .int .i64 r2]) ∧ Kd.R (Kd.int .u8) 5 w' w.heap.size (fun _ => True) v0_ r1 ∧ Below w.heap.size w w' := by
  unfold kdf_Label.f at h
  by_cases h0 : a3 < 0
  · rw [if_pos h0] at h
    injection h with h
    injection h with h1 h2
    subst h1 h2
    have d0 : decide (a3 < 0) = true := by simp [h0]
    go_enter Tryd.func47, Tryd.ntmps47
    go_wp2
    go_ret2
    exact ⟨_, rfl, Kd.R_nil _ _ _ _ _, Below.refl _ _⟩
  rw [if_neg h0] at h
  have d0 : decide (a3 < 0) = false := by simp; omega
  by_cases h1 : 8160 < a3
  · rw [if_pos h1] at h
    injection h with h
    injection h with h1' h2
    subst h1' h2
    have d1 : decide (8160 < a3) = true := by simp [h1]
    go_enter Tryd.func47, Tryd.ntmps47
    go_wp2
    go_ret2
    exact ⟨_, rfl, Kd.R_nil _ _ _ _ _, Below.refl _ _⟩
  rw [if_neg h1] at h
  have d1 : decide (8160 < a3) = false := by simp; omega
  split at h
  case isFalse => cases h
  case isTrue hok =>
  injection h with h
  injection h with h1' h2
  subst h1' h2
  obtain ⟨n, rfl⟩ := Int.eq_ofNat_of_zero_le (show 0 ≤ a3 by omega)
  rw [Int.toNat_natCast]
  obtain ⟨o1, o2, o3, o4, o5⟩ := hok
  obtain ⟨t, ht⟩ : ∃ t : ByteArray, t = mlsS ++ a1 := ⟨_, rfl⟩
  have htb : bytesOf t = mls ++ bytesOf a1 := by rw [ht, bytesOf_append, mls_bytes]
  have htl : (bytesOf t).length = a1.size + 8 := by rw [htb, List.length_append, bytesOf_length]; exact Nat.add_comm _ _
  have hts : t.size = a1.size + 8 := by rw [← bytesOf_length, htl]
  have hrow1 := rowOf_small (bytesOf t) (by omega)
  have hrow2 := rowOf_small l2 (by omega)
  have hnum : P.byt_Num.f (n : Int) 2 = some (numB n 2, 0) := by
    unfold P.byt_Num.f
    exact congrArg some (numOf_small n 2 (by omega) (by omega) (by omega))
  have hl1 : (numB n 2).length = 2 := numB_length _ _
  have kb : ∀ W : World, (convert 9 22 (.string ({ data := #[77, 76, 83, 32, 49, 46, 48, 32] } ++ a1))).run Tryd.prog W = .ok (.slice (some ⟨W.heap.size, 0, none⟩) t.size (grownCap W t.size 0 5)) (Lib.bytesWorld W 5 t) := fun W => by
    rw [ht]
    exact print_bytes (P := Tryd.prog) 9 22 5 Tryd.underlying9 Tryd.underlying22 Tryd.underlying5 (mlsS ++ a1) W
  have hexp : P.kdf_Expand.f l0 (labelRow a1 l2 n) (n : Int) = some (labelOf l0 a1 l2 n, 0) := by
    have b1 := byteOk_labelRow a1 l2 n o2
    have b2 := labelRow_length a1 l2 n
    unfold P.kdf_Expand.f
    rw [if_neg (by omega), if_neg (by omega), if_pos ⟨o1, b1, o3, by omega⟩]
    rfl
  have HLR := Lib.hid (And.intro hexp (And.intro trivial (rfl : (labelRow a1 l2 n).length = (labelRow a1 l2 n).length)))
  clear hexp
  have HN := Lib.hid hnum
  have H1 := Lib.hid (And.intro hrow1 (And.intro hrow2 (And.intro ht (And.intro htb (And.intro htl hts)))))
  have KB := Lib.hid kb
  have Hr := Lib.hid (And.intro hr0 hr2)
  clear hnum hrow1 hrow2 ht htb htl hts kb hr0 hr2 o1 o2
  go_enter Tryd.func47, Tryd.ntmps47
  go_wp2_with fail
  refine (P.byt_Num.calls (n : Int) 2 (numB n 2) 0 _ HN.out).mono ?_
  rintro e W1 ⟨v1, rfl, hR1, hb1⟩
  have hkb := KB.out W1
  have hcp := grownCap_ge W1 t.size 0 5
  have hC2 := bytes_C W1 t (by have := H1.out.2.2.2.2.2; omega)
  have hb2 := bytes_below hb1 hb1.size 5 t
  have hs2 := Lib.bytesWorld_size W1 5 t
  have hR2 : Kd.R (Kd.int .u8) 5 (Lib.bytesWorld W1 5 t) w.heap.size (fun b => b < W1.heap.size) v1 (numB n 2) :=
    Kd.R_mono (Kd.R_move (Kd.R_bound hR1) (fun k hk => Lib.bytesWorld_at_old W1 5 t k hk.2.2.1)) (fun k hk => hk.2.2.1)
  rw [H1.out.2.2.2.2.1] at hC2
  rw [H1.out.2.2.2.2.2] at hkb hcp
  generalize grownCap W1 (a1.size + 8) 0 5 = cp at *
  generalize Lib.bytesWorld W1 5 t = W2 at *
  have HS2 := Lib.hid hs2
  clear hs2 hb1 hR1
  have hlen := H1.out.2.2.2.2.1
  have hbt : byteOk (bytesOf t) = true := byteOk_bytesOf t
  obtain ⟨W3, hW3⟩ : ∃ W3, W2.alloc (Obj.cells #[Value.slice (some ⟨W1.heap.size, 0, none⟩) (a1.size + 8) cp, Value.slice A2 l2.length c2] 22) = W3 := ⟨_, rfl⟩
  have hs3 : W3.heap.size = W2.heap.size + 1 := by rw [← hW3]; simp
  have hb3 : Below w.heap.size w W3 := by rw [← hW3]; exact hb2.alloc hb2.size _
  have hC3 : Kd.C (Kd.int .u8) W3 (some ⟨W1.heap.size, 0, none⟩) (a1.size + 8) (bytesOf t) := by rw [← hW3]; exact Kd.C_alloc hC2 _
  have hB3 : Blk W3 W2.heap.size 22 #[Value.slice (some ⟨W1.heap.size, 0, none⟩) (a1.size + 8) cp, Value.slice A2 l2.length c2] := by rw [← hW3]; exact Blk.new _ _ _
  have hR3 : Kd.R (Kd.int .u8) 5 W3 w.heap.size (fun b => b ≠ W1.heap.size ∧ b ≠ W2.heap.size) v1 (infoTo (numB n 2) (fun k => if k = 0 then bytesOf t else l2) 0) := by
    rw [← hW3]
    exact Kd.R_alloc (Kd.R_mono hR2 (fun b hb => by have := HS2.out; omega)) _
  have H3 := Lib.hid (And.intro hb3 (And.intro hC3 (And.intro hB3 (And.intro hs3 hlen))))
  have HR3 := Lib.hid hR3
  have HW3 := Lib.hid hW3
  clear hW3 hs3 hb3 hC3 hB3 hR3 hC2 hb2 hR2 hlen
  go_wp2_with fail
  rw [HW3.out]
  clear HW3
  go_loopw [10, 33] (fun v i wr => ∃ k : Nat, k ≤ 2 ∧ i = .int .i64 (k : Int) ∧ Aside0 (Kd.R (Kd.int .u8) 5 wr w.heap.size (fun b => b ≠ W1.heap.size ∧ b ≠ W2.heap.size) v (infoTo (numB n 2) (fun k => if k = 0 then bytesOf t else l2) k)) ∧ Aside0 (wr.heap[W1.heap.size]? = W3.heap[W1.heap.size]?) ∧ Aside0 (wr.heap[W2.heap.size]? = W3.heap[W2.heap.size]?) ∧ Below w.heap.size w wr ∧ W3.heap.size ≤ wr.heap.size) (fun _ i _ => 2 - (intOf i).toNat)
  case atStart => exact ⟨0, by omega, rfl, ⟨HR3.out⟩, ⟨rfl⟩, ⟨rfl⟩, H3.out.1, Nat.le_refl _⟩
  case round =>
    clear HR3
    obtain ⟨k, hk, rfl, hv, hg1, hg2, hb, hsz⟩ := hrel
    by_cases hlt : k < 2
    · obtain ⟨x, hx⟩ : ∃ x, (fun k => if k = 0 then bytesOf t else l2) k = x := ⟨_, rfl⟩
      have hrow : ∃ A c, wr.cell? ⟨W2.heap.size, k, none⟩ = some (.slice A x.length c) ∧ x.length ≤ c ∧ Kd.C (Kd.int .u8) wr A x.length x ∧ P.byt_Row.f x = some (rowB x, 0) ∧ x.length ≤ 100008 := by
        have hB := H3.out.2.2.1
        have hcell : ∀ j, wr.cell? ⟨W2.heap.size, j, none⟩ = W3.cell? ⟨W2.heap.size, j, none⟩ := fun j => World.cell?_of_block hg2.out
        rw [hcell, hB.cell]
        rcases k with _ | k
        · have hx : bytesOf t = x := hx
          subst hx
          rw [H3.out.2.2.2.2]
          exact ⟨_, _, rfl, hcp, C_same H3.out.2.1 hg1.out, congrArg some H1.out.1, by omega⟩
        · have hk0 : k = 0 := by omega
          subst hk0
          have hx : l2 = x := hx
          subst hx
          exact ⟨_, _, rfl, hc2, Kd.C_below Hr.out.2 hb, congrArg some H1.out.2.1, by omega⟩
      obtain ⟨A, c, hcell, hxc, hxC, hxR, hxl⟩ := hrow
      have hnext : infoTo (numB n 2) (fun k => if k = 0 then bytesOf t else l2) (k + 1) = infoTo (numB n 2) (fun k => if k = 0 then bytesOf t else l2) k ++ rowB x := by rw [← hx, infoTo]
      have hilen : (infoTo (numB n 2) (fun k => if k = 0 then bytesOf t else l2) k).length ≤ 200100 := by
        have h1 := rowB_length (bytesOf t)
        have h3 := H3.out.2.2.2.2
        have h4 := numB_length n 2
        rcases k with _ | k
        · show (numB n 2).length ≤ _
          omega
        · have hk0 : k = 0 := by omega
          subst hk0
          show (numB n 2 ++ rowB (bytesOf t)).length ≤ _
          rw [List.length_append]
          omega
      have HX := Lib.hid (And.intro hxC (And.intro hxR hnext))
      clear hx hxC hxR hnext
      have HW := Lib.hid (And.intro hv.out (And.intro hg1.out hg2.out))
      clear hv hg1 hg2
      generalize infoTo (numB n 2) (fun k => if k = 0 then bytesOf t else l2) k = y at *
      have hrl := rowB_length x
      have i1 : (k : Int) < 2 := by omega
      go_wp2_with fail
      refine (P.byt_Row.calls A c x (rowB x) 0 _ HX.out.1 hxc HX.out.2.1).mono ?_
      rintro e W5 ⟨v5, rfl, hR5, hb5⟩
      have hv5 := Kd.R_below HW.out.1 hb5
      have hbw5 := hb.trans (hb5.mono hb.size)
      have hg15 := (hb5.block W1.heap.size (by have := HS2.out; have := H3.out.2.2.2.1; omega)).trans HW.out.2.1
      have hg25 := (hb5.block W2.heap.size (by have := H3.out.2.2.2.1; omega)).trans HW.out.2.2
      obtain ⟨A5, c5, rfl, hl5, hC5⟩ := Kd.R_reads hR5
      have H5 := Lib.hid (And.intro hv5 (And.intro hbw5 (And.intro hg15 hg25)))
      have hs5 := hb5.size
      clear hv5 hbw5 hg15 hg25 hR5 hb5 HW
      have HS3 := H3.out.2.2.2.1
      have HS3 := Lib.hid HS3
      go_wp2_with ((with_reducible refine gate_builtin (b := .append) (xs := #[.tmp 45, .tmp 46]) rfl ?_); at_builtin; refine Kd.R_append_rows (Kd.int .u8) (w0 := w) w.heap.size rfl (.tmp 45) (.tmp 46) 22 5 (.int .u8 0) 1 rfl Tryd.underlying22 B.info5 rfl (by decide) (by omega) _ y (rowB x) _ _ _ (fun b => b ≠ W1.heap.size ∧ b ≠ W2.heap.size) (fun _ => False) rfl rfl H5.out.1 hC5 (fun _ _ h => h) (fun _ h => h.elim) (by intro b hb; have := HS2.out; have := HS3.out; omega) H5.out.2.1 H5.out.2.1.size (by omega) ?_; intro v6 W6 hv6 hb6 hgr6 hat6)
      have hne := H5.out.1.1
      have e1 : W6.heap[W1.heap.size]? = W3.heap[W1.heap.size]? := (hgr6.block _ (by have := HS2.out; have := HS3.out; omega) (fun e => (hne _ e.symm).1 rfl)).trans H5.out.2.2.1
      have e2 : W6.heap[W2.heap.size]? = W3.heap[W2.heap.size]? := (hgr6.block _ (by have := HS3.out; omega) (fun e => (hne _ e.symm).2 rfl)).trans H5.out.2.2.2
      have hs6 := hgr6.size
      have HE := Lib.hid (And.intro e1 e2)
      clear e1 e2 hgr6 hat6 hne
      go_wp2_with fail
      go_roundw
      case rel => exact ⟨k + 1, by omega, by go_num, ⟨by rw [HX.out.2.2]; exact hv6⟩, ⟨HE.out.1⟩, ⟨HE.out.2⟩, hb6, by omega⟩
      case measure => simp [intOf]; omega
    · obtain rfl : k = 2 := by omega
      have hv2 : Kd.R (Kd.int .u8) 5 wr w.heap.size (fun b => b ≠ W1.heap.size ∧ b ≠ W2.heap.size) u10 (labelRow a1 l2 n) := by
        have := hv.out
        rw [infoTo_two, H1.out.2.2.2.1] at this
        exact this
      obtain ⟨A5, c5, rfl, hl5, hC5⟩ := Kd.R_reads hv2
      have HB2 := Lib.hid (And.intro hb (Kd.C_below Hr.out.1 hb))
      have HC5 := Lib.hid (And.intro hC5 hl5)
      clear hv hg1 hg2 hv2 hb hC5 hl5
      go_wp2_with fail
      refine (P.kdf_Expand.calls A0 c0 l0 A5 c5 (labelRow a1 l2 n) (n : Int) (labelOf l0 a1 l2 n) 0 _ HB2.out.2 hc0 HC5.out.1 HC5.out.2 HLR.out.1).mono ?_
      rintro e W7 ⟨v7, rfl, hR7, hb7⟩
      go_wp2
      go_ret2
      exact ⟨_, rfl, Kd.R_lower hR7 HB2.out.1.size, HB2.out.1.trans (hb7.mono HB2.out.1.size)⟩
end P
end Go.Proofs.YtdklmafkcbjomaaDoor

/-! Q0 -/
namespace Go.Proofs.YtdklmafkcbjomaaDoor.Q
open Go.Proofs.YtdklmafkcbjomaaDoor.P
open Go.RowKit Go.Proofs.YtdklmafkcbjomaaDoorW.PrintWords Go.Proofs.YtdklmafkcbjomaaDoorW.PrintLast Go.Proofs.YtdklmafkcbjomaaDoorW.PrintMore
attribute [local go_sem] max2_int min2_int max_two min_two max_three min_three max_four min_four   -- for this text's walks alone
set_option linter.unusedVariables false
set_option linter.unusedSimpArgs false
def errW : Option Int → Value
  | none => .nilIface
  | some c => .iface 0 (.int .i64 c)
theorem errW_none : errW none = .nilIface := rfl
theorem errW_some (c : Int) : errW (some c) = .iface 0 (.int .i64 c) := rfl
theorem info5 : (Tryd.prog.info? 5).map (fun i => (i.zero, i.size, i.bytes)) = some (some (.int .u8 0), 1, 1) := by kernel_rfl
-- the values' own types
end Go.Proofs.YtdklmafkcbjomaaDoor.Q

/-! KdfRef -/
namespace Go.Proofs.YtdklmafkcbjomaaDoor
set_option linter.unusedVariables false
set_option linter.unusedSimpArgs false
open Go.RowKit Go.Proofs.YtdklmafkcbjomaaDoorW.PrintWords Go.Proofs.YtdklmafkcbjomaaDoorW.PrintLast Go.Proofs.YtdklmafkcbjomaaDoorW.PrintMore Iter
/-- From some number of rounds on it answers r. -/
def EvS {α : Type} (g : Nat → Option α) (r : α) : Prop := ∃ k0, ∀ k, k0 ≤ k → g k = some r
theorem EvS.step {α : Type} {g h : Nat → Option α} {r : α} (e : ∀ k, g (k + 1) = h k) (H : EvS h r) : EvS g r := by
  obtain ⟨k0, hk⟩ := H
  refine ⟨k0 + 1, fun k hk1 => ?_⟩
  obtain ⟨m, rfl⟩ : ∃ m, k = m + 1 := ⟨k - 1, by omega⟩
  rw [e]
  exact hk m (by omega)
theorem EvS.now {α : Type} {g : Nat → Option α} {r : α} (e : ∀ k, g (k + 1) = some r) : EvS g r := by
  refine ⟨1, fun k hk1 => ?_⟩
  obtain ⟨m, rfl⟩ : ∃ m, k = m + 1 := ⟨k - 1, by omega⟩
  exact e m
theorem EvS.congr {α : Type} {g h : Nat → Option α} {r : α} (e : ∀ k, g k = h k) (H : EvS h r) : EvS g r := by
  obtain ⟨k0, hk⟩ := H
  exact ⟨k0, fun k h1 => by rw [e]; exact hk k h1⟩
section
variable (word salt : List Int) (rounds n : Nat) (hw : byteOk word = true) (hsa : byteOk salt = true) (lw : word.length ≤ 900000) (ls : salt.length ≤ 700000) (hr1 : 1 ≤ rounds) (hr2 : rounds ≤ 1048576) (hn : n ≤ 1024)
end
namespace P
end P
end Go.Proofs.YtdklmafkcbjomaaDoor

/-! KdfRefLabel -/
namespace Go.Proofs.YtdklmafkcbjomaaDoor
set_option linter.unusedVariables false
set_option linter.unusedSimpArgs false
open Go.RowKit Go.Proofs.YtdklmafkcbjomaaDoorW.PrintWords Go.Proofs.YtdklmafkcbjomaaDoorW.PrintLast Go.Proofs.YtdklmafkcbjomaaDoorW.PrintMore Iter
namespace P
end P
theorem labelOf_length (secret : List Int) (label : ByteArray) (context : List Int) (n : Nat) : (labelOf secret label context n).length = n := expandOf_length _ _ _
theorem byteOk_labelOf (secret : List Int) (label : ByteArray) (context : List Int) (n : Nat) : byteOk (labelOf secret label context n) = true := byteOk_expandOf _ _ _
theorem label_some (secret : List Int) (label : ByteArray) (context : List Int) (n : Nat) (hn : n ≤ 8160) (o1 : byteOk secret = true) (o2 : byteOk context = true) (l1 : secret.length ≤ 900000) (l2 : label.size ≤ 100000) (l3 : context.length ≤ 100000) :
    P.kdf_Label.f secret label context (n : Int) = some (labelOf secret label context n, 0) := by
  unfold P.kdf_Label.f
  rw [if_neg (by omega), if_neg (by omega), if_pos ⟨o1, o2, l1, l2, l3⟩, Int.toNat_natCast]
end Go.Proofs.YtdklmafkcbjomaaDoor

/-! RatA -/
namespace Go.Proofs.YtdklmafkcbjomaaDoor
set_option linter.unusedVariables false
set_option linter.unusedSimpArgs false
open Go.RowKit Go.Proofs.YtdklmafkcbjomaaDoorW.PrintWords Go.Proofs.YtdklmafkcbjomaaDoorW.PrintLast
def labTree : ByteArray := ⟨#[116, 114, 101, 101]⟩
def labLeft : ByteArray := ⟨#[108, 101, 102, 116]⟩
def labRight : ByteArray := ⟨#[114, 105, 103, 104, 116]⟩
/-- A node: its level and how many of its level stand ahead of it. -/
def nodeAt (k j : Nat) : Nat := 2 ^ k * (2 * j + 1) - 1
theorem nodeAt_succ (k j : Nat) : nodeAt k j + 1 = 2 ^ k * (2 * j + 1) := by
  have := Nat.two_pow_pos k
  have h : 1 ≤ 2 ^ k * (2 * j + 1) := Nat.mul_pos this (by omega)
  unfold nodeAt
  omega
theorem nodeAt_root (K : Nat) : nodeAt K 0 + 1 = 2 ^ K := by rw [nodeAt_succ]; omega
theorem nodeAt_leaf (i : Nat) : nodeAt 0 i = 2 * i := by unfold nodeAt; simp
theorem nodeAt_odd (k j : Nat) : nodeAt (k + 1) j % 2 = 1 := by
  have h := nodeAt_succ (k + 1) j
  rw [Nat.pow_succ, Nat.mul_assoc, Nat.mul_left_comm] at h
  omega
theorem node_left (k j : Nat) : nodeAt k (2 * j) + 2 ^ k = nodeAt (k + 1) j := by
  have h1 := nodeAt_succ (k + 1) j
  have h2 := nodeAt_succ k (2 * j)
  have e : 2 ^ (k + 1) * (2 * j + 1) = 2 ^ k * (2 * (2 * j) + 1) + 2 ^ k := by
    rw [Nat.pow_succ, Nat.mul_assoc, ← Nat.mul_succ]
    congr 1
  omega
theorem node_right (k j : Nat) : nodeAt k (2 * j + 1) = nodeAt (k + 1) j + 2 ^ k := by
  have h1 := nodeAt_succ (k + 1) j
  have h2 := nodeAt_succ k (2 * j + 1)
  have e : 2 ^ k * (2 * (2 * j + 1) + 1) = 2 ^ (k + 1) * (2 * j + 1) + 2 ^ k := by
    rw [Nat.pow_succ, Nat.mul_assoc, ← Nat.mul_succ]
  omega
theorem half_up (i k : Nat) : i / 2 ^ (k + 1) = i / 2 ^ k / 2 := by rw [Nat.pow_succ, Nat.div_div_eq_div_mul]
/-- Is a leaf on the right of the node over it? -/
theorem node_side (i k : Nat) : nodeAt (k + 1) (i / 2 ^ (k + 1)) < 2 * i ↔ i / 2 ^ k % 2 = 1 := by
  obtain ⟨j, hj⟩ : ∃ j, i / 2 ^ (k + 1) = j := ⟨_, rfl⟩
  have h1 := nodeAt_succ (k + 1) j
  have hm : j = i / 2 ^ k / 2 := by rw [← hj, half_up]
  have hp := Nat.two_pow_pos k
  rw [hj]
  have e : 2 ^ (k + 1) * (2 * j + 1) = 2 * ((2 * j + 1) * 2 ^ k) := by rw [Nat.pow_succ, Nat.mul_comm (2 ^ k) 2, Nat.mul_assoc, Nat.mul_comm (2 ^ k)]
  have hle := Nat.le_div_iff_mul_le (x := 2 * j + 1) (y := i) hp
  constructor
  · intro h
    have : (2 * j + 1) * 2 ^ k ≤ i := by omega
    have := hle.2 this
    omega
  · intro h
    have : 2 * j + 1 ≤ i / 2 ^ k := by omega
    have := hle.1 this
    omega
/-- The secrets down from a node: k levels above a leaf. -/
def downS (i : Nat) : Nat → List Int → List Int
  | 0, s => s
  | k + 1, s => downS i k (labelOf s (if i / 2 ^ k % 2 = 1 then labRight else labLeft) [] 32)
def leafS (send : List Int) (K i : Nat) : List Int := downS i K (labelOf send labTree [] 32)
theorem downS_length (i : Nat) : ∀ k s, s.length = 32 → (downS i k s).length = 32
  | 0, _, h => h
  | k + 1, _, _ => downS_length i k _ (labelOf_length _ _ _ _)
theorem byteOk_downS (i : Nat) : ∀ k s, byteOk s = true → byteOk (downS i k s) = true
  | 0, _, h => h
  | k + 1, _, _ => byteOk_downS i k _ (byteOk_labelOf _ _ _ _)
theorem leafS_length (send : List Int) (K i : Nat) : (leafS send K i).length = 32 := downS_length i K _ (labelOf_length _ _ _ _)
theorem byteOk_leafS (send : List Int) (K i : Nat) : byteOk (leafS send K i) = true := byteOk_downS i K _ (byteOk_labelOf _ _ _ _)
/-- The next place's secret, and so on. -/
def labNext : ByteArray := ⟨#[110, 101, 120, 116]⟩
def nextS (s : List Int) (n : Nat) : List Int := labelOf s labNext (numB n 4) 32
def secS (s : List Int) (n : Nat) : Nat → List Int
  | 0 => s
  | m + 1 => nextS (secS s n m) (n + m)
theorem nextS_length (s : List Int) (n : Nat) : (nextS s n).length = 32 := labelOf_length _ _ _ _
theorem byteOk_nextS (s : List Int) (n : Nat) : byteOk (nextS s n) = true := byteOk_labelOf _ _ _ _
theorem secS_length (s : List Int) (n : Nat) (h : s.length = 32) : ∀ m, (secS s n m).length = 32
  | 0 => h
  | _ + 1 => nextS_length _ _
theorem byteOk_secS (s : List Int) (n : Nat) (h : byteOk s = true) : ∀ m, byteOk (secS s n m) = true
  | 0 => h
  | _ + 1 => byteOk_nextS _ _
end Go.Proofs.YtdklmafkcbjomaaDoor

/-! MathB -/
namespace Go.Proofs.YtdklmafkcbjomaaDoor
set_option linter.unusedVariables false
set_option linter.unusedSimpArgs false
open Go.RowKit Go.Proofs.YtdklmafkcbjomaaDoorW.PrintWords Go.Proofs.YtdklmafkcbjomaaDoorW.PrintLast
attribute [local go_sem] Oper.semAt_some
theorem TabOk.below {B : Nat} {w w' : World} (h : TabOk w) (hb : Below B w w') (hB : 2 ≤ B) : TabOk w' :=
  ⟨Nat.le_trans h.1 hb.size, fun i hi => by
    have e := h.2 i hi
    unfold World.cell? at e ⊢
    rw [hb.block 1 (by omega)]
    exact e⟩
theorem levF_node : ∀ f k j, k < f → levF f (nodeAt k j) = k
  | 0, _, _, h => by omega
  | f + 1, 0, j, _ => by
    rw [nodeAt_leaf]
    unfold levF
    rw [if_neg (by omega)]
  | f + 1, k + 1, j, h => by
    have h1 := nodeAt_odd k j
    have h2 : nodeAt (k + 1) j / 2 = nodeAt k j := by
      have e1 := nodeAt_succ (k + 1) j
      have e2 := nodeAt_succ k j
      rw [Nat.pow_succ, Nat.mul_assoc, Nat.mul_left_comm] at e1
      omega
    unfold levF
    rw [if_pos h1, h2, levF_node f k j (by omega)]
theorem lev_node (k j : Nat) (h : k ≤ 10) : lev (nodeAt k j) = k := levF_node 11 k j (by omega)
set_option maxRecDepth 100000 in
set_option maxHeartbeats 1000000 in
theorem child_calls (x sd r : Int) (k : Nat) (w : World) (hc : Calls Tryd.prog 59 #[.int .i64 x] w fun e w' => e = .returned (.int .i64 ((k + 1 : Nat) : Int)) ∧ Below w.heap.size w w') (hk : k < 20) (hr : wrap64 (x + wrap64 (sd * 2 ^ k)) = r) :
    Calls Tryd.prog 48 #[.int .i64 x, .int .i64 sd] w fun e w' => e = .returned (.tuple #[.int .i64 r, .int .i64 0]) ∧ Below w.heap.size w w' := by
  have d0 : ((k : Int) + 1 == 0) = false := by simp; omega
  have H := Lib.hid hc
  have HR := Lib.hid hr
  clear hc hr
  go_enter Tryd.func48, Tryd.ntmps48
  go_wp2_with fail
  refine H.out.mono ?_
  rintro e w1 ⟨rfl, hb⟩
  go_wp2
  go_ret2
  exact ⟨by rw [HR.out]; rfl, hb⟩
theorem child_left (k j : Nat) (hk : k < 10) : wrap64 ((nodeAt (k + 1) j : Int) + wrap64 (-1 * 2 ^ k)) = (nodeAt k (2 * j) : Int) ∨ 2000000 ≤ nodeAt (k + 1) j := by
  by_cases hb : 2000000 ≤ nodeAt (k + 1) j
  · exact .inr hb
  have h := node_left k j
  have hp : ((2 : Int) ^ k) = ((2 ^ k : Nat) : Int) := by simp
  have h2 : 2 ^ k ≤ 1024 := Nat.pow_le_pow_right (by decide) (show k ≤ 10 by omega)
  rw [hp]
  generalize 2 ^ k = q at *
  left
  unfold wrap64
  omega
theorem child_right (k j : Nat) (hk : k < 10) : wrap64 ((nodeAt (k + 1) j : Int) + wrap64 (1 * 2 ^ k)) = (nodeAt k (2 * j + 1) : Int) ∨ 2000000 ≤ nodeAt (k + 1) j := by
  by_cases hb : 2000000 ≤ nodeAt (k + 1) j
  · exact .inr hb
  have h := node_right k j
  have hp : ((2 : Int) ^ k) = ((2 ^ k : Nat) : Int) := by simp
  have h2 : 2 ^ k ≤ 1024 := Nat.pow_le_pow_right (by decide) (show k ≤ 10 by omega)
  rw [hp]
  generalize 2 ^ k = q at *
  left
  unfold wrap64
  omega
theorem level_node (k j : Nat) (w : World) (h : nodeAt (k + 1) j < 2047) (hk : k < 10) (hT : TabOk w) : Calls Tryd.prog 59 #[.int .i64 (nodeAt (k + 1) j : Int)] w fun e w' => e = .returned (.int .i64 ((k + 1 : Nat) : Int)) ∧ Below w.heap.size w w' := by
  have := level_calls (nodeAt (k + 1) j) w h hT
  rwa [lev_node (k + 1) j (by omega)] at this
set_option maxRecDepth 100000 in
set_option maxHeartbeats 1000000 in
theorem left_calls (k j : Nat) (w : World) (h : nodeAt (k + 1) j < 2047) (hk : k < 10) (hT : TabOk w) :
    Calls Tryd.prog 30 #[.int .i64 (nodeAt (k + 1) j : Int)] w fun e w' => e = .returned (.tuple #[.int .i64 (nodeAt k (2 * j) : Int), .int .i64 0]) ∧ Below w.heap.size w w' := by
  have H := Lib.hid (child_calls _ (-1) _ k w (level_node k j w h hk hT) (by omega) ((child_left k j hk).resolve_right (by omega)))
  clear h hT
  generalize (nodeAt (k + 1) j : Int) = x at *
  generalize (nodeAt k (2 * j) : Int) = y at *
  go_enter Tryd.func30, Tryd.ntmps30
  go_wp2_with fail
  refine H.out.mono ?_
  rintro e w1 ⟨rfl, hb⟩
  go_wp2
  go_ret2
  exact ⟨rfl, hb⟩
set_option maxRecDepth 100000 in
set_option maxHeartbeats 1000000 in
theorem right_calls (k j : Nat) (w : World) (h : nodeAt (k + 1) j < 2047) (hk : k < 10) (hT : TabOk w) :
    Calls Tryd.prog 31 #[.int .i64 (nodeAt (k + 1) j : Int)] w fun e w' => e = .returned (.tuple #[.int .i64 (nodeAt k (2 * j + 1) : Int), .int .i64 0]) ∧ Below w.heap.size w w' := by
  have H := Lib.hid (child_calls _ 1 _ k w (level_node k j w h hk hT) (by omega) ((child_right k j hk).resolve_right (by omega)))
  clear h hT
  generalize (nodeAt (k + 1) j : Int) = x at *
  generalize (nodeAt k (2 * j + 1) : Int) = y at *
  go_enter Tryd.func31, Tryd.ntmps31
  go_wp2_with fail
  refine H.out.mono ?_
  rintro e w1 ⟨rfl, hb⟩
  go_wp2
  go_ret2
  exact ⟨rfl, hb⟩
/-- Is it a number of leaves? -/
def isT (n : Int) : Bool := decide (1 ≤ n) && decide (n ≤ 1024) && (bits BinOp.and IntKind.i64 n (n - 1) == 0)
set_option maxRecDepth 100000 in
theorem isT_all : (List.range 1025).all (fun n => !isT (n : Int) || (List.range 11).any (fun K => n == 2 ^ K)) = true := by decide +kernel
set_option maxRecDepth 100000 in
theorem isT_pow : ∀ K, K ≤ 10 → isT ((2 ^ K : Nat) : Int) = true := by decide +kernel
theorem isT_two (n : Int) (h : isT n = true) : ∃ K, K ≤ 10 ∧ n = ((2 ^ K : Nat) : Int) := by
  have h' := h
  simp only [isT, Bool.and_eq_true, decide_eq_true_eq] at h'
  obtain ⟨m, rfl⟩ := Int.eq_ofNat_of_zero_le (show 0 ≤ n by omega)
  have ha := List.all_eq_true.1 isT_all m (List.mem_range.2 (by omega))
  rw [h] at ha
  simp only [Bool.not_true, Bool.false_or, List.any_eq_true, List.mem_range, beq_iff_eq] at ha
  obtain ⟨K, h1, h2⟩ := ha
  exact ⟨K, by omega, by rw [h2]⟩
set_option maxRecDepth 100000 in
set_option maxHeartbeats 1000000 in
theorem isTree_calls (n : Int) (w : World) (hn : -9223372036854775808 ≤ n) (hn2 : n < 9223372036854775808) :
    Calls Tryd.prog 46 #[.int .i64 n] w fun e w' => e = .returned (.bool (isT n)) ∧ Below w.heap.size w w' := by
  by_cases h1 : 1 ≤ n
  case neg =>
    have d0 : decide (1 ≤ n) = false := by simp; omega
    have e : isT n = false := by unfold isT; rw [d0]; rfl
    rw [e]
    go_enter Tryd.func46, Tryd.ntmps46
    go_wp2
    go_ret
    exact ⟨rfl, Below.refl _ _⟩
  have d0 : decide (1 ≤ n) = true := by simp; omega
  by_cases h2 : n ≤ 1024
  case neg =>
    have d1 : decide (n ≤ 1024) = false := by simp; omega
    have e : isT n = false := by unfold isT; rw [d0, d1]; rfl
    rw [e]
    go_enter Tryd.func46, Tryd.ntmps46
    go_wp2
    go_ret
    exact ⟨rfl, Below.refl _ _⟩
  have d1 : decide (n ≤ 1024) = true := by simp; omega
  have e : isT n = (bits BinOp.and IntKind.i64 n (n - 1) == 0) := by unfold isT; rw [d0, d1]; rfl
  rw [e]
  go_enter Tryd.func46, Tryd.ntmps46
  go_wp2
  go_ret
  exact ⟨rfl, Below.refl _ _⟩
end Go.Proofs.YtdklmafkcbjomaaDoor

/-! RatB -/
namespace Go.Proofs.YtdklmafkcbjomaaDoor
set_option linter.unusedVariables false
set_option linter.unusedSimpArgs false
open Go.RowKit Go.Shelf Iter Go.Proofs.YtdklmafkcbjomaaDoorW.PrintWords Go.Proofs.YtdklmafkcbjomaaDoorW.PrintLast
attribute [local go_sem] Oper.semAt_some
set_option maxRecDepth 100000 in
set_option maxHeartbeats 1000000 in
theorem part_calls (lab : ByteArray) (n : Nat) (m : Int) (hm : m = (n : Int)) (hn : n ≤ 8160) (hl : lab.size ≤ 100000) (A0 : Option Addr) (c0 : Nat) (key : List Int) (A1 : Option Addr) (c1 : Nat) (info : List Int) (w : World) (ho : byteOk key = true) (hk : key.length ≤ 900000) (oi : byteOk info = true) (li : info.length ≤ 100000)
    (hr : Kd.C (Kd.int .u8) w A0 key.length key) (hc : key.length ≤ c0) (hr1 : Kd.C (Kd.int .u8) w A1 info.length info) (hc1 : info.length ≤ c1) :
    Calls Tryd.prog 29 #[.slice A0 key.length c0, .string lab, .slice A1 info.length c1, .int .i64 m] w fun e w' => ∃ v, e = .returned v ∧ Kd.R (Kd.int .u8) 5 w' w.heap.size (fun _ => True) v (labelOf key lab info n) ∧ Below w.heap.size w w' := by
  have hL := Lib.hid (show P.kdf_Label.f key lab info m = some (labelOf key lab info n, 0) by rw [hm]; exact label_some key lab info n hn ho oi hk hl li)
  have HK := Lib.hid (And.intro hr hr1)
  clear hm ho oi hr hr1
  go_enter Tryd.func29, Tryd.ntmps29
  go_wp2_with fail
  refine (P.kdf_Label.calls A0 c0 key lab A1 c1 info m (labelOf key lab info n) 0 w HK.out.1 hc HK.out.2 hc1 hL.out).mono ?_
  rintro e w' ⟨v, rfl, hR, hb⟩
  have HR := Lib.hid (And.intro hR hb)
  clear hR hb
  go_wp2
  go_ret
  exact ⟨_, rfl, HR.out⟩
theorem part_nil (lab : ByteArray) (hl : lab.size ≤ 100000) (A0 : Option Addr) (c0 : Nat) (key : List Int) (w : World) (ho : byteOk key = true) (hk : key.length ≤ 900000) (hr : Kd.C (Kd.int .u8) w A0 key.length key) (hc : key.length ≤ c0) :
    Calls Tryd.prog 29 #[.slice A0 key.length c0, .string lab, .slice none 0 0, .int .i64 32] w fun e w' => ∃ v, e = .returned v ∧ Kd.R (Kd.int .u8) 5 w' w.heap.size (fun _ => True) v (labelOf key lab [] 32) ∧ Below w.heap.size w w' :=
  part_calls lab 32 32 rfl (by decide) hl A0 c0 key none 0 [] w ho hk rfl (by decide) hr hc ⟨rfl, by decide, fun h => absurd h (by decide)⟩ (Nat.le_refl _)
set_option maxRecDepth 100000 in
set_option maxHeartbeats 1000000 in
theorem width_calls (n r : Int) (w : World) (hn : isT n = true) (hr : wrap64 (wrap64 (2 * n) - 1) = r) :
    Calls Tryd.prog 28 #[.int .i64 n] w fun e w' => e = .returned (.tuple #[.int .i64 r, .int .i64 0]) ∧ Below w.heap.size w w' := by
  obtain ⟨K, hK, rfl⟩ := isT_two n hn
  have h2 : 2 ^ K ≤ 1024 := Nat.pow_le_pow_right (by decide) hK
  generalize 2 ^ K = q at *
  obtain ⟨n, hq⟩ : ∃ n : Int, (q : Int) = n := ⟨_, rfl⟩
  have H := Lib.hid (isTree_calls n w (by omega) (by omega))
  rw [hq] at hn hr ⊢
  rw [hn] at H
  have HR := Lib.hid hr
  clear hn hr h2 hq
  go_enter Tryd.func28, Tryd.ntmps28
  go_wp2_with fail
  refine H.out.mono ?_
  rintro e w1 ⟨rfl, hb⟩
  go_wp2
  go_ret2
  exact ⟨by rw [HR.out]; rfl, hb⟩
theorem node_lt (K k i : Nat) (hK : K ≤ 10) (hi : i < 2 ^ K) (hk : k ≤ K) : nodeAt k (i / 2 ^ k) < 2047 := by
  have h1 := nodeAt_succ k (i / 2 ^ k)
  have hp : 2 ^ K ≤ 1024 := Nat.pow_le_pow_right (by decide) hK
  have hm := Nat.two_pow_pos k
  have e : 2 ^ K = 2 ^ k * 2 ^ (K - k) := by rw [← Nat.pow_add]; congr 1; omega
  have hj : i / 2 ^ k < 2 ^ (K - k) := Nat.div_lt_of_lt_mul (by rw [← e]; exact hi)
  generalize i / 2 ^ k = j at *
  have h2 : 2 ^ k * (j + 1) ≤ 2 ^ k * 2 ^ (K - k) := Nat.mul_le_mul_left _ hj
  have h3 : 2 ^ k * (2 * j + 1) + 2 ^ k = 2 * (2 ^ k * (j + 1)) := by rw [← Nat.mul_succ, Nat.mul_left_comm]; congr 1
  omega
theorem downS_right (i k : Nat) (s : List Int) (h : i / 2 ^ k % 2 = 1) : downS i (k + 1) s = downS i k (labelOf s labRight [] 32) := by rw [downS, if_pos h]
theorem downS_left (i k : Nat) (s : List Int) (h : ¬ i / 2 ^ k % 2 = 1) : downS i (k + 1) s = downS i k (labelOf s labLeft [] 32) := by rw [downS, if_neg h]
set_option maxRecDepth 100000 in
set_option maxHeartbeats 4000000 in
theorem leaf_calls (A0 : Option Addr) (c0 : Nat) (l0 : List Int) (K i : Nat) (w : World) (hT : TabOk w) (hK : K ≤ 10) (hi : i < 2 ^ K) (h32 : l0.length = 32) (o0 : byteOk l0 = true) (hr0 : Kd.C (Kd.int .u8) w A0 l0.length l0) (hc0 : l0.length ≤ c0) :
    Calls Tryd.prog 12 #[.slice A0 l0.length c0, .int .i64 ((2 ^ K : Nat) : Int), .int .i64 (i : Int)] w fun e w' => ∃ v, e = .returned (.tuple #[v, .int .i64 0]) ∧ Kd.R (Kd.int .u8) 5 w' w.heap.size (fun _ => True) v (leafS l0 K i) ∧ Below w.heap.size w w' := by
  have hp : 2 ^ K ≤ 1024 := Nat.pow_le_pow_right (by decide) hK
  have H32 := Lib.hid h32
  have HK := Lib.hid (And.intro hr0 (And.intro hT o0))
  have HI := Lib.hid (And.intro hi hp)
  obtain ⟨M, hM⟩ : ∃ M : Int, ((2 ^ K : Nat) : Int) = M := ⟨_, rfl⟩
  obtain ⟨Y, hY⟩ : ∃ Y : Int, ((2 * i : Nat) : Int) = Y := ⟨_, rfl⟩
  obtain ⟨I, hI⟩ : ∃ I : Int, (i : Int) = I := ⟨_, rfl⟩
  have HW := Lib.hid (width_calls M _ w (by rw [← hM]; exact isT_pow K hK) rfl)
  have q1 : wrap64 (2 * I) = Y := by rw [← hI, ← hY]; unfold wrap64; omega
  have q2 : wrap64 (M - 1) = (nodeAt K 0 : Int) := by
    have := nodeAt_root K
    rw [← hM]
    generalize 2 ^ K = q at *
    unfold wrap64
    omega
  have d0 : ((l0.length : Int) != 32) = false := by rw [h32]; rfl
  have d1 : decide (I < 0) = false := by rw [← hI]; simp
  have d2 : decide (M ≤ I) = false := by
    rw [← hI, ← hM]
    generalize 2 ^ K = q at *
    simp
    omega
  rw [hM, hI]
  clear hr0 hT o0 hi hp h32
  go_enter Tryd.func12, Tryd.ntmps12
  go_wp2_with fail
  refine HW.out.mono ?_
  rintro e W1 ⟨rfl, hb1⟩
  have H1 := Lib.hid hb1
  clear hb1 HW
  go_wp2_with fail
  refine (part_nil labTree (by decide) A0 c0 l0 W1 HK.out.2.2 (by rw [H32.out]; decide) (Kd.C_below HK.out.1 H1.out) hc0).mono ?_
  rintro e W2 ⟨v2, rfl, hR2, hb2⟩
  have H2 := Lib.hid (And.intro (Kd.R_lower hR2 H1.out.size) (H1.out.trans (hb2.mono H1.out.size)))
  clear hR2 hb2 H1
  go_wp2_with fail
  obtain ⟨s0, hs0⟩ : ∃ s0, labelOf l0 labTree [] 32 = s0 := ⟨_, rfl⟩
  have HS0 := Lib.hid (show s0.length = 32 ∧ byteOk s0 = true ∧ downS i K s0 = leafS l0 K i from ⟨by rw [← hs0]; exact labelOf_length _ _ _ _, by rw [← hs0]; exact byteOk_labelOf _ _ _ _, by rw [← hs0]; rfl⟩)
  rw [hs0] at H2
  clear hs0
  obtain ⟨G, hG⟩ : ∃ G, leafS l0 K i = G := ⟨_, rfl⟩
  rw [hG] at HS0
  have hi0 : i / 2 ^ K = 0 := Nat.div_eq_of_lt HI.out.1
  go_loopw [10, 11] (fun vs vx wr => ∃ (k : Nat) (s : List Int), k ≤ K ∧ vx = .int .i64 (nodeAt k (i / 2 ^ k) : Int) ∧ Hid (Kd.R (Kd.int .u8) 5 wr w.heap.size (fun _ => True) vs s ∧ s.length = 32 ∧ byteOk s = true ∧ downS i k s = G) ∧ Hid (Below w.heap.size w wr)) (fun _ vx _ => lev (intOf vx).toNat)
  case atStart => exact ⟨K, s0, Nat.le_refl _, by rw [hi0, q2], Lib.hid ⟨H2.out.1, HS0.out⟩, Lib.hid H2.out.2⟩
  case round =>
    clear H2 HS0 q2 hi0
    obtain ⟨k, s, hk, rfl, HS, HB⟩ := hrel
    cases k with
    | zero =>
      have hx : (nodeAt 0 (i / 2 ^ 0) : Int) = Y := by rw [Nat.pow_zero, Nat.div_one, nodeAt_leaf, hY]
      have hs : s = G := HS.out.2.2.2
      rw [hx]
      have dne : (Y != Y) = false := bne_self_eq_false _
      clear hx
      go_wp2
      go_ret2
      exact ⟨_, rfl, by rw [hG, ← hs]; exact HS.out.1, HB.out⟩
    | succ k =>
    have hlt := node_lt K (k + 1) i hK HI.out.1 hk
    have hodd := nodeAt_odd k (i / 2 ^ (k + 1))
    have hsd := node_side i k
    have hup := half_up i k
    have hlev := lev_node (k + 1) (i / 2 ^ (k + 1)) (by omega)
    have hlev2 := lev_node k (i / 2 ^ k) (by omega)
    obtain ⟨X, hX⟩ : ∃ X : Int, (nodeAt (k + 1) (i / 2 ^ (k + 1)) : Int) = X := ⟨_, rfl⟩
    obtain ⟨Z, hZ⟩ : ∃ Z : Int, (nodeAt k (i / 2 ^ k) : Int) = Z := ⟨_, rfl⟩
    have HM := Lib.hid (show lev (intOf (.int .i64 Z)).toNat < lev (intOf (.int .i64 X)).toNat by
      simp only [intOf]
      rw [← hX, ← hZ, Int.toNat_natCast, Int.toNat_natCast, hlev, hlev2]
      omega)
    have dne : (X != Y) = true := by
      rw [← hX, ← hY]
      simp only [bne_iff_ne, ne_eq, Int.natCast_inj]
      omega
    obtain ⟨As, cs, rfl, hcs, hCs⟩ := Kd.R_reads HS.out.1
    have HC := Lib.hid hCs
    clear hCs
    by_cases hb : i / 2 ^ k % 2 = 1
    · have dlt : decide (X < Y) = true := by
        rw [← hX, ← hY]
        simp only [decide_eq_true_eq]
        have := hsd.2 hb
        omega
      have HC2 := Lib.hid (show ∀ W : World, TabOk W → Calls Tryd.prog 31 #[.int .i64 X] W fun e w' => e = .returned (.tuple #[.int .i64 Z, .int .i64 0]) ∧ Below W.heap.size W w' from fun W hT => by
        rw [← hX, ← hZ, show i / 2 ^ k = 2 * (i / 2 ^ (k + 1)) + 1 by omega]
        exact right_calls k (i / 2 ^ (k + 1)) W hlt (by omega) hT)
      rw [hX]
      clear hlt hodd hsd hup hlev hlev2 
      go_wp2_with fail
      refine (part_nil labRight (by decide) As cs s wr HS.out.2.2.1 (by rw [HS.out.2.1]; decide) HC.out hcs).mono ?_
      rintro e W3 ⟨v3, rfl, hR3, hb3⟩
      have H3 := Lib.hid (And.intro (Kd.R_lower hR3 HB.out.size) (HB.out.trans (hb3.mono HB.out.size)))
      clear hR3 hb3
      go_wp2_with fail
      refine (HC2.out W3 (HK.out.2.1.below H3.out.2 HK.out.2.1.1)).mono ?_
      rintro e W4 ⟨rfl, hb4⟩
      have H4 := Lib.hid (And.intro (Kd.R_below H3.out.1 hb4) (H3.out.2.trans (hb4.mono H3.out.2.size)))
      clear hb4 H3
      go_wp2
      exact ⟨⟨k, _, by omega, by rw [hZ], Lib.hid ⟨H4.out.1, labelOf_length _ _ _ _, byteOk_labelOf _ _ _ _, by rw [← HS.out.2.2.2]; exact (downS_right i k s hb).symm⟩, Lib.hid H4.out.2⟩, HM.out⟩
    · have dlt : decide (X < Y) = false := by
        rw [← hX, ← hY]
        simp only [decide_eq_false_iff_not]
        intro h
        exact hb (hsd.1 (by omega))
      have HC2 := Lib.hid (show ∀ W : World, TabOk W → Calls Tryd.prog 30 #[.int .i64 X] W fun e w' => e = .returned (.tuple #[.int .i64 Z, .int .i64 0]) ∧ Below W.heap.size W w' from fun W hT => by
        rw [← hX, ← hZ, show i / 2 ^ k = 2 * (i / 2 ^ (k + 1)) by omega]
        exact left_calls k (i / 2 ^ (k + 1)) W hlt (by omega) hT)
      rw [hX]
      clear hlt hodd hsd hup hlev hlev2 
      go_wp2_with fail
      refine (part_nil labLeft (by decide) As cs s wr HS.out.2.2.1 (by rw [HS.out.2.1]; decide) HC.out hcs).mono ?_
      rintro e W3 ⟨v3, rfl, hR3, hb3⟩
      have H3 := Lib.hid (And.intro (Kd.R_lower hR3 HB.out.size) (HB.out.trans (hb3.mono HB.out.size)))
      clear hR3 hb3
      go_wp2_with fail
      refine (HC2.out W3 (HK.out.2.1.below H3.out.2 HK.out.2.1.1)).mono ?_
      rintro e W4 ⟨rfl, hb4⟩
      have H4 := Lib.hid (And.intro (Kd.R_below H3.out.1 hb4) (H3.out.2.trans (hb4.mono H3.out.2.size)))
      clear hb4 H3
      go_wp2
      exact ⟨⟨k, _, by omega, by rw [hZ], Lib.hid ⟨H4.out.1, labelOf_length _ _ _ _, byteOk_labelOf _ _ _ _, by rw [← HS.out.2.2.2]; exact (downS_left i k s hb).symm⟩, Lib.hid H4.out.2⟩, HM.out⟩
end Go.Proofs.YtdklmafkcbjomaaDoor

/-! U0 -/
namespace Go.Proofs.YtdklmafkcbjomaaDoor.U
open Go.Proofs.YtdklmafkcbjomaaDoor.P
open Go.RowKit Go.Proofs.YtdklmafkcbjomaaDoorW.PrintWords Go.Proofs.YtdklmafkcbjomaaDoorW.PrintLast Go.Proofs.YtdklmafkcbjomaaDoorW.PrintMore
attribute [local go_sem] max2_int min2_int max_two min_two max_three min_three max_four min_four   -- for this text's walks alone
set_option linter.unusedVariables false
set_option linter.unusedSimpArgs false
def errW : Option Int → Value
  | none => .nilIface
  | some c => .iface 0 (.int .i64 c)
theorem errW_none : errW none = .nilIface := rfl
theorem errW_some (c : Int) : errW (some c) = .iface 0 (.int .i64 c) := rfl
-- the values' own types
end Go.Proofs.YtdklmafkcbjomaaDoor.U
