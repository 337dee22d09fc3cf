/-
 The lower layers, walked and in closed forms, part 2: MathA, ShaPad, ShaSum, Text, Sha2, HandA, ShaFacts, RefStep, RefPad, RefSum, Mac, M0.
-/
import Derived.Test.YtdklmafkcbjomaaDoorE0
import Derived.Test.YtdklmafkcbjomaaDoorE1
import Derived.Test.YtdklmafkcbjomaaDoorChecked
import Derived.Test.YtdklmafkcbjomaaDoorFWords
import Derived.Test.YtdklmafkcbjomaaDoorFLast
import Derived.Test.YtdklmafkcbjomaaDoorFMore
import Derived.Test.YtdklmafkcbjomaaDoorProg
import Derived.Test.YtdklmafkcbjomaaDoorFRepsOne
import Derived.Lib.Hide
import Derived.Deep.QuietTactic
import Derived.BigQuiet
import Derived.Lib.SlBytesConst
import Derived.OpenShut
import Derived.Deep.RegionHeld3
import Derived.Deep.DrawnRows
import Derived.StillTailTactics
import Derived.Lib.AppendZeros
import Derived.Below
import Derived.Deep.Draws
import Derived.Deep.AppendLies
import Derived.Maps.AppendAt
import Derived.OwnWalk
import Derived.Laws.BytesArg
import Derived.Laws.MakeOwn
import Derived.Laws.OwnMore
import Derived.Deep.OwnRows
import Derived.Tactics
import Derived.Lib.ConvBytes
import Derived.Laws.Slices
import Derived.WalkKit
import Derived.KernelRfl
import Derived.RowKit3
import Derived.Deep.LoopGhost
import Derived.WideLaws
import Derived.Deep.DeepCutAuto
import Derived.Deep.CutBlock
import Derived.Laws.Rows
import Derived.Lib.AppendStr
import Derived.ArgAppend
import Derived.Laws.IdiomCopy
import Derived.OrdersHeld
import Derived.Laws.BitsLemmas
import Derived.RowKit
/-! MathA -/
namespace Go.Proofs.YtdklmafkcbjomaaDoor
set_option linter.unusedVariables false
set_option linter.unusedSimpArgs false
open Go.RowKit Go.Proofs.YtdklmafkcbjomaaDoorW.PrintWords Go.Proofs.YtdklmafkcbjomaaDoorW.PrintLast
attribute [local go_sem] Oper.semAt_some
/-- The table of math/bits. -/
def deB : List Int := [0, 1, 56, 2, 57, 49, 28, 3, 61, 58, 42, 50, 38, 29, 17, 4, 62, 47, 59, 36, 45, 43, 51, 22, 53, 39, 33, 30, 24, 18, 12, 5, 63, 55, 48, 27, 60, 41, 37, 16, 46, 35, 44, 21, 52, 32, 23, 11, 54, 26, 40, 15, 34, 20, 31, 10, 25, 14, 19, 9, 13, 8, 7, 6]
/-- The world holds the table. -/
def TabOk (w : World) : Prop := 2 ≤ w.heap.size ∧ ∀ i, i < 64 → w.cell? ⟨1, i, none⟩ = some (.int .u8 (deB.getD i 0))
/-- Where the table is looked into. -/
def tzAt (x : Int) : Int := IntKind.u64.wrap (bits BinOp.and IntKind.u64 x (IntKind.u64.wrap (-x)) * 285870213051353865) / 288230376151711744
def levF : Nat → Nat → Nat
 | 0, _ => 0
 | f + 1, x => if x % 2 = 1 then levF f (x / 2) + 1 else 0
def lev (x : Nat) : Nat := levF 11 x
def tzOk (x : Nat) : Bool := (bits BinOp.xor IntKind.u64 IntKind.u64.max (x : Int) != 0) && decide (0 ≤ tzAt (bits BinOp.xor IntKind.u64 IntKind.u64.max (x : Int))) && decide (tzAt (bits BinOp.xor IntKind.u64 IntKind.u64.max (x : Int)) < 64) && (deB.getD (tzAt (bits BinOp.xor IntKind.u64 IntKind.u64.max (x : Int))).toNat 0 == (lev x : Int))
set_option maxRecDepth 100000 in
theorem tzOk_all : (List.range 2047).all tzOk = true := by decide +kernel
set_option maxRecDepth 100000 in
set_option maxHeartbeats 1000000 in
theorem tz64 (x : Int) (j : Nat) (v : Int) (w : World) (hx : (x == 0) = false) (hE : tzAt x = (j : Int)) (hj : j < 64) (hc : w.cell? ⟨1, j, none⟩ = some (.int .u8 v)) (hv : IntKind.i64.wrap v = v) :
  Calls Tryd.prog 81 #[.int .u64 x] w fun e w' => e = .returned (.int .i64 v) ∧ Below w.heap.size w w' := by
 have h1 : (0 : Int) ≤ (j : Int) := by omega
 have h2 : (j : Int) < 64 := by omega
 unfold tzAt at hE
 go_enter Tryd.func81, Tryd.ntmps81
 go_wp2
 go_ret
 exact ⟨rfl, Below.refl _ _⟩
set_option maxRecDepth 100000 in
set_option maxHeartbeats 1000000 in
theorem tz (x : Int) (j : Nat) (v : Int) (w : World) (hx : (x == 0) = false) (hE : tzAt x = (j : Int)) (hj : j < 64) (hc : w.cell? ⟨1, j, none⟩ = some (.int .u8 v)) (hv : IntKind.i64.wrap v = v) :
  Calls Tryd.prog 70 #[.int .u64 x] w fun e w' => e = .returned (.int .i64 v) ∧ Below w.heap.size w w' := by
 have H := Lib.hid (tz64 x j v w hx hE hj hc hv)
 clear hx hE hj hc hv
 go_enter Tryd.func70, Tryd.ntmps70
 go_wp2_with fail
 refine H.out.mono ?_
 rintro e w1 ⟨rfl, hb⟩
 go_wp2
 go_ret
 exact ⟨rfl, hb⟩
theorem levF_le : ∀ f x, levF f x ≤ f
 | 0, _ => Nat.le_refl _
 | f + 1, x => by
  unfold levF
  split
  ·have := levF_le f (x / 2); omega
  ·omega
theorem lev_le (x : Nat) : lev x ≤ 11 := levF_le 11 x
set_option maxRecDepth 100000 in
set_option maxHeartbeats 1000000 in
theorem level_calls (x : Nat) (w : World) (h1 : x < 2047) (hT : TabOk w) :
  Calls Tryd.prog 59 #[.int .i64 (x : Int)] w fun e w' => e = .returned (.int .i64 (lev x : Int)) ∧ Below w.heap.size w w' := by
 have ho := List.all_eq_true.1 tzOk_all x (List.mem_range.2 h1)
 simp only [tzOk, Bool.and_eq_true, decide_eq_true_eq, bne_iff_ne, ne_eq, beq_iff_eq] at ho
 obtain ⟨⟨⟨o1, o2⟩, o3⟩, o4⟩ := ho
 obtain ⟨j, hj⟩ := Int.eq_ofNat_of_zero_le o2
 have hj64 : j < 64 := by omega
 have hl := lev_le x
 have H := Lib.hid (tz _ j (lev x : Int) w (beq_eq_false_iff_ne.mpr o1) hj hj64 (by rw [hT.2 j hj64, ← o4, hj]; rfl) (by rw [IntKind.wrap_i64]; omega))
 have d0 : decide ((x : Int) < 0) = false := by simp
 have d1 : decide (2047 ≤ (x : Int)) = false := by simp; omega
 have d2 : decide (2047 ≤ x) = false := by simp; omega
 clear o1 o2 o3 o4 hj hj64 hl hT
 go_enter Tryd.func59, Tryd.ntmps59
 go_wp2_with fail
 refine H.out.mono ?_
 rintro e w1 ⟨rfl, hb⟩
 go_wp2
 go_ret
 exact ⟨rfl, hb⟩
end Go.Proofs.YtdklmafkcbjomaaDoor

/-! ShaPad -/
namespace Go.Proofs.YtdklmafkcbjomaaDoor
open Go.RowKit Go.Proofs.YtdklmafkcbjomaaDoor.L Go.Proofs.YtdklmafkcbjomaaDoorW.PrintWords Go.Proofs.YtdklmafkcbjomaaDoorW.PrintLast Go.Proofs.YtdklmafkcbjomaaDoorW.PrintMore
def ofB (b : List Nat) : List Int := b.map fun (x : Nat) => (x : Int)
def toB (l : List Int) : List Nat := l.map Int.toNat
def byteOk (l : List Int) : Bool := l.all fun x => decide (0 ≤ x) && decide (x < 256)
theorem ofB_length (b : List Nat) : (ofB b).length = b.length := by simp [ofB]
theorem ofB_toB (l : List Int) (h : byteOk l = true) : ofB (toB l) = l := by
 unfold ofB toB
 rw [List.map_map]
 conv => rhs; rw [← List.map_id l]
 refine List.map_congr_left fun x hx => ?_
 unfold byteOk at h
 have := List.all_eq_true.1 h x hx
 simp only [Bool.and_eq_true, decide_eq_true_eq] at this
 simp
 omega
theorem toB_ofB (b : List Nat) : toB (ofB b) = b := by
 unfold ofB toB
 rw [List.map_map]
 conv => rhs; rw [← List.map_id b]
 exact List.map_congr_left fun x _ => by simp
theorem ofB_append (a b : List Nat) : ofB (a ++ b) = ofB a ++ ofB b := by simp [ofB]
theorem padLen_eq (n : Nat) : wrap64 (1 + (Int.tmod (wrap64 (119 - (Int.tmod (n : Int) 64))) 64)) = (Sha.padLen n : Int) := by
 have h1 : Int.tmod (n : Int) 64 = ((n % 64 : Nat) : Int) := rfl
 have h2 : wrap64 (119 - ((n % 64 : Nat) : Int)) = ((119 - n % 64 : Nat) : Int) := by unfold wrap64; omega
 have h3 : Int.tmod ((119 - n % 64 : Nat) : Int) 64 = (((119 - n % 64) % 64 : Nat) : Int) := rfl
 rw [h1, h2, h3]
 unfold Sha.padLen wrap64
 omega
theorem shr_at (n : Nat) (hn : n ≤ 1125899906842624) (s : Nat) (hs : s ≤ 56) : (shr .i64 (wrap64 ((n : Int) * 8)) (s : Int)) % 256 = ((n * 8 / 2 ^ s % 256 : Nat) : Int) := by
 have h1 : wrap64 ((n : Int) * 8) = ((n * 8 : Nat) : Int) := by unfold wrap64; omega
 rw [h1]
 show ((n * 8 : Nat) : Int) / 2 ^ (min (s : Int).toNat 64) % 256 = _
 rw [show min (s : Int).toNat 64 = s by omega]
 simp
def beTail (m : Nat) : Nat → List Nat
 | 0 => []
 | j + 1 => m / 2 ^ (8 * j) % 256 :: beTail m j
theorem beTail_eight (m : Nat) : beTail m 8 = Sha.be m := by simp [beTail, Sha.be]
theorem pad_loop (n : Nat) (hn : n ≤ 1125899906842624) : ∀ (j : Nat) (y : List Int), j ≤ 8 → y.length ≤ 100 - j → sha_Pad.l0 (j + 1) n y (8 * (j : Int) - 8) = some (y ++ ofB (beTail (n * 8) j))
 | 0, y, _, _ => by
  rw [sha_Pad.l0]
  rw [if_neg (by omega)]
  simp [beTail, ofB]
 | j + 1, y, hj, hy => by
  rw [sha_Pad.l0]
  have e : 8 * ((j + 1 : Nat) : Int) - 8 = ((8 * j : Nat) : Int) := by omega
  rw [e, if_pos (by omega), if_pos (by omega), if_pos (by omega), shr_at n hn (8 * j) (by omega), show wrap64 (((8 * j : Nat) : Int) - 8) = 8 * (j : Int) - 8 by unfold wrap64; omega]
  have ih := pad_loop n hn j (y ++ [((n * 8 / 2 ^ (8 * j) % 256 : Nat) : Int)]) (by omega) (by simp; omega)
  rw [ih, List.append_assoc]
  rfl
theorem pad_head (n : Nat) : (List.replicate (Sha.padLen n) (0 : Int)).set 0 128 = ofB (128 :: List.replicate (Sha.padLen n - 1) 0) := by
 have := (Sha.padLen_le n).1
 obtain ⟨k, hk⟩ : ∃ k, Sha.padLen n = k + 1 := ⟨Sha.padLen n - 1, by omega⟩
 rw [hk]
 simp [ofB, List.replicate_succ]
theorem pad_eq (n : Nat) (hn : n ≤ 1125899906842624) : sha_Pad.f 10 n = some (ofB (Sha.pad n)) := by
 have hp := Sha.padLen_le n
 unfold sha_Pad.f
 rw [if_neg (by omega), decide_eq_false (by omega)]
 simp only [sha_Pad.j0]
 rw [if_neg (by simp), padLen_eq n, if_pos (by omega), if_pos (by omega)]
 simp only [Option.bind_some, Int.toNat_natCast, List.length_replicate]
 rw [if_pos (by omega), show (0 : Int).toNat = 0 from rfl, pad_head]
 have h := pad_loop n hn 8 (ofB (128 :: List.replicate (Sha.padLen n - 1) 0)) (by omega) (by rw [ofB_length]; simp; omega)
 rw [show (8 * ((8 : Nat) : Int) - 8) = 56 by omega] at h
 rw [h, beTail_eight, ← ofB_append]
 rfl
theorem pad_none (k : Nat) (n : Int) (hn : n < 0 ∨ 1125899906842624 < n) : sha_Pad.f (k + 1) n = some [] := by
 unfold sha_Pad.f
 rcases hn with h | h
 ·rw [if_pos h]
  simp [sha_Pad.j0]
 ·rw [if_neg (by omega), decide_eq_true (by omega)]
  simp [sha_Pad.j0]
end Go.Proofs.YtdklmafkcbjomaaDoor

/-! ShaSum -/
namespace Go.Proofs.YtdklmafkcbjomaaDoor
set_option linter.unusedVariables false
set_option linter.unusedSimpArgs false
open Go.RowKit Go.Proofs.YtdklmafkcbjomaaDoor.L Go.Proofs.YtdklmafkcbjomaaDoorW.PrintWords Go.Proofs.YtdklmafkcbjomaaDoorW.PrintLast Go.Proofs.YtdklmafkcbjomaaDoorW.PrintMore
attribute [local go_sem ↓] Go.wp_at_zero Go.wp_at_succ
theorem bytesAt_of_C {w : World} {A : Option Addr} {b : List Nat} (h : Kd.C (Kd.int .u8) w A (ofB b).length (ofB b)) : BytesAt w w.heap.size A b := by
 intro i hi
 obtain ⟨ad, rfl, hc⟩ := Kd.at_int h (i : Int) (by omega) (by rw [ofB_length]; omega)
 have hc' : w.cell? (ad.add i) = some (.int .u8 (b.getD i 0)) := by
  have e : rd (ofB b) (i : Int) = ((b.getD i 0 : Nat) : Int) := by simp [rd, ofB, hi]
  rw [← e]
  simpa using hc
 have hb := block_lt_of_cell hc'
 rw [block_of_add] at hb
 exact ⟨ad, rfl, hb, hc'⟩
theorem blkTo_len (b h : List Nat) (hh : h.length = 8) : ∀ k, (Sha.blkTo b h k).length = 8
 | 0 => hh
 | k + 1 => by rw [Sha.blkTo]; exact mixed_len _ _ (blkTo_len b h hh k)
theorem blkTo_ws (b h : List Nat) (hh : Ws h) : ∀ k, Ws (Sha.blkTo b h k)
 | 0 => hh
 | k + 1 => by rw [Sha.blkTo]; exact mixed_ws _ _ (blkTo_ws b h hh k)
theorem hTab_ws : Ws Sha.hTab := by
 intro i
 rcases Nat.lt_or_ge i 8 with h | h
 ·exact (by decide +kernel : ∀ i, i < 8 → Sha.hTab.getD i 0 < 4294967296) i h
 ·have hl : Sha.hTab.length = 8 := by decide
  rw [List.getD_eq_getElem?_getD, List.getElem?_eq_none (by omega)]
  decide
theorem hTab_len : Sha.hTab.length = 8 := by decide
theorem bs_of_ok (l : List Int) (h : byteOk l = true) : Bs (toB l) := by
 intro i
 unfold byteOk at h
 rw [List.all_eq_true] at h
 by_cases hi : i < l.length
 ·have := h l[i] (List.getElem_mem hi)
  simp only [Bool.and_eq_true, decide_eq_true_eq] at this
  simp [toB, hi]
  omega
 ·rw [List.getD_eq_getElem?_getD, List.getElem?_eq_none (by simp [toB]; omega)]
  decide
theorem Bs.cut {b : List Nat} (h : Bs b) (lo hi : Nat) : Bs ((b.take hi).drop lo) := by
 intro i
 have h2 := h (lo + i)
 rw [List.getD_eq_getElem?_getD] at h2 ⊢
 rw [List.getElem?_drop, List.getElem?_take]
 split
 ·exact h2
 ·decide
theorem Bs.drop_ {b : List Nat} (h : Bs b) (k : Nat) : Bs (b.drop k) := by
 intro i
 have h2 := h (k + i)
 rw [List.getD_eq_getElem?_getD] at h2 ⊢
 rwa [List.getElem?_drop]
theorem Bs.append_ {a b : List Nat} (h : Bs a) (hb : Bs b) : Bs (a ++ b) := by
 intro i
 have h1 := h i
 have h2 := hb (i - a.length)
 rw [List.getD_eq_getElem?_getD] at h1 h2 ⊢
 rw [List.getElem?_append]
 split
 ·exact h1
 ·exact h2
theorem bs_mem {b : List Nat} (h : ∀ x ∈ b, x < 256) : Bs b := by
 intro i
 by_cases hi : i < b.length
 ·rw [List.getD_eq_getElem?_getD, List.getElem?_eq_getElem hi]
  exact h _ (List.getElem_mem hi)
 ·rw [List.getD_eq_getElem?_getD, List.getElem?_eq_none (by omega)]
  decide
theorem pad_bs (n : Nat) : Bs (Sha.pad n) := by
 refine bs_mem fun x hx => ?_
 unfold Sha.pad Sha.be at hx
 simp only [List.mem_cons, List.mem_append, List.mem_replicate, List.not_mem_nil, or_false] at hx
 rcases hx with h | h | h | h | h | h | h | h | h | h <;> omega
theorem BytesAt.cut {w : World} {B : Nat} {A : Option Addr} {b : List Nat} (h : BytesAt w B A b) (lo hi : Nat) (hh : hi ≤ b.length) : BytesAt w B (A.map (·.add lo)) ((b.take hi).drop lo) := by
 intro i hi2
 rw [List.length_drop, List.length_take] at hi2
 obtain ⟨ad, rfl, h1, h2⟩ := h (lo + i) (by omega)
 refine ⟨ad.add lo, rfl, by rw [block_of_add]; exact h1, ?_⟩
 rw [add_of_add, h2]
 congr 2
 simp only [List.getD_eq_getElem?_getD, List.getElem?_drop, List.getElem?_take]
 rw [if_pos (by omega)]
theorem bcell2 {B : Nat} {W w1 : World} (hb : Below B W w1) : (∀ b o, b < B → w1.cell? ⟨b, o, none⟩ = W.cell? ⟨b, o, none⟩) ∧ (∀ b o, b < B → w1.frozen? ⟨b, o, none⟩ = W.frozen? ⟨b, o, none⟩) :=
 ⟨fun b o h => hb.cell (p := ⟨b, o, none⟩) h, fun b o h => hb.frozen (p := ⟨b, o, none⟩) h⟩
theorem Blk.setW {w : World} {g : Nat} {t : TypeId} {l : List Nat} (h : Blk w g t (wordsV l)) (i v : Nat) : Blk (w.setCell ⟨g, i, none⟩ (.int .u32 (v : Int))) g t (wordsV (l.set i v)) := by
 rw [← wordsV_set]
 exact h.set_ i _
theorem Blk.grown_ {w w' : World} {g : Nat} {t : TypeId} {cs : Array Value} {row : Option Nat} (h : Blk w g t cs) (hb : w.grownBy w' row) (hg : some g ≠ row) : Blk w' g t cs := (hb.block g h.lt hg).trans h
theorem own_ne {v : Value} {h s g : Nat} (hat : v.ownBlock = some h ∨ ∃ b, v.ownBlock = some b ∧ s ≤ b) (h1 : g < h) (h2 : h ≤ s) : some g ≠ v.ownBlock := by
 rcases hat with e | ⟨b, e, hb⟩
 ·rw [e]; simp; omega
 ·rw [e]; simp; omega
theorem index_w8 (l : List Nat) (t : Nat) (ht : t < 8) (hl : l.length = 8) (W : World) : (Instr.index 105 (.agg (wordsV l)) (.int .i64 (t : Int))).run Tryd.prog W = .ok (.int .u32 (l.getD t 0)) W := by
 have hv := wordsV_at l t (by omega)
 unfold Instr.index
 simp [go_sem, part, hv, Tryd.isAgg104, Tryd.sizeOf104, ht]
theorem flat_len (l : List Nat) : (l.flatMap Sha.out4).length = 4 * l.length := by
 induction l with
 | nil => rfl
 | cons x l ih => rw [List.flatMap_cons, List.length_append, ih]; simp [Sha.out4]; omega
theorem out4_ints (x : Nat) (h : x < 4294967296) : ofB (Sha.out4 x) = [(x : Int) / 16777216, (x : Int) / 65536 % 256, (x : Int) / 256 % 256, (x : Int) % 256] := by
 unfold ofB Sha.out4
 simp only [List.map_cons, List.map_nil, Nat.shiftRight_eq_div_pow]
 simp
 omega
theorem out4_snoc (l : List Nat) (t : Nat) (ht : t < l.length) (x : Nat) (hx : l.getD t 0 = x) (lx : x < 4294967296) :
  ofB ((l.take (t + 1)).flatMap Sha.out4) = ofB ((l.take t).flatMap Sha.out4) ++ [(x : Int) / 16777216, (x : Int) / 65536 % 256, (x : Int) / 256 % 256, (x : Int) % 256] := by
 rw [List.take_succ_eq_append_getElem ht, List.flatMap_append, ofB_append, ← out4_ints x lx]
 have : l[t] = x := by rw [← hx]; simp [ht]
 rw [this]
 simp
theorem c_lit (W : World) (e : Nat) (xs : List Int) (hm : xs.length ≤ 9223372036854775807) : Kd.C (Kd.int .u8) (W.alloc (.cells (nums .u8 xs).toArray e)) (some ⟨W.heap.size, 0, none⟩) xs.length xs := by
 obtain ⟨A, c, e1, _, hC⟩ := Kd.R_reads (Kd.R_of_own (enc := Value.int .u8) (h1 := fun _ => rfl) (own_lit W 0 e .u8 xs (Nat.zero_le _) hm) (fun _ _ => trivial) : Kd.R (Kd.int .u8) e _ 0 (fun _ => True) _ xs)
 injection e1 with e1
 subst e1
 exact hC
theorem eight {W : World} {g : Nat} {T : TypeId} {x0 x1 x2 x3 x4 x5 x6 x7 : Nat} (h : Blk W g T (wordsV [x0, x1, x2, x3, x4, x5, x6, x7])) (y0 y1 y2 y3 y4 y5 y6 y7 : Nat) :
  Blk ((((((((W.setCell ⟨g, 0, none⟩ (.int .u32 (y0 : Int))).setCell ⟨g, 1, none⟩ (.int .u32 (y1 : Int))).setCell ⟨g, 2, none⟩ (.int .u32 (y2 : Int))).setCell ⟨g, 3, none⟩ (.int .u32 (y3 : Int))).setCell ⟨g, 4, none⟩ (.int .u32 (y4 : Int))).setCell ⟨g, 5, none⟩ (.int .u32 (y5 : Int))).setCell ⟨g, 6, none⟩ (.int .u32 (y6 : Int))).setCell ⟨g, 7, none⟩ (.int .u32 (y7 : Int))) g T (wordsV [y0, y1, y2, y3, y4, y5, y6, y7]) ∧
  (∀ g' T' cs, g' ≠ g → Blk W g' T' cs → Blk ((((((((W.setCell ⟨g, 0, none⟩ (.int .u32 (y0 : Int))).setCell ⟨g, 1, none⟩ (.int .u32 (y1 : Int))).setCell ⟨g, 2, none⟩ (.int .u32 (y2 : Int))).setCell ⟨g, 3, none⟩ (.int .u32 (y3 : Int))).setCell ⟨g, 4, none⟩ (.int .u32 (y4 : Int))).setCell ⟨g, 5, none⟩ (.int .u32 (y5 : Int))).setCell ⟨g, 6, none⟩ (.int .u32 (y6 : Int))).setCell ⟨g, 7, none⟩ (.int .u32 (y7 : Int))) g' T' cs) ∧
  (∀ B w0, B ≤ g → Below B w0 W → Below B w0 ((((((((W.setCell ⟨g, 0, none⟩ (.int .u32 (y0 : Int))).setCell ⟨g, 1, none⟩ (.int .u32 (y1 : Int))).setCell ⟨g, 2, none⟩ (.int .u32 (y2 : Int))).setCell ⟨g, 3, none⟩ (.int .u32 (y3 : Int))).setCell ⟨g, 4, none⟩ (.int .u32 (y4 : Int))).setCell ⟨g, 5, none⟩ (.int .u32 (y5 : Int))).setCell ⟨g, 6, none⟩ (.int .u32 (y6 : Int))).setCell ⟨g, 7, none⟩ (.int .u32 (y7 : Int)))) :=
 ⟨((((((((h.setW 0 y0).setW 1 y1).setW 2 y2).setW 3 y3).setW 4 y4).setW 5 y5).setW 6 y6).setW 7 y7), fun g' T' cs hne hk => ((((((((hk.far (p := ⟨g, 0, none⟩) hne (.int .u32 (y0 : Int))).far (p := ⟨g, 1, none⟩) hne (.int .u32 (y1 : Int))).far (p := ⟨g, 2, none⟩) hne (.int .u32 (y2 : Int))).far (p := ⟨g, 3, none⟩) hne (.int .u32 (y3 : Int))).far (p := ⟨g, 4, none⟩) hne (.int .u32 (y4 : Int))).far (p := ⟨g, 5, none⟩) hne (.int .u32 (y5 : Int))).far (p := ⟨g, 6, none⟩) hne (.int .u32 (y6 : Int))).far (p := ⟨g, 7, none⟩) hne (.int .u32 (y7 : Int))), fun B w0 hB hb => ((((((((hb.setCell (p := ⟨g, 0, none⟩) hB (.int .u32 (y0 : Int))).setCell (p := ⟨g, 1, none⟩) hB (.int .u32 (y1 : Int))).setCell (p := ⟨g, 2, none⟩) hB (.int .u32 (y2 : Int))).setCell (p := ⟨g, 3, none⟩) hB (.int .u32 (y3 : Int))).setCell (p := ⟨g, 4, none⟩) hB (.int .u32 (y4 : Int))).setCell (p := ⟨g, 5, none⟩) hB (.int .u32 (y5 : Int))).setCell (p := ⟨g, 6, none⟩) hB (.int .u32 (y6 : Int))).setCell (p := ⟨g, 7, none⟩) hB (.int .u32 (y7 : Int)))⟩
theorem eightR {W : World} {g e : Nat} {T : TypeId} {base : Nat} {l : List Nat} {v : Value} {xs : List Int} (hT : e ≠ T) (hb : Blk W g T (wordsV l)) (h : Kd.R (Kd.int .u8) e W base (fun _ => True) v xs) (y0 y1 y2 y3 y4 y5 y6 y7 : Nat) :
  Kd.R (Kd.int .u8) e ((((((((W.setCell ⟨g, 0, none⟩ (.int .u32 (y0 : Int))).setCell ⟨g, 1, none⟩ (.int .u32 (y1 : Int))).setCell ⟨g, 2, none⟩ (.int .u32 (y2 : Int))).setCell ⟨g, 3, none⟩ (.int .u32 (y3 : Int))).setCell ⟨g, 4, none⟩ (.int .u32 (y4 : Int))).setCell ⟨g, 5, none⟩ (.int .u32 (y5 : Int))).setCell ⟨g, 6, none⟩ (.int .u32 (y6 : Int))).setCell ⟨g, 7, none⟩ (.int .u32 (y7 : Int))) base (fun _ => True) v xs :=
 (Kd.R_set (Kd.R_set (Kd.R_set (Kd.R_set (Kd.R_set (Kd.R_set (Kd.R_set (Kd.R_set h hb (by intro q hq; simp [Kd.int, Kd.scalar] at hq; subst hq; exact hT) 0 (.int .u32 (y0 : Int))) (Blk.setW hb 0 y0) (by intro q hq; simp [Kd.int, Kd.scalar] at hq; subst hq; exact hT) 1 (.int .u32 (y1 : Int))) (Blk.setW (Blk.setW hb 0 y0) 1 y1) (by intro q hq; simp [Kd.int, Kd.scalar] at hq; subst hq; exact hT) 2 (.int .u32 (y2 : Int))) (Blk.setW (Blk.setW (Blk.setW hb 0 y0) 1 y1) 2 y2) (by intro q hq; simp [Kd.int, Kd.scalar] at hq; subst hq; exact hT) 3 (.int .u32 (y3 : Int))) (Blk.setW (Blk.setW (Blk.setW (Blk.setW hb 0 y0) 1 y1) 2 y2) 3 y3) (by intro q hq; simp [Kd.int, Kd.scalar] at hq; subst hq; exact hT) 4 (.int .u32 (y4 : Int))) (Blk.setW (Blk.setW (Blk.setW (Blk.setW (Blk.setW hb 0 y0) 1 y1) 2 y2) 3 y3) 4 y4) (by intro q hq; simp [Kd.int, Kd.scalar] at hq; subst hq; exact hT) 5 (.int .u32 (y5 : Int))) (Blk.setW (Blk.setW (Blk.setW (Blk.setW (Blk.setW (Blk.setW hb 0 y0) 1 y1) 2 y2) 3 y3) 4 y4) 5 y5) (by intro q hq; simp [Kd.int, Kd.scalar] at hq; subst hq; exact hT) 6 (.int .u32 (y6 : Int))) (Blk.setW (Blk.setW (Blk.setW (Blk.setW (Blk.setW (Blk.setW (Blk.setW hb 0 y0) 1 y1) 2 y2) 3 y3) 4 y4) 5 y5) 6 y6) (by intro q hq; simp [Kd.int, Kd.scalar] at hq; subst hq; exact hT) 7 (.int .u32 (y7 : Int)))
namespace P
def sha_Sum.f (l : List Int) : Option (List Int) := if byteOk l = true ∧ l.length ≤ 140737488351232 then some (ofB (Sha.sum (toB l))) else none
set_option maxRecDepth 100000 in
set_option maxHeartbeats 4000000 in
theorem sha_Sum.calls (A0 : Option Addr) (c0 : Nat) (l0 : List Int) (r : List Int) (w : World) (hr0 : Kd.C (Kd.int .u8) w A0 l0.length l0) (hc0 : l0.length ≤ c0) (h : sha_Sum.f l0 = some r) :
  Calls Tryd.prog 87 #[.slice A0 l0.length c0] w fun e w' => ∃ v0_ : Value, e = .returned (v0_) ∧ Kd.R (Kd.int .u8) 5 w' w.heap.size (fun _ => True) v0_ r ∧ Below w.heap.size w w' := by
 unfold sha_Sum.f at h
 split at h
 case isFalse => cases h
 case isTrue hok =>
 obtain ⟨hby, hlen⟩ := hok
 injection h with h
 obtain ⟨b, hb⟩ : ∃ b, toB l0 = b := ⟨_, rfl⟩
 have hl0 : l0 = ofB b := by rw [← hb]; exact (ofB_toB l0 hby).symm
 have hBs : Bs b := by rw [← hb]; exact bs_of_ok l0 hby
 rw [hb] at h
 subst h
 clear hb hby
 subst hl0
 rw [ofB_length] at hlen hc0
 have hA : BytesAt w w.heap.size A0 b := bytesAt_of_C hr0
 have HC := Lib.hid hr0
 clear hr0
 rw [ofB_length]
 obtain ⟨m, hm⟩ : ∃ m, b.length / 64 = m := ⟨_, rfl⟩
 obtain ⟨n, hn⟩ : ∃ n, b.length = n := ⟨_, rfl⟩
 have hmn : 64 * m ≤ n ∧ n < 64 * m + 64 := by omega
 have em : (n : Int) / 64 = (m : Int) := by omega
 rw [hn] at hlen hc0 ⊢
 have Hn := Lib.hid hn
 have Hm := Lib.hid hm
 clear hn hm
 obtain ⟨hm1, hm2⟩ := hmn
 go_enter Tryd.func87, Tryd.ntmps87
 go_wp2_with fail
 refine (keys_calls _).mono ?_
 rintro e W1 ⟨rfl, hb1⟩
 go_wp2_with (first
  | (refine wpList_store_row rfl 118 (.tmp 3) (.tmp 12) rfl W1.heap.size _ rfl rfl 118 _ (heap_alloc_new _ _) (by rw [wordsV_size, kTab_len]; exact infokeys) (by rw [wordsV_size, kTab_len]; rfl) (by simp [wordsV, Value.oneCell']) ?_))
 rw [zero64 []]
 have bk := (Blk.new W1 118 (wordsV (Sha.wordsTo [] 0))).setRow_ (wordsV Sha.kTab)
 have hb2 := (hb1.alloc hb1.size (.cells (wordsV (Sha.wordsTo [] 0)) 118)).trans (Iter.below_setRow (B := w.heap.size) (g := W1.heap.size) (wordsV Sha.kTab) hb1.size)
 have hgk := bk.lt
 have hkw := hb1.size
 generalize (W1.alloc (.cells (wordsV (Sha.wordsTo [] 0)) 118)).setRow W1.heap.size (wordsV Sha.kTab) = W2 at bk hb2 hgk ⊢
 generalize W1.heap.size = gk at *
 clear hb1
 refine (Start_calls _).mono ?_
 rintro e W3 ⟨rfl, hb3⟩
 have bk3 := bk.below hb3 hgk
 have hb4 := hb2.trans (hb3.mono hb2.size)
 have hz3 := hb3.size
 go_wp2_with (first
  | (refine wpList_store_row rfl 105 (.tmp 4) (.tmp 13) rfl W3.heap.size _ rfl rfl 105 _ (heap_alloc_new _ _) (by rw [wordsV_size, hTab_len]; exact infoStart) (by rw [wordsV_size, hTab_len]; rfl) (by simp [wordsV, Value.oneCell']) ?_))
 rw [zero8]
 have bh := (Blk.new W3 105 (wordsV z8)).setRow_ (wordsV Sha.hTab)
 have bk4 := (bk3.alloc (.cells (wordsV z8) 105)).farRow (g' := W3.heap.size) (by omega) (wordsV Sha.hTab)
 have hb5 := (hb4.alloc hb4.size (.cells (wordsV z8) 105)).trans (Iter.below_setRow (B := w.heap.size) (g := W3.heap.size) (wordsV Sha.hTab) hb4.size)
 have hgh : gk < W3.heap.size := by omega
 generalize (W3.alloc (.cells (wordsV z8) 105)).setRow W3.heap.size (wordsV Sha.hTab) = W4 at bk4 bh hb5 ⊢
 generalize W3.heap.size = gh at *
 clear bk3 bk hb4 hb3 hz3 hgk hb2
 go_wp2_with fail
 go_loopw [6] (fun i wr => ∃ k : Nat, k ≤ m ∧ i = .int .i64 ((64 * k : Nat) : Int) ∧ Blk wr gh 105 (wordsV (Sha.blkTo b Sha.hTab k)) ∧ Blk wr gk 118 (wordsV Sha.kTab) ∧ Below w.heap.size w wr) (fun i _ => 64 * m - (intOf i).toNat)
 case atStart => exact ⟨0, by omega, rfl, bh, bk4, hb5⟩
 clear bh bk4 hb5
 obtain ⟨k, hk, rfl, bh, bk, hbl⟩ := hrel
 have hhl := blkTo_len b Sha.hTab hTab_len k
 have hhw := blkTo_ws b Sha.hTab hTab_ws k
 by_cases hkm : k < m
 ·have hlt : decide (((64 * k : Nat) : Int) < (m : Int) * 64) = true := by simp; omega
  have hcap : ¬ c0 = 64 * k := by omega
  have hA1 : BytesAt wr wr.heap.size (A0.map (·.add (64 * k))) ((b.take (64 * k + 64)).drop (64 * k)) := ((hA.cut (64 * k) (64 * k + 64) (by rw [Hn.out]; omega)).below hbl).more hbl.size
  have hl1 : ((b.take (64 * k + 64)).drop (64 * k)).length = 64 := by rw [List.length_drop, List.length_take, Hn.out]; omega
  have hbs1 : Bs ((b.take (64 * k + 64)).drop (64 * k)) := hBs.cut _ _
  have hnx : Hid (Sha.blkTo b Sha.hTab (k + 1) = Sha.mixed (Sha.blkTo b Sha.hTab k) ((b.take (64 * k + 64)).drop (64 * k))) := Lib.hid rfl
  generalize (b.take (64 * k + 64)).drop (64 * k) = bb at *
  generalize Sha.blkTo b Sha.hTab k = hh at *
  have i0 : (0 : Int) ≤ ((64 * k : Nat) : Int) := by omega
  have i1 : ((64 * k : Nat) : Int) + 64 ≤ (n : Int) := by omega
  have i2 : (n : Int) ≤ (c0 : Int) := by omega
  have ew : IntKind.i64.wrap (((64 * k : Nat) : Int) + 64) = ((64 * k + 64 : Nat) : Int) := by rw [IntKind.wrap_i64]; omega
  obtain ⟨q, hq⟩ : ∃ q, 64 * k = q := ⟨_, rfl⟩
  rw [hq] at hlt hcap hA1 i0 i1 ew ⊢
  have e4 : q + 64 - q = 64 := by omega
  have s1 : (0 : Int) ≤ (q : Int) + 64 := by omega
  have s2 : (q : Int) + 64 ≤ (c0 : Int) := by omega
  have s3 : ((q : Int) + 64).toNat = q + 64 := by omega
  have Hq := Lib.hid hq
  clear hq em
  obtain ⟨x0, x1, x2, x3, x4, x5, x6, x7, rfl⟩ : ∃ x0 x1 x2 x3 x4 x5 x6 x7, hh = [x0, x1, x2, x3, x4, x5, x6, x7] := by
   match hh, hhl with
   | [x0, x1, x2, x3, x4, x5, x6, x7], _ => exact ⟨x0, x1, x2, x3, x4, x5, x6, x7, rfl⟩
  have g0 : wr.cell? ⟨gh, 0, none⟩ = some (.int .u32 x0) := bh.cell 0
  have g1 : wr.cell? ⟨gh, 1, none⟩ = some (.int .u32 x1) := bh.cell 1
  have g2 : wr.cell? ⟨gh, 2, none⟩ = some (.int .u32 x2) := bh.cell 2
  have g3 : wr.cell? ⟨gh, 3, none⟩ = some (.int .u32 x3) := bh.cell 3
  have g4 : wr.cell? ⟨gh, 4, none⟩ = some (.int .u32 x4) := bh.cell 4
  have g5 : wr.cell? ⟨gh, 5, none⟩ = some (.int .u32 x5) := bh.cell 5
  have g6 : wr.cell? ⟨gh, 6, none⟩ = some (.int .u32 x6) := bh.cell 6
  have g7 : wr.cell? ⟨gh, 7, none⟩ = some (.int .u32 x7) := bh.cell 7
  have hgl := bh.lt
  have hgk := bk.lt
  go_wp2_with fail
  have hml := mixed_len [x0, x1, x2, x3, x4, x5, x6, x7] bb rfl
  obtain ⟨y0, y1, y2, y3, y4, y5, y6, y7, hy⟩ : ∃ y0 y1 y2 y3 y4 y5 y6 y7, Sha.mixed [x0, x1, x2, x3, x4, x5, x6, x7] bb = [y0, y1, y2, y3, y4, y5, y6, y7] := by
   match Sha.mixed [x0, x1, x2, x3, x4, x5, x6, x7] bb, hml with
   | [y0, y1, y2, y3, y4, y5, y6, y7], _ => exact ⟨y0, y1, y2, y3, y4, y5, y6, y7, rfl⟩
  clear hml
  have hmix : Calls Tryd.prog 91 #[.agg #[Value.int .u32 (x0 : Int), Value.int .u32 (x1 : Int), Value.int .u32 (x2 : Int), Value.int .u32 (x3 : Int), Value.int .u32 (x4 : Int), Value.int .u32 (x5 : Int), Value.int .u32 (x6 : Int), Value.int .u32 (x7 : Int)], .slice (Option.map (fun x => x.add q) A0) 64 (c0 - q), .pointer (some ⟨gk, 0, none⟩)] wr.drew fun e w' => e = .returned (.agg #[Value.int .u32 (y0 : Int), Value.int .u32 (y1 : Int), Value.int .u32 (y2 : Int), Value.int .u32 (y3 : Int), Value.int .u32 (y4 : Int), Value.int .u32 (y5 : Int), Value.int .u32 (y6 : Int), Value.int .u32 (y7 : Int)]) ∧ Below wr.heap.size wr.drew w' := by
   have h1 := mixed_calls [x0, x1, x2, x3, x4, x5, x6, x7] bb (Option.map (fun x => x.add q) A0) (c0 - q) gk wr.drew hhw rfl hbs1 hl1 (by omega) (by exact hA1) (by exact bk)
   rw [hy] at h1
   exact h1
  have Hmix := Lib.hid hmix
  have Hy := Lib.hid hy
  clear hmix hy
  have f0 := bh.frozen 0
  have f1 := bh.frozen 1
  have f2 := bh.frozen 2
  have f3 := bh.frozen 3
  have f4 := bh.frozen 4
  have f5 := bh.frozen 5
  have f6 := bh.frozen 6
  have f7 := bh.frozen 7
  go_region_with (go_at_call 91; refine Hmix.out.mono ?_; rintro e W5 ⟨rfl, hbW⟩; obtain ⟨hcW, hfW⟩ := bcell2 hbW)
  have b5 : Blk W5 gh _ _ := Blk.below (w := wr.drew) bh hbW hgl
  have k5 : Blk W5 gk _ _ := Blk.below (w := wr.drew) bk hbW hgk
  have q5 := hbl.drew.trans (hbW.mono hbl.size)
  obtain ⟨e5, e6, e7⟩ := eight b5 y0 y1 y2 y3 y4 y5 y6 y7
  replace e6 := e6 gk _ _ (by omega) k5
  replace e7 := e7 _ _ (by omega) q5
  rw [← Hy.out, ← hnx.out] at e5
  have HF := Lib.hid (And.intro e5 (And.intro e6 e7))
  clear e5 e6 e7 b5 k5 q5 hcW hfW bh bk hbl
  go_wp2
  exact ⟨⟨k + 1, by omega, by have := Hq.out; rw [show ((64 * (k + 1) : Nat) : Int) = (q : Int) + 64 by omega], HF.out⟩, by have := Hq.out; simp [intOf]; omega⟩
 obtain rfl : k = m := by omega
 have hlt : decide (((64 * k : Nat) : Int) < (k : Int) * 64) = false := by simp; omega
 have hA2 := hA
 have hdrop : Kd.C (Kd.int .u8) wr (if c0 = k * 64 then A0 else Option.map (fun x => x.add (k * 64)) A0) (n - k * 64) (ofB (b.drop (64 * k))) := by
  have h1 := Kd.C_drop (m := k * 64) (c := c0) (Kd.C_below HC.out hbl) (by rw [ofB_length, Hn.out]; omega) (by rw [ofB_length, Hn.out]; exact hc0)
  have e1 : (ofB b).drop (k * 64) = ofB (b.drop (64 * k)) := by simp [ofB, Nat.mul_comm]
  rw [e1, ofB_length, List.length_drop, Hn.out] at h1
  have e2 : 64 * k = k * 64 := Nat.mul_comm _ _
  have e3 : (Kd.int .u8).sz = 1 := rfl
  rw [e3, Nat.mul_one] at h1
  rw [e2] at h1 ⊢
  exact h1
 have hpadl := Sha.pad_length n
 have hpadq := Sha.padLen_le n
 have Hb0 := hbl.alloc hbl.size (Obj.cells #[] 5)
 obtain ⟨q, hq⟩ : ∃ q, 64 * k = q := ⟨_, rfl⟩
 have h63 : decide ((q : Int) < (k : Int) * 64) = false := by simp; omega
 rw [show ((64 * k : Nat) : Int) = (q : Int) by rw [hq]]
 have Hq := Lib.hid hq
 clear hq hlt em
 have hdrop := Lib.hid hdrop
 have HB := Lib.hid (And.intro bh (And.intro bk hbl))
 have hgl := bh.lt
 have hgkl := bk.lt
 clear bh bk
 go_upto_region 8 with (fail)
 go_cut [7] (fun v7 wc => Aside0 (Kd.R (Kd.int .u8) 5 wc w.heap.size (fun _ => True) v7 (ofB (b.drop (64 * k) ++ Sha.pad n))) ∧ Blk wc gh 105 (wordsV (Sha.blkTo b Sha.hTab k)) ∧ Blk wc gk 118 (wordsV Sha.kTab) ∧ Below w.heap.size w wc)
 case first =>
  go_wp2_with (first
   | ((with_reducible refine gate_builtin (b := .append) (xs := #[.tmp 30, .tmp 33]) rfl ?_); at_builtin; refine Kd.R_append_rows (Kd.int .u8) (w0 := w) w.heap.size rfl (.tmp 30) (.tmp 33) 22 5 (.int .u8 0) 1 rfl Tryd.underlying22 info5 rfl (by decide) (by omega) (.slice (some ⟨wr.heap.size, 0, none⟩) 0 0) [] (ofB (b.drop (64 * k))) _ _ _ (fun _ => True) (fun _ => False) rfl rfl ?aO ?aR (fun _ _ h => h) (fun _ h => h.elim) ?aF ?aB ?aS ?aL ?_; (case aR => exact Kd.C_alloc hdrop.out _); (case aB => exact Hb0); (case aF => exact (fun _ _ => trivial)); (case aO => exact Kd.R_of_own (own_lit wr w.heap.size 5 .u8 [] hbl.size (by simp)) (fun _ _ => trivial)); (case aS => exact Hb0.size); (case aL => simp; omega); intro v1 W5 ho1 hb1 hg1 hat1))
  all_goals
   refine (sha_Pad.calls 10 (n : Int) _ _ (pad_eq n (by omega))).mono ?_
   rintro e W6 ⟨v2, rfl, ho2, hb2⟩
   obtain ⟨A4, c4, rfl, hl4, hC4⟩ := Kd.R_reads ho2
   have ho3 := Lib.hid (Kd.R_below ho1 hb2)
   have hb3 := hb1.trans (hb2.mono hb1.size)
   obtain ⟨bh0, bk0, hbl0⟩ := HB.out
   have hs5 := hg1.size
   rw [World.size_alloc] at hs5
   have bh5 := ((bh0.alloc (Obj.cells #[] 5)).grown_ hg1 (by simp [Value.ownBlock]; omega)).below hb2 (by omega)
   have bk5 := ((bk0.alloc (Obj.cells #[] 5)).grown_ hg1 (by simp [Value.ownBlock]; omega)).below hb2 (by omega)
   have nh := own_ne (g := gh) (h := wr.heap.size) hat1 (by omega) (by simp)
   have nk := own_ne (g := gk) (h := wr.heap.size) hat1 (by omega) (by simp)
   have HB5 := Lib.hid (And.intro bh5 (And.intro bk5 (And.intro nh nk)))
   have Hb3 := Lib.hid hb3
   have HC4 := Lib.hid hC4
   have hl34 := Hn.out
   rw [ofB_length, Sha.pad_length] at hl4
   clear bh5 bk5 nh nk bh0 bk0 hbl0 hg1 hat1 ho1 hb1 ho2 hb2 hb3 hC4
   rw [ofB_length, Sha.pad_length]
   go_wp2_with (first
    | ((with_reducible refine gate_builtin (b := .append) (xs := #[.tmp 34, .tmp 37]) rfl ?_); at_builtin; refine Kd.R_append_rows (Kd.int .u8) (w0 := w) w.heap.size rfl (.tmp 34) (.tmp 37) 22 5 (.int .u8 0) 1 rfl Tryd.underlying22 info5 rfl (by decide) (by omega) v1 ([] ++ ofB (b.drop (64 * k))) (ofB (Sha.pad n)) A4 (Sha.padLen n + 8) c4 (fun _ => True) (fun _ => False) rfl rfl ?aO ?aR (fun _ _ h => h) (fun _ h => h.elim) ?aF ?aB ?aS ?aL ?_; (case aR => (have := HC4.out; rw [ofB_length, Sha.pad_length] at this; exact this)); (case aB => exact Hb3.out); (case aF => exact (fun _ _ => trivial)); (case aO => exact ho3.out); (case aS => exact Hb3.out.size); (case aL => simp [ofB_length]; omega); intro v3 W7 ho4 hb4 hg4 hat4))
   all_goals
    have hfin : Aside0 (Kd.R (Kd.int .u8) 5 W7 w.heap.size (fun _ => True) v3 (ofB (b.drop (64 * k) ++ Sha.pad n))) := ⟨by rw [ofB_append]; exact ho4⟩
    obtain ⟨bh5, bk5, nh, nk⟩ := HB5.out
    have HF := Lib.hid (And.intro hfin (And.intro (bh5.grown_ hg4 nh) (And.intro (bk5.grown_ hg4 nk) hb4)))
    clear hfin bh5 bk5 nh nk ho4 hg4 hat4 hb4
    go_wp2
    first
     | (go_meet; case rel => exact HF.out)
     | (have hcc : c0 = k * 64 := by assumption
        subst hcc
        go_meet
        case rel => exact HF.out)
 clear hdrop HB h63 hA2 hpadq hpadl hgl hgkl
 obtain ⟨hR, bh, bk, hbl⟩ := hcut
 obtain ⟨A5, c5, rfl, hl5, hC5⟩ := Kd.R_reads hR.out
 obtain ⟨y, hy⟩ : ∃ y, b.drop (64 * k) ++ Sha.pad n = y := ⟨_, rfl⟩
 rw [hy] at hC5 hl5 hR ⊢
 have hB5 : BytesAt wc wc.heap.size A5 y := bytesAt_of_C hC5
 rw [ofB_length] at hl5 ⊢
 have hyl : y.length = n - 64 * k + (Sha.padLen n + 8) := by rw [← hy, List.length_append, List.length_drop, Hn.out, Sha.pad_length]
 have hyq := Sha.padLen_le n
 obtain ⟨m2, hm2⟩ : ∃ m2, y.length = 64 * m2 := ⟨y.length / 64, by omega⟩
 have Hy := Lib.hid hy
 have Hm2 := Lib.hid hm2
 have hms : 64 * m2 ≤ c5 := by omega
 have hm2s : 64 * m2 ≤ 140737488360000 := by omega
 have hBy : Bs y := by rw [← hy]; exact (hBs.drop_ _).append_ (pad_bs n)
 rw [hm2]
 clear hy hm2 hyl hyq hl5 hC5 hB5
 obtain ⟨h0, hh0⟩ : ∃ h0, Sha.blkTo b Sha.hTab k = h0 := ⟨_, rfl⟩
 have hl0 : h0.length = 8 := by rw [← hh0]; exact blkTo_len b Sha.hTab hTab_len k
 have hw0 : Ws h0 := by rw [← hh0]; exact blkTo_ws b Sha.hTab hTab_ws k
 rw [hh0] at bh
 have Hh0 := Lib.hid hh0
 clear hh0 hhl hhw
 rw [ofB_length, Hm2.out] at hR
 go_wp2_with fail
 go_loopw [8] (fun i wr => ∃ j : Nat, j ≤ m2 ∧ i = .int .i64 ((64 * j : Nat) : Int) ∧ Blk wr gh 105 (wordsV (Sha.blkTo y h0 j)) ∧ Blk wr gk 118 (wordsV Sha.kTab) ∧ Aside0 (Kd.R (Kd.int .u8) 5 wr w.heap.size (fun _ => True) (.slice A5 (64 * m2) c5) (ofB y)) ∧ Below w.heap.size w wr) (fun i _ => 64 * m2 - (intOf i).toNat)
 case atStart => exact ⟨0, by omega, rfl, bh, bk, hR, hbl⟩
 clear bh bk hbl hR
 obtain ⟨j, hj, rfl, bh, bk, hR, hbl⟩ := hrel
 have hhl := blkTo_len y h0 hl0 j
 have hhw := blkTo_ws y h0 hw0 j
 by_cases hkm : j < m2
 rotate_left
 ·obtain rfl : j = m2 := by omega
  obtain ⟨q2, hq2⟩ : ∃ q2, 64 * j = q2 := ⟨_, rfl⟩
  rw [hq2] at hR ⊢
  have hlt : decide (q2 < q2) = false := by simp
  have Hq2 := Lib.hid hq2
  clear hq2
  generalize hH : Sha.blkTo y h0 j = hh at *
  have HH := Lib.hid hH
  clear hH
  clear hlt
  obtain ⟨i5, hi5, hz50, hz51, hz52⟩ := info_parts info5
  have Hi5 := Lib.hid (And.intro hi5 (And.intro hz50 (And.intro hz51 hz52)))
  have hb5 : i5.bytes ≤ 1 := by omega
  clear hi5 hz50 hz51 hz52
  have HBB := Lib.hid (And.intro bh hbl)
  have hws := hbl.size
  clear bk hR bh hbl
  go_wp2_with (first
   | ((with_reducible refine gate_dst (N := 52) rfl ?_); refine wpList_make_own _ rfl (.const (.int .i64 0)) (.const (.int .i64 32)) 22 rfl w.heap.size 5 i5 (.int .u8 0) 1 Tryd.underlying22 Hi5.out.1 Hi5.out.2.1 Hi5.out.2.2.1 .i64 .i64 32 32 rfl rfl rfl (by omega) (by decide) hws ?_; intro W6 hown6 hg6)
   | (have bh6 := HBB.out.1.grown_ hg6 (by simp); refine wpList_load_row rfl 105 (.tmp 4) rfl gh rfl 105 _ (0, 0) _ bh6 Tryd.underlying105 rfl (by rw [wordsV_size, hhl]; exact infoStart) ?_))
  have hR6 : Aside0 (Kd.R (Kd.int .u8) 5 W6 w.heap.size (fun _ => True) (.slice (some ⟨wr.heap.size, 0, none⟩) 0 32) (ofB ((hh.take 0).flatMap Sha.out4))) := ⟨Kd.R_of_own (enc := Value.int .u8) (h1 := fun _ => rfl) (xs := []) hown6 (fun _ _ => trivial)⟩
  have hb6 := HBB.out.2.grown hg6 hws (fun g h => by cases h)
  obtain ⟨wo, rfl⟩ : ∃ wo : World, wo = wr := ⟨_, rfl⟩
  go_loopw [9, 54] (fun v i wr => ∃ t : Nat, t ≤ 8 ∧ i = .int .i64 t ∧ Aside0 (Kd.R (Kd.int .u8) 5 wr w.heap.size (fun _ => True) v (ofB ((hh.take t).flatMap Sha.out4))) ∧ Below w.heap.size w wr) (fun _ i _ => 8 - (intOf i).toNat)
  case atStart => exact ⟨0, by omega, rfl, hR6, hb6⟩
  clear hR6 hb6 hown6 hg6 HBB
  obtain ⟨t, ht, rfl, hR, hbl⟩ := hrel
  by_cases ht8 : t < 8
  rotate_left
  ·obtain rfl : t = 8 := by omega
   have hd : decide (((8 : Nat) : Int) < 8) = false := by decide
   have hfin : Sha.sum b = hh.flatMap Sha.out4 := by
    rw [Sha.sum_split, Hm.out, Hn.out, Hy.out, Hh0.out, Hm2.out, show 64 * j / 64 = j by omega, HH.out]
   rw [List.take_of_length_le (by omega)] at hR
   have Hfin := Lib.hid hfin
   clear hfin
   go_wp2
   go_ret
   exact ⟨_, rfl, by rw [Hfin.out]; exact hR.out, hbl⟩
  have hix := fun W => index_w8 hh t ht8 hhl W
  have lx := hhw t
  obtain ⟨x, hx⟩ : ∃ x, hh.getD t 0 = x := ⟨_, rfl⟩
  rw [hx] at hix lx
  have hx := Lib.hid hx
  have t0 : (0 : Int) ≤ (t : Int) := by omega
  have t1 : (t : Int) < 8 := by omega
  have hd : decide ((t : Int) < 8) = true := by simp; omega
  have hbl' := Lib.hid hbl
  clear hbl
  have hfl := flat_len (hh.take t)
  rw [List.length_take] at hfl
  have hb4 := hbl'.out.alloc hbl'.out.size (Obj.cells #[Value.int IntKind.u8 ((x : Int) / 16777216), Value.int IntKind.u8 ((x : Int) / 65536 % 256), Value.int IntKind.u8 ((x : Int) / 256 % 256), Value.int IntKind.u8 ((x : Int) % 256)] 5)
  have Hb4 := Lib.hid hb4
  clear hb4
  go_wp2_with (first | ((with_reducible refine gate_builtin (b := .append) (xs := #[.tmp 57, .tmp 69]) rfl ?_); at_builtin; refine Kd.R_append_rows (Kd.int .u8) (w0 := w) w.heap.size rfl (.tmp 57) (.tmp 69) 22 5 (.int .u8 0) 1 rfl Tryd.underlying22 info5 rfl (by decide) (by omega) u9 (ofB ((hh.take t).flatMap Sha.out4)) [(x : Int) / 16777216, (x : Int) / 65536 % 256, (x : Int) / 256 % 256, (x : Int) % 256] (some ⟨wr.heap.size, 0, none⟩) 4 4 (fun _ => True) (fun _ => False) rfl rfl ?aO ?aR (fun _ _ h => h) (fun _ h => h.elim) ?aF ?aB ?aS ?aL ?_; (case aO => exact Kd.R_alloc hR.out _); (case aR => exact c_lit wr 5 [(x : Int) / 16777216, (x : Int) / 65536 % 256, (x : Int) / 256 % 256, (x : Int) % 256] (by simp)); (case aF => exact fun _ _ => trivial); (case aB => exact Hb4.out); (case aS => exact Hb4.out.size); (case aL => rw [ofB_length]; omega); intro v7 W7 ho7 hb7 hg7 hat7))
  have hnext : Aside0 (Kd.R (Kd.int .u8) 5 W7 w.heap.size (fun _ => True) v7 (ofB ((hh.take (t + 1)).flatMap Sha.out4))) := ⟨by
   rw [out4_snoc hh t (by omega) x hx.out lx]
   exact ho7⟩
  clear ho7 hg7 hat7 Hb4 hbl' hR hix
  go_wp2
  exact ⟨⟨t + 1, by omega, by go_num, hnext, hb7⟩, by simp [intOf]; omega⟩
 have hlt : decide (64 * j < 64 * m2) = true := by simp; omega
 have hcap : ¬ c5 = 64 * j := by omega
 have hBy5 : BytesAt wr wr.heap.size A5 y := by
  obtain ⟨A6, c6, e6, _, hC6⟩ := Kd.R_reads hR.out
  injection e6 with e6 e7 e8
  subst e6
  exact bytesAt_of_C hC6
 have hA1 : BytesAt wr wr.heap.size (A5.map (·.add (64 * j))) ((y.take (64 * j + 64)).drop (64 * j)) := hBy5.cut (64 * j) (64 * j + 64) (by rw [Hm2.out]; omega)
 have hl1 : ((y.take (64 * j + 64)).drop (64 * j)).length = 64 := by rw [List.length_drop, List.length_take, Hm2.out]; omega
 have hbs1 : Bs ((y.take (64 * j + 64)).drop (64 * j)) := hBy.cut _ _
 have hnx : Hid (Sha.blkTo y h0 (j + 1) = Sha.mixed (Sha.blkTo y h0 j) ((y.take (64 * j + 64)).drop (64 * j))) := Lib.hid rfl
 clear hBy5
 generalize (y.take (64 * j + 64)).drop (64 * j) = bb at *
 generalize Sha.blkTo y h0 j = hh at *
 obtain ⟨M, hM⟩ : ∃ M, 64 * m2 = M := ⟨_, rfl⟩
 obtain ⟨q2, hq2⟩ : ∃ q2, 64 * j = q2 := ⟨_, rfl⟩
 have i0 : (0 : Int) ≤ (q2 : Int) := by omega
 have ew : IntKind.i64.wrap ((q2 : Int) + 64) = (q2 : Int) + 64 := by rw [IntKind.wrap_i64]; omega
 have s1 : (0 : Int) ≤ (q2 : Int) + 64 := by omega
 have s2 : (q2 : Int) + 64 ≤ (c5 : Int) := by omega
 have s3 : ((q2 : Int) + 64).toNat = q2 + 64 := by omega
 have e4 : q2 + 64 - q2 = 64 := by omega
 rw [hq2] at hlt hcap hA1 ⊢
 rw [hM] at hlt hR hms ⊢
 have Hq2 := Lib.hid (And.intro hq2 hM)
 clear hq2 hM
 obtain ⟨x0, x1, x2, x3, x4, x5, x6, x7, rfl⟩ : ∃ x0 x1 x2 x3 x4 x5 x6 x7, hh = [x0, x1, x2, x3, x4, x5, x6, x7] := by
  match hh, hhl with
  | [x0, x1, x2, x3, x4, x5, x6, x7], _ => exact ⟨x0, x1, x2, x3, x4, x5, x6, x7, rfl⟩
 have g0 : wr.cell? ⟨gh, 0, none⟩ = some (.int .u32 x0) := bh.cell 0
 have g1 : wr.cell? ⟨gh, 1, none⟩ = some (.int .u32 x1) := bh.cell 1
 have g2 : wr.cell? ⟨gh, 2, none⟩ = some (.int .u32 x2) := bh.cell 2
 have g3 : wr.cell? ⟨gh, 3, none⟩ = some (.int .u32 x3) := bh.cell 3
 have g4 : wr.cell? ⟨gh, 4, none⟩ = some (.int .u32 x4) := bh.cell 4
 have g5 : wr.cell? ⟨gh, 5, none⟩ = some (.int .u32 x5) := bh.cell 5
 have g6 : wr.cell? ⟨gh, 6, none⟩ = some (.int .u32 x6) := bh.cell 6
 have g7 : wr.cell? ⟨gh, 7, none⟩ = some (.int .u32 x7) := bh.cell 7
 have hgl := bh.lt
 have hgk := bk.lt
 have hml := mixed_len [x0, x1, x2, x3, x4, x5, x6, x7] bb rfl
 obtain ⟨y0, y1, y2, y3, y4, y5, y6, y7, hy⟩ : ∃ y0 y1 y2 y3 y4 y5 y6 y7, Sha.mixed [x0, x1, x2, x3, x4, x5, x6, x7] bb = [y0, y1, y2, y3, y4, y5, y6, y7] := by
  match Sha.mixed [x0, x1, x2, x3, x4, x5, x6, x7] bb, hml with
  | [y0, y1, y2, y3, y4, y5, y6, y7], _ => exact ⟨y0, y1, y2, y3, y4, y5, y6, y7, rfl⟩
 clear hml
 have hmix : Calls Tryd.prog 91 #[.agg #[Value.int .u32 (x0 : Int), Value.int .u32 (x1 : Int), Value.int .u32 (x2 : Int), Value.int .u32 (x3 : Int), Value.int .u32 (x4 : Int), Value.int .u32 (x5 : Int), Value.int .u32 (x6 : Int), Value.int .u32 (x7 : Int)], .slice (Option.map (fun x => x.add q2) A5) 64 (c5 - q2), .pointer (some ⟨gk, 0, none⟩)] wr.drew fun e w' => e = .returned (.agg #[Value.int .u32 (y0 : Int), Value.int .u32 (y1 : Int), Value.int .u32 (y2 : Int), Value.int .u32 (y3 : Int), Value.int .u32 (y4 : Int), Value.int .u32 (y5 : Int), Value.int .u32 (y6 : Int), Value.int .u32 (y7 : Int)]) ∧ Below wr.heap.size wr.drew w' := by
  have h1 := mixed_calls [x0, x1, x2, x3, x4, x5, x6, x7] bb (Option.map (fun x => x.add q2) A5) (c5 - q2) gk wr.drew hhw rfl hbs1 hl1 (by omega) (by exact hA1) (by exact bk)
  rw [hy] at h1
  exact h1
 have Hmix := Lib.hid hmix
 have Hyy := Lib.hid hy
 clear hmix hy
 have f0 := bh.frozen 0
 have f1 := bh.frozen 1
 have f2 := bh.frozen 2
 have f3 := bh.frozen 3
 have f4 := bh.frozen 4
 have f5 := bh.frozen 5
 have f6 := bh.frozen 6
 have f7 := bh.frozen 7
 go_wp2_with fail
 go_region_with (go_at_call 91; refine Hmix.out.mono ?_; rintro e W5 ⟨rfl, hbW⟩; obtain ⟨hcW, hfW⟩ := bcell2 hbW)
 have b5 : Blk W5 gh _ _ := Blk.below (w := wr.drew) bh hbW hgl
 have k5 : Blk W5 gk _ _ := Blk.below (w := wr.drew) bk hbW hgk
 have r5 : Kd.R (Kd.int .u8) 5 W5 w.heap.size (fun _ => True) _ _ := Kd.R_below (Kd.R_drew hR.out) hbW
 have q5 := hbl.drew.trans (hbW.mono hbl.size)
 have r6 := Aside0.mk (eightR (by decide) b5 r5 y0 y1 y2 y3 y4 y5 y6 y7)
 obtain ⟨e5, e6, e7⟩ := eight b5 y0 y1 y2 y3 y4 y5 y6 y7
 replace e6 := e6 gk _ _ (by omega) k5
 replace e7 := e7 _ _ (by omega) q5
 rw [← Hyy.out, ← hnx.out] at e5
 have HF := Lib.hid (And.intro e5 (And.intro e6 (And.intro r6 e7)))
 clear e5 e6 e7 r6 r5 b5 k5 q5 hcW hfW bh bk hbl hR
 go_wp2
 exact ⟨⟨j + 1, by omega, by have := Hq2.out.1; rw [show ((64 * (j + 1) : Nat) : Int) = (q2 : Int) + 64 by omega], HF.out⟩, by have := Hq2.out.1; have := Hq2.out.2; simp [intOf]; omega⟩
end P
end Go.Proofs.YtdklmafkcbjomaaDoor

/-! Text -/
namespace Go.Proofs.YtdklmafkcbjomaaDoor
set_option linter.unusedVariables false
set_option linter.unusedSimpArgs false
open Go.RowKit
set_option maxHeartbeats 400000 in
theorem turn_calls (x n : Nat) (hx : x < 4294967296) (h1 : 1 ≤ n) (h2 : n ≤ 31) (w : World) :
  Calls Tryd.prog 83 #[.int .u32 x, .int .u32 n] w fun e w' => e = .returned (.int .u32 (Sha.rotr x n)) ∧ w = w' := by
 obtain ⟨m, hm⟩ : ∃ m : Nat, 32 - n = m := ⟨_, rfl⟩
 have hw : IntKind.u32.wrap (32 - (n : Int)) = (m : Int) := by rw [IntKind.wrap_u32']; omega
 have hm1 : 1 ≤ m := by omega
 have hm2 : m ≤ 31 := by omega
 go_enter Tryd.func83, Tryd.ntmps83
 go_wp2
 go_ret
 refine ⟨ret_int ?_, rfl⟩
 have e1 : ((x : Int) * 2 ^ m % 4294967296) = (((x <<< m) % 4294967296 : Nat) : Int) := by rw [Nat.shiftLeft_eq]; simp
 have e2 : ((x : Int) / 2 ^ n) = ((x >>> n : Nat) : Int) := by rw [Nat.shiftRight_eq_div_pow]; simp
 rw [e1, e2, u32_or_nat _ _ (by rw [Nat.shiftRight_eq_div_pow]; exact Nat.lt_of_le_of_lt (Nat.div_le_self _ _) hx) (Nat.mod_lt _ (by decide))]
 unfold Sha.rotr
 rw [hm]
end Go.Proofs.YtdklmafkcbjomaaDoor

/-! Sha2 -/
namespace Go.Proofs.YtdklmafkcbjomaaDoor
set_option linter.unusedVariables false
set_option linter.unusedSimpArgs false
open Go.RowKit Go.Proofs.YtdklmafkcbjomaaDoor.L Go.Proofs.YtdklmafkcbjomaaDoorW.PrintWords Go.Proofs.YtdklmafkcbjomaaDoorW.PrintLast Go.Proofs.YtdklmafkcbjomaaDoorW.PrintMore
theorem c_marked (W : World) (e : Nat) (fr : Nat × Nat) (xs : List Int) (hm : xs.length ≤ 9223372036854775807) : Kd.C (Kd.int .u8) (W.alloc (.cells (nums .u8 xs).toArray e fr)) (some ⟨W.heap.size, 0, none⟩) xs.length xs := by
 refine Kd.C_of_reads (enc := Value.int .u8) (d := 0) (h1 := fun _ => rfl) ⟨rfl, hm, fun _ => ⟨_, rfl, fun j hj => ?_⟩⟩
 have e1 : (⟨W.heap.size, 0, none⟩ : Addr).add j = ⟨W.heap.size, j, none⟩ := by unfold Addr.add; split <;> simp_all
 rw [e1, cell_of_row _ _ _ _ _ _ (heap_alloc_new W _)]
 simp [nums, hj]
namespace P
end P
namespace P
end P
end Go.Proofs.YtdklmafkcbjomaaDoor

/-! HandA -/
namespace Go.Proofs.YtdklmafkcbjomaaDoor
set_option linter.unusedVariables false
set_option linter.unusedSimpArgs false
open Go.RowKit Go.Proofs.YtdklmafkcbjomaaDoorW.PrintWords Go.Proofs.YtdklmafkcbjomaaDoorW.PrintLast Go.Proofs.YtdklmafkcbjomaaDoorW.PrintMore
theorem map_u8_inj (a b : List Int) (ha : byteOk a = true) (hb : byteOk b = true) (h : (a.map fun n => UInt8.ofNat n.toNat) = b.map fun n => UInt8.ofNat n.toNat) : a = b := by
 rw [← ofB_toB a ha, ← ofB_toB b hb]
 refine congrArg ofB ?_
 have h2 := congrArg (List.map UInt8.toNat) h
 rw [List.map_map, List.map_map] at h2
 have key : ∀ l : List Int, byteOk l = true → l.map (UInt8.toNat ∘ fun n => UInt8.ofNat n.toNat) = toB l := by
  intro l hl
  refine List.map_congr_left fun x hx => ?_
  have := List.all_eq_true.1 hl x hx
  simp only [Bool.and_eq_true, decide_eq_true_eq] at this
  simp only [Function.comp]
  rw [UInt8.toNat_ofNat']
  omega
 rw [key a ha, key b hb] at h2
 exact h2
theorem strOfNums_inj (a b : List Int) (ha : byteOk a = true) (hb : byteOk b = true) : ((strOfNums a).toList == (strOfNums b).toList) = (a == b) := by
 rw [strOfNums, strOfNums, ByteArray.toList_mk, ByteArray.toList_mk, Bool.eq_iff_iff, beq_iff_eq, beq_iff_eq]
 exact ⟨map_u8_inj a b ha hb, fun h => by rw [h]⟩
namespace P
def sha_Pad.f (n : Int) : Option (List Int) := some (if n < 0 then [] else if 1125899906842624 < n then [] else ofB (Sha.pad n.toNat))
theorem sha_Pad.calls (a0 : Int) (r : List Int) (w : World) (h : sha_Pad.f a0 = some r) :
  Calls Tryd.prog 92 #[.int .i64 a0] w fun e w' => ∃ v0_ : Value, e = .returned (v0_) ∧ Kd.R (Kd.int .u8) 5 w' w.heap.size (fun _ => True) v0_ r ∧ Below w.heap.size w w' := by
 unfold sha_Pad.f at h
 injection h with h
 by_cases h0 : a0 < 0
 ·rw [if_pos h0] at h
  subst h
  exact L.sha_Pad.calls 10 a0 [] w (pad_none 9 a0 (.inl h0))
 ·rw [if_neg h0] at h
  by_cases h1 : 1125899906842624 < a0
  ·rw [if_pos h1] at h
   subst h
   exact L.sha_Pad.calls 10 a0 [] w (pad_none 9 a0 (.inr h1))
  ·rw [if_neg h1] at h
   subst h
   obtain ⟨n, rfl⟩ := Int.eq_ofNat_of_zero_le (show 0 ≤ a0 by omega)
   exact L.sha_Pad.calls 10 (n : Int) _ w (pad_eq n (by omega))
def pyxref01_Same.f (l0 : List Int) (l1 : List Int) : Option (Bool) := if byteOk l0 = true ∧ byteOk l1 = true then some (l0 == l1) else none
theorem pyxref01_Same.calls (A0 : Option Addr) (c0 : Nat) (l0 : List Int) (A1 : Option Addr) (c1 : Nat) (l1 : List Int) (r : Bool) (w : World) (hr0 : Kd.C (Kd.int .u8) w A0 l0.length l0) (hc0 : l0.length ≤ c0) (hr1 : Kd.C (Kd.int .u8) w A1 l1.length l1) (hc1 : l1.length ≤ c1) (h : pyxref01_Same.f l0 l1 = some r) :
  Calls Tryd.prog 16 #[.slice A0 l0.length c0, .slice A1 l1.length c1] w fun e w' => e = .returned (.bool r) ∧ Drawn0 w w' := by
 unfold pyxref01_Same.f at h
 split at h
 case isFalse => cases h
 case isTrue hok =>
 exact L.pyxref01_Same.calls A0 c0 l0 A1 c1 l1 r w hr0 hc0 hr1 hc1 (by rw [← h]; exact congrArg some (strOfNums_inj l0 l1 hok.1 hok.2))
end P
end Go.Proofs.YtdklmafkcbjomaaDoor

/-! ShaFacts -/
namespace Go.Proofs.YtdklmafkcbjomaaDoor
open Go.RowKit Go.Proofs.YtdklmafkcbjomaaDoorW.PrintWords Go.Proofs.YtdklmafkcbjomaaDoorW.PrintLast
theorem Sha.addTo_length (h v : List Nat) : ∀ i, (Sha.addTo h v i).length = h.length
 | 0 => rfl
 | i + 1 => by rw [Sha.addTo, List.length_set, Sha.addTo_length h v i]
theorem Sha.mixed_length (h b : List Nat) : (Sha.mixed h b).length = h.length := Sha.addTo_length _ _ _
theorem Sha.blkTo_length (b h : List Nat) : ∀ k, (Sha.blkTo b h k).length = h.length
 | 0 => rfl
 | k + 1 => by rw [Sha.blkTo, Sha.mixed_length, Sha.blkTo_length b h k]
theorem Sha.hTab_length : Sha.hTab.length = 8 := by decide +kernel
theorem Sha.out_length : ∀ l : List Nat, (l.flatMap Sha.out4).length = 4 * l.length
 | [] => rfl
 | x :: l => by rw [List.flatMap_cons, List.length_append, Sha.out_length l, List.length_cons, show (Sha.out4 x).length = 4 from rfl]; omega
theorem Sha.sum_length (b : List Nat) : (Sha.sum b).length = 32 := by
 unfold Sha.sum
 rw [Sha.out_length, Sha.blkTo_length, Sha.hTab_length]
theorem byteOk_iff (l : List Int) : byteOk l = true ↔ ∀ x ∈ l, 0 ≤ x ∧ x < 256 := by
 unfold byteOk
 rw [List.all_eq_true]
 simp
theorem byteOk_append (a b : List Int) : byteOk (a ++ b) = true ↔ byteOk a = true ∧ byteOk b = true := by
 simp [byteOk, List.all_append]
theorem byteOk_nat (b : List Nat) (h : ∀ x ∈ b, x < 256) : byteOk (ofB b) = true := by
 rw [byteOk_iff]
 intro x hx
 obtain ⟨y, hy, rfl⟩ := List.mem_map.1 hx
 have := h y hy
 omega
theorem byteOk_of_wf (l : List Int) (h : ∀ x ∈ l, (Lit.int .u8 x).wf = true) : byteOk l = true := by
 rw [byteOk_iff]
 intro x hx
 have h := Go.bounds_u8 (h x hx)
 omega
theorem byteOk_pad (n : Nat) : byteOk (ofB (Sha.pad n)) = true := by
 refine byteOk_nat _ fun x hx => ?_
 unfold Sha.pad at hx
 rcases List.mem_cons.1 hx with rfl | hx
 ·omega
 rcases List.mem_append.1 hx with hx | hx
 ·have := List.eq_of_mem_replicate hx
  omega
 ·simp only [Sha.be, List.mem_cons, List.not_mem_nil, or_false] at hx
  omega
theorem byteOk_sum (b : List Nat) : byteOk (ofB (Sha.sum b)) = true := by
 refine byteOk_nat _ fun x hx => ?_
 unfold Sha.sum at hx
 obtain ⟨y, _, hy⟩ := List.mem_flatMap.1 hx
 simp only [Sha.out4, List.mem_cons, List.not_mem_nil, or_false] at hy
 omega
end Go.Proofs.YtdklmafkcbjomaaDoor

/-! RefStep -/
namespace Go.Proofs.YtdklmafkcbjomaaDoor
open Go.RowKit Go.Proofs.YtdklmafkcbjomaaDoorW.PrintWords Go.Proofs.YtdklmafkcbjomaaDoorW.PrintLast Go.Proofs.YtdklmafkcbjomaaDoorW.PrintMore
def blkAt (all : List Nat) (p : Nat) : List Nat := (all.take (p + 64)).drop p
theorem blkAt_getD (all : List Nat) (p i : Nat) (h : i < 64) : (blkAt all p).getD i 0 = all.getD (p + i) 0 := by
 unfold blkAt
 rw [List.getD_eq_getElem?_getD, List.getD_eq_getElem?_getD, List.getElem?_drop, List.getElem?_take_of_lt (by omega)]
theorem blkAt_bs (all : List Nat) (h : Bs all) (p : Nat) : Bs (blkAt all p) := by
 intro i
 unfold blkAt
 rw [List.getD_eq_getElem?_getD, List.getElem?_drop, List.getElem?_take]
 have := h (p + i)
 rw [List.getD_eq_getElem?_getD] at this
 split
 ·exact this
 ·decide
theorem or_add (a x : Nat) (hx : x < 256) : ((a <<< 8) % 4294967296) ||| x = (a * 256) % 4294967296 + x := by
 have e : (a <<< 8) % 4294967296 = 2 ^ 8 * (a % 16777216) := by rw [Nat.shiftLeft_eq]; omega
 rw [e, ← Nat.two_pow_add_eq_or_of_lt (by omega : x < 2 ^ 8)]
 omega
theorem acc_word (b : List Nat) (hb : Bs b) (p : Nat) : Sha.acc b p 4 = b.getD p 0 * 16777216 + b.getD (p + 1) 0 * 65536 + b.getD (p + 2) 0 * 256 + b.getD (p + 3) 0 := by
 have h0 := hb p
 have h1 := hb (p + 1)
 have h2 := hb (p + 2)
 have h3 := hb (p + 3)
 simp only [Sha.acc, Nat.add_zero]
 rw [or_add _ _ h0, or_add _ _ h1, or_add _ _ h2, or_add _ _ h3]
 omega
theorem rd_ofB (l : List Nat) (i : Nat) : rd (ofB l) (i : Int) = ((l.getD i 0 : Nat) : Int) := by
 unfold rd ofB
 rw [Int.toNat_natCast, List.getD_eq_getElem?_getD, List.getD_eq_getElem?_getD, List.getElem?_map]
 cases l[i]? <;> rfl
theorem word_f (all : List Nat) (hb : Bs all) (p t : Nat) (ht : t < 16) (hl : p + 64 ≤ all.length) (hl2 : all.length ≤ 1000000) :
  L.pyxref02_word.f (ofB all) ((p + 4 * t : Nat) : Int) = some ((Sha.acc (blkAt all p) (4 * t) 4 : Nat) : Int) := by
 have h0 := hb (p + 4 * t)
 have h1 := hb (p + 4 * t + 1)
 have h2 := hb (p + 4 * t + 2)
 have h3 := hb (p + 4 * t + 3)
 have w1 : wrap64 (((p + 4 * t : Nat) : Int) + 1) = ((p + 4 * t + 1 : Nat) : Int) := by unfold wrap64; omega
 have w2 : wrap64 (((p + 4 * t : Nat) : Int) + 2) = ((p + 4 * t + 2 : Nat) : Int) := by unfold wrap64; omega
 have w3 : wrap64 (((p + 4 * t : Nat) : Int) + 3) = ((p + 4 * t + 3 : Nat) : Int) := by unfold wrap64; omega
 unfold L.pyxref02_word.f
 rw [w1, w2, w3, ofB_length, if_pos (by omega), if_pos (by omega), if_pos (by omega), if_pos (by omega), if_pos (by omega), if_pos (by omega), if_pos (by omega), if_pos (by omega), rd_ofB, rd_ofB, rd_ofB, rd_ofB,
  acc_word _ (blkAt_bs all hb p), blkAt_getD _ _ _ (by omega), blkAt_getD _ _ _ (by omega), blkAt_getD _ _ _ (by omega), blkAt_getD _ _ _ (by omega)]
 simp only [← Nat.add_assoc]
 generalize all.getD (p + 4 * t) 0 = x0 at *
 generalize all.getD (p + 4 * t + 1) 0 = x1 at *
 generalize all.getD (p + 4 * t + 2) 0 = x2 at *
 generalize all.getD (p + 4 * t + 3) 0 = x3 at *
 refine congrArg some ?_
 omega
theorem row_add (g k : Nat) : (⟨g, 0, none⟩ : Addr).add k = ⟨g, k, none⟩ := by unfold Addr.add; split <;> simp_all
theorem made_eq (n : Nat) : madeCells (Value.int IntKind.u32 0).cells (n * 1) = wordsV (List.replicate n 0) := by
 apply Array.ext
 ·simp [madeCells, wordsV]
 ·intro i h1 h2
  simp [madeCells, wordsV, Value.cells, Nat.mod_one]
def z64 : List Nat := List.replicate 64 0
theorem made64 (W : World) : (Instr.makeSlice 102 (.int .i64 64) (.int .i64 64)).run Tryd.prog W = .ok (.slice (some ⟨W.heap.size, 0, none⟩) 64 64) (W.alloc (.cells (wordsV z64) 104)) := by
 obtain ⟨i, hi, hz⟩ := Option.map_eq_some_iff.1 (show (Tryd.prog.info? 104).map (fun i => (i.zero, i.size, i.bytes)) = some (some (.int .u32 0), 1, 4) by kernel_rfl)
 simp only [Prod.mk.injEq] at hz
 obtain ⟨h0, h1, h2⟩ := hz
 have h := run_make (P := Tryd.prog) W 102 104 i (.int .u32 0) Tryd.underlying102 hi h0 .i64 .i64 64 64 (by omega) (by omega) (by rw [h2]; omega) (by omega)
 rw [h1, made_eq] at h
 exact h
theorem key_cell {w : World} {Ak : Option Addr} (l : List Nat) (hk : Kd.C (Kd.int .u32) w Ak 64 (ofB l)) : ∃ ak, Ak = some ak ∧ ∀ t, t < 64 → w.cell? (ak.add t) = some (.int .u32 ((l.getD t 0 : Nat) : Int)) := by
 obtain ⟨h1, _, h3⟩ := Kd.reads_of_C (enc := Value.int .u32) (d := (0 : Int)) (h1 := fun _ => rfl) hk
 obtain ⟨ak, e, hc⟩ := h3 (by omega)
 refine ⟨ak, e, fun t ht => ?_⟩
 rw [hc t ht]
 congr 2
 have := rd_ofB l t
 unfold rd at this
 rwa [Int.toNat_natCast] at this
theorem key_at {w : World} {Ak : Option Addr} (l : List Nat) (hk : Kd.C (Kd.int .u32) w Ak 64 (ofB l)) : ∃ ak, Ak = some ak ∧ ∀ w', Below w.heap.size w w' → ∀ t, t < 64 → w'.cell? (ak.add t) = some (.int .u32 ((l.getD t 0 : Nat) : Int)) := by
 obtain ⟨ak, rfl, _⟩ := key_cell l hk
 refine ⟨ak, rfl, fun w' hb t ht => ?_⟩
 obtain ⟨ak', e', hc'⟩ := key_cell l (Kd.C_below hk hb)
 injection e' with e'
 rw [e']
 exact hc' t ht
theorem turn_lit (x n : Nat) (m : Int) (hm : m = (n : Int)) (hx : x < 4294967296) (h1 : 1 ≤ n) (h2 : n ≤ 31) (w : World) :
  Calls Tryd.prog 83 #[.int .u32 x, .int .u32 m] w fun e w' => e = .returned (.int .u32 (Sha.rotr x n)) ∧ w = w' := by
 subst hm
 exact turn_calls x n hx h1 h2 w
set_option maxRecDepth 100000 in
set_option maxHeartbeats 4000000 in
theorem step_calls (h all : List Nat) (p : Nat) (A Ak : Option Addr) (cap ck : Nat) (w : World) (hh : Ws h) (hhl : h.length = 8) (hb : Bs all) (hl : p + 64 ≤ all.length) (hl2 : all.length ≤ 1000000) (hcap : (ofB all).length ≤ cap)
  (hA : Kd.C (Kd.int .u8) w A (ofB all).length (ofB all)) (hk : Kd.C (Kd.int .u32) w Ak 64 (ofB Sha.kTab)) :
  Calls Tryd.prog 76 #[.agg (wordsV h), .slice A (ofB all).length cap, .int .i64 p, .slice Ak 64 ck] w fun e w' => e = .returned (.agg (wordsV (Sha.mixed h (blkAt all p)))) ∧ Below w.heap.size w w' := by
 obtain ⟨ak, rfl, hkc0⟩ := key_at Sha.kTab hk
 have hkc := Lib.hid hkc0
 clear hkc0 hk
 have hword := fun t ht => word_f all hb p t ht hl hl2
 have hBs := blkAt_bs all hb p
 generalize blkAt all p = B at *
 go_enter Tryd.func76, Tryd.ntmps76
 go_wp2_with fail
 rw [made64]
 go_wp2_with fail
 rw [zero8]
 have bh := ((Blk.new w 105 (wordsV h)).alloc (.cells (wordsV z8) 105)).alloc (.cells (wordsV z64) 104)
 have br := (Blk.new (w.alloc (.cells (wordsV h) 105)) 105 (wordsV z8)).alloc (.cells (wordsV z64) 104)
 have bw := Blk.new ((w.alloc (.cells (wordsV h) 105)).alloc (.cells (wordsV z8) 105)) 104 (wordsV z64)
 have hbl : Below w.heap.size w (((w.alloc (.cells (wordsV h) 105)).alloc (.cells (wordsV z8) 105)).alloc (.cells (wordsV z64) 104)) := (((Below.refl _ w).alloc (Nat.le_refl _) _).alloc (by simp) _).alloc (by simp; omega) _
 rw [World.size_alloc] at br
 rw [World.size_alloc, World.size_alloc] at bw
 generalize ((w.alloc (.cells (wordsV h) 105)).alloc (.cells (wordsV z8) 105)).alloc (.cells (wordsV z64) 104) = W0 at bh br bw hbl ⊢
 obtain ⟨gw, hgw⟩ : ∃ g, w.heap.size + 1 + 1 = g := ⟨_, rfl⟩
 rw [hgw] at bw ⊢
 obtain ⟨ad, had⟩ : ∃ ad : Addr, (⟨gw, 0, none⟩ : Addr) = ad := ⟨_, rfl⟩
 rw [had]
 have hadd : ∀ k, ad.add k = ⟨gw, k, none⟩ := fun k => by rw [← had]; exact row_add gw k
 clear had
 have bw : Blk W0 gw 104 (wordsV (Sha.wordsTo B 0)) := bw
 go_loopw [10] (fun i wr => ∃ t : Nat, t ≤ 16 ∧ i = .int .i64 t ∧ Blk wr gw 104 (wordsV (Sha.wordsTo B t)) ∧ Blk wr w.heap.size 105 (wordsV h) ∧ Blk wr (w.heap.size + 1) 105 (wordsV z8) ∧ Below w.heap.size w wr) (fun i _ => 16 - (intOf i).toNat)
 case atStart => exact ⟨0, by omega, rfl, bw, bh, br, hbl⟩
 clear bw bh br hbl
 obtain ⟨t, ht, rfl, bw, bh, br, hbl⟩ := hrel
 have hws := wordsTo_ws B hBs t
 have hwl := wordsTo_len B t
 by_cases h16 : t < 16
 ·have hd16 : decide ((t : Int) < 16) = true := by simp; omega
  have hw1 : IntKind.i64.wrap (4 * (t : Int)) = ((4 * t : Nat) : Int) := by rw [IntKind.wrap_i64]; omega
  have hw2 : IntKind.i64.wrap ((p : Int) + ((4 * t : Nat) : Int)) = ((p + 4 * t : Nat) : Int) := by rw [IntKind.wrap_i64]; omega
  have hf := hword t h16
  have hCw := Kd.C_below hA hbl
  have hvt := wordsV_at (Sha.wordsTo B t) t (by omega)
  have hnx : Sha.wordsTo B (t + 1) = (Sha.wordsTo B t).set t (Sha.acc B (4 * t) 4) := by rw [Sha.wordsTo, Sha.wAt, if_pos h16]
  have Hnx := Lib.hid hnx
  have Hbw := Lib.hid (And.intro bw (And.intro bh (And.intro br hbl)))
  have hcw := (bw.cell t).trans hvt
  have hfw := bw.frozen t
  generalize Sha.acc B (4 * t) 4 = a at *
  have t0 : (0 : Int) ≤ (t : Int) := by omega
  have t1 : (t : Int) < 64 := by omega
  have hng : ∀ g, g < gw → g ≠ gw := fun g hg => by omega
  clear hword hws hwl hnx hvt bw bh br hbl
  go_wp2_with (first | (go_at_call 82; refine (L.pyxref02_word.calls A cap (ofB all) _ _ _ hCw hcap hf).mono ?_; rintro e w' ⟨rfl, ⟨nd, rfl⟩⟩; (have hcn : (wr.drewN nd).cell? ⟨gw, t, none⟩ = some (.int .u32 (((Sha.wordsTo B t).getD t 0 : Nat) : Int)) := hcw); (have hfn : (wr.drewN nd).frozen? ⟨gw, t, none⟩ = false := hfw); (obtain ⟨bw, bh, br, hbl⟩ := Hbw.out); (have bw2 : Blk (wr.drewN nd) _ _ _ := bw); (have bh2 : Blk (wr.drewN nd) _ _ _ := bh); (have br2 : Blk (wr.drewN nd) _ _ _ := br); (have hb2 := pw_below_drewN hbl nd); (have HF := Lib.hid (And.intro bw2 (And.intro bh2 (And.intro br2 hb2)))); clear hcw hfw bw2 bh2 br2 hb2 bw bh br hbl Hbw hCw hf; generalize wr.drewN nd = W2 at *))
  obtain ⟨bw, bh, br, hbl⟩ := HF.out
  have bw3 := bw.set_ t (.int .u32 (a : Int))
  rw [wordsV_set, ← Hnx.out] at bw3
  exact ⟨⟨t + 1, by omega, by go_num, bw3, bh.far (p := ⟨gw, t, none⟩) (hng _ (by omega)) _, br.far (p := ⟨gw, t, none⟩) (hng _ (by omega)) _, hbl.setCell (p := ⟨gw, t, none⟩) (by simp; omega) _⟩, by simp [intOf]; omega⟩
 obtain rfl : t = 16 := by omega
 clear hword hA hcap hws hwl
 go_wp2_with fail
 rw [show ((16 : Nat) : Int) = 16 from rfl]
 obtain ⟨wo, rfl⟩ : ∃ wo : World, wo = wr := ⟨_, rfl⟩
 go_loopw [11] (fun i wr => ∃ t : Nat, 16 ≤ t ∧ t ≤ 64 ∧ i = .int .i64 t ∧ Blk wr gw 104 (wordsV (Sha.wordsTo B t)) ∧ Blk wr w.heap.size 105 (wordsV h) ∧ Blk wr (w.heap.size + 1) 105 (wordsV z8) ∧ Below w.heap.size w wr) (fun i _ => 64 - (intOf i).toNat)
 case atStart => exact ⟨16, by omega, by omega, rfl, bw, bh, br, hbl⟩
 clear bw bh br hbl
 obtain ⟨t, ht16, ht, rfl, bw, bh, br, hbl⟩ := hrel
 have hws := wordsTo_ws B hBs t
 have hwl := wordsTo_len B t
 by_cases h64 : t < 64
 ·have hd64 : decide ((t : Int) < 64) = true := by simp; omega
  have hget : ∀ k, k < 64 → (wordsV (Sha.wordsTo B t))[k]? = some (.int .u32 ((Sha.wordsTo B t).getD k 0)) := fun k hk => wordsV_at _ _ (by omega)
  have v15 := hget (t - 15) (by omega)
  have v2 := hget (t - 2) (by omega)
  have v7 := hget (t - 7) (by omega)
  have v16 := hget (t - 16) (by omega)
  have vt := hget t (by omega)
  have hnx : Sha.wordsTo B (t + 1) = (Sha.wordsTo B t).set t (Sha.wNext (Sha.wordsTo B t) t) := by
   rw [Sha.wordsTo, Sha.wAt, if_neg (by omega)]
  unfold Sha.wNext at hnx
  have l15 := hws (t - 15)
  have l2 := hws (t - 2)
  have Hnx := Lib.hid hnx
  clear hnx hget hws hwl
  generalize (Sha.wordsTo B t).getD (t - 15) 0 = x15 at *
  generalize (Sha.wordsTo B t).getD (t - 2) 0 = x2 at *
  generalize (Sha.wordsTo B t).getD (t - 7) 0 = x7 at *
  generalize (Sha.wordsTo B t).getD (t - 16) 0 = x16 at *
  generalize (Sha.wordsTo B t).getD t 0 = xt at *
  obtain ⟨k15, hk15⟩ : ∃ k, t - 15 = k := ⟨_, rfl⟩
  obtain ⟨k2, hk2⟩ : ∃ k, t - 2 = k := ⟨_, rfl⟩
  obtain ⟨k7, hk7⟩ : ∃ k, t - 7 = k := ⟨_, rfl⟩
  obtain ⟨k16, hk16⟩ : ∃ k, t - 16 = k := ⟨_, rfl⟩
  rw [hk15] at v15
  rw [hk2] at v2
  rw [hk7] at v7
  rw [hk16] at v16
  have e15 : IntKind.i64.wrap ((t : Int) - 15) = (k15 : Int) := by rw [IntKind.wrap_i64]; omega
  have e2 : IntKind.i64.wrap ((t : Int) - 2) = (k2 : Int) := by rw [IntKind.wrap_i64]; omega
  have e7 : IntKind.i64.wrap ((t : Int) - 7) = (k7 : Int) := by rw [IntKind.wrap_i64]; omega
  have e16 : IntKind.i64.wrap ((t : Int) - 16) = (k16 : Int) := by rw [IntKind.wrap_i64]; omega
  have a15 : (0 : Int) ≤ (k15 : Int) ∧ (k15 : Int) < 64 := by omega
  have a2 : (0 : Int) ≤ (k2 : Int) ∧ (k2 : Int) < 64 := by omega
  have a7 : (0 : Int) ≤ (k7 : Int) ∧ (k7 : Int) < 64 := by omega
  have a16 : (0 : Int) ≤ (k16 : Int) ∧ (k16 : Int) < 64 := by omega
  obtain ⟨a15, b15⟩ := a15
  obtain ⟨a2, b2⟩ := a2
  obtain ⟨a7, b7⟩ := a7
  obtain ⟨a16, b16⟩ := a16
  have n7 : ¬ t = k7 := by omega
  have n16 : ¬ t = k16 := by omega
  have t0 : (0 : Int) ≤ (t : Int) := by omega
  have t1 : (t : Int) < 64 := by omega
  have hng : ∀ g, g < gw → g ≠ gw := fun g hg => by omega
  clear hk15 hk2 hk7 hk16
  have D0 := u32_xor_nat (Sha.rotr x15 7) (Sha.rotr x15 18) (rotr_lt x15 7 l15) (rotr_lt x15 18 l15)
  have D1 := u32_xor_nat (Sha.rotr x2 17) (Sha.rotr x2 19) (rotr_lt x2 17 l2) (rotr_lt x2 19 l2)
  have E0 : bits .xor .u32 ((Sha.rotr x15 7 ^^^ Sha.rotr x15 18 : Nat) : Int) ((x15 : Int) / 8) = ((Sha.sig0 x15 : Nat) : Int) := xor_shr x15 (Sha.rotr x15 7 ^^^ Sha.rotr x15 18) 3 8 l15 (Nat.xor_lt_two_pow (n := 32) (rotr_lt x15 7 l15) (rotr_lt x15 18 l15)) rfl
  have E1 : bits .xor .u32 ((Sha.rotr x2 17 ^^^ Sha.rotr x2 19 : Nat) : Int) ((x2 : Int) / 1024) = ((Sha.sig1 x2 : Nat) : Int) := xor_shr x2 (Sha.rotr x2 17 ^^^ Sha.rotr x2 19) 10 1024 l2 (Nat.xor_lt_two_pow (n := 32) (rotr_lt x2 17 l2) (rotr_lt x2 19 l2)) rfl
  have m0 := sig0_lt x15 l15
  have m1 := sig1_lt x2 l2
  generalize Sha.sig0 x15 = s0 at *
  generalize Sha.sig1 x2 = s1 at *
  generalize Sha.rotr x15 7 ^^^ Sha.rotr x15 18 = q0 at *
  generalize Sha.rotr x2 17 ^^^ Sha.rotr x2 19 = q1 at *
  have g15 : wr.cell? ⟨gw, k15, none⟩ = some (.int .u32 x15) := by rw [bw.cell k15]; exact v15
  have g2 : wr.cell? ⟨gw, k2, none⟩ = some (.int .u32 x2) := by rw [bw.cell k2]; exact v2
  have g7 : wr.cell? ⟨gw, k7, none⟩ = some (.int .u32 x7) := by rw [bw.cell k7]; exact v7
  have g16 : wr.cell? ⟨gw, k16, none⟩ = some (.int .u32 x16) := by rw [bw.cell k16]; exact v16
  have gt : wr.cell? ⟨gw, t, none⟩ = some (.int .u32 xt) := by rw [bw.cell t]; exact vt
  have ft := bw.frozen t
  have Hbw := Lib.hid (And.intro bw (And.intro bh (And.intro br hbl)))
  clear v15 v2 v7 v16 vt bw bh br hbl hBs
  go_wp2_with (first
   | (go_at_call 83; (with_reducible refine (turn_lit x15 7 7 rfl l15 (by omega) (by omega) _).mono ?_); rintro e w' ⟨rfl, rfl⟩)
   | (go_at_call 83; (with_reducible refine (turn_lit x15 18 18 rfl l15 (by omega) (by omega) _).mono ?_); rintro e w' ⟨rfl, rfl⟩)
   | (go_at_call 83; (with_reducible refine (turn_lit x2 17 17 rfl l2 (by omega) (by omega) _).mono ?_); rintro e w' ⟨rfl, rfl⟩)
   | (go_at_call 83; (with_reducible refine (turn_lit x2 19 19 rfl l2 (by omega) (by omega) _).mono ?_); rintro e w' ⟨rfl, rfl⟩))
  go_region_held3 (fun w' => w'.cell? ⟨gw, k7, none⟩ = some (.int .u32 x7) ∧ w'.cell? ⟨gw, k16, none⟩ = some (.int .u32 x16)) (first | exact ⟨far_cell g7 n7, far_cell g16 n16⟩ | go_keep)
   (fail)
  go_wp2_with fail
  obtain ⟨bw, bh, br, hbl⟩ := Hbw.out
  have hset : Blk (wr.setCell ⟨gw, t, none⟩ (Value.int IntKind.u32 (((((s1 : Int) + x7) % 4294967296 + s0) % 4294967296 + x16) % 4294967296))).drew _ _ _ := bw.set_ t _
  rw [show (((((s1 : Int) + x7) % 4294967296 + s0) % 4294967296 + x16) % 4294967296) = ((((((s1 + x7) % 4294967296 + s0) % 4294967296 + x16) % 4294967296 : Nat)) : Int) from by omega] at hset ⊢
  rw [wordsV_set, ← Hnx.out] at hset
  have hfh := bh.far (p := ⟨gw, t, none⟩) (hng _ (by omega)) (Value.int IntKind.u32 ((((((s1 + x7) % 4294967296 + s0) % 4294967296 + x16) % 4294967296 : Nat)) : Int))
  have hfr := br.far (p := ⟨gw, t, none⟩) (hng _ (by omega)) (Value.int IntKind.u32 ((((((s1 + x7) % 4294967296 + s0) % 4294967296 + x16) % 4294967296 : Nat)) : Int))
  exact ⟨⟨t + 1, by omega, by omega, by go_num, hset, hfh, hfr, (hbl.setCell (p := ⟨gw, t, none⟩) (by simp; omega) _).drew⟩, by simp [intOf]; omega⟩
 obtain rfl : t = 64 := by omega
 have bw : Blk wr gw 104 (wordsV (Sha.words B)) := bw
 have hws : Ws (Sha.words B) := hws
 have hwl : (Sha.words B).length = 64 := hwl
 obtain ⟨h0, h1, h2, h3, h4, h5, h6, h7, hv⟩ : ∃ h0 h1 h2 h3 h4 h5 h6 h7, h = [h0, h1, h2, h3, h4, h5, h6, h7] := by
  match h, hhl with
  | [h0, h1, h2, h3, h4, h5, h6, h7], _ => exact ⟨h0, h1, h2, h3, h4, h5, h6, h7, rfl⟩
 subst hv
 have c0 : wr.cell? ⟨w.heap.size, 0, none⟩ = some (.int .u32 h0) := bh.cell 0
 have c1 : wr.cell? ⟨w.heap.size, 1, none⟩ = some (.int .u32 h1) := bh.cell 1
 have c2 : wr.cell? ⟨w.heap.size, 2, none⟩ = some (.int .u32 h2) := bh.cell 2
 have c3 : wr.cell? ⟨w.heap.size, 3, none⟩ = some (.int .u32 h3) := bh.cell 3
 have c4 : wr.cell? ⟨w.heap.size, 4, none⟩ = some (.int .u32 h4) := bh.cell 4
 have c5 : wr.cell? ⟨w.heap.size, 5, none⟩ = some (.int .u32 h5) := bh.cell 5
 have c6 : wr.cell? ⟨w.heap.size, 6, none⟩ = some (.int .u32 h6) := bh.cell 6
 have c7 : wr.cell? ⟨w.heap.size, 7, none⟩ = some (.int .u32 h7) := bh.cell 7
 go_wp2_with fail
 rw [show ((64 : Nat) : Int) = 64 from rfl]
 obtain ⟨wo, rfl⟩ : ∃ wo : World, wo = wr := ⟨_, rfl⟩
 clear c0 c1 c2 c3 c4 c5 c6 c7
 go_loopw [24, 16, 17, 18, 19, 20, 21, 22, 23] (fun i ra rc rd rf re rg rx rl wr => ∃ t a c d f e g x l : Nat, t ≤ 64 ∧ i = .int .i64 t ∧ ra = .int .u32 a ∧ rc = .int .u32 c ∧ rd = .int .u32 d ∧ rf = .int .u32 f ∧ re = .int .u32 e ∧ rg = .int .u32 g ∧ rx = .int .u32 x ∧ rl = .int .u32 l ∧
  Sha.mixTo [h0, h1, h2, h3, h4, h5, h6, h7] (Sha.words B) t = [a, c, d, f, e, g, x, l] ∧ Blk wr gw 104 (wordsV (Sha.words B)) ∧ Blk wr w.heap.size 105 (wordsV [h0, h1, h2, h3, h4, h5, h6, h7]) ∧ Blk wr (w.heap.size + 1) 105 (wordsV z8) ∧ Below w.heap.size w wr) (fun i _ _ _ _ _ _ _ _ _ => 64 - (intOf i).toNat)
 case atStart => exact ⟨0, h0, h1, h2, h3, h4, h5, h6, h7, by omega, rfl, rfl, rfl, rfl, rfl, rfl, rfl, rfl, rfl, rfl, bw, bh, br, hbl⟩
 clear bw bh br hbl
 obtain ⟨t, a, c, d, f, e, g, x, l, ht, rfl, rfl, rfl, rfl, rfl, rfl, rfl, rfl, rfl, hm, bw, bh, br, hbl⟩ := hrel
 by_cases h64 : t < 64
 rotate_left
 ·obtain rfl : t = 64 := by omega
  have hd64 : decide (((64 : Nat) : Int) < 64) = false := by decide
  have c0 : wr.cell? ⟨w.heap.size, 0, none⟩ = some (.int .u32 h0) := bh.cell 0
  have c1 : wr.cell? ⟨w.heap.size, 1, none⟩ = some (.int .u32 h1) := bh.cell 1
  have c2 : wr.cell? ⟨w.heap.size, 2, none⟩ = some (.int .u32 h2) := bh.cell 2
  have c3 : wr.cell? ⟨w.heap.size, 3, none⟩ = some (.int .u32 h3) := bh.cell 3
  have c4 : wr.cell? ⟨w.heap.size, 4, none⟩ = some (.int .u32 h4) := bh.cell 4
  have c5 : wr.cell? ⟨w.heap.size, 5, none⟩ = some (.int .u32 h5) := bh.cell 5
  have c6 : wr.cell? ⟨w.heap.size, 6, none⟩ = some (.int .u32 h6) := bh.cell 6
  have c7 : wr.cell? ⟨w.heap.size, 7, none⟩ = some (.int .u32 h7) := bh.cell 7
  have hmx : Hid (Sha.mixed [h0, h1, h2, h3, h4, h5, h6, h7] B = [(h0 + a) % 4294967296, (h1 + c) % 4294967296, (h2 + d) % 4294967296, (h3 + f) % 4294967296, (h4 + e) % 4294967296, (h5 + g) % 4294967296, (h6 + x) % 4294967296, (h7 + l) % 4294967296]) := by
   refine Lib.hid ?_
   unfold Sha.mixed
   rw [hm]
   simp only [Sha.addTo, List.set_cons_zero, List.set_cons_succ, List.getD_cons_zero, List.getD_cons_succ]
  clear hm
  go_wp2_with (refine wpList_store_row rfl 105 (.tmp 8) (.tmp 206) rfl (w.heap.size + 1) _ rfl rfl 105 _ br infoStart rfl (by simp [Value.oneCell']) ?_)
  have hcs : (#[Value.int IntKind.u32 (((h0 : Int) + a) % 4294967296), Value.int IntKind.u32 (((h1 : Int) + c) % 4294967296), Value.int IntKind.u32 (((h2 : Int) + d) % 4294967296), Value.int IntKind.u32 (((h3 : Int) + f) % 4294967296), Value.int IntKind.u32 (((h4 : Int) + e) % 4294967296), Value.int IntKind.u32 (((h5 : Int) + g) % 4294967296), Value.int IntKind.u32 (((h6 : Int) + x) % 4294967296), Value.int IntKind.u32 (((h7 : Int) + l) % 4294967296)] : Array Value) = wordsV (Sha.mixed [h0, h1, h2, h3, h4, h5, h6, h7] B) := by
   rw [hmx.out]
   simp [wordsV]
  rw [hcs]
  have hsz : (wordsV (Sha.mixed [h0, h1, h2, h3, h4, h5, h6, h7] B)).size = 8 := by rw [hmx.out]; rfl
  exact bodyPost_ret (results_cell_row rfl _ _ (w.heap.size + 1) 105 (wordsV (Sha.mixed [h0, h1, h2, h3, h4, h5, h6, h7] B)) (0, 0) _ rfl (setRow_heap wr (w.heap.size + 1) _ _ _ _ br) Tryd.underlying105 rfl (by rw [hsz]; exact infoStart)) rfl ⟨rfl, hbl.trans (Iter.below_setRow _ (by omega))⟩
 have hmw := mixTo_ws [h0, h1, h2, h3, h4, h5, h6, h7] (Sha.words B) hh t
 have hstep : Hid (Sha.mixTo [h0, h1, h2, h3, h4, h5, h6, h7] (Sha.words B) (t + 1) = Sha.mixStep (Sha.mixTo [h0, h1, h2, h3, h4, h5, h6, h7] (Sha.words B) t) (Sha.kTab.getD t 0) ((Sha.words B).getD t 0)) := Lib.hid rfl
 rw [hm] at hmw hstep
 have lk := kTab_ws t
 have lw := hws t
 have gk := hkc.out wr hbl t h64
 have gx : wr.cell? ⟨gw, t, none⟩ = some (.int .u32 (((Sha.words B).getD t 0 : Nat) : Int)) := (bw.cell t).trans (wordsV_at _ _ (by omega))
 generalize Sha.kTab.getD t 0 = k at *
 generalize (Sha.words B).getD t 0 = y at *
 have Hbw := Lib.hid (And.intro bw (And.intro bh (And.intro br hbl)))
 clear bw bh br hbl hm hws hwl hBs
 have t0 : (0 : Int) ≤ (t : Int) := by omega
 have t1 : (t : Int) < 64 := by omega
 have hd64 : decide ((t : Int) < 64) = true := by simp; omega
 have la : a < 4294967296 := hmw 0
 have lc : c < 4294967296 := hmw 1
 have ld : d < 4294967296 := hmw 2
 have le : e < 4294967296 := hmw 4
 have lg : g < 4294967296 := hmw 5
 have lx : x < 4294967296 := hmw 6
 clear hmw
 have hnot : bits .xor .u32 (if IntKind.u32.signed = true then -1 else IntKind.u32.max) (e : Int) = ((4294967295 - e : Nat) : Int) := not32 e le
 have hand1 := u32_and_nat e g le lg
 have hand2 := u32_and_nat (4294967295 - e) x (by omega) lx
 have hxor := u32_xor_nat (e &&& g) ((4294967295 - e) &&& x) (Nat.and_lt_two_pow (n := 32) _ lg) (Nat.and_lt_two_pow (n := 32) _ lx)
 have Hch : Hid (Sha.ch e g x = (e &&& g) ^^^ ((4294967295 - e) &&& x)) := Lib.hid rfl
 have ha1 := u32_and_nat a c la lc
 have ha2 := u32_and_nat a d la ld
 have ha3 := u32_and_nat c d lc ld
 have hx1 := u32_xor_nat (a &&& c) (a &&& d) (Nat.and_lt_two_pow (n := 32) _ lc) (Nat.and_lt_two_pow (n := 32) _ ld)
 have hx2 := u32_xor_nat ((a &&& c) ^^^ (a &&& d)) (c &&& d) (Nat.xor_lt_two_pow (n := 32) (Nat.and_lt_two_pow (n := 32) _ lc) (Nat.and_lt_two_pow (n := 32) _ ld)) (Nat.and_lt_two_pow (n := 32) _ ld)
 have Hmaj : Hid (Sha.maj a c d = ((a &&& c) ^^^ (a &&& d)) ^^^ (c &&& d)) := Lib.hid rfl
 generalize (e &&& g) ^^^ ((4294967295 - e) &&& x) = ch at *
 generalize (4294967295 - e) &&& x = ch2 at *
 generalize 4294967295 - e = ne at *
 generalize e &&& g = ch1 at *
 generalize ((a &&& c) ^^^ (a &&& d)) ^^^ (c &&& d) = mj at *
 generalize (a &&& c) ^^^ (a &&& d) = mj1 at *
 generalize a &&& c = mj2 at *
 generalize a &&& d = mj3 at *
 generalize c &&& d = mj4 at *
 have Ra := rotr_lt a 2 la
 have Rb := rotr_lt a 13 la
 have Rc := rotr_lt a 22 la
 have Rd := rotr_lt e 6 le
 have Re := rotr_lt e 11 le
 have Rf := rotr_lt e 25 le
 have S01 := u32_xor_nat _ _ Ra Rb
 have S02 := u32_xor_nat (Sha.rotr a 2 ^^^ Sha.rotr a 13) _ (Nat.xor_lt_two_pow (n := 32) Ra Rb) Rc
 have S11 := u32_xor_nat _ _ Rd Re
 have S12 := u32_xor_nat (Sha.rotr e 6 ^^^ Sha.rotr e 11) _ (Nat.xor_lt_two_pow (n := 32) Rd Re) Rf
 have HS0 : Hid (Sha.Sig0 a = Sha.rotr a 2 ^^^ Sha.rotr a 13 ^^^ Sha.rotr a 22) := Lib.hid rfl
 have HS1 : Hid (Sha.Sig1 e = Sha.rotr e 6 ^^^ Sha.rotr e 11 ^^^ Sha.rotr e 25) := Lib.hid rfl
 clear Ra Rb Rc Rd Re Rf
 generalize (Sha.rotr a 2 ^^^ Sha.rotr a 13) ^^^ Sha.rotr a 22 = s0 at *
 generalize Sha.rotr a 2 ^^^ Sha.rotr a 13 = s01 at *
 generalize (Sha.rotr e 6 ^^^ Sha.rotr e 11) ^^^ Sha.rotr e 25 = s1 at *
 generalize Sha.rotr e 6 ^^^ Sha.rotr e 11 = s11 at *
 clear hhl hh lc ld lg lx
 go_wp2_with fail
 go_region_held3 (fun w' => w'.cell? (ak.add t) = some (.int .u32 (k : Int)) ∧ w'.cell? ⟨gw, t, none⟩ = some (.int .u32 (y : Int))) (go_keep)
  (first
  | (go_at_call 83; (with_reducible refine (turn_lit e 6 6 rfl le (by omega) (by omega) _).mono ?_); rintro e' w' ⟨rfl, rfl⟩)
  | (go_at_call 83; (with_reducible refine (turn_lit e 11 11 rfl le (by omega) (by omega) _).mono ?_); rintro e' w' ⟨rfl, rfl⟩)
  | (go_at_call 83; (with_reducible refine (turn_lit e 25 25 rfl le (by omega) (by omega) _).mono ?_); rintro e' w' ⟨rfl, rfl⟩))
 obtain ⟨T1, hT1⟩ : ∃ T, (((((l + s1) % 4294967296 + ch) % 4294967296 + k) % 4294967296) + y) % 4294967296 = T := ⟨_, rfl⟩
 have eT1 : IntKind.u32.wrap (IntKind.u32.wrap (IntKind.u32.wrap (IntKind.u32.wrap ((l : Int) + (s1 : Int)) + (ch : Int)) + (k : Int)) + (y : Int)) = (T1 : Int) := by
  simp only [IntKind.wrap_u32']
  omega
 rw [eT1]
 obtain ⟨T2, hT2⟩ : ∃ T, (s0 + mj) % 4294967296 = T := ⟨_, rfl⟩
 have eT2 : ((s0 : Int) + (mj : Int)) % 4294967296 = (T2 : Int) := by omega
 obtain ⟨n4, hn4⟩ : ∃ T, (f + T1) % 4294967296 = T := ⟨_, rfl⟩
 have en4 : ((f : Int) + (T1 : Int)) % 4294967296 = (n4 : Int) := by omega
 obtain ⟨n0, hn0⟩ : ∃ T, (T1 + T2) % 4294967296 = T := ⟨_, rfl⟩
 have en0 : ((T1 : Int) + (T2 : Int)) % 4294967296 = (n0 : Int) := by omega
 have hnew : Sha.mixStep [a, c, d, f, e, g, x, l] k y = [n0, a, c, d, n4, e, g, x] := by
  unfold Sha.mixStep Sha.t1Of Sha.t2Of
  simp only [List.getD_cons_zero, List.getD_cons_succ]
  rw [HS1.out, Hch.out, HS0.out, Hmaj.out, hT1, hT2, hn4, hn0]
 have Hnew := Lib.hid (hstep.out.trans hnew)
 clear hnew hstep HS1 Hch HS0 Hmaj hT1 hT2 hn4 hn0 eT1 gk gx hnot hand1 hand2 hxor ha1 ha2 ha3 hx1 hx2 S11 S12 lk lw
 go_wp2_with (first
  | (go_at_call 83; (with_reducible refine (turn_lit a 2 2 rfl la (by omega) (by omega) _).mono ?_); rintro e' w' ⟨rfl, rfl⟩)
  | (go_at_call 83; (with_reducible refine (turn_lit a 13 13 rfl la (by omega) (by omega) _).mono ?_); rintro e' w' ⟨rfl, rfl⟩)
  | (go_at_call 83; (with_reducible refine (turn_lit a 22 22 rfl la (by omega) (by omega) _).mono ?_); rintro e' w' ⟨rfl, rfl⟩))
 obtain ⟨bw, bh, br, hbl⟩ := Hbw.out
 exact ⟨⟨t + 1, n0, a, c, d, n4, e, g, x, by omega, by go_num, by go_num, rfl, rfl, rfl, by go_num, rfl, rfl, rfl, Hnew.out, bw, bh, br, hbl.drew⟩, by simp [intOf]; omega⟩
end Go.Proofs.YtdklmafkcbjomaaDoor

/-! RefPad -/
namespace Go.Proofs.YtdklmafkcbjomaaDoor
open Go.RowKit Go.Proofs.YtdklmafkcbjomaaDoorW.PrintWords Go.Proofs.YtdklmafkcbjomaaDoorW.PrintLast Go.Proofs.YtdklmafkcbjomaaDoorW.PrintMore
theorem refPad_tail (n : Nat) (hn : n ≤ 1125899906842624) : ∀ (j : Nat) (y : List Int), j ≤ 8 → y.length ≤ 100 - j → L.pyxref02_Pad.l1 (j + 1) y (wrap64 (8 * (n : Int))) (8 * (j : Int) - 8) = some (y ++ ofB (beTail (n * 8) j))
 | 0, y, _, _ => by
  rw [L.pyxref02_Pad.l1, if_neg (by omega)]
  simp [beTail, ofB]
 | j + 1, y, hj, hy => by
  rw [L.pyxref02_Pad.l1]
  have e : 8 * ((j + 1 : Nat) : Int) - 8 = ((8 * j : Nat) : Int) := by omega
  have hw : IntKind.u64.wrap ((8 * j : Nat) : Int) = ((8 * j : Nat) : Int) := by rw [IntKind.wrap_u64]; omega
  have hs := shr_at n hn (8 * j) (by omega)
  rw [Int.mul_comm] at hs
  rw [e, if_pos (by omega), hw, if_pos (by omega), if_pos (by omega), hs, show wrap64 (((8 * j : Nat) : Int) - 8) = 8 * (j : Int) - 8 by unfold wrap64; omega]
  have ih := refPad_tail n hn j (y ++ [((n * 8 / 2 ^ (8 * j) % 256 : Nat) : Int)]) (by omega) (by simp; omega)
  rw [ih, List.append_assoc]
  rfl
theorem refPad_mid (n : Nat) (hn : n ≤ 1125899906842624) : ∀ (d j : Nat), j + 1 + d = Sha.padLen n → L.pyxref02_Pad.l0 (d + 10) n (ofB (128 :: List.replicate j 0)) = some (ofB (Sha.pad n))
 | 0, j, hj => by
  have hp := Sha.padLen_le n
  rw [L.pyxref02_Pad.l0, ofB_length, List.length_cons, List.length_replicate,
   show wrap64 (wrap64 ((n : Int) + ((j + 1 : Nat) : Int)) + 8) = ((n + Sha.padLen n + 8 : Nat) : Int) by unfold wrap64; omega, Int.tmod_eq_emod_of_nonneg (by omega), if_pos (by omega)]
  have h := refPad_tail n hn 8 (ofB (128 :: List.replicate j 0)) (by omega) (by rw [ofB_length]; simp; omega)
  rw [show (8 * ((8 : Nat) : Int) - 8) = 56 by omega] at h
  rw [h, beTail_eight, ← ofB_append]
  rw [show j = Sha.padLen n - 1 by omega]
  rfl
 | d + 1, j, hj => by
  have hp := Sha.padLen_le n
  rw [L.pyxref02_Pad.l0, ofB_length, List.length_cons, List.length_replicate,
   show wrap64 (wrap64 ((n : Int) + ((j + 1 : Nat) : Int)) + 8) = ((n + j + 1 + 8 : Nat) : Int) by unfold wrap64; omega, Int.tmod_eq_emod_of_nonneg (by omega), if_neg (by omega), if_pos (by omega)]
  have e : ofB (128 :: List.replicate j 0) ++ [0] = ofB (128 :: List.replicate (j + 1) 0) := by
   rw [show ([0] : List Int) = ofB [0] from rfl, ← ofB_append, List.cons_append, ← List.replicate_succ']
  rw [e]
  exact refPad_mid n hn d (j + 1) (by omega)
theorem refPad_eq (n : Nat) (hn : n ≤ 1125899906842624) : L.pyxref02_Pad.f 80 n = some (ofB (Sha.pad n)) := by
 have hp := Sha.padLen_le n
 have h := refPad_mid n hn (Sha.padLen n - 1) 0 (by omega)
 unfold L.pyxref02_Pad.f
 rw [if_neg (by omega), decide_eq_false (by omega), L.pyxref02_Pad.j0, if_neg (by simp)]
 have hle : ∀ m k r, L.pyxref02_Pad.l0 k n (ofB [128]) = some r → L.pyxref02_Pad.l0 (k + m) n (ofB [128]) = some r := by
  intro m
  induction m with
  | zero => exact fun k r h => h
  | succ m ih => exact fun k r h => (L.pyxref02_Pad.mono_l (k + m)).2.1 _ _ r (ih k r h)
 have := hle (70 - Sha.padLen n) _ _ h
 rw [show Sha.padLen n - 1 + 10 + (70 - Sha.padLen n) = 79 by omega] at this
 exact this
set_option maxRecDepth 100000 in
theorem refStart_calls (w : World) : Calls Tryd.prog 75 #[] w fun e w' => e = .returned (.agg (wordsV Sha.hTab)) ∧ Below w.heap.size w w' := by
 go_enter Tryd.func75, Tryd.ntmps75
 have br := Blk.new w 105 (wordsV z8)
 go_wp2_with (refine wpList_store_row rfl 105 (.tmp 0) (.tmp 1) rfl w.heap.size _ rfl rfl 105 _ br infoStart rfl (by simp [Value.oneCell']) ?_)
 rw [zero8, show (#[Value.int IntKind.u32 1779033703, Value.int IntKind.u32 3144134277, Value.int IntKind.u32 1013904242, Value.int IntKind.u32 2773480762, Value.int IntKind.u32 1359893119, Value.int IntKind.u32 2600822924, Value.int IntKind.u32 528734635, Value.int IntKind.u32 1541459225] : Array Value) = wordsV Sha.hTab from rfl]
 exact bodyPost_ret (results_cell_row rfl _ _ w.heap.size 105 (wordsV Sha.hTab) (0, 0) _ rfl (setRow_heap _ w.heap.size _ _ _ _ br) Tryd.underlying105 rfl infoStart) rfl ⟨rfl, ((Below.refl _ w).alloc (Nat.le_refl _) _).trans (Iter.below_setRow _ (Nat.le_refl _))⟩
end Go.Proofs.YtdklmafkcbjomaaDoor

/-! RefSum -/
namespace Go.Proofs.YtdklmafkcbjomaaDoor
open Go.RowKit Go.Proofs.YtdklmafkcbjomaaDoor.L Go.Proofs.YtdklmafkcbjomaaDoorW.PrintWords Go.Proofs.YtdklmafkcbjomaaDoorW.PrintLast Go.Proofs.YtdklmafkcbjomaaDoorW.PrintMore
theorem refKeys_eq : L.pyxref02_keys.f = some (ofB Sha.kTab) := by kernel_rfl
namespace P
def pyxref02_Sum.f (l : List Int) : Option (List Int) := if byteOk l = true ∧ l.length ≤ 900000 then some (ofB (Sha.sum (toB l))) else none
set_option maxRecDepth 100000 in
set_option maxHeartbeats 4000000 in
theorem pyxref02_Sum.calls (A0 : Option Addr) (c0 : Nat) (l0 : List Int) (r : List Int) (w : World) (hr0 : Kd.C (Kd.int .u8) w A0 l0.length l0) (hc0 : l0.length ≤ c0) (h : pyxref02_Sum.f l0 = some r) :
  Calls Tryd.prog 64 #[.slice A0 l0.length c0] w fun e w' => ∃ v0_ : Value, e = .returned (v0_) ∧ Kd.R (Kd.int .u8) 5 w' w.heap.size (fun _ => True) v0_ r ∧ Below w.heap.size w w' := by
 unfold pyxref02_Sum.f at h
 split at h
 case isFalse => cases h
 case isTrue hok =>
 obtain ⟨hby, hlen⟩ := hok
 injection h with h
 obtain ⟨b, hb⟩ : ∃ b, toB l0 = b := ⟨_, rfl⟩
 have hl0 : l0 = ofB b := by rw [← hb]; exact (ofB_toB l0 hby).symm
 have hBs : Bs b := by rw [← hb]; exact bs_of_ok l0 hby
 rw [hb] at h
 subst h
 clear hb hby
 subst hl0
 have hbl0 : b.length ≤ 900000 := by rwa [ofB_length] at hlen
 have hcl := hr0
 have hpadl := Sha.pad_length b.length
 have hpadq := Sha.padLen_le b.length
 go_enter Tryd.func64, Tryd.ntmps64
 have Hb0 := (Below.refl w.heap.size w).alloc (Nat.le_refl _) (Obj.cells #[] 5)
 go_wp2_with (first
  | ((with_reducible refine gate_builtin (b := .append) (xs := #[.tmp 9, .tmp 10]) rfl ?_); at_builtin; refine Kd.R_append_rows (Kd.int .u8) (w0 := w) w.heap.size rfl (.tmp 9) (.tmp 10) 22 5 (.int .u8 0) 1 rfl Tryd.underlying22 info5 rfl (by decide) (by omega) (.slice (some ⟨w.heap.size, 0, none⟩) 0 0) [] (ofB b) _ _ _ (fun _ => True) (fun _ => False) rfl rfl ?aO ?aR (fun _ _ h => h) (fun _ h => h.elim) ?aF ?aB ?aS ?aL ?_; (case aR => exact Kd.C_alloc hcl _); (case aB => exact Hb0); (case aF => exact (fun _ _ => trivial)); (case aO => exact Kd.R_of_own (own_lit w w.heap.size 5 .u8 [] (Nat.le_refl _) (by simp)) (fun _ _ => trivial)); (case aS => exact Hb0.size); (case aL => first | (simp [ofB_length]; omega) | (rw [ofB_length]; simp; omega) | (rw [List.length_nil, ofB_length]; omega)); intro v1 W5 ho1 hb1 hg1 hat1))
 rw [ofB_length]
 refine (L.pyxref02_Pad.calls 80 (b.length : Int) _ _ (refPad_eq b.length (by omega))).mono ?_
 rintro e W6 ⟨v2, rfl, ho2, hb2⟩
 obtain ⟨A4, c4, rfl, hl4, hC4⟩ := Kd.R_reads ho2
 have ho3 := Lib.hid (Kd.R_below ho1 hb2)
 have Hb3 := Lib.hid (hb1.trans (hb2.mono hb1.size))
 have HC4 := Lib.hid hC4
 clear ho1 hb1 hg1 hat1 ho2 hb2 hC4 Hb0
 go_wp2_with (first
  | ((with_reducible refine gate_builtin (b := .append) (xs := #[.tmp 11, .tmp 14]) rfl ?_); at_builtin; refine Kd.R_append_rows (Kd.int .u8) (w0 := w) w.heap.size rfl (.tmp 11) (.tmp 14) 22 5 (.int .u8 0) 1 rfl Tryd.underlying22 info5 rfl (by decide) (by omega) v1 ([] ++ ofB b) (ofB (Sha.pad b.length)) A4 (ofB (Sha.pad b.length)).length c4 (fun _ => True) (fun _ => False) rfl rfl ?aO ?aR (fun _ _ h => h) (fun _ h => h.elim) ?aF ?aB ?aS ?aL ?_; (case aR => exact HC4.out); (case aB => exact Hb3.out); (case aF => exact (fun _ _ => trivial)); (case aO => exact ho3.out); (case aS => exact Hb3.out.size); (case aL => rw [List.nil_append, ofB_length, ofB_length]; omega); intro v3 W7 ho4 hb4 hg4 hat4))
 have hlist : [] ++ ofB b ++ ofB (Sha.pad b.length) = ofB (b ++ Sha.pad b.length) := by rw [List.nil_append, ← ofB_append]
 rw [hlist] at ho4
 clear hlist ho3 Hb3 HC4 hg4 hat4
 obtain ⟨all, hall⟩ : ∃ all, b ++ Sha.pad b.length = all := ⟨_, rfl⟩
 have halen : all.length = b.length + (Sha.padLen b.length + 8) := by rw [← hall, List.length_append, hpadl]
 have hab : Bs all := by
  intro i
  rw [← hall, List.getD_eq_getElem?_getD, List.getElem?_append]
  split
  ·have := hBs i
   rwa [List.getD_eq_getElem?_getD] at this
  ·have h1 := byteOk_pad b.length
   have h2 := bs_of_ok _ h1
   rw [toB_ofB] at h2
   have := h2 (i - b.length)
   rwa [List.getD_eq_getElem?_getD] at this
 rw [hall] at ho4
 refine (L.pyxref02_keys.calls _ _ refKeys_eq).mono ?_
 rintro e W8 ⟨v4, rfl, ho5, hb5⟩
 obtain ⟨Ak, ck, rfl, hlk, hCk⟩ := Kd.R_reads ho5
 have ho6 := Kd.R_below ho4 hb5
 have hb6 := hb4.trans (hb5.mono hb4.size)
 obtain ⟨Aa, ca, rfl, hla, hCa⟩ := Kd.R_reads ho6
 clear ho5 hb5 ho4 hb4 ho6
 have HCk := Lib.hid hCk
 have HCa := Lib.hid hCa
 have Hb6 := Lib.hid hb6
 clear hCk hCa hb6
 go_wp2_with fail
 refine (refStart_calls _).mono ?_
 rintro e W9 ⟨rfl, hb7⟩
 have HCk := Lib.hid (Kd.C_below HCk.out hb7)
 have HCa := Lib.hid (Kd.C_below HCa.out hb7)
 have Hb9 := Lib.hid (Hb6.out.trans (hb7.mono Hb6.out.size))
 clear hb7
 go_wp2_with (first
  | (refine wpList_store_row rfl 105 (.tmp 5) (.tmp 17) rfl W9.heap.size _ rfl rfl 105 _ (heap_alloc_new _ _) (by rw [wordsV_size, hTab_len]; exact infoStart) (by rw [wordsV_size, hTab_len]; rfl) (by simp [wordsV, Value.oneCell']) ?_))
 rw [zero8]
 have bh := (Blk.new W9 105 (wordsV z8)).setRow_ (wordsV Sha.hTab)
 have hbn := ((Below.refl W9.heap.size W9).alloc (Nat.le_refl _) (.cells (wordsV z8) 105)).trans (Iter.below_setRow (B := W9.heap.size) (g := W9.heap.size) (wordsV Sha.hTab) (Nat.le_refl _))
 generalize (W9.alloc (.cells (wordsV z8) 105)).setRow W9.heap.size (wordsV Sha.hTab) = W10 at bh hbn ⊢
 have hk64 : (ofB Sha.kTab).length = 64 := by rw [ofB_length]; rfl
 rw [hk64] at HCk ⊢
 obtain ⟨m, hm⟩ : ∃ m, all.length / 64 = m := ⟨_, rfl⟩
 have ham : all.length = 64 * m := by omega
 have hal2 : all.length ≤ 1000000 := by omega
 have hla' : (ofB all).length ≤ ca := hla
 have hLa : Hid ((ofB all).length = 64 * m) := Lib.hid (by rw [ofB_length, ham])
 obtain ⟨gh, hgh⟩ : ∃ g, W9.heap.size = g := ⟨_, rfl⟩
 rw [hgh] at bh ⊢
 go_loopw [6] (fun i wr => ∃ k : Nat, k ≤ m ∧ i = .int .i64 ((64 * k : Nat) : Int) ∧ Blk wr gh 105 (wordsV (Sha.blkTo all Sha.hTab k)) ∧ Below W9.heap.size W9 wr) (fun i _ => 64 * m - (intOf i).toNat)
 case atStart => exact ⟨0, by omega, rfl, bh, hbn⟩
 clear bh hbn
 obtain ⟨k, hk, rfl, bh, hbl⟩ := hrel
 have hbw := blkTo_ws all Sha.hTab hTab_ws k
 have hbl8 := blkTo_len all Sha.hTab hTab_len k
 by_cases hkm : k < m
 ·have hnx : Sha.blkTo all Sha.hTab (k + 1) = Sha.mixed (Sha.blkTo all Sha.hTab k) (blkAt all (64 * k)) := rfl
  have Hnx := Lib.hid hnx
  clear hnx
  generalize Sha.blkTo all Sha.hTab k = v at *
  have hdn : decide (64 * k < (ofB all).length) = true := by have := hLa.out; rw [decide_eq_true_eq]; omega
  have hdi : decide (((64 * k : Nat) : Int) < ((ofB all).length : Int)) = true := by have := hLa.out; rw [decide_eq_true_eq]; omega
  have hw : IntKind.i64.wrap (((64 * k : Nat) : Int) + 64) = ((64 * (k + 1) : Nat) : Int) := by rw [IntKind.wrap_i64]; omega
  have hq : 64 * k + 64 ≤ all.length := by omega
  obtain ⟨q, hq0⟩ : ∃ q, 64 * k = q := ⟨_, rfl⟩
  rw [hq0] at hdn hdi hw hq Hnx ⊢
  have Hq := Lib.hid hq0
  have hCa := Kd.C_below HCa.out hbl
  have hCk := Kd.C_below HCk.out hbl
  have Hbl := Lib.hid hbl
  have hgl := bh.lt
  have Hs : Hid ((Tryd.prog.info? 105).map (·.size) = some (wordsV (Sha.mixed v (blkAt all q))).size ∧ (wordsV v).size = (wordsV (Sha.mixed v (blkAt all q))).size ∧ (wordsV (Sha.mixed v (blkAt all q))).all (·.oneCell') = true) := Lib.hid ⟨by rw [wordsV_size, mixed_len _ _ hbl8]; exact infoStart, by rw [wordsV_size, wordsV_size, mixed_len _ _ hbl8, hbl8], by simp [wordsV, Value.oneCell']⟩
  clear hq0 hbl
  go_wp2_with (first
   | (refine wpList_load_row rfl 105 (.tmp 5) rfl gh rfl 105 _ (0, 0) _ bh Tryd.underlying105 rfl (by rw [wordsV_size, hbl8]; exact infoStart) ?_)
   | (go_at_call 76; (with_reducible refine (step_calls v all q Aa Ak ca ck _ hbw hbl8 hab hq hal2 hla' hCa hCk).mono ?_); rintro e W11 ⟨rfl, hb11⟩; (have bh11 := bh.below hb11 hgl); (have hb12 := Lib.hid (Hbl.out.trans (hb11.mono Hbl.out.size))); clear hb11)
   | (refine wpList_store_row rfl 105 (.tmp 5) (.tmp 28) rfl gh (wordsV (Sha.mixed v (blkAt all q))) rfl rfl 105 (wordsV v) bh11 Hs.out.1 Hs.out.2.1 Hs.out.2.2 ?_))
  have bh13 := bh11.setRow_ (wordsV (Sha.mixed v (blkAt all q)))
  have hb13 := hb12.out.trans (Iter.below_setRow (B := W9.heap.size) (g := gh) (wordsV (Sha.mixed v (blkAt all q))) (by omega))
  rw [← Hnx.out] at bh13 hb13 ⊢
  exact ⟨⟨k + 1, by omega, by go_num, bh13, hb13⟩, by have := Hq.out; simp [intOf]; omega⟩
 obtain rfl : k = m := by omega
 obtain ⟨hh, hhe⟩ : ∃ x, Sha.blkTo all Sha.hTab k = x := ⟨_, rfl⟩
 rw [hhe] at bh hbw hbl8
 have hfin : Hid (Sha.sum b = hh.flatMap Sha.out4) := Lib.hid (by unfold Sha.sum; rw [hall, hm, hhe])
 have hd1 : decide (((64 * k : Nat) : Int) < ((ofB all).length : Int)) = false := by have := hLa.out; rw [decide_eq_false_iff_not]; omega
 have hd2 : decide (64 * k < (ofB all).length) = false := by have := hLa.out; rw [decide_eq_false_iff_not]; omega
 obtain ⟨q, hq0⟩ : ∃ q, 64 * k = q := ⟨_, rfl⟩
 rw [hq0] at hd1 hd2 ⊢
 clear hq0 hhe
 go_wp2_with fail
 have hhl : hh.length = 8 := hbl8
 have hR0 : Aside0 (Kd.R (Kd.int .u8) 5 wr w.heap.size (fun _ => True) (.slice none 0 0) (ofB ((hh.take 0).flatMap Sha.out4))) := ⟨Kd.R_nil _ _ _ _ _⟩
 have hbw9 : Below w.heap.size w wr := Hb9.out.trans (hbl.mono Hb9.out.size)
 have hsz9 := Hb9.out.size
 clear hbl HCk HCa Hb6
 obtain ⟨wo, rfl⟩ : ∃ wo : World, wo = wr := ⟨_, rfl⟩
 go_loopw [7, 8] (fun v i wr => ∃ t : Nat, t ≤ 8 ∧ i = .int .i64 t ∧ Aside0 (Kd.R (Kd.int .u8) 5 wr w.heap.size (fun g => g ≠ gh) v (ofB ((hh.take t).flatMap Sha.out4))) ∧ Blk wr gh 105 (wordsV hh) ∧ Below w.heap.size w wr) (fun _ i _ => 8 - (intOf i).toNat)
 case atStart => exact ⟨0, by omega, rfl, ⟨Kd.R_nil _ _ _ _ _⟩, bh, hbw9⟩
 clear bh hbw9 hR0
 obtain ⟨t, ht, rfl, hR, bh, hbl⟩ := hrel
 by_cases ht8 : t < 8
 rotate_left
 ·obtain rfl : t = 8 := by omega
  have hd : decide (((8 : Nat) : Int) < 8) = false := by decide
  rw [List.take_of_length_le (by omega)] at hR
  go_wp2
  go_ret
  exact ⟨_, rfl, by rw [hfin.out]; exact Kd.R_mono hR.out (fun _ _ => trivial), hbl⟩
 have lx := hbw t
 have gx : wr.cell? ⟨gh, t, none⟩ = some (.int .u32 ((hh.getD t 0 : Nat) : Int)) := (bh.cell t).trans (wordsV_at _ _ (by omega))
 obtain ⟨x, hx⟩ : ∃ x, hh.getD t 0 = x := ⟨_, rfl⟩
 rw [hx] at lx gx
 have hx := Lib.hid hx
 have t0 : (0 : Int) ≤ (t : Int) := by omega
 have t1 : (t : Int) < 8 := by omega
 have hd : decide ((t : Int) < 8) = true := by simp; omega
 have hbl' := Lib.hid hbl
 have hgl := bh.lt
 clear hbl hbw
 have hfl := flat_len (hh.take t)
 rw [List.length_take] at hfl
 obtain ⟨y0, hy0⟩ : ∃ y : Nat, x / 16777216 = y := ⟨_, rfl⟩
 obtain ⟨y1, hy1⟩ : ∃ y : Nat, x / 65536 = y := ⟨_, rfl⟩
 obtain ⟨y2, hy2⟩ : ∃ y : Nat, x / 65536 % 256 = y := ⟨_, rfl⟩
 obtain ⟨z1, hz1⟩ : ∃ y : Nat, x / 256 = y := ⟨_, rfl⟩
 obtain ⟨z2, hz2⟩ : ∃ y : Nat, x / 256 % 256 = y := ⟨_, rfl⟩
 obtain ⟨q0, hq0⟩ : ∃ y : Nat, x % 256 = y := ⟨_, rfl⟩
 have E1 : IntKind.u32.wrap ((x : Int) / 16777216) = (y0 : Int) := by rw [IntKind.wrap_u32']; omega
 have E2 : IntKind.u8.wrap (y0 : Int) = (y0 : Int) := by rw [IntKind.wrap_u8]; omega
 have E3 : IntKind.u32.wrap ((x : Int) / 65536) = (y1 : Int) := by rw [IntKind.wrap_u32']; omega
 have E4 : (y1 : Int).tmod 256 = (y2 : Int) := by rw [Int.tmod_eq_emod_of_nonneg (by omega)]; omega
 have E5 : IntKind.u8.wrap (y2 : Int) = (y2 : Int) := by rw [IntKind.wrap_u8]; omega
 have E6 : IntKind.u32.wrap ((x : Int) / 256) = (z1 : Int) := by rw [IntKind.wrap_u32']; omega
 have E7 : (z1 : Int).tmod 256 = (z2 : Int) := by rw [Int.tmod_eq_emod_of_nonneg (by omega)]; omega
 have E8 : IntKind.u8.wrap (z2 : Int) = (z2 : Int) := by rw [IntKind.wrap_u8]; omega
 have E9 : (x : Int).tmod 256 = (q0 : Int) := by rw [Int.tmod_eq_emod_of_nonneg (by omega)]; omega
 have E10 : IntKind.u8.wrap (q0 : Int) = (q0 : Int) := by rw [IntKind.wrap_u8]; omega
 have Hy := Lib.hid (And.intro hy0 (And.intro hy2 (And.intro hz2 hq0)))
 clear hy0 hy1 hy2 hz1 hz2 hq0
 have hob : u7.ownBlock ≠ some gh := fun he => by
  have := hR.out.1 gh he
  omega
 go_wp2_with fail
 go_region_held3 (fun w' => w'.cell? ⟨gh, t, none⟩ = some (.int .u32 (x : Int))) (first | go_keep | (exact cell_grown hg7 (show (wr.alloc _).cell? _ = _ from (World.cell?_alloc_lt _ _ _ hgl).trans gx) (fun e => hob e.symm)))
  ((refine Kd.R_append_rows_step (Kd.int .u8) (w0 := w) w.heap.size (by rfl) (.tmp 33) (.tmp 56) 22 5 (.int .u8 0) 1 rfl Tryd.underlying22 info5 rfl (by decide) (by omega) u7 (ofB ((hh.take t).flatMap Sha.out4)) [(y0 : Int), (y2 : Int), (z2 : Int), (q0 : Int)] (some ⟨wr.heap.size, 0, none⟩) 4 4 (fun g => g ≠ gh) (fun _ => False) rfl rfl ?aO ?aR (fun _ _ h => h) (fun _ h => h.elim) ?aF ?aB ?aS ?aL ?_; (case aO => exact Kd.R_drew (Kd.R_alloc hR.out _)); (case aR => exact Kd.C_below (c_lit wr 5 [(y0 : Int), (y2 : Int), (z2 : Int), (q0 : Int)] (by simp)) (below_drew (Below.refl _ _))); (case aF => (intro g hg; simp at hg; omega)); (case aB => exact (hbl'.out.alloc hbl'.out.size _).drew); (case aS => exact (hbl'.out.alloc hbl'.out.size _).drew.size); (case aL => (rw [ofB_length]; omega)); intro v7 W7 ho7 hb7 hg7 hat7))
 have hnext : Aside0 (Kd.R (Kd.int .u8) 5 W7 w.heap.size (fun g => g ≠ gh) v7 (ofB ((hh.take (t + 1)).flatMap Sha.out4))) := ⟨by
  obtain ⟨e1, e2, e3, e4⟩ := Hy.out
  rw [out4_snoc hh t (by omega) x hx.out lx]
  rw [show [(x : Int) / 16777216, (x : Int) / 65536 % 256, (x : Int) / 256 % 256, (x : Int) % 256] = [(y0 : Int), (y2 : Int), (z2 : Int), (q0 : Int)] from by rw [← e1, ← e2, ← e3, ← e4]; rfl]
  exact ho7⟩
 have bh7 : Blk W7 gh 105 (wordsV hh) := Blk.grown_ (w := (wr.alloc _).drew) (show Blk (wr.alloc _) gh _ _ from bh.alloc _) hg7 (fun e => hob e.symm)
 have hb7' : Below w.heap.size w W7 := hb7
 clear ho7 hg7 hat7 hR bh gx hob hbl' hb7
 clear E1 E2 E3 E4 E5 E6 E7 E8 E9 E10
 go_wp2
 exact ⟨⟨t + 1, by omega, by go_num, hnext, bh7, hb7'⟩, by simp [intOf]; omega⟩
end P
end Go.Proofs.YtdklmafkcbjomaaDoor

/-! Mac -/
namespace Go.Proofs.YtdklmafkcbjomaaDoor
set_option linter.unusedVariables false
set_option linter.unusedSimpArgs false
open Go.RowKit Go.Proofs.YtdklmafkcbjomaaDoor.L Go.Proofs.YtdklmafkcbjomaaDoorW.PrintWords Go.Proofs.YtdklmafkcbjomaaDoorW.PrintLast Go.Proofs.YtdklmafkcbjomaaDoorW.PrintMore
theorem info_u8 : (Tryd.prog.info? 5).map (·.size) = some 1 := by kernel_rfl
theorem grown_none_below {w w' : World} (h : w.grownBy w' none) : Below w.heap.size w w' := ⟨h.os, h.tape, h.output, h.size, fun i hi => h.block i hi (by simp)⟩
/-- A key, or its digest. -/
def ownKey (l : List Int) : List Int := if 64 < l.length then ofB (Sha.sum (toB l)) else l
def macKey (l : List Int) : List Int := ownKey l ++ List.replicate (64 - (ownKey l).length) 0
theorem ownKey_length (l : List Int) : (ownKey l).length ≤ 64 := by
 unfold ownKey
 split
 ·rw [ofB_length, Sha.sum_length]
  omega
 ·omega
theorem macKey_length (l : List Int) : (macKey l).length = 64 := by
 have := ownKey_length l
 unfold macKey
 rw [List.length_append, List.length_replicate]
 omega
theorem byteOk_replicate (n : Nat) (x : Int) (h0 : 0 ≤ x) (h1 : x < 256) : byteOk (List.replicate n x) = true := by
 rw [byteOk_iff]
 intro y hy
 have := List.eq_of_mem_replicate hy
 omega
theorem byteOk_ownKey (l : List Int) (h : byteOk l = true) : byteOk (ownKey l) = true := by
 unfold ownKey
 split
 ·exact byteOk_sum _
 ·exact h
theorem byteOk_macKey (l : List Int) (h : byteOk l = true) : byteOk (macKey l) = true := (byteOk_append _ _).2 ⟨byteOk_ownKey l h, byteOk_replicate _ _ (by omega) (by omega)⟩
theorem keyTail (k : List Int) (h : k.length ≤ 64) : k.take (min k.length (List.replicate (64 : Int).toNat (0 : Int)).length) ++ (List.replicate (64 : Int).toNat (0 : Int)).drop (min k.length (List.replicate (64 : Int).toNat (0 : Int)).length) = k ++ List.replicate (64 - k.length) 0 := by
 have e : (List.replicate (64 : Int).toNat (0 : Int)).length = 64 := by simp
 rw [e, Nat.min_eq_left h, List.take_of_length_le (Nat.le_refl _), List.drop_replicate]
 rfl
namespace P
def mac_Key.f (l : List Int) : Option (List Int) := if byteOk l = true ∧ l.length ≤ 900000 then some (macKey l) else none
set_option maxRecDepth 100000 in
set_option maxHeartbeats 2000000 in
theorem mac_Key.calls (A0 : Option Addr) (c0 : Nat) (l0 : List Int) (r : List Int) (w : World) (hr0 : Kd.C (Kd.int .u8) w A0 l0.length l0) (hc0 : l0.length ≤ c0) (h : mac_Key.f l0 = some r) :
  Calls Tryd.prog 84 #[.slice A0 l0.length c0] w fun e w' => ∃ v0_ : Value, e = .returned (v0_) ∧ Kd.R (Kd.int .u8) 5 w' w.heap.size (fun _ => True) v0_ r ∧ Below w.heap.size w w' := by
 unfold mac_Key.f at h
 split at h
 case isFalse => cases h
 case isTrue hok =>
 injection h with h
 by_cases hlt : 64 < l0.length
 rotate_left
 ·have hd : decide (64 < (l0.length : Int)) = false := by rw [decide_eq_false_iff_not]; omega
  have hk : ownKey l0 = l0 := by unfold ownKey; rw [if_neg hlt]
  unfold macKey at h
  rw [hk] at h
  have Hh := Lib.hid h
  clear h hk
  go_enter Tryd.func84, Tryd.ntmps84
  go_wp2_with (first
   | ((with_reducible refine gate_dst (N := 9) rfl ?_); refine Kd.R_make (Kd.int .u8) (w0 := w) w.heap.size 5 rfl (N := 9) rfl 22 _ _ rfl 64 rfl rfl Tryd.underlying22 (.int .u8 0) 1 info5 rfl (by decide) (by omega) (0 : Int) (ok := fun _ => True) (okp := fun _ => False) ?zK (fun _ h => h.elim) trivial (by omega) (by decide) ?zB ?zS ?_; (case zK => exact (by rfl)); (case zB => exact Below.refl _ _); (case zS => exact Nat.le_refl _); intro v2 W2 hR2 hb2 hg2 hat2)
   | ((with_reducible refine gate_builtin (b := .copy) (xs := #[.tmp 10, .tmp 11]) rfl ?_); refine Kd.R_copy (0 : Int) (w0 := w) w.heap.size rfl (.tmp 10) (.tmp 11) 22 22 5 rfl Tryd.underlying22 info_u8 v2 _ l0 _ _ _ (fun _ => True) rfl rfl hR2 ?zC hb2 hb2.size ?_; (case zC => exact Kd.C_below hr0 (grown_none_below hg2)); intro W3 hR3 hb3 hg3))
  go_ret
  refine ⟨v2, rfl, ?_, hb3⟩
  rw [← Hh.out, ← keyTail l0 (by omega)]
  exact hR3
 have hd : decide (64 < (l0.length : Int)) = true := by rw [decide_eq_true_eq]; omega
 have hs : sha_Sum.f l0 = some (ofB (Sha.sum (toB l0))) := by unfold sha_Sum.f; rw [if_pos ⟨hok.1, by omega⟩]
 have hk : ownKey l0 = ofB (Sha.sum (toB l0)) := by unfold ownKey; rw [if_pos hlt]
 unfold macKey at h
 rw [hk] at h
 have Hh := Lib.hid h
 clear h hk
 have hlen : (ofB (Sha.sum (toB l0))).length = 32 := by rw [ofB_length, Sha.sum_length]
 generalize ofB (Sha.sum (toB l0)) = y at *
 have Hlen := Lib.hid hlen
 have Hs := Lib.hid hs
 clear hs hlen
 go_enter Tryd.func84, Tryd.ntmps84
 go_wp2_with (first
  | (go_at_call 87; (with_reducible refine (sha_Sum.calls A0 c0 l0 y w hr0 hc0 Hs.out).mono ?_); rintro e W1 ⟨v1, rfl, hR1, hb1⟩; obtain ⟨A1, c1, rfl, hl1, hC1⟩ := Kd.R_reads hR1; clear hR1)
  | ((with_reducible refine gate_dst (N := 9) rfl ?_); refine Kd.R_make (Kd.int .u8) (w0 := w) w.heap.size 5 rfl (N := 9) rfl 22 _ _ rfl 64 rfl rfl Tryd.underlying22 (.int .u8 0) 1 info5 rfl (by decide) (by omega) (0 : Int) (ok := fun _ => True) (okp := fun _ => False) ?zK (fun _ h => h.elim) trivial (by omega) (by decide) ?zB ?zS ?_; (case zK => exact (by rfl)); (case zB => exact hb1); (case zS => exact hb1.size); intro v2 W2 hR2 hb2 hg2 hat2)
  | ((with_reducible refine gate_builtin (b := .copy) (xs := #[.tmp 10, .tmp 11]) rfl ?_); refine Kd.R_copy (0 : Int) (w0 := w) w.heap.size rfl (.tmp 10) (.tmp 11) 22 22 5 rfl Tryd.underlying22 info_u8 v2 _ y _ _ _ (fun _ => True) rfl rfl hR2 ?zC hb2 hb2.size ?_; (case zC => exact Kd.C_below hC1 (grown_none_below hg2)); intro W3 hR3 hb3 hg3))
 go_ret
 refine ⟨v2, rfl, ?_, hb3⟩
 rw [← Hh.out, ← keyTail y (by have := Hlen.out; omega)]
 exact hR3
end P
/-! slices.Grow, of nil. -/
set_option maxRecDepth 100000 in
theorem grow_nil (n : Nat) (w : World) (h1 : 1 ≤ n) (hn : n ≤ 100000000) :
  Calls Tryd.prog 93 #[.slice none 0 0, .int .i64 n] w fun e w' => ∃ v, e = .returned v ∧ Kd.R (Kd.int .u8) 5 w' w.heap.size (fun _ => True) v [] ∧ Below w.heap.size w w' := by
 obtain ⟨i0, hi, hz0, hz1, hz2⟩ := info_parts info5
 have hrun := fun ty => Lib.run_append_nil_zeros (P := Tryd.prog) w 22 3 ty 5 i0 (.int .u8 0) .i64 .i64 Tryd.underlying22 Tryd.underlying3 hi hz0 n (by omega) (by omega) (by omega) (by rw [hz2]; omega)
 have Hrun := Lib.hid hrun
 have Hi := Lib.hid (And.intro hi (And.intro hz0 (And.intro hz1 hz2)))
 clear hrun hi hz0 hz1 hz2
 have d1 : decide ((n : Int) < 0) = false := by rw [decide_eq_false_iff_not]; omega
 have d2 : decide ((0 : Int) < (n : Int)) = true := by rw [decide_eq_true_eq]; omega
 have hc1 := grownCap_ge w n 0 5
 have hc2 := grownCap_le_maxLen w n 0 5 (by unfold maxLen; omega)
 generalize grownCap w n 0 5 = G at *
 go_enter Tryd.func93, Tryd.ntmps93
 go_wp2_with (at_builtin; refine Lib.wpList_append_run _ rfl _ _ _ _ rfl _ _ rfl rfl _ _ (Hrun.out _) ?_)
 go_ret
 have hb : Below w.heap.size w ((w.alloc (Obj.cells (Builtin.zeroCells #[Value.int IntKind.u8 0] n ++ Builtin.zeroCells #[Value.int IntKind.u8 0] (G - n)) 5)).drew) := ((Below.refl _ w).alloc (Nat.le_refl _) _).drew
 refine ⟨_, rfl, Kd.R_drew (Kd.R_of_own (enc := Value.int .u8) (h1 := fun _ => rfl) (xs := []) (World.ownsRow_made (base := w.heap.size) (e := 5) (size := 1) w _ G (Nat.le_refl _) hc2 ?_) (fun _ _ => trivial)), hb⟩
 simp [Builtin.zeroCells]
 omega
set_option maxRecDepth 100000 in
theorem grow_any (n : Nat) (w : World) (hn : n ≤ 100000000) :
  Calls Tryd.prog 93 #[.slice none 0 0, .int .i64 n] w fun e w' => ∃ v, e = .returned v ∧ Kd.R (Kd.int .u8) 5 w' w.heap.size (fun _ => True) v [] ∧ Below w.heap.size w w' := by
 rcases Nat.eq_zero_or_pos n with rfl | h1
 ·go_enter Tryd.func93, Tryd.ntmps93
  go_wp2
  go_ret
  exact ⟨_, rfl, Kd.R_nil _ _ _ _ _, Below.refl _ _⟩
 ·exact grow_nil n w h1 hn
/-! slices.Concat. -/
def rowAt (xs : List (List Int)) (i : Nat) : List Int := xs.getD i []
theorem at_rows {w : World} {A : Option Addr} {n : Nat} {xs : List (List Int)} (h : Kd.C (Kd.slice 5 (Kd.int .u8)) w A n xs) (i : Nat) (h1 : i < n) : ∃ ad A0 c0, A = some ad ∧ w.cell? (ad.add i) = some (.slice A0 (rowAt xs i).length c0) ∧ (rowAt xs i).length ≤ c0 ∧ (Kd.int .u8).C w A0 (rowAt xs i).length (rowAt xs i) := by
 obtain ⟨ad, c, e, _, hK, hc0⟩ := Kd.C_get h ([] : List Int) (i : Int) (by omega) (by omega)
 rw [Int.toNat_natCast] at hK hc0
 have hc : ∀ j u, c[j]? = some u → w.cell? (ad.add (i * 1 + j)) = some u := hc0
 obtain ⟨A0, c0, rfl, l0, g0⟩ := hK
 exact ⟨ad, A0, c0, e, by have hq := hc 0 _ rfl; rwa [Nat.mul_one, Nat.add_zero] at hq, l0, g0⟩
theorem flat_take (l : List (List Int)) (i : Nat) (h : i < l.length) : (l.take (i + 1)).flatten = (l.take i).flatten ++ rowAt l i := by
 rw [List.take_succ_eq_append_getElem h, List.flatten_append]
 simp [rowAt, List.getD_eq_getElem?_getD, List.getElem?_eq_getElem h]
theorem flat_le (l : List (List Int)) (i : Nat) : (l.take i).flatten.length ≤ l.flatten.length := by
 have e : l.flatten = (l.take i).flatten ++ (l.drop i).flatten := by rw [← List.flatten_append, List.take_append_drop]
 rw [e, List.length_append]
 omega
namespace P
def slices_Concat.f (l : List (List Int)) : Option (List Int) := if l.flatten.length ≤ 100000000 then some l.flatten else none
set_option maxRecDepth 100000 in
set_option maxHeartbeats 2000000 in
theorem slices_Concat.calls (A0 : Option Addr) (c0 : Nat) (l0 : List (List Int)) (r : List Int) (w : World) (hr0 : Kd.C (Kd.slice 5 (Kd.int .u8)) w A0 l0.length l0) (hc0 : l0.length ≤ c0) (h : slices_Concat.f l0 = some r) :
  Calls Tryd.prog 88 #[.slice A0 l0.length c0] w fun e w' => ∃ v0_ : Value, e = .returned (v0_) ∧ Kd.R (Kd.int .u8) 5 w' w.heap.size (fun _ => True) v0_ r ∧ Below w.heap.size w w' := by
 unfold slices_Concat.f at h
 split at h
 case isFalse => cases h
 case isTrue hok =>
 injection h with h
 subst h
 have hn : l0.length ≤ 9223372036854775807 := hr0.2.1
 obtain ⟨N, hN⟩ : ∃ N, l0.length = N := ⟨_, rfl⟩
 rw [hN] at hr0 hn ⊢
 have HN := Lib.hid hN
 clear hN hc0
 have hz : (l0.take 0).flatten = [] := rfl
 go_enter Tryd.func88, Tryd.ntmps88
 go_wp2_with fail
 go_loop [3, 11] (fun s i => ∃ k : Nat, k ≤ N ∧ i = .int .i64 k ∧ s = .int .i64 ((l0.take k).flatten.length : Nat)) (fun _ i => N - (intOf i).toNat)
 case atStart => exact ⟨0, Nat.zero_le _, rfl, rfl⟩
 obtain ⟨k, hk, rfl, rfl⟩ := hrel
 by_cases hlt : k < N
 ·obtain ⟨ad, A1, c1, rfl, hcell, hl1, hC1⟩ := at_rows hr0 k hlt
  have hsn := flat_take l0 k (by have := HN.out; omega)
  have hle := flat_le l0 (k + 1)
  have hlen : (l0.take (k + 1)).flatten.length = (l0.take k).flatten.length + (rowAt l0 k).length := by rw [hsn, List.length_append]
  generalize (l0.take k).flatten.length = S at *
  have ew : IntKind.i64.wrap ((S : Int) + ((rowAt l0 k).length : Int)) = (((l0.take (k + 1)).flatten.length : Nat) : Int) := by rw [IntKind.wrap_i64]; omega
  obtain ⟨S1, hS1⟩ : ∃ x, (l0.take (k + 1)).flatten.length = x := ⟨_, rfl⟩
  rw [hS1] at hle hlen ew
  have HS1 := Lib.hid hS1
  clear hS1
  have d0 : decide ((S1 : Int) < 0) = false := by rw [decide_eq_false_iff_not]; omega
  clear hsn
  have Hl := Lib.hid hlen
  clear hlen
  have i0 : (0 : Int) ≤ (k : Int) := by omega
  have i1 : (k : Int) < (N : Int) := by omega
  go_wp2
  go_round
  case rel => exact ⟨k + 1, by omega, by go_num, by rw [HS1.out]⟩
  case measure => simp [intOf]; omega
 obtain rfl : k = N := by omega
 have e0 : l0.take k = l0 := List.take_of_length_le (by have := HN.out; omega)
 rw [e0]
 have d1 : decide ((k : Int) < (k : Int)) = false := by simp
 have d2 : decide (k < k) = false := by simp
 obtain ⟨T, hT⟩ : ∃ T, l0.flatten.length = T := ⟨_, rfl⟩
 rw [hT] at hok ⊢
 have HT := Lib.hid hT
 clear hT
 go_wp2_with (go_at_call 93; (with_reducible refine (grow_any T _ hok).mono ?_); rintro e W1 ⟨v1, rfl, hR1, hb1⟩)
 have hR1 : Aside0 (Kd.R (Kd.int .u8) 5 W1 w.heap.size (fun _ => True) v1 (l0.take 0).flatten) := ⟨hR1⟩
 clear hz d1 d2 e0
 go_loopw [6, 27] (fun v i wr => ∃ j : Nat, j ≤ k ∧ i = .int .i64 j ∧ Aside0 (Kd.R (Kd.int .u8) 5 wr w.heap.size (fun _ => True) v (l0.take j).flatten) ∧ Below w.heap.size w wr) (fun _ i _ => k - (intOf i).toNat)
 case atStart => exact ⟨0, Nat.zero_le _, rfl, hR1, hb1⟩
 clear hR1 hb1
 obtain ⟨j, hj, rfl, hR, hbl⟩ := hrel
 by_cases hlt : j < k
 rotate_left
 ·obtain rfl : j = k := by omega
  have e0 : l0.take j = l0 := List.take_of_length_le (by have := HN.out; omega)
  rw [e0] at hR
  have d1 : decide ((j : Int) < (j : Int)) = false := by simp
  have d2 : decide (j < j) = false := by simp
  clear e0
  go_wp2
  go_ret
  exact ⟨_, rfl, hR.out, hbl⟩
 obtain ⟨ad, A1, c1, rfl, hcell0, hl1, hC1⟩ := at_rows hr0 j hlt
 have hcell := (hbl.cell (World.block_lt_of_cell? w _ hcell0)).trans hcell0
 have hC2 := Kd.C_below hC1 hbl
 have hsn := flat_take l0 j (by have := HN.out; omega)
 have hle := flat_le l0 (j + 1)
 rw [HT.out] at hle
 have hlen : (l0.take (j + 1)).flatten.length = (l0.take j).flatten.length + (rowAt l0 j).length := by rw [hsn, List.length_append]
 have Hsn := Lib.hid hsn
 have Hl := Lib.hid (And.intro hlen hle)
 have Hbl := Lib.hid hbl
 clear hlen hle hsn hcell0 hbl hC1
 have i0 : (0 : Int) ≤ (j : Int) := by omega
 have i1 : (j : Int) < (k : Int) := by omega
 go_wp2_with (first | ((with_reducible refine gate_builtin (b := .append) (xs := #[.tmp 31, .tmp 32]) rfl ?_); at_builtin; refine Kd.R_append_rows (Kd.int .u8) (w0 := w) w.heap.size rfl (.tmp 31) (.tmp 32) 22 5 (.int .u8 0) 1 rfl Tryd.underlying22 info5 rfl (by decide) (by omega) u6 (l0.take j).flatten (rowAt l0 j) _ _ _ (fun _ => True) (fun _ => False) rfl rfl ?aO ?aR (fun _ _ h => h) (fun _ h => h.elim) ?aF ?aB ?aS ?aL ?_; (case aR => exact hC2); (case aB => exact Hbl.out); (case aF => exact (fun _ _ => trivial)); (case aO => exact hR.out); (case aS => exact Hbl.out.size); (case aL => (have h1 := Hl.out.1; have h2 := Hl.out.2; omega)); intro v7 W7 ho7 hb7 hg7 hat7))
 have hnext : Aside0 (Kd.R (Kd.int .u8) 5 W7 w.heap.size (fun _ => True) v7 (l0.take (j + 1)).flatten) := ⟨by rw [Hsn.out]; exact ho7⟩
 clear ho7 hg7 hat7 Hbl hR hcell hC2
 go_wp2
 exact ⟨⟨j + 1, by omega, by go_num, hnext, hb7⟩, by simp [intOf]; omega⟩
end P
/-! slices.Clone, of a row that isn't nil. -/
set_option maxRecDepth 100000 in
theorem clone_calls (ad : Addr) (c : Nat) (l : List Int) (w : World) (hC : Kd.C (Kd.int .u8) w (some ad) l.length l) (hl : l.length ≤ 100000000) :
  Calls Tryd.prog 86 #[.slice (some ad) l.length c] w fun e w' => ∃ v, e = .returned v ∧ Kd.R (Kd.int .u8) 5 w' w.heap.size (fun _ => True) v l ∧ Below w.heap.size w w' := by
 have hq := fun w' => Lib.run_eql_slice_nil (P := Tryd.prog) w' 22 5 (some ad) l.length c 0 0 Tryd.underlying22
 have Hb0 := (Below.refl w.heap.size w).alloc (Nat.le_refl _) (Obj.cells #[] 5)
 have HC := Lib.hid (Kd.C_alloc hC (Obj.cells #[] 5))
 obtain ⟨n, hn⟩ : ∃ n, l.length = n := ⟨_, rfl⟩
 rw [hn] at hq HC hl ⊢
 clear hC hn
 go_enter Tryd.func86, Tryd.ntmps86
 go_wp2_with (first | ((with_reducible refine gate_builtin (b := .append) (xs := #[.tmp 5, .tmp 6]) rfl ?_); at_builtin; refine Kd.R_append_rows (Kd.int .u8) (w0 := w) w.heap.size rfl (.tmp 5) (.tmp 6) 22 5 (.int .u8 0) 1 rfl Tryd.underlying22 info5 rfl (by decide) (by omega) (.slice (some ⟨w.heap.size, 0, none⟩) 0 0) [] l _ _ _ (fun _ => True) (fun _ => False) rfl rfl ?aO ?aR (fun _ _ h => h) (fun _ h => h.elim) ?aF ?aB ?aS ?aL ?_; (case aR => exact HC.out); (case aB => exact Hb0); (case aF => exact (fun _ _ => trivial)); (case aO => exact Kd.R_of_own (own_lit w w.heap.size 5 .u8 [] (Nat.le_refl _) (by simp)) (fun _ _ => trivial)); (case aS => exact Hb0.size); (case aL => (simp; omega)); intro v7 W7 ho7 hb7 hg7 hat7))
 go_ret
 exact ⟨v7, rfl, by rw [List.nil_append] at ho7; exact ho7, hb7⟩
/-! mac.Sum's closure: the key's block, each byte's bits turned. -/
def xorB (l : List Int) (y : Int) : List Int := l.map fun x => Go.bits .xor .u8 x y
def xorTo (l : List Int) (y : Int) (i : Nat) : List Int := xorB (l.take i) y ++ l.drop i
theorem xorB_length (l : List Int) (y : Int) : (xorB l y).length = l.length := by simp [xorB]
theorem xorTo_length (l : List Int) (y : Int) (i : Nat) : (xorTo l y i).length = l.length := by simp [xorTo, xorB]; omega
theorem xorTo_at (l : List Int) (y : Int) (i : Nat) (h : i < l.length) : rd (xorTo l y i) (i : Int) = l.getD i 0 := by
 unfold rd xorTo
 rw [Int.toNat_natCast, List.getD_eq_getElem?_getD, List.getD_eq_getElem?_getD, List.getElem?_append_right (by simp [xorB]; omega), List.getElem?_drop]
 congr 2
 simp [xorB]
 omega
theorem xorTo_succ (l : List Int) (y : Int) (i : Nat) (h : i < l.length) : (xorTo l y i).set i (Go.bits .xor .u8 (l.getD i 0) y) = xorTo l y (i + 1) := by
 apply List.ext_getElem?
 intro j
 have hl : (xorB (l.take i) y).length = i := by simp [xorB]; omega
 have hl1 : (xorB (l.take (i + 1)) y).length = i + 1 := by simp [xorB]; omega
 rw [List.getElem?_set, xorTo_length]
 unfold xorTo
 by_cases e : i = j
 ·subst e
  rw [if_pos rfl, if_pos h, List.getElem?_append_left (by omega)]
  simp [xorB, List.getElem?_take, h, List.getD_eq_getElem?_getD]
 ·rw [if_neg e]
  rcases Nat.lt_or_ge j i with hj | hj
  ·rw [List.getElem?_append_left (by omega), List.getElem?_append_left (by omega)]
   simp [xorB, List.getElem?_take, hj, show j < i + 1 by omega]
  ·rw [List.getElem?_append_right (by omega), List.getElem?_append_right (by omega), hl, hl1, List.getElem?_drop, List.getElem?_drop]
   congr 1
   omega
set_option maxRecDepth 100000 in
set_option maxHeartbeats 1000000 in
theorem with_calls (y : Int) (ad : Addr) (c g : Nat) (l : List Int) (w : World) (hcell : w.cell? ⟨g, 0, none⟩ = some (.slice (some ad) 64 c)) (hC : Kd.C (Kd.int .u8) w (some ad) 64 l) (hl : l.length = 64) :
  Calls Tryd.prog 85 #[.int .u8 y, .pointer (some ⟨g, 0, none⟩)] w fun e w' => ∃ v, e = .returned v ∧ Kd.R (Kd.int .u8) 5 w' w.heap.size (fun _ => True) v (xorB l y) ∧ Below w.heap.size w w' := by
 have hcl := fun w => clone_calls ad c l w
 rw [hl] at hcl
 have Hcl := Lib.hid hcl
 have HL := Lib.hid hl
 clear hcl hl
 go_enter Tryd.func85, Tryd.ntmps85
 go_wp2_with (go_at_call 86; (with_reducible refine (Hcl.out w hC (by omega)).mono ?_); rintro e W1 ⟨v1, rfl, hR1, hb1⟩; obtain ⟨gv, cap, rfl, hgv, -⟩ := Kd.R_form hR1 (by have := HL.out; omega); rw [HL.out])
 have ho : W1.ownsRow w.heap.size 5 1 (.slice (some ⟨gv, 0, none⟩) 64 cap) 64 (nums .u8 (xorTo l y 0)) := by
  have h := Kd.own_of_R hR1
  rw [HL.out] at h
  exact h
 clear hR1 hcell hC
 go_loopw [5, 10] (fun _ i wr => ∃ k : Nat, k ≤ 64 ∧ i = .int .i64 k ∧ Aside0 (wr.ownsRow w.heap.size 5 1 (.slice (some ⟨gv, 0, none⟩) 64 cap) 64 (nums .u8 (xorTo l y k))) ∧ Below w.heap.size w wr) (fun _ i _ => 64 - (intOf i).toNat)
 case atStart => exact ⟨0, Nat.zero_le _, rfl, ⟨ho⟩, hb1⟩
 clear ho hb1
 obtain ⟨k, hk, rfl, ho, hbl⟩ := hrel
 by_cases hlt : k < 64
 rotate_left
 ·obtain rfl : k = 64 := by omega
  have d1 : decide (((64 : Nat) : Int) < 64) = false := by decide
  have e0 : xorTo l y 64 = xorB l y := by
   unfold xorTo
   rw [List.take_of_length_le (by have := HL.out; omega), List.drop_eq_nil_of_le (by have := HL.out; omega), List.append_nil]
  have hlx : (xorB l y).length = 64 := by rw [xorB_length]; exact HL.out
  have hfin : Aside0 (Kd.R (Kd.int .u8) 5 wr w.heap.size (fun _ => True) (.slice (some ⟨gv, 0, none⟩) 64 cap) (xorB l y)) := by
   rw [e0] at ho
   exact ⟨Kd.R_of_own (enc := Value.int .u8) (h1 := fun _ => rfl) (by rw [hlx]; exact ho.out) (fun _ _ => trivial)⟩
  clear e0 hlx ho
  go_wp2
  go_ret
  exact ⟨_, rfl, hfin.out, hbl⟩
 obtain ⟨hc, hf⟩ := own_at ho.out (k : Int) (by omega) (by omega)
 rw [xorTo_at l y k (by have := HL.out; omega), Int.toNat_natCast] at hc
 rw [Int.toNat_natCast] at hf
 have hs := own_store ho.out (k : Int) (Go.bits .xor .u8 (l.getD k 0) y)
 rw [Int.toNat_natCast, xorTo_succ l y k (by have := HL.out; omega)] at hs
 have hb2 : Below w.heap.size w (wr.setCell ⟨gv, k, none⟩ (.int .u8 (Go.bits .xor .u8 (l.getD k 0) y))) := hbl.setCell hgv _
 have HS := Lib.hid (And.intro hs.1 hb2)
 clear hs hb2 hbl ho
 have i0 : (0 : Int) ≤ (k : Int) := by omega
 have i1 : (k : Int) < 64 := by omega
 have d1 : decide ((k : Int) < 64) = true := by rw [decide_eq_true_eq]; omega
 go_wp2
 exact ⟨⟨k + 1, by omega, by go_num, ⟨HS.out.1⟩, HS.out.2⟩, by simp [intOf]; omega⟩
/-! mac.joined and mac.Sum. -/
def dig (l : List Int) : List Int := ofB (Sha.sum (toB l))
def macSum (k b : List Int) : List Int := dig (xorB (macKey k) 92 ++ dig (xorB (macKey k) 54 ++ b))
theorem dig_length (l : List Int) : (dig l).length = 32 := by unfold dig; rw [ofB_length, Sha.sum_length]
theorem byteOk_dig (l : List Int) : byteOk (dig l) = true := byteOk_sum _
theorem macSum_length (k b : List Int) : (macSum k b).length = 32 := dig_length _
theorem byteOk_macSum (k b : List Int) : byteOk (macSum k b) = true := byteOk_dig _
theorem byteOk_xorB (l : List Int) (y : Int) (h : byteOk l = true) (h0 : 0 ≤ y) (h1 : y < 256) : byteOk (xorB l y) = true := by
 rw [byteOk_iff] at h ⊢
 intro z hz
 unfold xorB at hz
 obtain ⟨x, hx, rfl⟩ := List.mem_map.1 hz
 obtain ⟨a0, a1⟩ := h x hx
 obtain ⟨n, rfl⟩ := Int.eq_ofNat_of_zero_le a0
 obtain ⟨m, rfl⟩ := Int.eq_ofNat_of_zero_le h0
 rw [u8_xor_nat n m (by omega) (by omega)]
 have : n ^^^ m < 2 ^ 8 := Nat.xor_lt_two_pow (by omega) (by omega)
 omega
/-- Two rows, laid as one row of rows. -/
theorem c_two (W : World) (T : Nat) (A B : Option Addr) (c d : Nat) (x y : List Int) (hx : Kd.C (Kd.int .u8) W A x.length x) (hcx : x.length ≤ c) (hy : Kd.C (Kd.int .u8) W B y.length y) (hcy : y.length ≤ d) :
  Kd.C (Kd.slice 5 (Kd.int .u8)) (W.alloc (.cells #[.slice A x.length c, .slice B y.length d] T)) (some ⟨W.heap.size, 0, none⟩) 2 [x, y] := by
 refine ⟨rfl, by omega, fun _ => ⟨_, rfl, fun j p hj => ?_⟩⟩
 have hcell : ∀ j, (W.alloc (.cells #[.slice A x.length c, .slice B y.length d] T)).cell? ((⟨W.heap.size, 0, none⟩ : Addr).add j) = (#[Value.slice A x.length c, .slice B y.length d] : Array Value)[j]? := fun j => by
  rw [add_plain]
  exact cell_of_row _ _ _ _ _ _ (heap_alloc_new W _)
 rcases j with _ | _ | j
 ·injection hj with hj
  subst hj
  refine ⟨[.slice A x.length c], rfl, ⟨A, c, rfl, hcx, Kd.C_alloc hx _⟩, fun i u hu => ?_⟩
  rcases i with _ | i
  ·exact (hcell 0).trans hu
  ·cases hu
 ·injection hj with hj
  subst hj
  refine ⟨[.slice B y.length d], rfl, ⟨B, d, rfl, hcy, Kd.C_alloc hy _⟩, fun i u hu => ?_⟩
  rcases i with _ | i
  ·exact (hcell 1).trans hu
  ·cases hu
 ·cases hj
theorem joined_calls (A0 : Option Addr) (c0 : Nat) (l0 : List (List Int)) (w : World) (hr0 : Kd.C (Kd.slice 5 (Kd.int .u8)) w A0 l0.length l0) (hc0 : l0.length ≤ c0) (h : l0.flatten.length ≤ 100000000) :
  Calls Tryd.prog 79 #[.slice A0 l0.length c0] w fun e w' => ∃ v0_ : Value, e = .returned (v0_) ∧ Kd.R (Kd.int .u8) 5 w' w.heap.size (fun _ => True) v0_ l0.flatten ∧ Below w.heap.size w w' := by
 have hc := P.slices_Concat.calls A0 c0 l0 l0.flatten w hr0 hc0 (by unfold P.slices_Concat.f; rw [if_pos h])
 have Hc := Lib.hid hc
 clear hc
 go_enter Tryd.func79, Tryd.ntmps79
 go_wp2_with (go_at_call 88; (with_reducible refine Hc.out.mono ?_); rintro e W1 ⟨v1, rfl, hR1, hb1⟩)
 go_ret
 exact ⟨v1, rfl, hR1, hb1⟩
namespace P
def mac_Sum.f (k b : List Int) : Option (List Int) := if byteOk k = true ∧ byteOk b = true ∧ k.length ≤ 900000 ∧ b.length ≤ 800000 then some (macSum k b) else none
set_option maxRecDepth 100000 in
set_option maxHeartbeats 2000000 in
theorem mac_Sum.calls (A0 : Option Addr) (c0 : Nat) (l0 : List Int) (A1 : Option Addr) (c1 : Nat) (l1 : List Int) (r : List Int) (w : World) (hr0 : Kd.C (Kd.int .u8) w A0 l0.length l0) (hc0 : l0.length ≤ c0) (hr1 : Kd.C (Kd.int .u8) w A1 l1.length l1) (hc1 : l1.length ≤ c1) (h : mac_Sum.f l0 l1 = some r) :
  Calls Tryd.prog 78 #[.slice A0 l0.length c0, .slice A1 l1.length c1] w fun e w' => ∃ v0_ : Value, e = .returned (v0_) ∧ Kd.R (Kd.int .u8) 5 w' w.heap.size (fun _ => True) v0_ r ∧ Below w.heap.size w w' := by
 unfold mac_Sum.f at h
 split at h
 case isFalse => cases h
 case isTrue hok =>
 injection h with h
 obtain ⟨o0, o1, n0, n1⟩ := hok
 have hk : mac_Key.f l0 = some (macKey l0) := by unfold mac_Key.f; rw [if_pos ⟨o0, n0⟩]
 have hkl := macKey_length l0
 have ok := byteOk_macKey l0 o0
 unfold macSum at h
 generalize macKey l0 = k at *
 have Hk := Lib.hid hk
 have Hh := Lib.hid h
 have HL := Lib.hid hkl
 have Hc := Lib.hid (mac_Key.calls A0 c0 l0 k w hr0 hc0 hk)
 clear hk h hkl
 go_enter Tryd.func78, Tryd.ntmps78
 go_wp2_with fail
 refine Hc.out.mono ?_
 rintro e W1 ⟨v1, rfl, hR1, hb1⟩
 obtain ⟨gv, cap, rfl, hgv, hgl, -⟩ := Kd.R_form hR1 (by have := HL.out; omega)
 obtain ⟨-, hcap, hCk⟩ := Kd.R_reads' hR1
 rw [HL.out] at hcap hCk ⊢
 clear hR1
 have hcell0 : (W1.alloc (Obj.cells #[Value.slice (some { block := gv, off := 0 }) 64 cap] 22)).cell? ⟨W1.heap.size, 0, none⟩ = some (.slice (some ⟨gv, 0, none⟩) 64 cap) := cell_of_row _ _ _ _ _ _ (heap_alloc_new W1 _)
 have hC0 := Kd.C_alloc hCk (Obj.cells #[Value.slice (some { block := gv, off := 0 }) 64 cap] 22)
 have hb0 := hb1.alloc hb1.size (Obj.cells #[Value.slice (some { block := gv, off := 0 }) 64 cap] 22)
 have Hcell := Lib.hid (And.intro hcell0 (And.intro hC0 hb0))
 have Hk2 := Lib.hid (And.intro ok (And.intro o0 (And.intro o1 (And.intro n0 n1))))
 clear hcell0 hC0 hb0 hCk hb1 ok o0 o1 n0 n1
 go_wp2_with fail
 refine (with_calls 92 ⟨gv, 0, none⟩ cap W1.heap.size k _ Hcell.out.1 Hcell.out.2.1 HL.out).mono ?_
 rintro e W3 ⟨v3, rfl, hR3, hb3⟩
 obtain ⟨A3, c3, rfl, hl3, hC3⟩ := Kd.R_reads hR3
 have Hcell3 := Lib.hid (And.intro (pw_cell_below hb3 Hcell.out.1) (And.intro (Kd.C_below Hcell.out.2.1 hb3) (Hcell.out.2.2.trans (hb3.mono Hcell.out.2.2.size))))
 clear hR3 hb3 Hcell
 go_wp2_with fail
 refine (with_calls 54 ⟨gv, 0, none⟩ cap W1.heap.size k _ Hcell3.out.1 Hcell3.out.2.1 HL.out).mono ?_
 rintro e W4 ⟨v4, rfl, hR4, hb4⟩
 obtain ⟨A4, c4, rfl, hl4, hC4⟩ := Kd.R_reads hR4
 have hx3 := Kd.C_below hC3 hb4
 have hb5 := Hcell3.out.2.2.trans (hb4.mono Hcell3.out.2.2.size)
 have hy1 := Kd.C_below hr1 hb5
 clear hR4 hb4 Hcell3 hC3
 have hL54 := xorB_length k 54
 have hL92 := xorB_length k 92
 have q54 := byteOk_xorB k 54 Hk2.out.1 (by omega) (by omega)
 have q92 := byteOk_xorB k 92 Hk2.out.1 (by omega) (by omega)
 generalize xorB k 54 = k54 at *
 generalize xorB k 92 = k92 at *
 have hc2 := c_two W4 22 A4 A1 c4 c1 k54 l1 hC4 hl4 hy1 hc1
 have e5 : [k54, l1].flatten = k54 ++ l1 := by simp
 have n5 : (k54 ++ l1).length = 64 + l1.length := by rw [List.length_append, hL54, HL.out]
 have hj := joined_calls (some ⟨W4.heap.size, 0, none⟩) 2 [k54, l1] _ hc2 (Nat.le_refl _) (by rw [e5, n5]; have := Hk2.out.2.2.2.2; omega)
 rw [e5] at hj
 have Hj := Lib.hid hj
 have H5 := Lib.hid (And.intro n5 (And.intro hL54 (And.intro hL92 (And.intro q54 q92))))
 have hb6 := hb5.alloc hb5.size (Obj.cells #[.slice A4 k54.length c4, .slice A1 l1.length c1] 22)
 have Hb6 := Lib.hid (And.intro hb6 (Kd.C_alloc hx3 (Obj.cells #[.slice A4 k54.length c4, .slice A1 l1.length c1] 22)))
 clear hj hc2 e5 n5 hL54 hL92 q54 q92 hb6 hx3 hb5 hy1 hC4
 go_wp2_with fail
 refine Hj.out.mono ?_
 rintro e W7 ⟨v7, rfl, hR7, hb7⟩
 obtain ⟨A7, c7, rfl, hl7, hC7⟩ := Kd.R_reads hR7
 have Hb7 := Lib.hid (And.intro (Hb6.out.1.trans (hb7.mono Hb6.out.1.size)) (Kd.C_below Hb6.out.2 hb7))
 clear hR7 hb7 Hb6 Hj
 have hs1 : sha_Sum.f (k54 ++ l1) = some (dig (k54 ++ l1)) := by
  unfold sha_Sum.f
  rw [if_pos ⟨(byteOk_append _ _).2 ⟨H5.out.2.2.2.1, Hk2.out.2.2.1⟩, by have := H5.out.1; have := Hk2.out.2.2.2.2; omega⟩]
  rfl
 have Hs1 := Lib.hid hs1
 clear hs1
 generalize k54 ++ l1 = m1 at *
 go_wp2_with fail
 refine (sha_Sum.calls A7 c7 m1 _ _ hC7 hl7 Hs1.out).mono ?_
 rintro e W8 ⟨v8, rfl, hR8, hb8⟩
 have hd8 := dig_length m1
 have od8 := byteOk_dig m1
 generalize dig m1 = d1 at *
 obtain ⟨A8, c8, rfl, hl8, hC8⟩ := Kd.R_reads hR8
 have hx8 := Kd.C_below Hb7.out.2 hb8
 have hb9 := Hb7.out.1.trans (hb8.mono Hb7.out.1.size)
 clear hR8 hb8 Hb7
 have hc9 := c_two W8 22 A3 A8 c3 c8 k92 d1 hx8 hl3 hC8 hl8
 have e9 : [k92, d1].flatten = k92 ++ d1 := by simp
 have n9 : (k92 ++ d1).length = 96 := by rw [List.length_append, H5.out.2.2.1, HL.out, hd8]
 have hj := joined_calls (some ⟨W8.heap.size, 0, none⟩) 2 [k92, d1] _ hc9 (Nat.le_refl _) (by rw [e9, n9]; omega)
 rw [e9] at hj
 have Hj := Lib.hid hj
 have hs2 : sha_Sum.f (k92 ++ d1) = some (dig (k92 ++ d1)) := by
  unfold sha_Sum.f
  rw [if_pos ⟨(byteOk_append _ _).2 ⟨H5.out.2.2.2.2, od8⟩, by omega⟩]
  rfl
 have Hs2 := Lib.hid hs2
 have hb10 := hb9.alloc hb9.size (Obj.cells #[.slice A3 k92.length c3, .slice A8 d1.length c8] 22)
 have Hb10 := Lib.hid hb10
 clear hj hc9 e9 n9 hs2 hx8 hb9 hb10 hC8 hd8 od8
 go_wp2_with fail
 refine Hj.out.mono ?_
 rintro e W11 ⟨v11, rfl, hR11, hb11⟩
 obtain ⟨A11, c11, rfl, hl11, hC11⟩ := Kd.R_reads hR11
 have Hb11 := Lib.hid (Hb10.out.trans (hb11.mono Hb10.out.size))
 clear hR11 hb11 Hb10 Hj
 generalize k92 ++ d1 = m2 at *
 go_wp2_with fail
 refine (sha_Sum.calls A11 c11 m2 _ _ hC11 hl11 Hs2.out).mono ?_
 rintro e W12 ⟨v12, rfl, hR12, hb12⟩
 have hfin : Aside0 (Kd.R (Kd.int .u8) 5 W12 w.heap.size (fun _ => True) v12 r) := ⟨by
  rw [← Hh.out]
  exact Kd.R_lower hR12 Hb11.out.size⟩
 have Hb12 := Hb11.out.trans (hb12.mono Hb11.out.size)
 clear hR12 hb12 Hb11
 go_wp2
 go_ret
 exact ⟨_, rfl, hfin.out, Hb12⟩
end P
end Go.Proofs.YtdklmafkcbjomaaDoor

/-! M0 -/
namespace Go.Proofs.YtdklmafkcbjomaaDoor.M
open Go.Proofs.YtdklmafkcbjomaaDoor.P
open Go.RowKit Go.Proofs.YtdklmafkcbjomaaDoorW.PrintWords Go.Proofs.YtdklmafkcbjomaaDoorW.PrintLast Go.Proofs.YtdklmafkcbjomaaDoorW.PrintMore
attribute [local go_sem] max2_int min2_int max_two min_two max_three min_three max_four min_four   -- for this text's walks alone
set_option linter.unusedVariables false
set_option linter.unusedSimpArgs false
def errW : Option Int → Value
 | none => .nilIface
 | some c => .iface 0 (.int .i64 c)
theorem errW_none : errW none = .nilIface := rfl
theorem errW_some (c : Int) : errW (some c) = .iface 0 (.int .i64 c) := rfl
theorem info5 : (Tryd.prog.info? 5).map (fun i => (i.zero, i.size, i.bytes)) = some (some (.int .u8 0), 1, 1) := by kernel_rfl
-- the values' own types
end Go.Proofs.YtdklmafkcbjomaaDoor.M
