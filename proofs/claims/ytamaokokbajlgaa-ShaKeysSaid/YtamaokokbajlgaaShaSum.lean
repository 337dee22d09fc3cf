/-
  Walk: sha.Sum.
-/
import Derived.Test.YtamaokokbajlgaaShaMixed
import Derived.Test.YtamaokokbajlgaaShaPad
namespace Go.Proofs.Ytamaokokbajlgaa
set_option linter.unusedVariables false
set_option linter.unusedSimpArgs false
open Go.RowKit Go.Proofs.Ytamaokokbajlgaa.L Go.Proofs.YtamaokokbajlgaaW.PrintWords Go.Proofs.YtamaokokbajlgaaW.PrintLast Go.Proofs.YtamaokokbajlgaaW.PrintMore
attribute [local go_sem ↓] Go.wp_at_zero Go.wp_at_succ

theorem step_load_row {P : Program} {ops : Array Oper} {o : Oper} {a : Act} {w : World} {K : Act → World → Prop} {Q : Exit → Act → World → Prop} {E : Prop} (hgd : o.guard = none) (ty : TypeId) (x : Operand) (ho : o.op = .load ty x)
    (g : Nat) (hx : a.eval x = .pointer (some ⟨g, 0, none⟩)) (t : TypeId) (cs : Array Value) (fr : Nat × Nat) (d : TypeDesc) (hg : w.heap[g]? = some (.cells cs t fr))
    (hu : P.underlying ty = some d) (hd : (match d with | .struct _ | .array _ _ => true | _ => false) = true) (hi : (P.info? ty).map (·.size) = some cs.size)
    (h : K (a.put o.dst (.agg cs)) w) : if Region.wanted o (yielded ops a.tmps) = true then Oper.wp P o a w K Q else E := by
  rw [if_pos (by simp [Region.wanted, hgd])]
  exact wp_load_row ty x ho g hx t cs fr d hg hu hd hi h
theorem step_store_row {P : Program} {ops : Array Oper} {o : Oper} {a : Act} {w : World} {K : Act → World → Prop} {Q : Exit → Act → World → Prop} {E : Prop} (hgd : o.guard = none) (ty : TypeId) (x y : Operand) (ho : o.op = .store ty x y)
    (g : Nat) (cells : Array Value) (hx : a.eval x = .pointer (some ⟨g, 0, none⟩)) (hy : a.eval y = .agg cells)
    (t : TypeId) (old : Array Value) (hg : w.heap[g]? = some (.cells old t (0, 0))) (hi : (P.info? ty).map (·.size) = some cells.size)
    (hold : old.size = cells.size) (h1 : cells.all (·.oneCell') = true)
    (h : K (a.put o.dst undef) (w.setRow g cells)) : if Region.wanted o (yielded ops a.tmps) = true then Oper.wp P o a w K Q else E := by
  rw [if_pos (by simp [Region.wanted, hgd])]
  exact wp_store_row ty x y ho g cells hx hy t old hg hi hold h1 h

theorem bytesAt_of_C {w : World} {A : Option Addr} {b : List Nat} (h : Kd.C (Kd.int .u8) w A (ofB b).length (ofB b)) : BytesAt w w.heap.size A b := by
  intro i hi
  obtain ⟨ad, rfl, hc⟩ := Kd.at_int h (i : Int) (by omega) (by rw [ofB_length]; omega)
  have hc' : w.cell? (ad.add i) = some (.int .u8 (b.getD i 0)) := by
    have e : rd (ofB b) (i : Int) = ((b.getD i 0 : Nat) : Int) := by simp [rd, ofB, hi]
    rw [← e]
    simpa using hc
  have hb := block_lt_of_cell hc'
  rw [block_of_add] at hb
  exact ⟨ad, rfl, hb, hc'⟩

theorem blkTo_len (b h : List Nat) (hh : h.length = 8) : ∀ k, (Sha.blkTo b h k).length = 8
  | 0 => hh
  | k + 1 => by rw [Sha.blkTo]; exact mixed_len _ _ (blkTo_len b h hh k)
theorem blkTo_ws (b h : List Nat) (hh : Ws h) : ∀ k, Ws (Sha.blkTo b h k)
  | 0 => hh
  | k + 1 => by rw [Sha.blkTo]; exact mixed_ws _ _ (blkTo_ws b h hh k)
theorem hTab_ws : Ws Sha.hTab := by
  intro i
  rcases Nat.lt_or_ge i 8 with h | h
  · exact (by decide +kernel : ∀ i, i < 8 → Sha.hTab.getD i 0 < 4294967296) i h
  · have hl : Sha.hTab.length = 8 := by decide
    rw [List.getD_eq_getElem?_getD, List.getElem?_eq_none (by omega)]
    decide
theorem hTab_len : Sha.hTab.length = 8 := by decide

theorem bs_of_ok (l : List Int) (h : byteOk l = true) : Bs (toB l) := by
  intro i
  unfold byteOk at h
  rw [List.all_eq_true] at h
  by_cases hi : i < l.length
  · have := h l[i] (List.getElem_mem hi)
    simp only [Bool.and_eq_true, decide_eq_true_eq] at this
    simp [toB, hi]
    omega
  · rw [List.getD_eq_getElem?_getD, List.getElem?_eq_none (by simp [toB]; omega)]
    decide

theorem Bs.cut {b : List Nat} (h : Bs b) (lo hi : Nat) : Bs ((b.take hi).drop lo) := by
  intro i
  have h2 := h (lo + i)
  rw [List.getD_eq_getElem?_getD] at h2 ⊢
  rw [List.getElem?_drop, List.getElem?_take]
  split
  · exact h2
  · decide
theorem Bs.drop_ {b : List Nat} (h : Bs b) (k : Nat) : Bs (b.drop k) := by
  intro i
  have h2 := h (k + i)
  rw [List.getD_eq_getElem?_getD] at h2 ⊢
  rwa [List.getElem?_drop]
theorem Bs.append_ {a b : List Nat} (h : Bs a) (hb : Bs b) : Bs (a ++ b) := by
  intro i
  have h1 := h i
  have h2 := hb (i - a.length)
  rw [List.getD_eq_getElem?_getD] at h1 h2 ⊢
  rw [List.getElem?_append]
  split
  · exact h1
  · exact h2
theorem bs_mem {b : List Nat} (h : ∀ x ∈ b, x < 256) : Bs b := by
  intro i
  by_cases hi : i < b.length
  · rw [List.getD_eq_getElem?_getD, List.getElem?_eq_getElem hi]
    exact h _ (List.getElem_mem hi)
  · rw [List.getD_eq_getElem?_getD, List.getElem?_eq_none (by omega)]
    decide
theorem pad_bs (n : Nat) : Bs (Sha.pad n) := by
  refine bs_mem fun x hx => ?_
  unfold Sha.pad Sha.be at hx
  simp only [List.mem_cons, List.mem_append, List.mem_replicate, List.not_mem_nil, or_false] at hx
  rcases hx with h | h | h | h | h | h | h | h | h | h <;> omega
theorem BytesAt.cut {w : World} {B : Nat} {A : Option Addr} {b : List Nat} (h : BytesAt w B A b) (lo hi : Nat) (hh : hi ≤ b.length) : BytesAt w B (A.map (·.add lo)) ((b.take hi).drop lo) := by
  intro i hi2
  rw [List.length_drop, List.length_take] at hi2
  obtain ⟨ad, rfl, h1, h2⟩ := h (lo + i) (by omega)
  refine ⟨ad.add lo, rfl, by rw [block_of_add]; exact h1, ?_⟩
  rw [add_of_add, h2]
  congr 2
  simp only [List.getD_eq_getElem?_getD, List.getElem?_drop, List.getElem?_take]
  rw [if_pos (by omega)]

theorem bcell2 {B : Nat} {W w1 : World} (hb : Below B W w1) : (∀ b o, b < B → w1.cell? ⟨b, o, none⟩ = W.cell? ⟨b, o, none⟩) ∧ (∀ b o, b < B → w1.frozen? ⟨b, o, none⟩ = W.frozen? ⟨b, o, none⟩) :=
  ⟨fun b o h => hb.cell (p := ⟨b, o, none⟩) h, fun b o h => hb.frozen (p := ⟨b, o, none⟩) h⟩

theorem Blk.setW {w : World} {g : Nat} {t : TypeId} {l : List Nat} (h : Blk w g t (wordsV l)) (i v : Nat) : Blk (w.setCell ⟨g, i, none⟩ (.int .u32 (v : Int))) g t (wordsV (l.set i v)) := by
  rw [← wordsV_set]
  exact h.set_ i _
theorem Blk.grown_ {w w' : World} {g : Nat} {t : TypeId} {cs : Array Value} {row : Option Nat} (h : Blk w g t cs) (hb : w.grownBy w' row) (hg : some g ≠ row) : Blk w' g t cs := (hb.block g h.lt hg).trans h
theorem own_ne {v : Value} {h s g : Nat} (hat : v.ownBlock = some h ∨ ∃ b, v.ownBlock = some b ∧ s ≤ b) (h1 : g < h) (h2 : h ≤ s) : some g ≠ v.ownBlock := by
  rcases hat with e | ⟨b, e, hb⟩
  · rw [e]; simp; omega
  · rw [e]; simp; omega
theorem index_w8 (l : List Nat) (t : Nat) (ht : t < 8) (hl : l.length = 8) (W : World) : (Instr.index 31 (.agg (wordsV l)) (.int .i64 (t : Int))).run Try.prog W = .ok (.int .u32 (l.getD t 0)) W := by
  have hv := wordsV_at l t (by omega)
  unfold Instr.index
  simp [go_sem, part, hv, Try.isAgg28, Try.sizeOf28, ht]
theorem flat_len (l : List Nat) : (l.flatMap Sha.out4).length = 4 * l.length := by
  induction l with
  | nil => rfl
  | cons x l ih => rw [List.flatMap_cons, List.length_append, ih]; simp [Sha.out4]; omega
theorem out4_ints (x : Nat) (h : x < 4294967296) : ofB (Sha.out4 x) = [(x : Int) / 16777216, (x : Int) / 65536 % 256, (x : Int) / 256 % 256, (x : Int) % 256] := by
  unfold ofB Sha.out4
  simp only [List.map_cons, List.map_nil, Nat.shiftRight_eq_div_pow]
  simp
  omega
theorem out4_snoc (l : List Nat) (t : Nat) (ht : t < l.length) (x : Nat) (hx : l.getD t 0 = x) (lx : x < 4294967296) :
    ofB ((l.take (t + 1)).flatMap Sha.out4) = ofB ((l.take t).flatMap Sha.out4) ++ [(x : Int) / 16777216, (x : Int) / 65536 % 256, (x : Int) / 256 % 256, (x : Int) % 256] := by
  rw [List.take_succ_eq_append_getElem ht, List.flatMap_append, ofB_append, ← out4_ints x lx]
  have : l[t] = x := by rw [← hx]; simp [ht]
  rw [this]
  simp
theorem c_lit (W : World) (e : Nat) (xs : List Int) (hm : xs.length ≤ 9223372036854775807) : Kd.C (Kd.int .u8) (W.alloc (.cells (nums .u8 xs).toArray e)) (some ⟨W.heap.size, 0, none⟩) xs.length xs := by
  obtain ⟨A, c, e1, _, hC⟩ := Kd.R_reads (Kd.R_of_own (enc := Value.int .u8) (h1 := fun _ => rfl) (own_lit W 0 e .u8 xs (Nat.zero_le _) hm) (fun _ _ => trivial) : Kd.R (Kd.int .u8) e _ 0 (fun _ => True) _ xs)
  injection e1 with e1
  subst e1
  exact hC
theorem eight {W : World} {g : Nat} {T : TypeId} {x0 x1 x2 x3 x4 x5 x6 x7 : Nat} (h : Blk W g T (wordsV [x0, x1, x2, x3, x4, x5, x6, x7])) (y0 y1 y2 y3 y4 y5 y6 y7 : Nat) :
    Blk ((((((((W.setCell ⟨g, 0, none⟩ (.int .u32 (y0 : Int))).setCell ⟨g, 1, none⟩ (.int .u32 (y1 : Int))).setCell ⟨g, 2, none⟩ (.int .u32 (y2 : Int))).setCell ⟨g, 3, none⟩ (.int .u32 (y3 : Int))).setCell ⟨g, 4, none⟩ (.int .u32 (y4 : Int))).setCell ⟨g, 5, none⟩ (.int .u32 (y5 : Int))).setCell ⟨g, 6, none⟩ (.int .u32 (y6 : Int))).setCell ⟨g, 7, none⟩ (.int .u32 (y7 : Int))) g T (wordsV [y0, y1, y2, y3, y4, y5, y6, y7]) ∧
    (∀ g' T' cs, g' ≠ g → Blk W g' T' cs → Blk ((((((((W.setCell ⟨g, 0, none⟩ (.int .u32 (y0 : Int))).setCell ⟨g, 1, none⟩ (.int .u32 (y1 : Int))).setCell ⟨g, 2, none⟩ (.int .u32 (y2 : Int))).setCell ⟨g, 3, none⟩ (.int .u32 (y3 : Int))).setCell ⟨g, 4, none⟩ (.int .u32 (y4 : Int))).setCell ⟨g, 5, none⟩ (.int .u32 (y5 : Int))).setCell ⟨g, 6, none⟩ (.int .u32 (y6 : Int))).setCell ⟨g, 7, none⟩ (.int .u32 (y7 : Int))) g' T' cs) ∧
    (∀ B w0, B ≤ g → Below B w0 W → Below B w0 ((((((((W.setCell ⟨g, 0, none⟩ (.int .u32 (y0 : Int))).setCell ⟨g, 1, none⟩ (.int .u32 (y1 : Int))).setCell ⟨g, 2, none⟩ (.int .u32 (y2 : Int))).setCell ⟨g, 3, none⟩ (.int .u32 (y3 : Int))).setCell ⟨g, 4, none⟩ (.int .u32 (y4 : Int))).setCell ⟨g, 5, none⟩ (.int .u32 (y5 : Int))).setCell ⟨g, 6, none⟩ (.int .u32 (y6 : Int))).setCell ⟨g, 7, none⟩ (.int .u32 (y7 : Int)))) :=
  ⟨((((((((h.setW 0 y0).setW 1 y1).setW 2 y2).setW 3 y3).setW 4 y4).setW 5 y5).setW 6 y6).setW 7 y7), fun g' T' cs hne hk => ((((((((hk.far (p := ⟨g, 0, none⟩) hne (.int .u32 (y0 : Int))).far (p := ⟨g, 1, none⟩) hne (.int .u32 (y1 : Int))).far (p := ⟨g, 2, none⟩) hne (.int .u32 (y2 : Int))).far (p := ⟨g, 3, none⟩) hne (.int .u32 (y3 : Int))).far (p := ⟨g, 4, none⟩) hne (.int .u32 (y4 : Int))).far (p := ⟨g, 5, none⟩) hne (.int .u32 (y5 : Int))).far (p := ⟨g, 6, none⟩) hne (.int .u32 (y6 : Int))).far (p := ⟨g, 7, none⟩) hne (.int .u32 (y7 : Int))), fun B w0 hB hb => ((((((((hb.setCell (p := ⟨g, 0, none⟩) hB (.int .u32 (y0 : Int))).setCell (p := ⟨g, 1, none⟩) hB (.int .u32 (y1 : Int))).setCell (p := ⟨g, 2, none⟩) hB (.int .u32 (y2 : Int))).setCell (p := ⟨g, 3, none⟩) hB (.int .u32 (y3 : Int))).setCell (p := ⟨g, 4, none⟩) hB (.int .u32 (y4 : Int))).setCell (p := ⟨g, 5, none⟩) hB (.int .u32 (y5 : Int))).setCell (p := ⟨g, 6, none⟩) hB (.int .u32 (y6 : Int))).setCell (p := ⟨g, 7, none⟩) hB (.int .u32 (y7 : Int)))⟩

theorem eightR {W : World} {g e : Nat} {T : TypeId} {base : Nat} {l : List Nat} {v : Value} {xs : List Int} (hT : e ≠ T) (hb : Blk W g T (wordsV l)) (h : Kd.R (Kd.int .u8) e W base (fun _ => True) v xs) (y0 y1 y2 y3 y4 y5 y6 y7 : Nat) :
    Kd.R (Kd.int .u8) e ((((((((W.setCell ⟨g, 0, none⟩ (.int .u32 (y0 : Int))).setCell ⟨g, 1, none⟩ (.int .u32 (y1 : Int))).setCell ⟨g, 2, none⟩ (.int .u32 (y2 : Int))).setCell ⟨g, 3, none⟩ (.int .u32 (y3 : Int))).setCell ⟨g, 4, none⟩ (.int .u32 (y4 : Int))).setCell ⟨g, 5, none⟩ (.int .u32 (y5 : Int))).setCell ⟨g, 6, none⟩ (.int .u32 (y6 : Int))).setCell ⟨g, 7, none⟩ (.int .u32 (y7 : Int))) base (fun _ => True) v xs :=
  (Kd.R_set (Kd.R_set (Kd.R_set (Kd.R_set (Kd.R_set (Kd.R_set (Kd.R_set (Kd.R_set h hb (by intro q hq; simp [Kd.int, Kd.scalar] at hq; subst hq; exact hT) 0 (.int .u32 (y0 : Int))) (Blk.setW hb 0 y0) (by intro q hq; simp [Kd.int, Kd.scalar] at hq; subst hq; exact hT) 1 (.int .u32 (y1 : Int))) (Blk.setW (Blk.setW hb 0 y0) 1 y1) (by intro q hq; simp [Kd.int, Kd.scalar] at hq; subst hq; exact hT) 2 (.int .u32 (y2 : Int))) (Blk.setW (Blk.setW (Blk.setW hb 0 y0) 1 y1) 2 y2) (by intro q hq; simp [Kd.int, Kd.scalar] at hq; subst hq; exact hT) 3 (.int .u32 (y3 : Int))) (Blk.setW (Blk.setW (Blk.setW (Blk.setW hb 0 y0) 1 y1) 2 y2) 3 y3) (by intro q hq; simp [Kd.int, Kd.scalar] at hq; subst hq; exact hT) 4 (.int .u32 (y4 : Int))) (Blk.setW (Blk.setW (Blk.setW (Blk.setW (Blk.setW hb 0 y0) 1 y1) 2 y2) 3 y3) 4 y4) (by intro q hq; simp [Kd.int, Kd.scalar] at hq; subst hq; exact hT) 5 (.int .u32 (y5 : Int))) (Blk.setW (Blk.setW (Blk.setW (Blk.setW (Blk.setW (Blk.setW hb 0 y0) 1 y1) 2 y2) 3 y3) 4 y4) 5 y5) (by intro q hq; simp [Kd.int, Kd.scalar] at hq; subst hq; exact hT) 6 (.int .u32 (y6 : Int))) (Blk.setW (Blk.setW (Blk.setW (Blk.setW (Blk.setW (Blk.setW (Blk.setW hb 0 y0) 1 y1) 2 y2) 3 y3) 4 y4) 5 y5) 6 y6) (by intro q hq; simp [Kd.int, Kd.scalar] at hq; subst hq; exact hT) 7 (.int .u32 (y7 : Int)))

namespace P
def sha_Sum.f (l : List Int) : Option (List Int) := if byteOk l = true ∧ l.length ≤ 140737488351232 then some (ofB (Sha.sum (toB l))) else none

set_option maxRecDepth 100000 in
set_option maxHeartbeats 4000000 in
theorem sha_Sum.calls (A0 : Option Addr) (c0 : Nat) (l0 : List Int) (r : List Int) (w : World) (hr0 : Kd.C (Kd.int .u8) w A0 l0.length l0) (hc0 : l0.length ≤ c0) (h : sha_Sum.f l0 = some r) :
    Calls Try.prog 17 #[.slice A0 l0.length c0] w fun e w' => ∃ v0_ : Value, e = .returned (v0_) ∧ Kd.R (Kd.int .u8) 5 w' w.heap.size (fun _ => True) v0_ r ∧ Below w.heap.size w w' := by
  unfold sha_Sum.f at h
  split at h
  case isFalse => cases h
  case isTrue hok =>
  obtain ⟨hby, hlen⟩ := hok
  injection h with h
  obtain ⟨b, hb⟩ : ∃ b, toB l0 = b := ⟨_, rfl⟩
  have hl0 : l0 = ofB b := by rw [← hb]; exact (ofB_toB l0 hby).symm
  have hBs : Bs b := by rw [← hb]; exact bs_of_ok l0 hby
  rw [hb] at h
  subst h
  clear hb hby
  subst hl0
  rw [ofB_length] at hlen hc0
  have hA : BytesAt w w.heap.size A0 b := bytesAt_of_C hr0
  have HC := Lib.hid hr0
  clear hr0
  rw [ofB_length]
  obtain ⟨m, hm⟩ : ∃ m, b.length / 64 = m := ⟨_, rfl⟩
  obtain ⟨n, hn⟩ : ∃ n, b.length = n := ⟨_, rfl⟩
  have hmn : 64 * m ≤ n ∧ n < 64 * m + 64 := by omega
  have em : (n : Int) / 64 = (m : Int) := by omega
  rw [hn] at hlen hc0 ⊢
  have Hn := Lib.hid hn
  have Hm := Lib.hid hm
  clear hn hm
  obtain ⟨hm1, hm2⟩ := hmn
  go_enter Try.func17, Try.ntmps17
  go_wp2_with fail
  refine (keys_calls _).mono ?_
  rintro e W1 ⟨rfl, hb1⟩
  go_wp2_with (first
    | (refine wpList_store_row rfl 55 (.tmp 3) (.tmp 12) rfl W1.heap.size _ rfl rfl 55 _ (heap_alloc_new _ _) (by rw [wordsV_size, kTab_len]; exact infokeys) (by rw [wordsV_size, kTab_len]; rfl) (by simp [wordsV, Value.oneCell']) ?_))
  rw [zero64 []]
  have bk := (Blk.new W1 55 (wordsV (Sha.wordsTo [] 0))).setRow_ (wordsV Sha.kTab)
  have hb2 := (hb1.alloc hb1.size (.cells (wordsV (Sha.wordsTo [] 0)) 55)).trans (Iter.below_setRow (B := w.heap.size) (g := W1.heap.size) (wordsV Sha.kTab) hb1.size)
  have hgk := bk.lt
  have hkw := hb1.size
  generalize (W1.alloc (.cells (wordsV (Sha.wordsTo [] 0)) 55)).setRow W1.heap.size (wordsV Sha.kTab) = W2 at bk hb2 hgk ⊢
  generalize W1.heap.size = gk at *
  clear hb1
  refine (Start_calls _).mono ?_
  rintro e W3 ⟨rfl, hb3⟩
  have bk3 := bk.below hb3 hgk
  have hb4 := hb2.trans (hb3.mono hb2.size)
  have hz3 := hb3.size
  go_wp2_with (first
    | (refine wpList_store_row rfl 31 (.tmp 4) (.tmp 13) rfl W3.heap.size _ rfl rfl 31 _ (heap_alloc_new _ _) (by rw [wordsV_size, hTab_len]; exact infoStart) (by rw [wordsV_size, hTab_len]; rfl) (by simp [wordsV, Value.oneCell']) ?_))
  rw [zero8]
  have bh := (Blk.new W3 31 (wordsV z8)).setRow_ (wordsV Sha.hTab)
  have bk4 := (bk3.alloc (.cells (wordsV z8) 31)).farRow (g' := W3.heap.size) (by omega) (wordsV Sha.hTab)
  have hb5 := (hb4.alloc hb4.size (.cells (wordsV z8) 31)).trans (Iter.below_setRow (B := w.heap.size) (g := W3.heap.size) (wordsV Sha.hTab) hb4.size)
  have hgh : gk < W3.heap.size := by omega
  generalize (W3.alloc (.cells (wordsV z8) 31)).setRow W3.heap.size (wordsV Sha.hTab) = W4 at bk4 bh hb5 ⊢
  generalize W3.heap.size = gh at *
  clear bk3 bk hb4 hb3 hz3 hgk hb2
  go_wp2_with fail
  go_loopw [6] (fun i wr => ∃ k : Nat, k ≤ m ∧ i = .int .i64 ((64 * k : Nat) : Int) ∧ Blk wr gh 31 (wordsV (Sha.blkTo b Sha.hTab k)) ∧ Blk wr gk 55 (wordsV Sha.kTab) ∧ Below w.heap.size w wr) (fun i _ => 64 * m - (intOf i).toNat)
  case atStart => exact ⟨0, by omega, rfl, bh, bk4, hb5⟩
  case round =>
    clear bh bk4 hb5
    obtain ⟨k, hk, rfl, bh, bk, hbl⟩ := hrel
    have hhl := blkTo_len b Sha.hTab hTab_len k
    have hhw := blkTo_ws b Sha.hTab hTab_ws k
    by_cases hkm : k < m
    · have hlt : decide (((64 * k : Nat) : Int) < (m : Int) * 64) = true := by simp; omega
      have hcap : ¬ c0 = 64 * k := by omega
      have hA1 : BytesAt wr wr.heap.size (A0.map (·.add (64 * k))) ((b.take (64 * k + 64)).drop (64 * k)) := ((hA.cut (64 * k) (64 * k + 64) (by rw [Hn.out]; omega)).below hbl).more hbl.size
      have hl1 : ((b.take (64 * k + 64)).drop (64 * k)).length = 64 := by rw [List.length_drop, List.length_take, Hn.out]; omega
      have hbs1 : Bs ((b.take (64 * k + 64)).drop (64 * k)) := hBs.cut _ _
      have hnx : Hid (Sha.blkTo b Sha.hTab (k + 1) = Sha.mixed (Sha.blkTo b Sha.hTab k) ((b.take (64 * k + 64)).drop (64 * k))) := Lib.hid rfl
      generalize (b.take (64 * k + 64)).drop (64 * k) = bb at *
      generalize Sha.blkTo b Sha.hTab k = hh at *
      have i0 : (0 : Int) ≤ ((64 * k : Nat) : Int) := by omega
      have i1 : ((64 * k : Nat) : Int) + 64 ≤ (n : Int) := by omega
      have i2 : (n : Int) ≤ (c0 : Int) := by omega
      have ew : IntKind.i64.wrap (((64 * k : Nat) : Int) + 64) = ((64 * k + 64 : Nat) : Int) := by rw [IntKind.wrap_i64]; omega
      obtain ⟨q, hq⟩ : ∃ q, 64 * k = q := ⟨_, rfl⟩
      rw [hq] at hlt hcap hA1 i0 i1 ew ⊢
      have e4 : q + 64 - q = 64 := by omega
      have s1 : (0 : Int) ≤ (q : Int) + 64 := by omega
      have s2 : (q : Int) + 64 ≤ (c0 : Int) := by omega
      have s3 : ((q : Int) + 64).toNat = q + 64 := by omega
      have Hq := Lib.hid hq
      clear hq em
      obtain ⟨x0, x1, x2, x3, x4, x5, x6, x7, rfl⟩ : ∃ x0 x1 x2 x3 x4 x5 x6 x7, hh = [x0, x1, x2, x3, x4, x5, x6, x7] := by
        match hh, hhl with
        | [x0, x1, x2, x3, x4, x5, x6, x7], _ => exact ⟨x0, x1, x2, x3, x4, x5, x6, x7, rfl⟩
      have g0 : wr.cell? ⟨gh, 0, none⟩ = some (.int .u32 x0) := bh.cell 0
      have g1 : wr.cell? ⟨gh, 1, none⟩ = some (.int .u32 x1) := bh.cell 1
      have g2 : wr.cell? ⟨gh, 2, none⟩ = some (.int .u32 x2) := bh.cell 2
      have g3 : wr.cell? ⟨gh, 3, none⟩ = some (.int .u32 x3) := bh.cell 3
      have g4 : wr.cell? ⟨gh, 4, none⟩ = some (.int .u32 x4) := bh.cell 4
      have g5 : wr.cell? ⟨gh, 5, none⟩ = some (.int .u32 x5) := bh.cell 5
      have g6 : wr.cell? ⟨gh, 6, none⟩ = some (.int .u32 x6) := bh.cell 6
      have g7 : wr.cell? ⟨gh, 7, none⟩ = some (.int .u32 x7) := bh.cell 7
      have hgl := bh.lt
      have hgk := bk.lt
      go_wp2_with fail
      have hml := mixed_len [x0, x1, x2, x3, x4, x5, x6, x7] bb rfl
      obtain ⟨y0, y1, y2, y3, y4, y5, y6, y7, hy⟩ : ∃ y0 y1 y2 y3 y4 y5 y6 y7, Sha.mixed [x0, x1, x2, x3, x4, x5, x6, x7] bb = [y0, y1, y2, y3, y4, y5, y6, y7] := by
        match Sha.mixed [x0, x1, x2, x3, x4, x5, x6, x7] bb, hml with
        | [y0, y1, y2, y3, y4, y5, y6, y7], _ => exact ⟨y0, y1, y2, y3, y4, y5, y6, y7, rfl⟩
      clear hml
      have hmix : Calls Try.prog 41 #[.agg #[Value.int .u32 (x0 : Int), Value.int .u32 (x1 : Int), Value.int .u32 (x2 : Int), Value.int .u32 (x3 : Int), Value.int .u32 (x4 : Int), Value.int .u32 (x5 : Int), Value.int .u32 (x6 : Int), Value.int .u32 (x7 : Int)], .slice (Option.map (fun x => x.add q) A0) 64 (c0 - q), .pointer (some ⟨gk, 0, none⟩)] wr.drew fun e w' => e = .returned (.agg #[Value.int .u32 (y0 : Int), Value.int .u32 (y1 : Int), Value.int .u32 (y2 : Int), Value.int .u32 (y3 : Int), Value.int .u32 (y4 : Int), Value.int .u32 (y5 : Int), Value.int .u32 (y6 : Int), Value.int .u32 (y7 : Int)]) ∧ Below wr.heap.size wr.drew w' := by
        have h1 := mixed_calls [x0, x1, x2, x3, x4, x5, x6, x7] bb (Option.map (fun x => x.add q) A0) (c0 - q) gk wr.drew hhw rfl hbs1 hl1 (by omega) (by exact hA1) (by exact bk)
        rw [hy] at h1
        exact h1
      have Hmix := Lib.hid hmix
      have Hy := Lib.hid hy
      clear hmix hy
      have f0 := bh.frozen 0
      have f1 := bh.frozen 1
      have f2 := bh.frozen 2
      have f3 := bh.frozen 3
      have f4 := bh.frozen 4
      have f5 := bh.frozen 5
      have f6 := bh.frozen 6
      have f7 := bh.frozen 7
      go_region_with (go_at_call 41; refine Hmix.out.mono ?_; rintro e W5 ⟨rfl, hbW⟩; obtain ⟨hcW, hfW⟩ := bcell2 hbW)
      have b5 : Blk W5 gh _ _ := Blk.below (w := wr.drew) bh hbW hgl
      have k5 : Blk W5 gk _ _ := Blk.below (w := wr.drew) bk hbW hgk
      have q5 := hbl.drew.trans (hbW.mono hbl.size)
      obtain ⟨e5, e6, e7⟩ := eight b5 y0 y1 y2 y3 y4 y5 y6 y7
      replace e6 := e6 gk _ _ (by omega) k5
      replace e7 := e7 _ _ (by omega) q5
      rw [← Hy.out, ← hnx.out] at e5
      have HF := Lib.hid (And.intro e5 (And.intro e6 e7))
      clear e5 e6 e7 b5 k5 q5 hcW hfW bh bk hbl
      go_wp2
      exact ⟨⟨k + 1, by omega, by have := Hq.out; rw [show ((64 * (k + 1) : Nat) : Int) = (q : Int) + 64 by omega], HF.out⟩, by have := Hq.out; simp [intOf]; omega⟩
    · obtain rfl : k = m := by omega
      have hlt : decide (((64 * k : Nat) : Int) < (k : Int) * 64) = false := by simp; omega
      have hA2 := hA
      have hdrop : Kd.C (Kd.int .u8) wr (if c0 = k * 64 then A0 else Option.map (fun x => x.add (k * 64)) A0) (n - k * 64) (ofB (b.drop (64 * k))) := by
        have h1 := Kd.C_drop (m := k * 64) (c := c0) (Kd.C_below HC.out hbl) (by rw [ofB_length, Hn.out]; omega) (by rw [ofB_length, Hn.out]; exact hc0)
        have e1 : (ofB b).drop (k * 64) = ofB (b.drop (64 * k)) := by simp [ofB, Nat.mul_comm]
        rw [e1, ofB_length, List.length_drop, Hn.out] at h1
        have e2 : 64 * k = k * 64 := Nat.mul_comm _ _
        have e3 : (Kd.int .u8).sz = 1 := rfl
        rw [e3, Nat.mul_one] at h1
        rw [e2] at h1 ⊢
        exact h1
      have hpadl := Sha.pad_length n
      have hpadq := Sha.padLen_le n
      have Hb0 := hbl.alloc hbl.size (Obj.cells #[] 5)
      obtain ⟨q, hq⟩ : ∃ q, 64 * k = q := ⟨_, rfl⟩
      have h63 : decide ((q : Int) < (k : Int) * 64) = false := by simp; omega
      rw [show ((64 * k : Nat) : Int) = (q : Int) by rw [hq]]
      have Hq := Lib.hid hq
      clear hq hlt em
      have hdrop := Lib.hid hdrop
      have HB := Lib.hid (And.intro bh (And.intro bk hbl))
      have hgl := bh.lt
      have hgkl := bk.lt
      clear bh bk
      go_upto_region 8 with (fail)
      go_cut [7] (fun v7 wc => Aside0 (Kd.R (Kd.int .u8) 5 wc w.heap.size (fun _ => True) v7 (ofB (b.drop (64 * k) ++ Sha.pad n))) ∧ Blk wc gh 31 (wordsV (Sha.blkTo b Sha.hTab k)) ∧ Blk wc gk 55 (wordsV Sha.kTab) ∧ Below w.heap.size w wc)
      case first =>
        go_wp2_with (first
          | ((with_reducible refine gate_builtin (b := .append) (xs := #[.tmp 30, .tmp 33]) rfl ?_); at_builtin; refine Kd.R_append_rows (Kd.int .u8) (w0 := w) w.heap.size rfl (.tmp 30) (.tmp 33) 22 5 (.int .u8 0) 1 rfl Try.underlying22 info5 rfl (by decide) (by omega) (.slice (some ⟨wr.heap.size, 0, none⟩) 0 0) [] (ofB (b.drop (64 * k))) _ _ _ (fun _ => True) (fun _ => False) rfl rfl ?aO ?aR (fun _ _ h => h) (fun _ h => h.elim) ?aF ?aB ?aS ?aL ?_; (case aR => exact Kd.C_alloc hdrop.out _); (case aB => exact Hb0); (case aF => exact (fun _ _ => trivial)); (case aO => exact Kd.R_of_own (own_lit wr w.heap.size 5 .u8 [] hbl.size (by simp)) (fun _ _ => trivial)); (case aS => exact Hb0.size); (case aL => simp; omega); intro v1 W5 ho1 hb1 hg1 hat1))
        all_goals
          refine (sha_Pad.calls 10 (n : Int) _ _ (pad_eq n (by omega))).mono ?_
          rintro e W6 ⟨v2, rfl, ho2, hb2⟩
          obtain ⟨A4, c4, rfl, hl4, hC4⟩ := Kd.R_reads ho2
          have ho3 := Lib.hid (Kd.R_below ho1 hb2)
          have hb3 := hb1.trans (hb2.mono hb1.size)
          obtain ⟨bh0, bk0, hbl0⟩ := HB.out
          have hs5 := hg1.size
          rw [World.size_alloc] at hs5
          have bh5 := ((bh0.alloc (Obj.cells #[] 5)).grown_ hg1 (by simp [Value.ownBlock]; omega)).below hb2 (by omega)
          have bk5 := ((bk0.alloc (Obj.cells #[] 5)).grown_ hg1 (by simp [Value.ownBlock]; omega)).below hb2 (by omega)
          have nh := own_ne (g := gh) (h := wr.heap.size) hat1 (by omega) (by simp)
          have nk := own_ne (g := gk) (h := wr.heap.size) hat1 (by omega) (by simp)
          have HB5 := Lib.hid (And.intro bh5 (And.intro bk5 (And.intro nh nk)))
          have Hb3 := Lib.hid hb3
          have HC4 := Lib.hid hC4
          have hl34 := Hn.out
          rw [ofB_length, Sha.pad_length] at hl4
          clear bh5 bk5 nh nk bh0 bk0 hbl0 hg1 hat1 ho1 hb1 ho2 hb2 hb3 hC4
          rw [ofB_length, Sha.pad_length]
          go_wp2_with (first
            | ((with_reducible refine gate_builtin (b := .append) (xs := #[.tmp 34, .tmp 37]) rfl ?_); at_builtin; refine Kd.R_append_rows (Kd.int .u8) (w0 := w) w.heap.size rfl (.tmp 34) (.tmp 37) 22 5 (.int .u8 0) 1 rfl Try.underlying22 info5 rfl (by decide) (by omega) v1 ([] ++ ofB (b.drop (64 * k))) (ofB (Sha.pad n)) A4 (Sha.padLen n + 8) c4 (fun _ => True) (fun _ => False) rfl rfl ?aO ?aR (fun _ _ h => h) (fun _ h => h.elim) ?aF ?aB ?aS ?aL ?_; (case aR => (have := HC4.out; rw [ofB_length, Sha.pad_length] at this; exact this)); (case aB => exact Hb3.out); (case aF => exact (fun _ _ => trivial)); (case aO => exact ho3.out); (case aS => exact Hb3.out.size); (case aL => simp [ofB_length]; omega); intro v3 W7 ho4 hb4 hg4 hat4))
          all_goals
            have hfin : Aside0 (Kd.R (Kd.int .u8) 5 W7 w.heap.size (fun _ => True) v3 (ofB (b.drop (64 * k) ++ Sha.pad n))) := ⟨by rw [ofB_append]; exact ho4⟩
            obtain ⟨bh5, bk5, nh, nk⟩ := HB5.out
            have HF := Lib.hid (And.intro hfin (And.intro (bh5.grown_ hg4 nh) (And.intro (bk5.grown_ hg4 nk) hb4)))
            clear hfin bh5 bk5 nh nk ho4 hg4 hat4 hb4
            go_wp2
            first
              | (go_meet; case rel => exact HF.out)
              | (have hcc : c0 = k * 64 := by assumption
                 subst hcc
                 go_meet
                 case rel => exact HF.out)
      case rest =>
        clear hdrop HB h63 hA2 hpadq hpadl hgl hgkl
        obtain ⟨hR, bh, bk, hbl⟩ := hcut
        obtain ⟨A5, c5, rfl, hl5, hC5⟩ := Kd.R_reads hR.out
        obtain ⟨y, hy⟩ : ∃ y, b.drop (64 * k) ++ Sha.pad n = y := ⟨_, rfl⟩
        rw [hy] at hC5 hl5 hR ⊢
        have hB5 : BytesAt wc wc.heap.size A5 y := bytesAt_of_C hC5
        rw [ofB_length] at hl5 ⊢
        have hyl : y.length = n - 64 * k + (Sha.padLen n + 8) := by rw [← hy, List.length_append, List.length_drop, Hn.out, Sha.pad_length]
        have hyq := Sha.padLen_le n
        obtain ⟨m2, hm2⟩ : ∃ m2, y.length = 64 * m2 := ⟨y.length / 64, by omega⟩
        have Hy := Lib.hid hy
        have Hm2 := Lib.hid hm2
        have hms : 64 * m2 ≤ c5 := by omega
        have hm2s : 64 * m2 ≤ 140737488360000 := by omega
        have hBy : Bs y := by rw [← hy]; exact (hBs.drop_ _).append_ (pad_bs n)
        rw [hm2]
        clear hy hm2 hyl hyq hl5 hC5 hB5
        obtain ⟨h0, hh0⟩ : ∃ h0, Sha.blkTo b Sha.hTab k = h0 := ⟨_, rfl⟩
        have hl0 : h0.length = 8 := by rw [← hh0]; exact blkTo_len b Sha.hTab hTab_len k
        have hw0 : Ws h0 := by rw [← hh0]; exact blkTo_ws b Sha.hTab hTab_ws k
        rw [hh0] at bh
        have Hh0 := Lib.hid hh0
        clear hh0 hhl hhw
        rw [ofB_length, Hm2.out] at hR
        go_wp2_with fail
        go_loopw [8] (fun i wr => ∃ j : Nat, j ≤ m2 ∧ i = .int .i64 ((64 * j : Nat) : Int) ∧ Blk wr gh 31 (wordsV (Sha.blkTo y h0 j)) ∧ Blk wr gk 55 (wordsV Sha.kTab) ∧ Aside0 (Kd.R (Kd.int .u8) 5 wr w.heap.size (fun _ => True) (.slice A5 (64 * m2) c5) (ofB y)) ∧ Below w.heap.size w wr) (fun i _ => 64 * m2 - (intOf i).toNat)
        case atStart => exact ⟨0, by omega, rfl, bh, bk, hR, hbl⟩
        case round =>
          clear bh bk hbl hR
          obtain ⟨j, hj, rfl, bh, bk, hR, hbl⟩ := hrel
          have hhl := blkTo_len y h0 hl0 j
          have hhw := blkTo_ws y h0 hw0 j
          by_cases hkm : j < m2
          · have hlt : decide (64 * j < 64 * m2) = true := by simp; omega
            have hcap : ¬ c5 = 64 * j := by omega
            have hBy5 : BytesAt wr wr.heap.size A5 y := by
              obtain ⟨A6, c6, e6, _, hC6⟩ := Kd.R_reads hR.out
              injection e6 with e6 e7 e8
              subst e6
              exact bytesAt_of_C hC6
            have hA1 : BytesAt wr wr.heap.size (A5.map (·.add (64 * j))) ((y.take (64 * j + 64)).drop (64 * j)) := hBy5.cut (64 * j) (64 * j + 64) (by rw [Hm2.out]; omega)
            have hl1 : ((y.take (64 * j + 64)).drop (64 * j)).length = 64 := by rw [List.length_drop, List.length_take, Hm2.out]; omega
            have hbs1 : Bs ((y.take (64 * j + 64)).drop (64 * j)) := hBy.cut _ _
            have hnx : Hid (Sha.blkTo y h0 (j + 1) = Sha.mixed (Sha.blkTo y h0 j) ((y.take (64 * j + 64)).drop (64 * j))) := Lib.hid rfl
            clear hBy5
            generalize (y.take (64 * j + 64)).drop (64 * j) = bb at *
            generalize Sha.blkTo y h0 j = hh at *
            obtain ⟨M, hM⟩ : ∃ M, 64 * m2 = M := ⟨_, rfl⟩
            obtain ⟨q2, hq2⟩ : ∃ q2, 64 * j = q2 := ⟨_, rfl⟩
            have i0 : (0 : Int) ≤ (q2 : Int) := by omega
            have ew : IntKind.i64.wrap ((q2 : Int) + 64) = (q2 : Int) + 64 := by rw [IntKind.wrap_i64]; omega
            have s1 : (0 : Int) ≤ (q2 : Int) + 64 := by omega
            have s2 : (q2 : Int) + 64 ≤ (c5 : Int) := by omega
            have s3 : ((q2 : Int) + 64).toNat = q2 + 64 := by omega
            have e4 : q2 + 64 - q2 = 64 := by omega
            rw [hq2] at hlt hcap hA1 ⊢
            rw [hM] at hlt hR hms ⊢
            have Hq2 := Lib.hid (And.intro hq2 hM)
            clear hq2 hM
            obtain ⟨x0, x1, x2, x3, x4, x5, x6, x7, rfl⟩ : ∃ x0 x1 x2 x3 x4 x5 x6 x7, hh = [x0, x1, x2, x3, x4, x5, x6, x7] := by
              match hh, hhl with
              | [x0, x1, x2, x3, x4, x5, x6, x7], _ => exact ⟨x0, x1, x2, x3, x4, x5, x6, x7, rfl⟩
            have g0 : wr.cell? ⟨gh, 0, none⟩ = some (.int .u32 x0) := bh.cell 0
            have g1 : wr.cell? ⟨gh, 1, none⟩ = some (.int .u32 x1) := bh.cell 1
            have g2 : wr.cell? ⟨gh, 2, none⟩ = some (.int .u32 x2) := bh.cell 2
            have g3 : wr.cell? ⟨gh, 3, none⟩ = some (.int .u32 x3) := bh.cell 3
            have g4 : wr.cell? ⟨gh, 4, none⟩ = some (.int .u32 x4) := bh.cell 4
            have g5 : wr.cell? ⟨gh, 5, none⟩ = some (.int .u32 x5) := bh.cell 5
            have g6 : wr.cell? ⟨gh, 6, none⟩ = some (.int .u32 x6) := bh.cell 6
            have g7 : wr.cell? ⟨gh, 7, none⟩ = some (.int .u32 x7) := bh.cell 7
            have hgl := bh.lt
            have hgk := bk.lt
            have hml := mixed_len [x0, x1, x2, x3, x4, x5, x6, x7] bb rfl
            obtain ⟨y0, y1, y2, y3, y4, y5, y6, y7, hy⟩ : ∃ y0 y1 y2 y3 y4 y5 y6 y7, Sha.mixed [x0, x1, x2, x3, x4, x5, x6, x7] bb = [y0, y1, y2, y3, y4, y5, y6, y7] := by
              match Sha.mixed [x0, x1, x2, x3, x4, x5, x6, x7] bb, hml with
              | [y0, y1, y2, y3, y4, y5, y6, y7], _ => exact ⟨y0, y1, y2, y3, y4, y5, y6, y7, rfl⟩
            clear hml
            have hmix : Calls Try.prog 41 #[.agg #[Value.int .u32 (x0 : Int), Value.int .u32 (x1 : Int), Value.int .u32 (x2 : Int), Value.int .u32 (x3 : Int), Value.int .u32 (x4 : Int), Value.int .u32 (x5 : Int), Value.int .u32 (x6 : Int), Value.int .u32 (x7 : Int)], .slice (Option.map (fun x => x.add q2) A5) 64 (c5 - q2), .pointer (some ⟨gk, 0, none⟩)] wr.drew fun e w' => e = .returned (.agg #[Value.int .u32 (y0 : Int), Value.int .u32 (y1 : Int), Value.int .u32 (y2 : Int), Value.int .u32 (y3 : Int), Value.int .u32 (y4 : Int), Value.int .u32 (y5 : Int), Value.int .u32 (y6 : Int), Value.int .u32 (y7 : Int)]) ∧ Below wr.heap.size wr.drew w' := by
              have h1 := mixed_calls [x0, x1, x2, x3, x4, x5, x6, x7] bb (Option.map (fun x => x.add q2) A5) (c5 - q2) gk wr.drew hhw rfl hbs1 hl1 (by omega) (by exact hA1) (by exact bk)
              rw [hy] at h1
              exact h1
            have Hmix := Lib.hid hmix
            have Hyy := Lib.hid hy
            clear hmix hy
            have f0 := bh.frozen 0
            have f1 := bh.frozen 1
            have f2 := bh.frozen 2
            have f3 := bh.frozen 3
            have f4 := bh.frozen 4
            have f5 := bh.frozen 5
            have f6 := bh.frozen 6
            have f7 := bh.frozen 7
            go_wp2_with fail
            go_region_with (go_at_call 41; refine Hmix.out.mono ?_; rintro e W5 ⟨rfl, hbW⟩; obtain ⟨hcW, hfW⟩ := bcell2 hbW)
            have b5 : Blk W5 gh _ _ := Blk.below (w := wr.drew) bh hbW hgl
            have k5 : Blk W5 gk _ _ := Blk.below (w := wr.drew) bk hbW hgk
            have r5 : Kd.R (Kd.int .u8) 5 W5 w.heap.size (fun _ => True) _ _ := Kd.R_below (Kd.R_drew hR.out) hbW
            have q5 := hbl.drew.trans (hbW.mono hbl.size)
            have r6 := Aside0.mk (eightR (by decide) b5 r5 y0 y1 y2 y3 y4 y5 y6 y7)
            obtain ⟨e5, e6, e7⟩ := eight b5 y0 y1 y2 y3 y4 y5 y6 y7
            replace e6 := e6 gk _ _ (by omega) k5
            replace e7 := e7 _ _ (by omega) q5
            rw [← Hyy.out, ← hnx.out] at e5
            have HF := Lib.hid (And.intro e5 (And.intro e6 (And.intro r6 e7)))
            clear e5 e6 e7 r6 r5 b5 k5 q5 hcW hfW bh bk hbl hR
            go_wp2
            exact ⟨⟨j + 1, by omega, by have := Hq2.out.1; rw [show ((64 * (j + 1) : Nat) : Int) = (q2 : Int) + 64 by omega], HF.out⟩, by have := Hq2.out.1; have := Hq2.out.2; simp [intOf]; omega⟩
          · obtain rfl : j = m2 := by omega
            obtain ⟨q2, hq2⟩ : ∃ q2, 64 * j = q2 := ⟨_, rfl⟩
            rw [hq2] at hR ⊢
            have hlt : decide (q2 < q2) = false := by simp
            have Hq2 := Lib.hid hq2
            clear hq2
            generalize hH : Sha.blkTo y h0 j = hh at *
            have HH := Lib.hid hH
            clear hH
            clear hlt
            obtain ⟨i5, hi5, hz50, hz51, hz52⟩ := info_parts info5
            have Hi5 := Lib.hid (And.intro hi5 (And.intro hz50 (And.intro hz51 hz52)))
            have hb5 : i5.bytes ≤ 1 := by omega
            clear hi5 hz50 hz51 hz52
            have HBB := Lib.hid (And.intro bh hbl)
            have hws := hbl.size
            clear bk hR bh hbl
            go_wp2_with (first
              | ((with_reducible refine gate_dst (N := 52) rfl ?_); refine wpList_make_own _ rfl (.const (.int .i64 0)) (.const (.int .i64 32)) 22 rfl w.heap.size 5 i5 (.int .u8 0) 1 Try.underlying22 Hi5.out.1 Hi5.out.2.1 Hi5.out.2.2.1 .i64 .i64 32 32 rfl rfl rfl (by omega) (by decide) hws ?_; intro W6 hown6 hg6)
              | (have bh6 := HBB.out.1.grown_ hg6 (by simp); refine wpList_load_row rfl 31 (.tmp 4) rfl gh rfl 31 _ (0, 0) _ bh6 Try.underlying31 rfl (by rw [wordsV_size, hhl]; exact infoStart) ?_))
            have hR6 : Aside0 (Kd.R (Kd.int .u8) 5 W6 w.heap.size (fun _ => True) (.slice (some ⟨wr.heap.size, 0, none⟩) 0 32) (ofB ((hh.take 0).flatMap Sha.out4))) := ⟨Kd.R_of_own (enc := Value.int .u8) (h1 := fun _ => rfl) (xs := []) hown6 (fun _ _ => trivial)⟩
            have hb6 := HBB.out.2.grown hg6 hws (fun g h => by cases h)
            obtain ⟨wo, rfl⟩ : ∃ wo : World, wo = wr := ⟨_, rfl⟩
            go_loopw [9, 54] (fun v i wr => ∃ t : Nat, t ≤ 8 ∧ i = .int .i64 t ∧ Aside0 (Kd.R (Kd.int .u8) 5 wr w.heap.size (fun _ => True) v (ofB ((hh.take t).flatMap Sha.out4))) ∧ Below w.heap.size w wr) (fun _ i _ => 8 - (intOf i).toNat)
            case atStart => exact ⟨0, by omega, rfl, hR6, hb6⟩
            case round =>
              clear hR6 hb6 hown6 hg6 HBB
              obtain ⟨t, ht, rfl, hR, hbl⟩ := hrel
              by_cases ht8 : t < 8
              · have hix := fun W => index_w8 hh t ht8 hhl W
                have lx := hhw t
                obtain ⟨x, hx⟩ : ∃ x, hh.getD t 0 = x := ⟨_, rfl⟩
                rw [hx] at hix lx
                have hx := Lib.hid hx
                have t0 : (0 : Int) ≤ (t : Int) := by omega
                have t1 : (t : Int) < 8 := by omega
                have hd : decide ((t : Int) < 8) = true := by simp; omega
                have hbl' := Lib.hid hbl
                clear hbl
                have hfl := flat_len (hh.take t)
                rw [List.length_take] at hfl
                have hb4 := hbl'.out.alloc hbl'.out.size (Obj.cells #[Value.int IntKind.u8 ((x : Int) / 16777216), Value.int IntKind.u8 ((x : Int) / 65536 % 256), Value.int IntKind.u8 ((x : Int) / 256 % 256), Value.int IntKind.u8 ((x : Int) % 256)] 5)
                have Hb4 := Lib.hid hb4
                clear hb4
                go_wp2_with (first | ((with_reducible refine gate_builtin (b := .append) (xs := #[.tmp 57, .tmp 69]) rfl ?_); at_builtin; refine Kd.R_append_rows (Kd.int .u8) (w0 := w) w.heap.size rfl (.tmp 57) (.tmp 69) 22 5 (.int .u8 0) 1 rfl Try.underlying22 info5 rfl (by decide) (by omega) u9 (ofB ((hh.take t).flatMap Sha.out4)) [(x : Int) / 16777216, (x : Int) / 65536 % 256, (x : Int) / 256 % 256, (x : Int) % 256] (some ⟨wr.heap.size, 0, none⟩) 4 4 (fun _ => True) (fun _ => False) rfl rfl ?aO ?aR (fun _ _ h => h) (fun _ h => h.elim) ?aF ?aB ?aS ?aL ?_; (case aO => exact Kd.R_alloc hR.out _); (case aR => exact c_lit wr 5 [(x : Int) / 16777216, (x : Int) / 65536 % 256, (x : Int) / 256 % 256, (x : Int) % 256] (by simp)); (case aF => exact fun _ _ => trivial); (case aB => exact Hb4.out); (case aS => exact Hb4.out.size); (case aL => rw [ofB_length]; omega); intro v7 W7 ho7 hb7 hg7 hat7))
                have hnext : Aside0 (Kd.R (Kd.int .u8) 5 W7 w.heap.size (fun _ => True) v7 (ofB ((hh.take (t + 1)).flatMap Sha.out4))) := ⟨by
                  rw [out4_snoc hh t (by omega) x hx.out lx]
                  exact ho7⟩
                clear ho7 hg7 hat7 Hb4 hbl' hR hix
                go_wp2
                exact ⟨⟨t + 1, by omega, by go_num, hnext, hb7⟩, by simp [intOf]; omega⟩
              · obtain rfl : t = 8 := by omega
                have hd : decide (((8 : Nat) : Int) < 8) = false := by decide
                have hfin : Sha.sum b = hh.flatMap Sha.out4 := by
                  rw [Sha.sum_split, Hm.out, Hn.out, Hy.out, Hh0.out, Hm2.out, show 64 * j / 64 = j by omega, HH.out]
                rw [List.take_of_length_le (by omega)] at hR
                have Hfin := Lib.hid hfin
                clear hfin
                go_wp2
                go_ret
                exact ⟨_, rfl, by rw [Hfin.out]; exact hR.out, hbl⟩
end P
end Go.Proofs.Ytamaokokbajlgaa
