/-
  Walk: pyxlaw02.ShaRounds.
-/
import Derived.Test.YtamaokokbajlgaaBlk
import Derived.Laws.StructEq
import Derived.ChangeKeysEq
namespace Go.Proofs.Ytamaokokbajlgaa
set_option linter.unusedVariables false
set_option linter.unusedSimpArgs false
open Go.RowKit Go.Proofs.Ytamaokokbajlgaa.L Go.Proofs.YtamaokokbajlgaaW.PrintWords Go.Proofs.YtamaokokbajlgaaW.PrintLast Go.Proofs.YtamaokokbajlgaaW.PrintMore

theorem part_w (l : List Nat) (j : Nat) (hj : j < l.length) (W : World) : (part 28 (wordsV l) (j * 1)).run Try.prog W = .ok (.int .u32 ((l.getD j 0 : Nat) : Int)) W := by
  have hv := wordsV_at l j hj
  simp [go_sem, part, hv, Try.isAgg28, Try.sizeOf28]
theorem eqItems_w (l : List Nat) (W : World) (d : Nat) : ∀ js : List Nat, (∀ j ∈ js, j < l.length) → (Op.eqItems (d + 1) 28 1 (wordsV l) (wordsV l) js).run Try.prog W = .ok true W
  | [], _ => by simp [Op.eqItems]
  | j :: js, h => by
    have ih := eqItems_w l W d js (fun i hi => h i (List.mem_cons_of_mem _ hi))
    simp only [Op.eqItems, Sem.run_bind, part_w l j (h j (List.mem_cons_self ..)) W, Result.andThen_ok, run_equalIn_int W d 28 .u32 .u32 _ _ Try.underlying28, beq_self_eq_true]
    simpa using ih
theorem eql_row (l : List Nat) (hl : l.length = 8) (W : World) : (binOp .eql 31 (.agg (wordsV l)) (.agg (wordsV l))).run Try.prog W = .ok (.bool true) W := by
  obtain ⟨i, hi, _⟩ := Option.map_eq_some_iff.1 info_u32
  have hc : Try.prog.cellsOf 28 = 1 := by kernel_rfl
  rw [run_eql_struct, run_equalIn_array W 9999 (wordsV l) (wordsV l) Try.underlying31 hi, hc]
  rw [show (9999 : Nat) = 9998 + 1 from rfl, eqItems_w l W 9998 (List.range 8) (fun j hj => by have := List.mem_range.1 hj; omega)]
  rfl
theorem agg_words (l : List Int) (h : ∀ x ∈ l, (Lit.int .u32 x).wf = true) : (l.map (Value.int .u32)).toArray = wordsV (l.map Int.toNat) ∧ Ws (l.map Int.toNat) := by
  have hb : ∀ x ∈ l, 0 ≤ x ∧ x < 4294967296 := fun x hx => by
    have := Go.bounds_u32 (h x hx)
    omega
  constructor
  · unfold wordsV
    rw [List.map_map]
    congr 1
    refine List.map_congr_left fun x hx => ?_
    have := hb x hx
    simp only [Function.comp]
    congr 1
    omega
  · intro i
    rw [List.getD_eq_getElem?_getD, List.getElem?_map]
    cases hx : l[i]? with
    | none => simp
    | some x =>
      have := hb x (List.mem_of_getElem? hx)
      simp
      omega
theorem eqGuard_row (x y : Operand) (xs ys : Array Value) (W : World) : (eqGuard .eql 31 x y (.agg xs) (.agg ys)).run Try.prog W = .ok () W :=
  run_eqGuard_agg W .eql 31 x y xs ys (by kernel_rfl)

set_option maxRecDepth 100000 in
set_option maxHeartbeats 4000000 in
theorem shaRounds_calls (h : List Nat) (hh : Ws h) (hhl : h.length = 8) (A1 : Option Addr) (c1 : Nat) (l1 : List Int) (A2 : Option Addr) (c2 : Nat) (l2 : List Int) (w : World) (hr1 : Kd.C (Kd.int .u8) w A1 l1.length l1) (hc1 : l1.length ≤ c1) (hr2 : Kd.C (Kd.int .u8) w A2 l2.length l2) (hc2 : l2.length ≤ c2) (o1 : byteOk l1 = true) (o2 : byteOk l2 = true) :
    Calls Try.prog 9 #[.agg (wordsV h), .slice A1 l1.length c1, .slice A2 l2.length c2] w fun e w' => e = .returned (.bool true) ∧ Below w.heap.size w w' := by
  have bh := Blk.new w 31 (wordsV h)
  have hb0 := (Below.refl w.heap.size w).alloc (Nat.le_refl _) (Obj.cells (wordsV h) 31)
  have hlt0 := bh.lt
  by_cases g1 : l1.length = 64
  case neg =>
    have d1 : ((l1.length : Int) != 64) = true := by rw [bne_iff_ne]; omega
    go_enter Try.func9, Try.ntmps9
    go_wp2_with (go_at_call 15; refine (P.pyxlaw02_shown.calls true _ rfl).mono ?_; rintro e W1 ⟨rfl, hb1⟩)
    go_ret
    exact ⟨rfl, hb0.trans (hb1.mono hb0.size)⟩
  by_cases g2 : l2.length = 64
  case neg =>
    have d1 : ((l1.length : Int) != 64) = false := by rw [bne_eq_false_iff_eq]; omega
    have d2 : ((l2.length : Int) != 64) = true := by rw [bne_iff_ne]; omega
    clear g1
    go_enter Try.func9, Try.ntmps9
    go_wp2_with (go_at_call 15; refine (P.pyxlaw02_shown.calls true _ rfl).mono ?_; rintro e W1 ⟨rfl, hb1⟩)
    go_ret
    exact ⟨rfl, hb0.trans (hb1.mono hb0.size)⟩
  have z1 : blockErr (toB l1) = 0 := by unfold blockErr; rw [if_pos (by simpa [toB] using g1)]
  have z2 : blockErr (toB l2) = 0 := by unfold blockErr; rw [if_pos (by simpa [toB] using g2)]
  have K1 : ∀ (h : List Nat) (W : World), Ws h → h.length = 8 → Kd.C (Kd.int .u8) W A1 64 l1 → Calls Try.prog 25 #[.agg (wordsV h), .slice A1 64 c1] W fun e w' => e = .returned (.tuple #[.agg (wordsV (blockOf h (toB l1))), .int .i64 0]) ∧ Below W.heap.size W w' := fun h W a b c => by
    have := block_calls h A1 c1 l1 W a b (by rw [g1]; exact c) hc1 o1
    rwa [g1, z1] at this
  have K2 : ∀ (h : List Nat) (W : World), Ws h → h.length = 8 → Kd.C (Kd.int .u8) W A2 64 l2 → Calls Try.prog 25 #[.agg (wordsV h), .slice A2 64 c2] W fun e w' => e = .returned (.tuple #[.agg (wordsV (blockOf h (toB l2))), .int .i64 0]) ∧ Below W.heap.size W w' := fun h W a b c => by
    have := block_calls h A2 c2 l2 W a b (by rw [g2]; exact c) hc2 o2
    rwa [g2, z2] at this
  have K3 : ∀ (h : List Nat) (W : World), Ws h → h.length = 8 → Kd.C (Kd.int .u8) W A1 64 l1 → Calls Try.prog 26 #[.agg (wordsV h), .slice A1 64 c1] W fun e w' => e = .returned (.tuple #[.agg (wordsV (blockOf h (toB l1))), .int .i64 0]) ∧ Below W.heap.size W w' := fun h W a b c => by
    have := refBlock_calls h A1 c1 l1 W a b (by rw [g1]; exact c) hc1 o1
    rwa [g1, z1] at this
  have K4 : ∀ (h : List Nat) (W : World), Ws h → h.length = 8 → Kd.C (Kd.int .u8) W A2 64 l2 → Calls Try.prog 26 #[.agg (wordsV h), .slice A2 64 c2] W fun e w' => e = .returned (.tuple #[.agg (wordsV (blockOf h (toB l2))), .int .i64 0]) ∧ Below W.heap.size W w' := fun h W a b c => by
    have := refBlock_calls h A2 c2 l2 W a b (by rw [g2]; exact c) hc2 o2
    rwa [g2, z2] at this
  have xl := blockOf_len h (toB l1) hhl
  have xw := blockOf_ws h (toB l1) hh
  have yl := blockOf_len (blockOf h (toB l1)) (toB l2) xl
  generalize hX : blockOf h (toB l1) = X at *
  have K1 := Lib.hid (by have := fun W => K1 h W hh hhl; rw [hX] at this; exact this)
  have K3 := Lib.hid (by have := fun W => K3 h W hh hhl; rw [hX] at this; exact this)
  generalize hY : blockOf X (toB l2) = Y at *
  have K2 := Lib.hid (by have := fun W => K2 X W xw xl; rw [hY] at this; exact this)
  have K4 := Lib.hid (by have := fun W => K4 X W xw xl; rw [hY] at this; exact this)
  have ih : (Try.prog.info? 31).map (·.size) = some (wordsV h).size := by rw [wordsV_size, hhl]; exact infoStart
  have ix : (Try.prog.info? 31).map (·.size) = some (wordsV X).size := by rw [wordsV_size, xl]; exact infoStart
  have iy : (Try.prog.info? 31).map (·.size) = some (wordsV Y).size := by rw [wordsV_size, yl]; exact infoStart
  rw [g1] at hr1 hc1 ⊢
  rw [g2] at hr2 hc2 ⊢
  have HC := Lib.hid (And.intro hr1 (And.intro hr2 hb0))
  have eqr := eql_row Y yl
  have egr := fun x y xs ys W => eqGuard_row x y xs ys W
  have HI := Lib.hid (And.intro ih (And.intro ix iy))
  have HL := Lib.hid (And.intro hhl (And.intro xl yl))
  clear g1 g2 z1 z2 hX hY hr1 hr2 hb0 ih ix iy hhl xl yl
  go_enter Try.func9, Try.ntmps9
  go_wp2_with fail
  refine (P.pyxlaw02_shown.calls true _ rfl).mono ?_
  rintro e W1 ⟨rfl, hb1⟩
  have bh1 := bh.below hb1 hlt0
  have H1 := Lib.hid (HC.out.2.2.trans (hb1.mono HC.out.2.2.size))
  clear hb1 bh
  go_wp2_with (refine wpList_load_row rfl 31 (.tmp 3) rfl w.heap.size rfl 31 _ (0, 0) _ bh1 Try.underlying31 rfl HI.out.1 ?_)
  refine (K1.out W1 (Kd.C_below HC.out.1 H1.out)).mono ?_
  rintro e W2 ⟨rfl, hb2⟩
  have bh2 := bh1.below hb2 bh1.lt
  have H2 := Lib.hid (H1.out.trans (hb2.mono H1.out.size))
  clear hb2 bh1 H1
  go_wp2_with (first
    | (refine wpList_store_row rfl 31 (.tmp 8) (.tmp 30) rfl W2.heap.size (wordsV X) rfl rfl 31 _ (heap_alloc_new _ _) HI.out.2.1 (by rw [wordsV_size, HL.out.2.1]; rfl) (by simp [wordsV, Value.oneCell']) ?_)
    | (refine wpList_load_row rfl 31 (.tmp 8) rfl W2.heap.size rfl 31 _ (0, 0) _ (setRow_heap _ W2.heap.size _ _ _ _ (heap_alloc_new _ _)) Try.underlying31 rfl HI.out.2.1 ?_))
  rw [zero8]
  have bx := (Blk.new W2 31 (wordsV z8)).setRow_ (wordsV X)
  have bh3 := (bh2.alloc (.cells (wordsV z8) 31)).farRow (g' := W2.heap.size) (by have := bh2.lt; omega) (wordsV X)
  have H3 := Lib.hid ((H2.out.alloc H2.out.size (.cells (wordsV z8) 31)).trans (Iter.below_setRow (B := w.heap.size) (g := W2.heap.size) (wordsV X) H2.out.size))
  generalize (W2.alloc (.cells (wordsV z8) 31)).setRow W2.heap.size (wordsV X) = W3 at bx bh3 H3 ⊢
  generalize W2.heap.size = gx at *
  clear bh2 H2
  refine (K2.out W3 (Kd.C_below HC.out.2.1 H3.out)).mono ?_
  rintro e W4 ⟨rfl, hb4⟩
  have bh4 := bh3.below hb4 bh3.lt
  have H4 := Lib.hid (H3.out.trans (hb4.mono H3.out.size))
  clear hb4 bh3 H3 bx
  go_wp2_with (first
    | (refine wpList_store_row rfl 31 (.tmp 10) (.tmp 36) rfl W4.heap.size (wordsV Y) rfl rfl 31 _ (heap_alloc_new _ _) HI.out.2.2 (by rw [wordsV_size, HL.out.2.2]; rfl) (by simp [wordsV, Value.oneCell']) ?_)
    | (refine wpList_load_row rfl 31 (.tmp 3) rfl w.heap.size rfl 31 _ (0, 0) _ (Blk.farRow (bh4.alloc _) (by have := bh4.lt; omega) _) Try.underlying31 rfl HI.out.1 ?_))
  rw [zero8]
  have by_ := (Blk.new W4 31 (wordsV z8)).setRow_ (wordsV Y)
  have H5 := Lib.hid ((H4.out.alloc H4.out.size (.cells (wordsV z8) 31)).trans (Iter.below_setRow (B := w.heap.size) (g := W4.heap.size) (wordsV Y) H4.out.size))
  have hgy := by_.lt
  generalize (W4.alloc (.cells (wordsV z8) 31)).setRow W4.heap.size (wordsV Y) = W5 at by_ H5 hgy ⊢
  generalize W4.heap.size = gy at *
  clear bh4 H4
  refine (K3.out W5 (Kd.C_below HC.out.1 H5.out)).mono ?_
  rintro e W6 ⟨rfl, hb6⟩
  have by6 := by_.below hb6 hgy
  have H6 := Lib.hid (H5.out.trans (hb6.mono H5.out.size))
  clear hb6 by_ H5 hgy
  go_wp2_with (first
    | (refine wpList_store_row rfl 31 (.tmp 12) (.tmp 42) rfl W6.heap.size (wordsV X) rfl rfl 31 _ (heap_alloc_new _ _) HI.out.2.1 (by rw [wordsV_size, HL.out.2.1]; rfl) (by simp [wordsV, Value.oneCell']) ?_)
    | (refine wpList_load_row rfl 31 (.tmp 12) rfl W6.heap.size rfl 31 _ (0, 0) _ (setRow_heap _ W6.heap.size _ _ _ _ (heap_alloc_new _ _)) Try.underlying31 rfl HI.out.2.1 ?_))
  rw [zero8]
  have by7 := (by6.alloc (.cells (wordsV z8) 31)).farRow (g' := W6.heap.size) (by have := by6.lt; omega) (wordsV X)
  have H7 := Lib.hid ((H6.out.alloc H6.out.size (.cells (wordsV z8) 31)).trans (Iter.below_setRow (B := w.heap.size) (g := W6.heap.size) (wordsV X) H6.out.size))
  generalize (W6.alloc (.cells (wordsV z8) 31)).setRow W6.heap.size (wordsV X) = W7 at by7 H7 ⊢
  generalize W6.heap.size = gp at *
  clear by6 H6
  refine (K4.out W7 (Kd.C_below HC.out.2.1 H7.out)).mono ?_
  rintro e W8 ⟨rfl, hb8⟩
  have by8 := by7.below hb8 by7.lt
  have H8 := Lib.hid (H7.out.trans (hb8.mono H7.out.size))
  clear hb8 by7 H7
  go_wp2_with (first
    | (refine wpList_store_row rfl 31 (.tmp 14) (.tmp 48) rfl W8.heap.size (wordsV Y) rfl rfl 31 _ (heap_alloc_new _ _) HI.out.2.2 (by rw [wordsV_size, HL.out.2.2]; rfl) (by simp [wordsV, Value.oneCell']) ?_)
    | ((refine gate_guard (by rfl) ?_); dsimp only; refine wpList_load_row rfl 31 (.tmp 10) rfl gy rfl 31 _ (0, 0) _ (Blk.farRow (by8.alloc _) (by have := by8.lt; omega) _) Try.underlying31 rfl HI.out.2.2 ?_)
    | ((refine gate_guard (by rfl) ?_); dsimp only; refine wpList_load_row rfl 31 (.tmp 14) rfl W8.heap.size rfl 31 _ (0, 0) _ (setRow_heap _ W8.heap.size _ _ _ _ (heap_alloc_new _ _)) Try.underlying31 rfl HI.out.2.2 ?_))
  rw [zero8]
  go_ret
  exact ⟨rfl, (H8.out.alloc H8.out.size _).trans (Iter.below_setRow _ H8.out.size)⟩
end Go.Proofs.Ytamaokokbajlgaa
