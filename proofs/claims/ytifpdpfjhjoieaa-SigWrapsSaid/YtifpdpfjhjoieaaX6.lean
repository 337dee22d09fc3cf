/-
  The lower layers, walked and in closed forms, part 6: AesG, AesS, AesD, AesH, AesT, SealA, H0, H1, SealB.
-/
import Derived.Test.YtifpdpfjhjoieaaX0
import Derived.Test.YtifpdpfjhjoieaaX1
import Derived.Test.YtifpdpfjhjoieaaX5
import Derived.Test.YtifpdpfjhjoieaaProg
import Derived.Test.YtifpdpfjhjoieaaJWords
import Derived.Test.YtifpdpfjhjoieaaJLast
import Derived.Test.YtifpdpfjhjoieaaJMore
import Derived.Test.YtifpdpfjhjoieaaJRepsOne
import Derived.Test.YtifpdpfjhjoieaaJTab
import Derived.Below
import Derived.Deep.Draws
import Derived.Deep.AppendLies
import Derived.Maps.AppendAt
import Derived.OwnWalk
import Derived.Laws.BytesArg
import Derived.Laws.MakeOwn
import Derived.Laws.OwnMore
import Derived.Deep.OwnRows
import Derived.Tactics
import Derived.Lib.ConvBytes
import Derived.Laws.Slices
import Derived.WalkKit
import Derived.KernelRfl
import Derived.RowKit3
import Derived.Deep.LoopGhost
import Derived.Deep.QuietTactic
import Derived.BigQuiet
import Derived.WideLaws
import Derived.Deep.DeepCutAuto
import Derived.Deep.CutBlock
import Derived.Deep.RegionHeld3
import Derived.Laws.Rows
import Derived.Lib.AppendStr
import Derived.ArgAppend
import Derived.Laws.IdiomCopy
import Derived.OrdersHeld
import Derived.Laws.BitsLemmas
import Derived.RowKit
/-! AesG -/
namespace Go.Proofs.Ytifpdpfjhjoieaa
set_option linter.unusedVariables false
set_option linter.unusedSimpArgs false
open Go.RowKit Go.Shelf Iter Go.Proofs.YtifpdpfjhjoieaaW.PrintWords
attribute [local go_sem] Oper.semAt_some
theorem range_keys {w : World} {g : Nat} {ty : TypeId} (key : List Int) (h16 : key.length = 16) (t : Nat) (ht : t ≤ 10) (h : Blk w g ty (byV (keysV key))) : w.rangeAt g (t * 16) (valsB (keyT key t)) := by
  have hl := keyT_length key h16 t
  refine range_of h _ _ (by rw [keysV_length, hl]; omega) fun j hj => ?_
  rw [hl] at hj
  unfold keysV
  rw [List.getD_eq_getElem?_getD, List.getElem?_map, List.getElem?_range (by omega), Nat.mul_comm t 16]
  exact keyF_at _ _ _ hj
theorem range_row {w : World} {g : Nat} {ty : TypeId} (l : List Int) (h : Blk w g ty (byV l)) : w.rangeAt g 0 (valsB l) := range_of h _ _ (by omega) fun j hj => by rw [Nat.zero_add]
theorem info_vals (l : List Int) (h : l.length = 16) : (Try.prog.info? 103).map (·.size) = some (valsB l).length := by rw [valsB_length, h]; exact infoState
theorem info_byV (l : List Int) (h : l.length = 16) : (Try.prog.info? 103).map (·.size) = some (byV l).size := by rw [byV_size, h]; exact infoState
theorem size_byV (l l' : List Int) (h : l.length = 16) (h' : l'.length = 16) : (byV l).size = (byV l').size := by rw [byV_size, byV_size, h, h']
theorem one_byV (l : List Int) : (byV l).all (·.oneCell') = true := by simp [byV, Value.oneCell']
theorem wpStill_load_mid {P : Program} {ops : Array Oper} {w : World} {Q : Act → Prop} {rest : List Oper} {o : Oper} {a : Act} (hgd : o.guard = none) (ty : TypeId) (x : Operand) (ho : o.op = .load ty x)
    (b f : Nat) (hx : a.eval x = .pointer (some ⟨b, f, none⟩)) (cs : List Value) (d : TypeDesc) (hc : w.rangeAt b f cs) (hu : P.underlying ty = some d) (hd : d.isRow = true) (hi : (P.info? ty).map (·.size) = some cs.length)
    (h : wpStill P ops w Q rest (a.put o.dst (.agg cs.toArray))) : wpStill P ops w Q (o :: rest) a := by
  unfold wpStill
  rw [if_pos (by simp [Region.wanted, hgd])]
  unfold Oper.still execOp
  simp only [ho, hx, Instr.loadAt, Instr.sureAddr, Sem.run_bind, Sem.run_pure, Result.andThen_ok, run_loadVar_mid w b f ty cs d hc hu hd hi]
  exact ⟨rfl, h⟩
theorem withK_length (s k : List Int) : (withK s k).length = 16 := row16_length _
theorem shiftedS_length (s : List Int) : (shiftedS s).length = 16 := row16_length _
theorem mixedS_length (s : List Int) : (mixedS s).length = 16 := row16_length _
theorem lockT_length (key s : List Int) (n : Nat) : (lockT key s n).length = 16 := by cases n <;> exact row16_length _
theorem byteOk_lockT (key s : List Int) (n : Nat) : byteOk (lockT key s n) = true := by cases n <;> exact byteOk_withK _ _
/-- What a block's walk knows of the world. -/
def LK (w : World) (gl gk : Nat) (key : List Int) (W : World) (x : List Int) : Prop := Blk W w.heap.size 103 (byV x) ∧ Blk W (w.heap.size + 1) 103 (byV z16) ∧ Blk W gl 104 (byV (keysV key)) ∧ Blk W gk 123 (byV boxT) ∧ Below w.heap.size w W
theorem LK.call {w W W' : World} {gl gk : Nat} {key x : List Int} (h : LK w gl gk key W x) (hb : Below W.heap.size W W') : LK w gl gk key W' x :=
  ⟨h.1.below hb h.1.lt, h.2.1.below hb h.2.1.lt, h.2.2.1.below hb h.2.2.1.lt, h.2.2.2.1.below hb h.2.2.2.1.lt, h.2.2.2.2.trans (hb.mono h.2.2.2.2.size)⟩
theorem LK.set {w W : World} {gl gk : Nat} {key x : List Int} (h : LK w gl gk key W x) (hl : gl < w.heap.size) (hk : gk < w.heap.size) (y : List Int) : LK w gl gk key (W.setRow w.heap.size (byV y)) y :=
  ⟨h.1.setRow_ _, h.2.1.farRow (by omega) _, h.2.2.1.farRow (Nat.ne_of_lt hl) _, h.2.2.2.1.farRow (Nat.ne_of_lt hk) _, h.2.2.2.2.trans (Iter.below_setRow _ (Nat.le_refl _))⟩
theorem LK.drew {w W : World} {gl gk : Nat} {key x : List Int} (h : LK w gl gk key W x) : LK w gl gk key W.drew x := ⟨h.1, h.2.1, h.2.2.1, h.2.2.2.1, h.2.2.2.2.drew⟩
set_option maxRecDepth 100000 in
set_option maxHeartbeats 400000 in
theorem aesLocked_calls (gl gk : Nat) (key s : List Int) (w : World) (hkey : key.length = 16) (hs : s.length = 16) (hl : Blk w gl 104 (byV (keysV key))) (hk : Blk w gk 123 (byV boxT)) :
    Calls Try.prog 67 #[.pointer (some ⟨gl, 0, none⟩), .pointer (some ⟨gk, 0, none⟩), .agg (byV s)] w fun e w' => e = .returned (.agg (byV (lockT key s 10))) ∧ Below w.heap.size w w' := by
  have hgk := Lib.hid hk.lt
  have hgl := Lib.hid hl.lt
  have HK := Lib.hid (And.intro hkey (And.intro hs (And.intro hl hk)))
  clear hkey hs hl hk
  go_enter Try.func67, Try.ntmps67
  go_wp2_with fail
  rw [zero16]
  have bs := (Blk.new w 103 (byV s)).alloc (.cells (byV z16) 103)
  have br := Blk.new (w.alloc (.cells (byV s) 103)) 103 (byV z16)
  have bl := (HK.out.2.2.1.alloc (.cells (byV s) 103)).alloc (.cells (byV z16) 103)
  have bk := (HK.out.2.2.2.alloc (.cells (byV s) 103)).alloc (.cells (byV z16) 103)
  have hbl : Below w.heap.size w ((w.alloc (.cells (byV s) 103)).alloc (.cells (byV z16) 103)) := ((Below.refl _ w).alloc (Nat.le_refl _) _).alloc (by simp) _
  simp only [World.size_alloc] at br
  generalize ((w.alloc (.cells (byV s) 103)).alloc (.cells (byV z16) 103)) = W0 at *
  have run1 := (World.rangeAt_drew W0 _ _ _).2 (range_row s bs)
  have run2 := (World.rangeAt_drew W0 _ _ _).2 (by have := range_keys key HK.out.1 0 (by omega) bl; rw [Nat.zero_mul] at this; exact this)
  have hi1 := info_vals s HK.out.2.1
  have hi2 := info_vals key HK.out.1
  have HB : Hid (LK w gl gk key W0 s) := Lib.hid ⟨bs, br, bl, bk, hbl⟩
  clear bs br bl bk hbl
  go_still_tail 5, (by kernel_rfl)
  refine wpStill_load_mid (by rfl) 103 (.tmp 5) (by rfl) w.heap.size 0 (by rfl) _ _ run1 Try.underlying103 rfl hi1 ?_
  repeat still_step
  refine wpStill_load_mid (by rfl) 103 (.tmp 11) (by rfl) gl 0 (by rfl) _ _ run2 Try.underlying103 rfl hi2 ?_
  repeat still_step
  refine wpStill_nil ?_
  have HB2 := Lib.hid (LK.drew HB.out)
  change wpList _ _ _ _ _ W0.drew
  clear HB run1 run2 hi1 hi2
  generalize W0.drew = W1 at *
  clear W0
  go_wp2_with fail
  refine (aesWith_calls s key _ HK.out.2.1 HK.out.1).mono ?_
  rintro e W2 ⟨rfl, hb2⟩
  have HB3 := Lib.hid (LK.call HB2.out hb2)
  clear HB2 hb2
  clear W1
  go_wp2_with (refine wpList_store_row rfl 103 (.tmp 5) (.tmp 13) rfl w.heap.size _ rfl rfl 103 _ HB3.out.1 (info_byV _ (withK_length s key)) (size_byV _ _ HK.out.2.1 (withK_length s key)) (one_byV _) ?_)
  have HB4 : Hid (LK w gl gk key _ (lockT key s 0)) := Lib.hid (LK.set HB3.out hgl.out hgk.out (withK s key))
  clear HB3
  generalize W2.setRow w.heap.size (byV (withK s key)) = W3 at *
  clear W2
  go_loopw [7] (fun vn wr => ∃ t : Nat, t ≤ 10 ∧ vn = .int .i64 ((t + 1 : Nat) : Int) ∧ Hid (LK w gl gk key wr (lockT key s t))) (fun vn _ => 11 - (intOf vn).toNat)
  case atStart => exact ⟨0, by omega, rfl, HB4⟩
  clear HB4
  obtain ⟨t, ht, rfl, HB⟩ := hrel
  obtain ⟨n, hn⟩ : ∃ n, t + 1 = n := ⟨_, rfl⟩
  rw [hn]
  by_cases h10 : n ≤ 10
  rotate_left
  · obtain rfl : n = 11 := by omega
    obtain rfl : t = 10 := by omega
    have hdj : decide (((11 : Nat) : Int) ≤ 10) = false := by decide
    go_wp2_with (first
      | (refine wpList_load_row rfl 103 (.tmp 5) rfl w.heap.size rfl 103 _ (0, 0) _ HB.out.1 Try.underlying103 rfl (info_byV _ (lockT_length key s 10)) ?_)
      | (refine wpList_store_row rfl 103 (.tmp 6) (.tmp 32) rfl (w.heap.size + 1) _ rfl rfl 103 _ HB.out.2.1 (info_byV _ (lockT_length key s 10)) (size_byV _ _ rfl (lockT_length key s 10)) (one_byV _) ?_))
    exact bodyPost_ret (results_cell_row rfl _ _ (w.heap.size + 1) 103 (byV (lockT key s 10)) (0, 0) _ rfl (setRow_heap wr (w.heap.size + 1) _ _ _ _ HB.out.2.1) Try.underlying103 rfl (info_byV _ (lockT_length key s 10))) rfl ⟨rfl, HB.out.2.2.2.2.trans (Iter.below_setRow _ (by omega))⟩
  have n1 : (1 : Int) ≤ (n : Int) := by omega
  have n2 : (n : Int) ≤ 10 := by omega
  have n4 : (0 : Int) ≤ (n : Int) := by omega
  have n5 : (n : Int) < 11 := by omega
  have hn := Lib.hid hn
  have hs0 := lockT_length key s t
  have hs1 := byteOk_lockT key s t
  have H0 := Lib.hid (And.intro hs0 hs1)
  clear hs0 hs1
  by_cases h9 : n < 10
  rotate_left
  · have n3 : decide ((n : Int) < 10) = false := by simp; omega
    have h9' := Lib.hid h9
    clear h9
    go_wp2_with (refine wpList_load_row rfl 103 (.tmp 5) rfl w.heap.size rfl 103 _ (0, 0) _ HB.out.1 Try.underlying103 rfl (info_byV _ H0.out.1) ?_)
    refine (shifted_calls (lockT key s t) gk _ H0.out.1 H0.out.2 HB.out.2.2.2.1).mono ?_
    rintro e W1 ⟨rfl, hb1⟩
    have L1 := Lib.hid (LK.call HB.out hb1)
    have L2 := Lib.hid (LK.set L1.out hgl.out hgk.out (shiftedS (lockT key s t)))
    clear hb1
    go_wp2_with (refine wpList_store_row rfl 103 (.tmp 5) (.tmp 20) rfl w.heap.size _ rfl rfl 103 _ L1.out.1 (info_byV _ (shiftedS_length _)) (size_byV _ _ H0.out.1 (shiftedS_length _)) (one_byV _) ?_)
    clear L1
    generalize W1.setRow w.heap.size (byV (shiftedS (lockT key s t))) = W3 at *
    have run1 := (World.rangeAt_drew W3 _ _ _).2 (range_row _ L2.out.1)
    have run2 := (World.rangeAt_drew W3 _ _ _).2 (range_keys key HK.out.1 n h10 L2.out.2.2.1)
    have hi1 := info_vals (shiftedS (lockT key s t)) (shiftedS_length _)
    have hk1 := keyT_length key HK.out.1 n
    have hi2 := info_vals (keyT key n) hk1
    have hw := Lib.hid (aesWith_calls (shiftedS (lockT key s t)) (keyT key n) W3.drew (shiftedS_length _) hk1)
    have hxl := Lib.hid (shiftedS_length (lockT key s t))
    have he : Hid (withK (shiftedS (lockT key s t)) (keyT key n) = lockT key s n) := Lib.hid (by rw [← hn.out, lockT, if_neg (by have := hn.out; have := h9'.out; omega)])
    have L5 := Lib.hid (LK.drew L2.out)
    clear hk1 L2
    have R1 := Lib.hid run1
    have R2 := Lib.hid run2
    have I1 := Lib.hid hi1
    have I2 := Lib.hid hi2
    clear run1 run2 hi1 hi2
    generalize hX : shiftedS (lockT key s t) = X at *
    generalize hKn : keyT key n = Kn at *
    go_still_tail 6, (by kernel_rfl)
    refine wpStill_load_mid (by rfl) 103 (.tmp 5) (by rfl) w.heap.size 0 (by rfl) _ _ R1.out Try.underlying103 rfl I1.out ?_
    repeat still_step
    refine wpStill_load_mid (by rfl) 103 (.tmp 29) (by rfl) gl (n * 16) (by rfl) _ _ R2.out Try.underlying103 rfl I2.out ?_
    repeat still_step
    refine wpStill_nil ?_
    change wpList _ _ _ _ _ W3.drew
    go_wp2_with fail
    refine hw.out.mono ?_
    rintro e W4 ⟨rfl, hb4⟩
    have L6 := Lib.hid (LK.call L5.out hb4)
    have L7 := Lib.hid (LK.set L6.out hgl.out hgk.out (withK X Kn))
    rw [he.out] at L7
    clear hb4 L5 hw R1 R2
    go_wp2_with (refine wpList_store_row rfl 103 (.tmp 5) (.tmp 31) rfl w.heap.size _ rfl rfl 103 _ L6.out.1 (info_byV _ (withK_length _ _)) (size_byV _ _ hxl.out (withK_length _ _)) (one_byV _) ?_)
    exact ⟨⟨n, by omega, by go_num, by rw [he.out]; exact L7⟩, by simp [intOf]; omega⟩
  have n3 : (n : Int) < 10 := by omega
  go_wp2_with (refine wpList_load_row rfl 103 (.tmp 5) rfl w.heap.size rfl 103 _ (0, 0) _ HB.out.1 Try.underlying103 rfl (info_byV _ H0.out.1) ?_)
  refine (shifted_calls (lockT key s t) gk _ H0.out.1 H0.out.2 HB.out.2.2.2.1).mono ?_
  rintro e W1 ⟨rfl, hb1⟩
  have L1 := Lib.hid (LK.call HB.out hb1)
  have L2 := Lib.hid (LK.set L1.out hgl.out hgk.out (shiftedS (lockT key s t)))
  clear hb1
  go_wp2_with (first | (refine wpList_store_row rfl 103 (.tmp 5) (.tmp 20) rfl w.heap.size _ rfl rfl 103 _ L1.out.1 (info_byV _ (shiftedS_length _)) (size_byV _ _ H0.out.1 (shiftedS_length _)) (one_byV _) ?_) | (refine wpList_load_row rfl 103 (.tmp 5) rfl w.heap.size rfl 103 _ (0, 0) _ L2.out.1 Try.underlying103 rfl (info_byV _ (shiftedS_length _)) ?_))
  refine (aesMixed_calls (shiftedS (lockT key s t)) _ (shiftedS_length _) (byteOk_shiftedS _)).mono ?_
  rintro e W2 ⟨rfl, hb2⟩
  have L3 := Lib.hid (LK.call L2.out hb2)
  have L4 := Lib.hid (LK.set L3.out hgl.out hgk.out (mixedS (shiftedS (lockT key s t))))
  clear hb2 L1 L2
  go_wp2_with (refine wpList_store_row rfl 103 (.tmp 5) (.tmp 24) rfl w.heap.size _ rfl rfl 103 _ L3.out.1 (info_byV _ (mixedS_length _)) (size_byV _ _ (shiftedS_length _) (mixedS_length _)) (one_byV _) ?_)
  clear L3
  generalize W2.setRow w.heap.size (byV (mixedS (shiftedS (lockT key s t)))) = W3 at *
  have run1 := (World.rangeAt_drew W3 _ _ _).2 (range_row _ L4.out.1)
  have run2 := (World.rangeAt_drew W3 _ _ _).2 (range_keys key HK.out.1 n h10 L4.out.2.2.1)
  have hi1 := info_vals (mixedS (shiftedS (lockT key s t))) (mixedS_length _)
  have hk1 := keyT_length key HK.out.1 n
  have hi2 := info_vals (keyT key n) hk1
  have hw := Lib.hid (aesWith_calls (mixedS (shiftedS (lockT key s t))) (keyT key n) W3.drew (mixedS_length _) hk1)
  have hxl := Lib.hid (mixedS_length (shiftedS (lockT key s t)))
  have he : Hid (withK (mixedS (shiftedS (lockT key s t))) (keyT key n) = lockT key s n) := Lib.hid (by rw [← hn.out, lockT, if_pos (by have := hn.out; omega)])
  have L5 := Lib.hid (LK.drew L4.out)
  clear hk1 L4
  have R1 := Lib.hid run1
  have R2 := Lib.hid run2
  have I1 := Lib.hid hi1
  have I2 := Lib.hid hi2
  clear run1 run2 hi1 hi2
  generalize hX : mixedS (shiftedS (lockT key s t)) = X at *
  generalize hKn : keyT key n = Kn at *
  go_still_tail 6, (by kernel_rfl)
  refine wpStill_load_mid (by rfl) 103 (.tmp 5) (by rfl) w.heap.size 0 (by rfl) _ _ R1.out Try.underlying103 rfl I1.out ?_
  repeat still_step
  refine wpStill_load_mid (by rfl) 103 (.tmp 29) (by rfl) gl (n * 16) (by rfl) _ _ R2.out Try.underlying103 rfl I2.out ?_
  repeat still_step
  refine wpStill_nil ?_
  change wpList _ _ _ _ _ W3.drew
  go_wp2_with fail
  refine hw.out.mono ?_
  rintro e W4 ⟨rfl, hb4⟩
  have L6 := Lib.hid (LK.call L5.out hb4)
  have L7 := Lib.hid (LK.set L6.out hgl.out hgk.out (withK X Kn))
  rw [he.out] at L7
  clear hb4 L5 hw R1 R2
  go_wp2_with (refine wpList_store_row rfl 103 (.tmp 5) (.tmp 31) rfl w.heap.size _ rfl rfl 103 _ L6.out.1 (info_byV _ (withK_length _ _)) (size_byV _ _ hxl.out (withK_length _ _)) (one_byV _) ?_)
  exact ⟨⟨n, by omega, by go_num, by rw [he.out]; exact L7⟩, by simp [intOf]; omega⟩
end Go.Proofs.Ytifpdpfjhjoieaa

/-! AesS -/
namespace Go.Proofs.Ytifpdpfjhjoieaa
set_option linter.unusedVariables false
set_option linter.unusedSimpArgs false
open Go.RowKit Go.Proofs.YtifpdpfjhjoieaaW.PrintWords Go.Proofs.YtifpdpfjhjoieaaW.PrintLast
theorem rd_nat (l : List Int) (i : Nat) : rd l (i : Int) = l.getD i 0 := by unfold rd; rw [Int.toNat_natCast]
theorem we1 (c r : Nat) (hc : c < 4) (hr : r < 4) : wrap64 ((wrap64 (4 * (Int.tmod (wrap64 ((c : Int) + (r : Int))) 4))) + (r : Int)) = ((4 * ((c + r) % 4) + r : Nat) : Int) := by
  rw [show wrap64 ((c : Int) + (r : Int)) = ((c + r : Nat) : Int) from by unfold wrap64; omega, tmod4]
  obtain ⟨q, hq⟩ : ∃ q, (c + r) % 4 = q := ⟨_, rfl⟩
  have : q < 4 := by omega
  rw [hq]
  clear hq
  unfold wrap64
  omega
theorem we2 (c r : Nat) (hc : c < 4) (hr : r < 4) : wrap64 ((wrap64 (4 * (c : Int))) + (r : Int)) = ((4 * c + r : Nat) : Int) := by unfold wrap64; omega
theorem we3 (c r q : Nat) (hc : c < 4) (hr : r < 4) (hq : q < 4) : wrap64 ((wrap64 (4 * (c : Int))) + (Int.tmod (wrap64 ((r : Int) + (q : Int))) 4)) = ((4 * c + (r + q) % 4 : Nat) : Int) := by
  rw [show wrap64 ((r : Int) + (q : Int)) = ((r + q : Nat) : Int) from by unfold wrap64; omega, tmod4]
  exact we2 c _ hc (by omega)
theorem we6 (m i : Nat) (hm : m ≤ 10) (hi : i < 16) : wrap64 ((wrap64 (16 * (m : Int))) + (i : Int)) = ((16 * m + i : Nat) : Int) := by unfold wrap64; omega
theorem rd_keysV (key : List Int) (m : Nat) (h : m < 176) : rd (keysV key) (m : Int) = keyF key m := rd_upTo (keyF key) 176 m h
theorem row16_congr (f g : Nat → Int) (h : ∀ i, i < 16 → f i = g i) : row16 f = row16 g := by
  unfold row16
  exact List.map_congr_left fun i hi => h i (List.mem_range.1 hi)
theorem rowTo_0 (l : List Int) (h : l.length = 16) (f : Nat → Int) : rowTo 16 f (fun i => l.getD i 0) 0 = l := by
  have := rowTo_zero l f
  rwa [h] at this
def shF (s : List Int) (i : Nat) : Int := bx (s.getD ((i + 4 * (i % 4)) % 16) 0)
def wF (key u : List Int) (m i : Nat) : Int := xr (u.getD i 0) (keyF key (16 * m + i))
theorem wF_full (key u : List Int) (m : Nat) : row16 (wF key u m) = withK u (keyT key m) := row16_congr _ _ fun i hi => by
  unfold wF
  rw [keyF_at _ _ _ hi]
section
attribute [local irreducible] rconT m2 m3 xr bx keyF
variable (key : List Int)
theorem rlock_l6 (s u : List Int) (hs : s.length = 16) (hu : u.length = 16) (m : Nat) (hm1 : 1 ≤ m) (hm : m ≤ 10) (r : List Int) (H : EvS (fun k => C.pyxref05_lock.l1 k (keysV key) boxT (withK u (keyT key m)) ((m + 1 : Nat) : Int)) r) :
    ∀ (d i : Nat), i + d = 16 → EvS (fun k => C.pyxref05_lock.l6 k (keysV key) boxT (rowTo 16 (wF key u m) (fun i => s.getD i 0) i) (m : Int) u (i : Int)) r
  | 0, i, h => by
    obtain rfl : i = 16 := by omega
    refine EvS.step (h := fun k => C.pyxref05_lock.l1 k (keysV key) boxT (withK u (keyT key m)) ((m + 1 : Nat) : Int)) (fun k => ?_) H
    rw [C.pyxref05_lock.l6, if_neg (by omega), rowTo_full, wF_full, wd4 m (by omega)]
  | d + 1, i, h => by
    have g1 : ((i : Int)) < ((16 : Nat) : Int) := by omega
    have g2 : ((16 * m + i : Nat) : Int) < ((176 : Nat) : Int) := by omega
    refine EvS.step (h := fun k => C.pyxref05_lock.l6 k (keysV key) boxT (rowTo 16 (wF key u m) (fun i => s.getD i 0) (i + 1)) (m : Int) u ((i + 1 : Nat) : Int)) (fun k => ?_) (rlock_l6 s u hs hu m hm1 hm r H d (i + 1) (by omega))
    rw [C.pyxref05_lock.l6, if_pos (by omega), if_pos (by omega), hu, if_pos g1, we6 m i hm (by omega), if_pos (by omega), keysV_length, if_pos g2, rowTo_length, if_pos g1, rd_nat, rd_keysV _ _ (by omega), xr_bits, wd4 i (by omega), Int.toNat_natCast]
    rw [show xr (u.getD i 0) (keyF key (16 * m + i)) = wF key u m i from rfl, rowTo_set]
theorem rlock_l5s (s t : List Int) (ht : t.length = 16) (hto : byteOk t = true) (m : Nat) (c : Nat) (hc : c < 4) (r : List Int) (j : Nat) (hj : j < 4)
    (ih : EvS (fun k => C.pyxref05_lock.l5 k (keysV key) boxT s (m : Int) t (rowTo 16 (mixF t) (fun i => t.getD i 0) (4 * c + (j + 1))) (c : Int) ((j + 1 : Nat) : Int)) r) :
    EvS (fun k => C.pyxref05_lock.l5 k (keysV key) boxT s (m : Int) t (rowTo 16 (mixF t) (fun i => t.getD i 0) (4 * c + j)) (c : Int) (j : Int)) r := by
  have g1 : ((4 * c + j : Nat) : Int) < ((16 : Nat) : Int) := by omega
  have g2 : ((4 * c + (j + 1) % 4 : Nat) : Int) < ((16 : Nat) : Int) := by omega
  have g3 : ((4 * c + (j + 2) % 4 : Nat) : Int) < ((16 : Nat) : Int) := by omega
  have g4 : ((4 * c + (j + 3) % 4 : Nat) : Int) < ((16 : Nat) : Int) := by omega
  have n1 : (0 : Int) ≤ ((4 * c + j : Nat) : Int) := by omega
  have n2 : (0 : Int) ≤ ((4 * c + (j + 1) % 4 : Nat) : Int) := by omega
  have n3 : (0 : Int) ≤ ((4 * c + (j + 2) % 4 : Nat) : Int) := by omega
  have n4 : (0 : Int) ≤ ((4 * c + (j + 3) % 4 : Nat) : Int) := by omega
  have e : mixF t (4 * c + j) = xr (xr (xr (m2 (t.getD (4 * c + j) 0)) (m3 (t.getD (4 * c + (j + 1) % 4) 0))) (t.getD (4 * c + (j + 2) % 4) 0)) (t.getD (4 * c + (j + 3) % 4) 0) := by
    unfold mixF
    rw [show (4 * c + j) / 4 * 4 + (4 * c + j) % 4 = 4 * c + j from by omega, show (4 * c + j) / 4 * 4 + (4 * c + j + 1) % 4 = 4 * c + (j + 1) % 4 from by omega, show (4 * c + j) / 4 * 4 + (4 * c + j + 2) % 4 = 4 * c + (j + 2) % 4 from by omega, show (4 * c + j) / 4 * 4 + (4 * c + j + 3) % 4 = 4 * c + (j + 3) % 4 from by omega]
  obtain ⟨b0, b1⟩ := byte_getD t hto (4 * c + j)
  obtain ⟨b2, b3⟩ := byte_getD t hto (4 * c + (j + 1) % 4)
  have j4 : (j : Int) < 4 := by omega
  have j5 : j < 1000000 := by omega
  have q0 := we2 c j hc hj
  have q1 := we3 c j 1 hc hj (by decide)
  have q2 := we3 c j 2 hc hj (by decide)
  have q3 := we3 c j 3 hc hj (by decide)
  have q4 := wd4 j j5
  simp only [show ((1 : Nat) : Int) = 1 from rfl, show ((2 : Nat) : Int) = 2 from rfl, show ((3 : Nat) : Int) = 3 from rfl] at q1 q2 q3
  rw [q4] at q1
  refine EvS.step (h := fun k => (C.pyxref05_Mul.f k (t.getD (4 * c + j) 0) 2).bind fun t163 => (C.pyxref05_Mul.f k (t.getD (4 * c + (j + 1) % 4) 0) 3).bind fun t165 => C.pyxref05_lock.l5 k (keysV key) boxT s (m : Int) t ((rowTo 16 (mixF t) (fun i => t.getD i 0) (4 * c + j)).set (4 * c + j) (xr (xr (xr t163 t165) (t.getD (4 * c + (j + 2) % 4) 0)) (t.getD (4 * c + (j + 3) % 4) 0))) (c : Int) ((j + 1 : Nat) : Int)) (fun k => ?_) (EvS.bind_ (rmul2 _ b0 b1) (EvS.bind_ (rmul3 _ b2 b3) ?_))
  · rw [C.pyxref05_lock.l5, if_pos j4]
    simp only [q0, q1, q2, q3, q4, ht, rowTo_length, if_pos g1, if_pos g2, if_pos g3, if_pos g4, if_pos n1, if_pos n2, if_pos n3, if_pos n4, rd_nat, xr_bits, Int.toNat_natCast]
  · rw [← e, rowTo_set]
    exact ih
theorem rlock_l5 (s t : List Int) (ht : t.length = 16) (hto : byteOk t = true) (m : Nat) (c : Nat) (hc : c < 4) (r : List Int) (H : EvS (fun k => C.pyxref05_lock.l4 k (keysV key) boxT s (m : Int) t (rowTo 16 (mixF t) (fun i => t.getD i 0) (4 * (c + 1))) ((c + 1 : Nat) : Int)) r) :
    ∀ (d j : Nat), j + d = 4 → EvS (fun k => C.pyxref05_lock.l5 k (keysV key) boxT s (m : Int) t (rowTo 16 (mixF t) (fun i => t.getD i 0) (4 * c + j)) (c : Int) (j : Int)) r
  | 0, j, h => by
    obtain rfl : j = 4 := by omega
    refine EvS.step (h := fun k => C.pyxref05_lock.l4 k (keysV key) boxT s (m : Int) t (rowTo 16 (mixF t) (fun i => t.getD i 0) (4 * (c + 1))) ((c + 1 : Nat) : Int)) (fun k => ?_) H
    rw [C.pyxref05_lock.l5, if_neg (by omega), wd4 c (by omega), show 4 * c + 4 = 4 * (c + 1) from by omega]
  | d + 1, j, h => rlock_l5s key s t ht hto m c hc r j (by omega) (rlock_l5 s t ht hto m c hc r H d (j + 1) (by omega))
theorem rlock_l4 (s t : List Int) (ht : t.length = 16) (hto : byteOk t = true) (m : Nat) (hm : m < 10) (r : List Int) (H : EvS (fun k => C.pyxref05_lock.l6 k (keysV key) boxT s (m : Int) (mixedS t) 0) r) :
    ∀ (d c : Nat), c + d = 4 → EvS (fun k => C.pyxref05_lock.l4 k (keysV key) boxT s (m : Int) t (rowTo 16 (mixF t) (fun i => t.getD i 0) (4 * c)) (c : Int)) r
  | 0, c, h => by
    obtain rfl : c = 4 := by omega
    refine EvS.step (h := fun k => C.pyxref05_lock.j5 k (keysV key) boxT s (m : Int) t (mixedS t) ((4 : Nat) : Int) false) (fun k => ?_) (EvS.step (h := fun k => C.pyxref05_lock.l6 k (keysV key) boxT s (m : Int) (mixedS t) 0) (fun k => ?_) H)
    · rw [C.pyxref05_lock.l4, if_neg (by omega), rowTo_full]
      rfl
    · rw [C.pyxref05_lock.j5, if_neg (by simp)]
  | d + 1, c, h => by
    refine EvS.step (h := fun k => C.pyxref05_lock.j5 k (keysV key) boxT s (m : Int) t (rowTo 16 (mixF t) (fun i => t.getD i 0) (4 * c)) (c : Int) true) (fun k => ?_) (EvS.step (h := fun k => C.pyxref05_lock.l5 k (keysV key) boxT s (m : Int) t (rowTo 16 (mixF t) (fun i => t.getD i 0) (4 * c + 0)) (c : Int) ((0 : Nat) : Int)) (fun k => ?_) (rlock_l5 key s t ht hto m c (by omega) r (rlock_l4 s t ht hto m hm r H d (c + 1) (by omega)) 4 0 (by omega)))
    · rw [C.pyxref05_lock.l4, if_pos (by omega), show decide ((m : Int) < 10) = true from by simp; omega]
    · rw [C.pyxref05_lock.j5, if_pos rfl]
      rfl
theorem rlock_l3 (s : List Int) (hs : s.length = 16) (hso : byteOk s = true) (m : Nat) (c : Nat) (hc : c < 4) (r : List Int) (H : EvS (fun k => C.pyxref05_lock.l2 k (keysV key) boxT s (m : Int) (rowTo 16 (shF s) (fun _ => 0) (4 * (c + 1))) ((c + 1 : Nat) : Int)) r) :
    ∀ (d j : Nat), j + d = 4 → EvS (fun k => C.pyxref05_lock.l3 k (keysV key) boxT s (m : Int) (rowTo 16 (shF s) (fun _ => 0) (4 * c + j)) (c : Int) (j : Int)) r
  | 0, j, h => by
    obtain rfl : j = 4 := by omega
    refine EvS.step (h := fun k => C.pyxref05_lock.l2 k (keysV key) boxT s (m : Int) (rowTo 16 (shF s) (fun _ => 0) (4 * (c + 1))) ((c + 1 : Nat) : Int)) (fun k => ?_) H
    rw [C.pyxref05_lock.l3, if_neg (by omega), wd4 c (by omega), show 4 * c + 4 = 4 * (c + 1) from by omega]
  | d + 1, j, h => by
    have hj : j < 4 := by omega
    have g1 : ((4 * ((c + j) % 4) + j : Nat) : Int) < ((16 : Nat) : Int) := by omega
    have g2 : ((4 * c + j : Nat) : Int) < ((16 : Nat) : Int) := by omega
    have n1 : (0 : Int) ≤ ((4 * ((c + j) % 4) + j : Nat) : Int) := by omega
    have n2 : (0 : Int) ≤ ((4 * c + j : Nat) : Int) := by omega
    obtain ⟨b0, b1⟩ := byte_getD s hso (4 * ((c + j) % 4) + j)
    have e : shF s (4 * c + j) = bx (s.getD (4 * ((c + j) % 4) + j) 0) := by
      unfold shF
      rw [show (4 * c + j + 4 * ((4 * c + j) % 4)) % 16 = 4 * ((c + j) % 4) + j from by omega]
    refine EvS.step (h := fun k => C.pyxref05_lock.l3 k (keysV key) boxT s (m : Int) (rowTo 16 (shF s) (fun _ => 0) (4 * c + (j + 1))) (c : Int) ((j + 1 : Nat) : Int)) (fun k => ?_) (rlock_l3 s hs hso m c hc r H d (j + 1) (by omega))
    rw [C.pyxref05_lock.l3, if_pos (by omega), we1 c j hc hj, if_pos n1, hs, if_pos g1, rd_nat, wrap_byte _ b0 b1, if_pos b0, boxT_length, if_pos (show s.getD (4 * ((c + j) % 4) + j) 0 < ((256 : Nat) : Int) from b1), we2 c j hc hj, if_pos n2, rowTo_length, if_pos g2, rd_box _ b0 b1, wd4 j (by omega), Int.toNat_natCast, ← e, rowTo_set]
    rfl
theorem rlock_l2 (s : List Int) (hs : s.length = 16) (hso : byteOk s = true) (m : Nat) (r : List Int) (H : EvS (fun k => C.pyxref05_lock.l4 k (keysV key) boxT s (m : Int) (shiftedS s) (shiftedS s) 0) r) :
    ∀ (d c : Nat), c + d = 4 → EvS (fun k => C.pyxref05_lock.l2 k (keysV key) boxT s (m : Int) (rowTo 16 (shF s) (fun _ => 0) (4 * c)) (c : Int)) r
  | 0, c, h => by
    obtain rfl : c = 4 := by omega
    refine EvS.step (h := fun k => C.pyxref05_lock.l4 k (keysV key) boxT s (m : Int) (shiftedS s) (shiftedS s) 0) (fun k => ?_) H
    rw [C.pyxref05_lock.l2, if_neg (by omega), Option.bind_some, rowTo_length, if_pos (by simp), rowTo_full, List.nil_append]
    rfl
  | d + 1, c, h => by
    refine EvS.step (h := fun k => C.pyxref05_lock.l3 k (keysV key) boxT s (m : Int) (rowTo 16 (shF s) (fun _ => 0) (4 * c + 0)) (c : Int) ((0 : Nat) : Int)) (fun k => ?_) (rlock_l3 key s hs hso m c (by omega) r (rlock_l2 s hs hso m r H d (c + 1) (by omega)) 4 0 (by omega))
    rw [C.pyxref05_lock.l2, if_pos (by omega)]
    rfl
theorem rlock_l1 (b : List Int) : ∀ (d n : Nat), n + d = 10 → EvS (fun k => C.pyxref05_lock.l1 k (keysV key) boxT (lockT key b n) ((n + 1 : Nat) : Int)) (lockT key b 10)
  | 0, n, h => EvS.now fun k => by
    obtain rfl : n = 10 := by omega
    rw [C.pyxref05_lock.l1, if_neg (by omega)]
  | d + 1, n, h => by
    have ih := rlock_l1 b d (n + 1) (by omega)
    have hs := lockT_length key b n
    have hso := byteOk_lockT key b n
    refine EvS.step (h := fun k => C.pyxref05_lock.l2 k (keysV key) boxT (lockT key b n) ((n + 1 : Nat) : Int) (rowTo 16 (shF (lockT key b n)) (fun _ => 0) (4 * 0)) ((0 : Nat) : Int)) (fun k => ?_) (rlock_l2 key (lockT key b n) hs hso (n + 1) _ ?_ 4 0 (by omega))
    · rw [C.pyxref05_lock.l1, if_pos (by omega), if_pos (by omega)]
      rfl
    · generalize hX : lockT key b n = X at *
      by_cases h10 : n + 1 < 10
      · have h2 := rlock_l4 key X (shiftedS X) (shiftedS_length X) (byteOk_shiftedS X) (n + 1) h10 (lockT key b 10) ?_ 4 0 (by omega)
        · rw [Nat.mul_zero, rowTo_0 _ (shiftedS_length X)] at h2
          exact h2
        · have h3 := rlock_l6 key X (mixedS (shiftedS X)) hs (mixedS_length _) (n + 1) (by omega) (by omega) (lockT key b 10) ?_ 16 0 (by omega)
          · rw [rowTo_0 _ hs] at h3
            exact h3
          · rw [show withK (mixedS (shiftedS X)) (keyT key (n + 1)) = lockT key b (n + 1) from by rw [lockT, if_pos h10, hX]]
            exact ih
      · refine EvS.step (h := fun k => C.pyxref05_lock.j5 k (keysV key) boxT X ((n + 1 : Nat) : Int) (shiftedS X) (shiftedS X) 0 false) (fun k => ?_) (EvS.step (h := fun k => C.pyxref05_lock.l6 k (keysV key) boxT X ((n + 1 : Nat) : Int) (shiftedS X) 0) (fun k => ?_) ?_)
        · rw [C.pyxref05_lock.l4, if_pos (by omega), show decide (((n + 1 : Nat) : Int) < 10) = false from by simp; omega]
        · rw [C.pyxref05_lock.j5, if_neg (by simp)]
        · have h3 := rlock_l6 key X (shiftedS X) hs (shiftedS_length _) (n + 1) (by omega) (by omega) (lockT key b 10) ?_ 16 0 (by omega)
          · rw [rowTo_0 _ hs] at h3
            exact h3
          · rw [show withK (shiftedS X) (keyT key (n + 1)) = lockT key b (n + 1) from by rw [lockT, if_neg h10, hX]]
            exact ih
theorem rlock_l0 (b : List Int) (hb : b.length = 16) : ∀ (d i : Nat), i + d = 16 → EvS (fun k => C.pyxref05_lock.l0 k (keysV key) boxT b (rowTo 16 (wF key b 0) (fun _ => 0) i) (i : Int)) (lockT key b 10)
  | 0, i, h => by
    obtain rfl : i = 16 := by omega
    refine EvS.step (h := fun k => C.pyxref05_lock.l1 k (keysV key) boxT (lockT key b 0) ((0 + 1 : Nat) : Int)) (fun k => ?_) (rlock_l1 key b 10 0 (by omega))
    rw [C.pyxref05_lock.l0, if_neg (by omega), rowTo_full, wF_full]
    rfl
  | d + 1, i, h => by
    have g1 : ((i : Int)) < ((16 : Nat) : Int) := by omega
    have g2 : ((i : Int)) < ((176 : Nat) : Int) := by omega
    have e : wF key b 0 i = xr (b.getD i 0) (keyF key i) := by
      unfold wF
      rw [Nat.mul_zero, Nat.zero_add]
    refine EvS.step (h := fun k => C.pyxref05_lock.l0 k (keysV key) boxT b (rowTo 16 (wF key b 0) (fun _ => 0) (i + 1)) ((i + 1 : Nat) : Int)) (fun k => ?_) (rlock_l0 b hb d (i + 1) (by omega))
    rw [C.pyxref05_lock.l0, if_pos (by omega), if_pos (by omega), hb, if_pos g1, keysV_length, if_pos g2, rowTo_length, if_pos g1, rd_nat, rd_keysV _ _ (by omega), xr_bits, wd4 i (by omega), Int.toNat_natCast, ← e, rowTo_set]
theorem rlock (b : List Int) (hb : b.length = 16) : EvS (fun k => C.pyxref05_lock.f k (keysV key) boxT b) (lockT key b 10) := by
  have h := rlock_l0 key b hb 16 0 (by omega)
  refine EvS.congr (fun k => ?_) h
  unfold C.pyxref05_lock.f
  rw [if_pos (by omega)]
  rfl
end
end Go.Proofs.Ytifpdpfjhjoieaa

/-! AesD -/
namespace Go.Proofs.Ytifpdpfjhjoieaa
set_option linter.unusedVariables false
set_option linter.unusedSimpArgs false
open Go.RowKit Go.Shelf Iter
attribute [local go_sem] Oper.semAt_some
def z256 : List Int := List.replicate 256 0
set_option maxRecDepth 100000 in
theorem zero256 : Try.zeroCells123 = byV z256 := by kernel_rfl
theorem rowBox : rowTo 256 (fun i => bx (i : Int)) (fun _ => 0) 256 = boxT := by decide +kernel
theorem rowBox0 : rowTo 256 (fun i => bx (i : Int)) (fun _ => 0) 0 = z256 := by decide +kernel
set_option maxRecDepth 100000 in
set_option maxHeartbeats 1000000 in
theorem boxes_calls (w : World) :
    Calls Try.prog 65 #[] w fun e w' => e = .returned (.pointer (some ⟨w.heap.size, 0, none⟩)) ∧ Blk w' w.heap.size 123 (byV boxT) ∧ Below w.heap.size w w' := by
  go_enter Try.func65, Try.ntmps65
  go_wp2_with fail
  rw [zero256]
  have bo := Blk.new w 123 (byV z256)
  have hbl : Below w.heap.size w (w.alloc (.cells (byV z256) 123)) := (Below.refl _ w).alloc (Nat.le_refl _) _
  generalize (w.alloc (.cells (byV z256) 123)) = W0 at bo hbl ⊢
  go_loopw [3] (fun i wr => ∃ t : Nat, t ≤ 256 ∧ i = .int .i64 t ∧ Blk wr w.heap.size 123 (byV (rowTo 256 (fun i => bx (i : Int)) (fun _ => 0) t)) ∧ Below w.heap.size w wr) (fun i _ => 256 - (intOf i).toNat)
  case atStart => exact ⟨0, by omega, rfl, by rw [rowBox0]; exact bo, hbl⟩
  clear bo hbl
  obtain ⟨j, hj, rfl, bo, hbl⟩ := hrel
  by_cases h16 : j < 256
  rotate_left
  · obtain rfl : j = 256 := by omega
    have hdj : decide (((256 : Nat) : Int) < 256) = false := by decide
    rw [rowBox] at bo
    go_wp2
    go_ret
    exact ⟨rfl, bo, hbl⟩
  have j0 : (0 : Int) ≤ (j : Int) := by omega
  have j1 : (j : Int) < 256 := by omega
  have c0 : IntKind.u8.wrap (j : Int) = (j : Int) := by rw [IntKind.wrap_u8']; omega
  go_wp2_with fail
  refine (A.aes_Box.calls 40 _ _ _ (aes_box _ j0 j1)).mono ?_
  rintro e w' ⟨rfl, hd⟩
  obtain ⟨n, rfl⟩ := hd.out
  have bo1 : Blk (wr.drewN n) w.heap.size 123 (byV (rowTo 256 (fun i => bx (i : Int)) (fun _ => 0) j)) := bo
  have hbl1 := Go.Proofs.YtifpdpfjhjoieaaW.PrintWords.pw_below_drewN hbl n
  clear bo hbl
  generalize wr.drewN n = Wd at bo1 hbl1 ⊢
  have fx := bo1.frozen j
  have gx : Wd.cell? ⟨w.heap.size, j, none⟩ = some (.int .u8 0) := by
    refine (bo1.cell j).trans ?_
    rw [byV_at _ _ (by rw [rowTo_length]; exact h16), rowTo_at _ _ _ _ _ h16, if_neg (by omega)]
  have hset := bo1.set_ j (.int .u8 (bx (j : Int)))
  rw [byV_set, rowTo_set 256 (fun i => bx (i : Int)) (fun _ => 0) j] at hset
  have hb2 := hbl1.setCell (p := ⟨w.heap.size, j, none⟩) (Nat.le_refl _) (.int .u8 (bx (j : Int)))
  have HF := Lib.hid (And.intro hset hb2)
  clear hset hb2 bo1 hbl1
  generalize bx (j : Int) = y at HF ⊢
  go_wp2
  exact ⟨⟨j + 1, by omega, by go_num, HF.out.1, HF.out.2⟩, by simp [intOf]; omega⟩
end Go.Proofs.Ytifpdpfjhjoieaa

/-! AesH -/
namespace Go.Proofs.Ytifpdpfjhjoieaa
set_option linter.unusedVariables false
set_option linter.unusedSimpArgs false
open Go.RowKit Go.Shelf Iter Go.Proofs.YtifpdpfjhjoieaaW.PrintWords Go.Proofs.YtifpdpfjhjoieaaW.PrintLast
attribute [local go_sem] Oper.semAt_some
theorem madeB_eq (n : Nat) : madeCells (Value.int IntKind.u8 0).cells (n * 1) = byV (List.replicate n 0) := by
  apply Array.ext
  · simp [madeCells, byV]
  · intro i h1 h2
    simp [madeCells, byV, Value.cells, Nat.mod_one]
theorem madeB (L : Nat) (hL : L ≤ 140737488355328) (W : World) : (Instr.makeSlice 22 (.int .i64 (L : Int)) (.int .i64 (L : Int))).run Try.prog W = .ok (.slice (some ⟨W.heap.size, 0, none⟩) L L) (W.alloc (.cells (byV (List.replicate L 0)) 5)) := by
  obtain ⟨i, hi, hz⟩ := Option.map_eq_some_iff.1 (show (Try.prog.info? 5).map (fun i => (i.zero, i.size, i.bytes)) = some (some (.int .u8 0), 1, 1) by kernel_rfl)
  simp only [Prod.mk.injEq] at hz
  obtain ⟨h0, h1, h2⟩ := hz
  have h := run_make (P := Try.prog) (w := W) 22 5 i (.int .u8 0) Try.underlying22 hi h0 .i64 .i64 (L : Int) (L : Int) (by omega) (by omega) (by rw [h2]; omega) (by omega)
  rw [h1, Int.toNat_natCast, madeB_eq] at h
  exact h
theorem own_of_blk {w : World} {base g n : Nat} {e : TypeId} (l : List Int) (h : Blk w g e (byV l)) (hb : base ≤ g) (hn : l.length = n) (hm : n ≤ maxLen) : Kd.R (Kd.int .u8) e w base (fun _ => True) (.slice (some ⟨g, 0, none⟩) n n) l := by
  subst hn
  refine Kd.R_of_own (enc := Value.int .u8) (h1 := fun _ => rfl) ⟨by simp [encs], .inr ⟨g, l.length, byV l, rfl, hb, h, Nat.le_refl _, hm, by simp [byV_size], ?_⟩⟩ (fun _ _ => trivial)
  rw [List.take_of_length_le (by simp [byV])]
  rfl
/-- Bytes laid over others. -/
def over (cur : List Int) (off : Nat) (cs : List Int) : List Int := cur.take off ++ (cs ++ cur.drop (off + cs.length))
theorem over_length (cur cs : List Int) (off : Nat) (h : off + cs.length ≤ cur.length) : (over cur off cs).length = cur.length := by unfold over; simp; omega
theorem over_two (nonce num : List Int) (h1 : nonce.length = 12) (h2 : num.length = 4) : over (over z16 0 nonce) 12 num = nonce ++ num := by
  unfold over
  rw [List.take_zero, List.nil_append, h1, h2, List.take_left' h1]
  rw [List.drop_append, h1, List.drop_eq_nil_of_le (by rw [h1]; decide)]
  show nonce ++ (num ++ ([] ++ _)) = _
  have e : (z16.drop (0 + 12)).drop (12 + 4 - 12) = [] := by decide
  rw [e]
  simp
theorem wpList_copy_bytes {P : Program} {w : World} {ops : Array Oper} {rest : List Oper} {o : Oper} {a : Act} {Q : Exit → Act → World → Prop} (hgd : o.guard = none) (d s : Operand) (dT sT : TypeId)
    (ho : o.op = .call { callee := .builtin .copy, args := #[d, s], argTypes := #[dT, sT] }) (elem : TypeId) (hu : P.underlying dT = some (.slice elem)) (hsz : (P.info? elem).map (·.size) = some 1)
    (g off dLen dCap : Nat) (ad : Addr) (sLen sCap : Nat) (hd : a.eval d = .slice (some ⟨g, off, none⟩) dLen dCap) (hs : a.eval s = .slice (some ad) sLen sCap)
    (cur : List Int) (t : TypeId) (hg : Blk w g t (byV cur)) (cs : List Int) (hn : cs.length = Nat.min sLen dLen)
    (hsrc : ∀ j, j < cs.length → w.cell? (ad.add j) = some (.int .u8 (cs.getD j 0))) (hfit : off + cs.length ≤ cur.length)
    (h : wpList P ops Q rest (a.put o.dst (goInt cs.length)) (w.setRow g (byV (over cur off cs)))) : wpList P ops Q (o :: rest) a w := by
  refine wpList_copy_own hgd d s dT sT ho elem hu hsz g off dLen dCap ad sLen sCap hd hs (byV cur) t hg (valsB cs) (by rw [valsB_length, hn]) (fun j v hj => ?_) (by rw [valsB_length, byV_size]; exact hfit) (valsB_one cs) ?_
  · obtain ⟨hj', rfl⟩ := valsB_at cs j v hj
    exact hsrc j hj'
  · rw [valsB_length]
    have e : ((byV cur).toList.take off ++ (valsB cs ++ (byV cur).toList.drop (off + cs.length))).toArray = byV (over cur off cs) := by
      unfold over byV valsB
      simp
    rw [e]
    exact h
theorem i64_sub (a b c : Nat) (hle : b ≤ a) (h : a - b = c) (hc : a < 1000000) : IntKind.i64.wrap ((a : Int) - (b : Int)) = (c : Int) := by rw [IntKind.wrap_i64]; omega
theorem cell_farRow (W : World) (g : Nat) (cs : Array Value) (k j : Nat) (h : k ≠ g) : (W.setRow g cs).cell? ⟨k, j, none⟩ = W.cell? ⟨k, j, none⟩ := World.cell?_of_block (setRow_other W g k cs h)
/-- What a stream's walk knows of the world. -/
def SB (w : World) (gl gout : Nat) (key out : List Int) (W : World) : Prop := Blk W w.heap.size 123 (byV boxT) ∧ Blk W gl 104 (byV (keysV key)) ∧ Blk W gout 5 (byV out) ∧ Below w.heap.size w W
theorem SB.call {w W W' : World} {gl gout : Nat} {key out : List Int} (h : SB w gl gout key out W) (hb : Below W.heap.size W W') : SB w gl gout key out W' :=
  ⟨h.1.below hb h.1.lt, h.2.1.below hb h.2.1.lt, h.2.2.1.below hb h.2.2.1.lt, h.2.2.2.trans (hb.mono h.2.2.2.size)⟩
theorem SB.alloc {w W : World} {gl gout : Nat} {key out : List Int} (h : SB w gl gout key out W) (o : Obj) : SB w gl gout key out (W.alloc o) := h.call ((Below.refl _ _).alloc (Nat.le_refl _) _)
theorem SB.row {w W : World} {gl gout : Nat} {key out : List Int} (h : SB w gl gout key out W) (g : Nat) (cs : Array Value) (h0 : w.heap.size < g) (h1 : gl ≠ g) (h2 : gout ≠ g) : SB w gl gout key out (W.setRow g cs) :=
  ⟨h.1.farRow (by omega) _, h.2.1.farRow h1 _, h.2.2.1.farRow h2 _, h.2.2.2.trans (Iter.below_setRow _ (by omega))⟩
theorem SB.drew {w W : World} {gl gout : Nat} {key out : List Int} (h : SB w gl gout key out W) : SB w gl gout key out W.drew := ⟨h.1, h.2.1, h.2.2.1, h.2.2.2.drew⟩
theorem SB.set {w W : World} {gl gout : Nat} {key out : List Int} (h : SB w gl gout key out W) (h0 : w.heap.size < gout) (h1 : gl ≠ gout) (i : Nat) (x : Int) : SB w gl gout key (out.set i x) (W.setCell ⟨gout, i, none⟩ (.int .u8 x)) :=
  ⟨h.1.far (by simp; omega) _, h.2.1.far (by simpa using h1) _, by have := h.2.2.1.set_ i (.int .u8 x); rwa [byV_set] at this, h.2.2.2.setCell (by simp; omega) _⟩
def strF (key nonce b : List Int) (i : Nat) : Int := xr (b.getD i 0) ((lockT key (nonce ++ numB (i / 16 + 1) 4) 10).getD (i % 16) 0)
theorem str_full (key nonce b : List Int) (g : Nat → Int) : rowTo b.length (strF key nonce b) g b.length = streamOf key nonce b := by
  unfold rowTo streamOf
  apply List.map_congr_left
  intro i hi
  rw [if_pos (List.mem_range.1 hi)]
  rfl
theorem str_none (n : Nat) (f : Nat → Int) : rowTo n f (fun _ => 0) 0 = List.replicate n 0 := by
  unfold rowTo
  apply List.ext_getElem?
  intro i
  rw [List.getElem?_map, List.getElem?_replicate]
  by_cases h : i < n
  · rw [if_pos h, List.getElem?_range h]
    simp
  · rw [if_neg h, List.getElem?_eq_none (by simp; omega)]
    rfl
theorem bytes_of_R {w : World} {base e : Nat} {v : Value} {l : List Int} (h : Kd.R (Kd.int .u8) e w base (fun _ => True) v l) (hl : 0 < l.length) : ∃ g cap, v = .slice (some ⟨g, 0, none⟩) l.length cap ∧ base ≤ g ∧ l.length ≤ cap ∧ g < w.heap.size ∧ ∀ j, j < l.length → w.cell? ⟨g, j, none⟩ = some (.int .u8 (l.getD j 0)) := by
  have ho := Kd.own_of_R (enc := Value.int .u8) (h1 := fun _ => rfl) h
  obtain ⟨g, cap, cur, rfl, hb, hg, hcap, -, hs, ht⟩ : ∃ g cap cur, v = .slice (some ⟨g, 0, none⟩) l.length cap ∧ base ≤ g ∧ w.heap[g]? = some (.cells cur e (0, 0)) ∧ l.length ≤ cap ∧ cap ≤ maxLen ∧ cur.size = cap * 1 ∧ cur.toList.take (l.length * 1) = encs (Value.int .u8) l := by
    rcases ho.2 with ⟨_, h0⟩ | h
    · omega
    · exact h
  refine ⟨g, cap, rfl, hb, hcap, (Array.getElem?_eq_some_iff.1 hg).1, fun j hj => ?_⟩
  rw [cell_of_row w g j cur e (0, 0) hg, ← Array.getElem?_toList]
  have h1 : (cur.toList.take (l.length * 1))[j]? = cur.toList[j]? := by rw [List.getElem?_take, if_pos (by omega)]
  rw [← h1, ht]
  simp [encs, hj]
namespace P
def aes_Stream.f (key nonce b : List Int) : Option (List Int × Int) :=
  if key.length = 16 then (if nonce.length = 12 then (if byteOk key = true ∧ byteOk nonce = true ∧ byteOk b = true ∧ b.length ≤ 900000 then some (streamOf key nonce b, 0) else none) else some ([], 1)) else some ([], 1)
set_option maxRecDepth 100000 in
set_option maxHeartbeats 4000000 in
theorem aes_Stream.calls (A0 : Option Addr) (c0 : Nat) (l0 : List Int) (A1 : Option Addr) (c1 : Nat) (l1 : List Int) (A2 : Option Addr) (c2 : Nat) (l2 : List Int) (r1 : List Int) (r2 : Int) (w : World) (hr0 : Kd.C (Kd.int .u8) w A0 l0.length l0) (hc0 : l0.length ≤ c0) (hr1 : Kd.C (Kd.int .u8) w A1 l1.length l1) (hc1 : l1.length ≤ c1) (hr2 : Kd.C (Kd.int .u8) w A2 l2.length l2) (hc2 : l2.length ≤ c2) (h : aes_Stream.f l0 l1 l2 = some (r1, r2)) :
    Calls Try.prog 43 #[.slice A0 l0.length c0, .slice A1 l1.length c1, .slice A2 l2.length c2] w fun e w' => ∃ v0_ : Value, e = .returned (.tuple #[v0_, .int .i64 r2]) ∧ Kd.R (Kd.int .u8) 5 w' w.heap.size (fun _ => True) v0_ r1 ∧ Below w.heap.size w w' := by
  unfold aes_Stream.f at h
  by_cases h16 : l0.length = 16
  case neg =>
    rw [if_neg h16] at h
    injection h with h
    injection h with h1 h2
    subst h1 h2
    have d0 : ((l0.length : Int) == 16) = false := by simp; omega
    have d1 : ((l0.length : Int) != 16) = true := by simp; omega
    go_enter Try.func43, Try.ntmps43
    go_wp2
    go_ret2
    exact ⟨_, rfl, Kd.R_nil _ _ _ _ _, Below.refl _ _⟩
  rw [if_pos h16] at h
  by_cases h12 : l1.length = 12
  case neg =>
    rw [if_neg h12] at h
    injection h with h
    injection h with h1 h2
    subst h1 h2
    rw [h16]
    have d0 : ((l1.length : Int) == 12) = false := by simp; omega
    have d1 : ((l1.length : Int) != 12) = true := by simp; omega
    clear h16 hr0
    go_enter Try.func43, Try.ntmps43
    go_wp2
    go_ret2
    exact ⟨_, rfl, Kd.R_nil _ _ _ _ _, Below.refl _ _⟩
  rw [if_pos h12] at h
  split at h
  case isFalse => cases h
  case isTrue hok =>
  injection h with h
  injection h with h1' h2
  subst h1' h2
  obtain ⟨o0, o1, o2, o3⟩ := hok
  rw [h16] at hr0 hc0
  rw [h12] at hr1 hc1
  rw [h16, h12]
  have HK := Lib.hid (And.intro h16 (And.intro h12 (And.intro o0 (And.intro o1 (And.intro o2 (And.intro hr0 (And.intro hr1 hr2)))))))
  clear h16 h12 o0 o1 o2 hr0 hr1 hr2
  obtain ⟨L, hL⟩ : ∃ L, l2.length = L := ⟨_, rfl⟩
  rw [hL] at hc2 o3 ⊢
  have HLL := Lib.hid hL
  clear hL
  have hmk := Lib.hid (madeB L (by omega))
  go_enter Try.func43, Try.ntmps43
  go_wp2_with fail
  refine (boxes_calls w).mono ?_
  rintro e W1 ⟨rfl, hbx, hb1⟩
  have hr0 := Kd.C_below HK.out.2.2.2.2.2.1 hb1
  have H1 := Lib.hid (And.intro hbx (And.intro hb1 hr0))
  clear hbx hb1 hr0
  go_wp2_with fail
  refine (aesKeys_calls A0 c0 l0 w.heap.size W1 HK.out.1 HK.out.2.2.1 H1.out.2.2 hc0 H1.out.1).mono ?_
  rintro e W2 ⟨rfl, hb2⟩
  have H2 := Lib.hid (And.intro (H1.out.1.below hb2 H1.out.1.lt) (And.intro (H1.out.2.1.trans (hb2.mono H1.out.2.1.size)) H1.out.1.lt))
  have hz := Lib.hid (show Try.zeroCells104.size = (byV (keysV l0)).size by rw [zero176, byV_size, byV_size, keysV_length]; rfl)
  have hi := Lib.hid (show (Try.prog.info? 104).map (·.size) = some (byV (keysV l0)).size by rw [byV_size, keysV_length]; exact infoKeys)
  clear hb2 H1
  go_wp2_with (refine wpList_store_row rfl 104 (.tmp 9) (.tmp 27) rfl W2.heap.size _ rfl rfl 104 _ (Blk.new W2 104 Try.zeroCells104) hi.out hz.out (one_byV _) ?_)
  rw [hmk.out]
  go_wp2_with fail
  have hsz : (((W2.alloc (Obj.cells Try.zeroCells104 104)).setRow W2.heap.size (byV (keysV l0)))).heap.size = W2.heap.size + 1 := by rw [size_setRow, World.size_alloc]
  have S0 : SB w W2.heap.size (W2.heap.size + 1) l0 (rowTo L (strF l0 l1 l2) (fun _ => 0) 0) (((W2.alloc (Obj.cells Try.zeroCells104 104)).setRow W2.heap.size (byV (keysV l0))).alloc (Obj.cells (byV (List.replicate L 0)) 5)) := by
    have hlt := H2.out.1.lt
    refine ⟨((H2.out.1.alloc _).farRow (by omega) _).alloc _, ((Blk.new W2 _ _).setRow_ _).alloc _, ?_, ?_⟩
    · rw [str_none]
      have := Blk.new ((W2.alloc (Obj.cells Try.zeroCells104 104)).setRow W2.heap.size (byV (keysV l0))) 5 (byV (List.replicate L 0))
      rwa [hsz] at this
    · have h1 := (H2.out.2.1.alloc H2.out.2.1.size (Obj.cells Try.zeroCells104 104)).trans (Iter.below_setRow (g := W2.heap.size) (byV (keysV l0)) H2.out.2.1.size)
      exact h1.alloc h1.size _
  have hg0 : w.heap.size < W2.heap.size := H2.out.1.lt
  generalize (((W2.alloc (Obj.cells Try.zeroCells104 104)).setRow W2.heap.size (byV (keysV l0))).alloc (Obj.cells (byV (List.replicate L 0)) 5)) = W3 at *
  clear hz hi H2 hsz
  generalize W2.heap.size = gl at *
  clear W1 W2
  have HG := Lib.hid hg0
  clear hg0
  have S0 := Lib.hid S0
  go_loopw [11] (fun vat wr => ∃ t : Nat, 16 * t ≤ L + 15 ∧ vat = .int .i64 ((16 * t : Nat) : Int) ∧ Hid (SB w gl (gl + 1) l0 (rowTo L (strF l0 l1 l2) (fun _ => 0) (min (16 * t) L)) wr)) (fun vat _ => L - (intOf vat).toNat)
  case atStart => exact ⟨0, by omega, rfl, by rw [Nat.mul_zero, Nat.zero_min]; exact S0⟩
  clear S0
  obtain ⟨t, ht, rfl, SX⟩ := hrel
  obtain ⟨a, ha⟩ : ∃ a, 16 * t = a := ⟨_, rfl⟩
  rw [ha] at SX ⊢
  by_cases hlt : a < L
  rotate_left
  · have hat : ¬ (a : Int) < (L : Int) := by omega
    rw [Nat.min_eq_right (by omega)] at SX
    go_wp2
    go_ret2
    refine ⟨_, rfl, own_of_blk (streamOf l0 l1 l2) ?_ (by have := HG.out; omega) (by rw [streamOf_length, HLL.out]) (by unfold maxLen; omega), SX.out.2.2.2⟩
    have h1 := SX.out.2.2.1
    rw [← HLL.out, str_full] at h1
    exact h1
  have a0 : (0 : Int) ≤ (a : Int) := by omega
  have a1 : (a : Int) ≤ 900000 := by omega
  have a2 : (a : Int) < (L : Int) := by omega
  have t0 : (0 : Int) ≤ (t : Int) := by omega
  have t1 : (t : Int) ≤ 60000 := by omega
  obtain ⟨m, hm⟩ : ∃ m, t + 1 = m := ⟨_, rfl⟩
  obtain ⟨e, he⟩ : ∃ e, min (a + 16) L = e := ⟨_, rfl⟩
  have hmm := Lib.hid (show P.byt_Num.f (m : Int) 4 = some (numB m 4, 0) by unfold P.byt_Num.f; exact congrArg some (numOf_small m 4 (by omega) (by omega) (by omega)))
  have t9 : t < 1000000 := by omega
  have m9 : m < 1000000 := by omega
  have d0 : (a : Int) / 16 = (t : Int) := by omega
  have Ha := Lib.hid ha
  have Hm := Lib.hid hm
  have He := Lib.hid he
  have D1 := Lib.hid (show (t : Int) + 1 = (m : Int) by omega)
  clear ha hm he ht t9 m9
  go_wp2_with fail
  rw [zero16, D1.out]
  clear d0 D1
  refine (P.byt_Num.calls _ _ _ _ _ hmm.out).mono ?_
  rintro e5 W5 ⟨v, rfl, hR, hb5⟩
  obtain ⟨g4, cap4, rfl, hg4, hcap4, hlt4, hc4⟩ := bytes_of_R hR (by rw [numB_length]; decide)
  rw [numB_length] at hcap4 hc4 ⊢
  have S1 := Lib.hid ((SX.out.alloc (Obj.cells (byV z16) 103)).call hb5)
  have B1 := (Blk.new wr 103 (byV z16)).below hb5 (by simp)
  obtain ⟨ak1, rfl, hk1⟩ := byte_cell l1 (by omega) (Kd.C_below HK.out.2.2.2.2.2.2.1 S1.out.2.2.2)
  have hgo := SX.out.2.2.1.lt
  rw [World.size_alloc] at hg4
  have hk1' : ∀ j, j < l1.length → W5.cell? (ak1.add j) = some (.int .u8 (l1.getD j 0)) := fun j hj => hk1 j (by rw [← HK.out.2.1]; exact hj)
  have HC := Lib.hid (And.intro hk1' (And.intro hc4 (And.intro hlt4 (And.intro B1 (And.intro hg4 hgo)))))
  have HL := Lib.hid (show l1.length = Nat.min 12 16 from HK.out.2.1)
  have HF := Lib.hid (show 0 + l1.length ≤ z16.length by rw [HK.out.2.1]; decide)
  clear hk1 hk1' hc4 hlt4 B1 hg4 hgo hb5 hR
  have hgs0 : w.heap.size < wr.heap.size := SX.out.1.lt
  clear SX
  generalize wr.heap.size = gs at *
  have hN := Lib.hid (show (numB m 4).length = Nat.min 4 4 by rw [numB_length]; rfl)
  have hF2 := Lib.hid (show 12 + (numB m 4).length ≤ (over z16 0 l1).length by rw [over_length _ _ _ HF.out, numB_length]; decide)
  have B2 := Blk.setRow_ HC.out.2.2.2.1 (byV (over z16 0 l1))
  have hc2 : ∀ j, j < (numB m 4).length → (W5.setRow gs (byV (over z16 0 l1))).cell? ((⟨g4, 0, none⟩ : Addr).add j) = some (.int .u8 ((numB m 4).getD j 0)) := by
    intro j hj
    have := HC.out.2.2.2.2.1
    rw [Addr.add_mid, Nat.zero_add, cell_farRow _ _ _ _ _ (by omega)]
    exact HC.out.2.1 j (by rw [numB_length] at hj; exact hj)
  have B3 := B2.setRow_ (byV (over (over z16 0 l1) 12 (numB m 4)))
  have S2 := (S1.out.row gs (byV (over z16 0 l1)) hgs0 (by have := HC.out.2.2.2.2.2; omega) (by have := HC.out.2.2.2.2.2; omega)).row gs (byV (over (over z16 0 l1) 12 (numB m 4))) hgs0 (by have := HC.out.2.2.2.2.2; omega) (by have := HC.out.2.2.2.2.2; omega)
  have ho2 := over_two l1 (numB m 4) HK.out.2.1 (numB_length m 4)
  rw [ho2] at B3 S2
  have hl16 : (l1 ++ numB m 4).length = 16 := by rw [List.length_append, HK.out.2.1, numB_length]
  have H3 := Lib.hid (And.intro B2 (And.intro hc2 (And.intro B3 (And.intro S2 (And.intro ho2 hl16)))))
  have HG2 := Lib.hid (And.intro hgs0 HC.out.2.2.2.2.2)
  clear B2 hc2 B3 S2 ho2 hgs0 hl16 S1
  dsimp only
  go_wp2_with (first
    | (with_reducible refine wpList_copy_bytes rfl (.tmp 44) (.tmp 45) 22 22 rfl 5 Try.underlying22 info_u8s gs 0 16 16 ak1 12 c1 rfl rfl z16 103 HC.out.2.2.2.1 l1 HL.out HC.out.1 HF.out ?_)
    | (with_reducible refine wpList_copy_bytes rfl (.tmp 47) (.tmp 48) 22 22 rfl 5 Try.underlying22 info_u8s gs 12 4 4 ⟨g4, 0, none⟩ 4 cap4 rfl rfl (over z16 0 l1) 103 H3.out.1 (numB m 4) hN.out H3.out.2.1 hF2.out ?_; rw [H3.out.2.2.2.2.1])
    | (refine wpList_load_row rfl 103 (.tmp 12) rfl gs rfl 103 _ (0, 0) _ H3.out.2.2.1 Try.underlying103 rfl (info_byV _ H3.out.2.2.2.2.2) ?_))
  refine (aesLocked_calls gl w.heap.size l0 (l1 ++ numB m 4) _ HK.out.1 H3.out.2.2.2.2.2 H3.out.2.2.2.1.2.1 H3.out.2.2.2.1.1).mono ?_
  rintro e6 W6 ⟨rfl, hb6⟩
  have B4 := H3.out.2.2.1.below hb6 H3.out.2.2.1.lt
  have S3 := H3.out.2.2.2.1.call hb6
  have B5 := B4.setRow_ (byV (lockT l0 (l1 ++ numB m 4) 10))
  have S4 := S3.row gs (byV (lockT l0 (l1 ++ numB m 4) 10)) HG2.out.1 (by have := HG2.out.2; omega) (by have := HG2.out.2; omega)
  have H4 := Lib.hid (And.intro B4 (And.intro H3.out.2.2.2.2.2 (And.intro B5 S4)))
  clear B4 S3 B5 S4 hb6 H3 HC HL HF hN hF2 hcap4
  go_wp2_with (refine wpList_store_row rfl 103 (.tmp 12) (.tmp 52) rfl gs _ rfl rfl 103 _ H4.out.1 (info_byV _ (lockT_length _ _ _)) (size_byV _ _ H4.out.2.1 (lockT_length _ _ _)) (one_byV _) ?_)
  have H5 := Lib.hid (And.intro H4.out.2.2.1 H4.out.2.2.2)
  clear H4
  generalize W6.setRow gs (byV (lockT l0 (l1 ++ numB m 4) 10)) = W7 at *
  clear W5 W6
  clear wr
  have hae : a ≤ e := by have := He.out; omega
  have heL : e ≤ L := by have := He.out; omega
  have hea : e ≤ a + 16 := by have := He.out; omega
  have E0 := Lib.hid (show (if (L : Int) < (a : Int) + 16 then (L : Int) else (a : Int) + 16) = (e : Int) by have := He.out; split <;> omega)
  go_loopw [15] (fun vi wr => ∃ i : Nat, a ≤ i ∧ i ≤ e ∧ vi = .int .i64 (i : Int) ∧ Hid (Blk wr gs 103 (byV (lockT l0 (l1 ++ numB m 4) 10)) ∧ SB w gl (gl + 1) l0 (rowTo L (strF l0 l1 l2) (fun _ => 0) i) wr)) (fun vi _ => e - (intOf vi).toNat)
  case atStart => exact ⟨a, Nat.le_refl _, hae, rfl, by rw [Nat.min_eq_left (Nat.le_of_lt hlt)] at H5; exact H5⟩
  clear H5
  obtain ⟨i, hi1, hi2, rfl, H6⟩ := hrel
  by_cases hlt2 : i < e
  rotate_left
  · have i0 : (0 : Int) ≤ (i : Int) := by omega
    have i1 : ¬ (i : Int) < (e : Int) := by omega
    have eM := E0.out
    obtain rfl : i = e := by omega
    go_wp2_with fail
    have h1 := Ha.out
    have h2 := He.out
    refine ⟨⟨t + 1, by omega, by rw [show ((16 * (t + 1) : Nat) : Int) = (a : Int) + 16 from by omega], ?_⟩, by simp [intOf]; omega⟩
    have h3 := Lib.hid H6.out.2
    rw [show i = min (16 * (t + 1)) L from by omega] at h3
    exact h3
  have i0 : (0 : Int) ≤ (i : Int) := by omega
  have i1 : (i : Int) < (e : Int) := by omega
  have i2 : (i : Int) < (L : Int) := by omega
  have eM := E0.out
  obtain ⟨k, hk⟩ : ∃ k, i - a = k := ⟨_, rfl⟩
  have k0 : (0 : Int) ≤ (k : Int) := by omega
  have k1 : (k : Int) < 16 := by omega
  have k2 := i64_sub i a k hi1 hk (by omega)
  obtain ⟨ad2, rfl, hcb⟩ := byte_cell l2 (by have := HLL.out; omega) (Kd.C_below HK.out.2.2.2.2.2.2.2 H6.out.2.2.2.2)
  have gx := hcb i (by have := HLL.out; omega)
  have gy : wr.cell? ⟨gs, k, none⟩ = some (.int .u8 ((lockT l0 (l1 ++ numB m 4) 10).getD k 0)) := (H6.out.1.cell k).trans (byV_at _ _ (by rw [lockT_length]; omega))
  have gz : wr.cell? ⟨gl + 1, i, none⟩ = some (.int .u8 0) := by
    refine (H6.out.2.2.2.1.cell i).trans ?_
    rw [byV_at _ _ (by rw [rowTo_length]; omega), rowTo_at _ _ _ _ _ (by omega), if_neg (by omega)]
  have fz := H6.out.2.2.2.1.frozen i
  have hF : strF l0 l1 l2 i = xr (l2.getD i 0) ((lockT l0 (l1 ++ numB m 4) 10).getD k 0) := by
    have h1 := Ha.out
    have h2 := Hm.out
    unfold strF
    rw [show i / 16 + 1 = m from by omega, show i % 16 = k from by omega]
  have hs1 := H6.out.2.set (by have := HG.out; omega) (by omega) i (strF l0 l1 l2 i)
  rw [rowTo_set, hF] at hs1
  have hs0 := H6.out.1.far (p := ⟨gl + 1, i, none⟩) (by simp; have := HG2.out.2; omega) (.int .u8 (xr (l2.getD i 0) ((lockT l0 (l1 ++ numB m 4) 10).getD k 0)))
  have HQ := Lib.hid (And.intro hs0 hs1)
  have HJ := Lib.hid (And.intro hi1 (And.intro hi2 hlt2))
  clear hs0 hs1 hF hk hcb H6 hi1 hi2 hlt2
  generalize l2.getD i 0 = x at *
  generalize (lockT l0 (l1 ++ numB m 4) 10).getD k 0 = y at *
  unfold xr at HQ
  go_wp2_with fail
  go_region
  clear k2
  go_wp2
  exact ⟨⟨i + 1, by have := HJ.out; omega, by have := HJ.out; omega, by go_num, HQ.out.1, HQ.out.2.drew⟩, by simp [intOf]; have := HJ.out; omega⟩
end P
end Go.Proofs.Ytifpdpfjhjoieaa

/-! AesT -/
namespace Go.Proofs.Ytifpdpfjhjoieaa
set_option linter.unusedVariables false
set_option linter.unusedSimpArgs false
open Go.RowKit Go.Proofs.YtifpdpfjhjoieaaW.PrintWords Go.Proofs.YtifpdpfjhjoieaaW.PrintLast
theorem w64_small (t : Nat) (h : t < 1000000) : wrap64 (t : Int) = (t : Int) := by unfold wrap64; omega
section
variable (key nonce b : List Int) (hkey : byteOk key = true) (h16 : key.length = 16) (h12 : nonce.length = 12) (hb : b.length ≤ 900000)
include hb in
theorem rstr_l1 (t : Nat) (hlt : 16 * t < b.length) (r : List Int × Int) (H : EvS (fun k => C.pyxref05_Stream.l0 k nonce b (upTo (strF key nonce b) (min (16 * (t + 1)) b.length)) boxT (keysV key) ((16 * (t + 1) : Nat) : Int)) r) :
    ∀ (d i : Nat), 16 * t ≤ i → i + d = min (16 * (t + 1)) b.length → EvS (fun k => C.pyxref05_Stream.l1 k nonce b (upTo (strF key nonce b) i) boxT (keysV key) ((16 * t : Nat) : Int) (lockT key (nonce ++ numB (t + 1) 4) 10) (i : Int)) r
  | 0, i, hi, h => by
    have e : wrap64 (((16 * t : Nat) : Int) + 16) = ((16 * (t + 1) : Nat) : Int) := by unfold wrap64; omega
    refine EvS.step (h := fun k => C.pyxref05_Stream.l0 k nonce b (upTo (strF key nonce b) (min (16 * (t + 1)) b.length)) boxT (keysV key) ((16 * (t + 1) : Nat) : Int)) (fun k => ?_) H
    have hi' : i = min (16 * (t + 1)) b.length := by omega
    by_cases h1 : i < 16 * (t + 1)
    · rw [C.pyxref05_Stream.l1, e, if_pos (by omega), if_neg (by omega), ← hi']
    · rw [C.pyxref05_Stream.l1, e, if_neg (by omega), ← hi']
  | d + 1, i, hi, h => by
    have e : wrap64 (((16 * t : Nat) : Int) + 16) = ((16 * (t + 1) : Nat) : Int) := by unfold wrap64; omega
    have e2 : wrap64 ((i : Int) - ((16 * t : Nat) : Int)) = ((i - 16 * t : Nat) : Int) := by unfold wrap64; omega
    have g1 : (i : Int) < ((16 * (t + 1) : Nat) : Int) := by omega
    have g2 : (i : Int) < (b.length : Int) := by omega
    have g3 : ((i - 16 * t : Nat) : Int) < ((16 : Nat) : Int) := by omega
    have hF : strF key nonce b i = xr (b.getD i 0) ((lockT key (nonce ++ numB (t + 1) 4) 10).getD (i - 16 * t) 0) := by
      unfold strF
      rw [show i / 16 + 1 = t + 1 from by omega, show i % 16 = i - 16 * t from by omega]
    refine EvS.step (h := fun k => C.pyxref05_Stream.l1 k nonce b (upTo (strF key nonce b) (i + 1)) boxT (keysV key) ((16 * t : Nat) : Int) (lockT key (nonce ++ numB (t + 1) 4) 10) ((i + 1 : Nat) : Int)) (fun k => ?_) (rstr_l1 t hlt r H d (i + 1) (by omega) (by omega))
    rw [C.pyxref05_Stream.l1, e, if_pos g1, if_pos g2, if_pos (by omega), e2, if_pos (by omega), lockT_length, if_pos g3, upTo_length, if_pos (by omega), rd_nat, rd_nat, xr_bits, ← hF, upTo_succ, wd4 i (by omega)]
include hb h12 in
theorem rstr_l0 : ∀ (d t : Nat), (b.length + 15) / 16 = t + d → EvS (fun k => C.pyxref05_Stream.l0 k nonce b (upTo (strF key nonce b) (min (16 * t) b.length)) boxT (keysV key) ((16 * t : Nat) : Int)) (streamOf key nonce b, 0)
  | 0, t, h => EvS.now fun k => by
    rw [C.pyxref05_Stream.l0, if_neg (by omega), Nat.min_eq_right (by omega)]
    rfl
  | d + 1, t, h => by
    have ih := rstr_l0 d (t + 1) (by omega)
    have hl : (nonce ++ numB (t + 1) 4).length = 16 := by rw [List.length_append, h12, numB_length]
    have hn : P.pyxref01_Num.f ((t + 1 : Nat) : Int) 4 = some (numB (t + 1) 4, 0) := by
      unfold P.pyxref01_Num.f
      exact congrArg some (numOf_small (t + 1) 4 (by omega) (by omega) (by omega))
    have e1 : Int.tdiv ((16 * t : Nat) : Int) 16 = (t : Int) := by rw [Int.natCast_mul]; simp
    refine EvS.step (h := fun k => (C.pyxref05_lock.f k (keysV key) boxT (nonce ++ numB (t + 1) 4)).bind fun t191 => C.pyxref05_Stream.l1 k nonce b (upTo (strF key nonce b) (min (16 * t) b.length)) boxT (keysV key) ((16 * t : Nat) : Int) t191 ((16 * t : Nat) : Int)) (fun k => ?_) (EvS.bind_ (rlock key _ hl) ?_)
    · have g8 : ([] : List Int).length + nonce.length < 140737488355328 := by rw [h12]; decide
      have g9 : nonce.length + (numB (t + 1) 4).length < 140737488355328 := by rw [h12, numB_length]; decide
      have g : ((16 * t : Nat) : Int) < (b.length : Int) := by omega
      rw [C.pyxref05_Stream.l0, if_pos g, e1, w64_small t (by omega), wd4 t (by omega), hn, Option.bind_some, Option.bind_some, List.nil_append, if_pos g8, Option.bind_some, if_pos g9]
    · have h1 := rstr_l1 key nonce b hb t (by omega) _ ih (min (16 * (t + 1)) b.length - 16 * t) (16 * t) (by omega) (by omega)
      rw [Nat.min_eq_left (by omega)]
      exact h1
include hkey hb h16 h12 in
theorem rstr : EvS (fun k => C.pyxref05_Stream.f k key nonce b) (streamOf key nonce b, 0) := by
  by_cases h0 : b = []
  · subst h0
    refine EvS.step (fun k => ?_) (EvS.now (g := fun k => some (streamOf key nonce [], 0)) fun k => rfl)
    unfold C.pyxref05_Stream.f
    rw [if_pos (by omega), C.pyxref05_Stream.j0, h12, if_neg (by decide), if_pos (by simp)]
    rfl
  have hp : 0 < b.length := List.length_pos_iff.2 h0
  refine EvS.step (h := fun k => (C.pyxref05_boxes.f k).bind fun t172 => ((C.pyxref05_keys.f k key t172).bind fun t175 => (C.pyxref05_Stream.l0 k nonce b ([] : List Int) t172 t175 0))) (fun k => ?_) (EvS.bind_ rboxes (EvS.bind_ (rkeys key hkey h16) ?_))
  · unfold C.pyxref05_Stream.f
    rw [if_pos (by omega), C.pyxref05_Stream.j0, h12, if_neg (by decide), if_neg (by omega)]
  · have h1 := rstr_l0 key nonce b h12 hb ((b.length + 15) / 16) 0 (by omega)
    rw [Nat.mul_zero, Nat.zero_min] at h1
    exact h1
end
namespace P
def pyxref05_Stream.f (key nonce b : List Int) : Option (List Int × Int) := aes_Stream.f key nonce b
theorem pyxref05_Stream.calls (A0 : Option Addr) (c0 : Nat) (l0 : List Int) (A1 : Option Addr) (c1 : Nat) (l1 : List Int) (A2 : Option Addr) (c2 : Nat) (l2 : List Int) (r1 : List Int) (r2 : Int) (w : World) (hr0 : Kd.C (Kd.int .u8) w A0 l0.length l0) (hc0 : l0.length ≤ c0) (hr1 : Kd.C (Kd.int .u8) w A1 l1.length l1) (hc1 : l1.length ≤ c1) (hr2 : Kd.C (Kd.int .u8) w A2 l2.length l2) (hc2 : l2.length ≤ c2) (h : pyxref05_Stream.f l0 l1 l2 = some (r1, r2)) :
    Calls Try.prog 25 #[.slice A0 l0.length c0, .slice A1 l1.length c1, .slice A2 l2.length c2] w fun e w' => ∃ v0_ : Value, e = .returned (.tuple #[v0_, .int .i64 r2]) ∧ Kd.R (Kd.int .u8) 5 w' w.heap.size (fun _ => True) v0_ r1 ∧ Below w.heap.size w w' := by
  unfold pyxref05_Stream.f aes_Stream.f at h
  have bad : ∀ k, ¬ (l0.length = 16 ∧ l1.length = 12) → C.pyxref05_Stream.f (k + 1) l0 l1 l2 = some ([], 1) := by
    intro k hn
    unfold C.pyxref05_Stream.f
    by_cases h16 : l0.length = 16
    · rw [if_pos (by omega), C.pyxref05_Stream.j0, show ((l1.length : Int) != 12) = true from by simp; omega, if_pos rfl]
    · rw [if_neg (by omega), C.pyxref05_Stream.j0, if_pos rfl]
  by_cases h16 : l0.length = 16
  case neg =>
    rw [if_neg h16] at h
    exact C.pyxref05_Stream.calls 1 A0 c0 l0 A1 c1 l1 A2 c2 l2 r1 r2 w hr0 hc0 hr1 hc1 hr2 hc2 ((bad 0 (fun x => h16 x.1)).trans h)
  rw [if_pos h16] at h
  by_cases h12 : l1.length = 12
  case neg =>
    rw [if_neg h12] at h
    exact C.pyxref05_Stream.calls 1 A0 c0 l0 A1 c1 l1 A2 c2 l2 r1 r2 w hr0 hc0 hr1 hc1 hr2 hc2 ((bad 0 (fun x => h12 x.2)).trans h)
  rw [if_pos h12] at h
  split at h
  case isFalse => cases h
  case isTrue hok =>
  obtain ⟨k0, hk⟩ := rstr l0 l1 l2 hok.1 h16 h12 hok.2.2.2
  exact C.pyxref05_Stream.calls k0 A0 c0 l0 A1 c1 l1 A2 c2 l2 r1 r2 w hr0 hc0 hr1 hc1 hr2 hc2 ((hk k0 (Nat.le_refl _)).trans h)
end P
end Go.Proofs.Ytifpdpfjhjoieaa

/-! SealA -/
namespace Go.Proofs.Ytifpdpfjhjoieaa
set_option linter.unusedVariables false
set_option linter.unusedSimpArgs false
open Go.RowKit Go.Shelf Iter Go.Proofs.YtifpdpfjhjoieaaW.PrintWords Go.Proofs.YtifpdpfjhjoieaaW.PrintLast
attribute [local go_sem] Oper.semAt_some
def labLock : ByteArray := ⟨#[108, 111, 99, 107]⟩
def labTag : ByteArray := ⟨#[116, 97, 103]⟩
set_option maxRecDepth 100000 in
set_option maxHeartbeats 1000000 in
theorem half_calls (lab : ByteArray) (n : Nat) (m : Int) (hm : m = (n : Int)) (hn : n ≤ 8160) (hl : lab.size ≤ 100000) (g : Nat) (A0 : Option Addr) (c0 : Nat) (key : List Int) (w : World) (ho : byteOk key = true) (h32 : key.length = 32)
    (hcell : w.cell? ⟨g, 0, none⟩ = some (.slice A0 32 c0)) (hr : Kd.C (Kd.int .u8) w A0 key.length key) (hc : 32 ≤ c0) :
    Calls Try.prog 39 #[.string lab, .int .i64 m, .pointer (some ⟨g, 0, none⟩)] w fun e w' => ∃ v, e = .returned v ∧ Kd.R (Kd.int .u8) 5 w' w.heap.size (fun _ => True) v (labelOf key lab [] n) ∧ Below w.heap.size w w' := by
  have hL := Lib.hid (show P.kdf_Label.f key lab [] m = some (labelOf key lab [] n, 0) by rw [hm]; exact label_some key lab [] n hn ho rfl (by omega) hl (by simp))
  have hr := Lib.hid (And.intro hr (And.intro h32 ho))
  clear hm h32 ho
  go_enter Try.func39, Try.ntmps39
  go_wp2_with fail
  rw [show (32 : Nat) = key.length from hr.out.2.1.symm]
  refine (P.kdf_Label.calls A0 c0 key lab none 0 [] m (labelOf key lab [] n) 0 w hr.out.1 (by rw [hr.out.2.1]; exact hc) (Kd.C_nil _ _) (Nat.le_refl _) hL.out).mono ?_
  rintro e w' ⟨v, rfl, hR, hb⟩
  have HR := Lib.hid (And.intro hR hb)
  clear hR hb
  go_wp2
  go_ret
  exact ⟨_, rfl, HR.out⟩
namespace P
def seal_Halves.f (key : List Int) : Option (List Int × List Int × Int) := if key.length = 32 then (if byteOk key = true then some (labelOf key labLock [] 16, labelOf key labTag [] 32, 0) else none) else some ([], [], 1)
set_option maxRecDepth 100000 in
set_option maxHeartbeats 1000000 in
theorem seal_Halves.calls (A0 : Option Addr) (c0 : Nat) (l0 : List Int) (r1 : List Int) (r2 : List Int) (r3 : Int) (w : World) (hr0 : Kd.C (Kd.int .u8) w A0 l0.length l0) (hc0 : l0.length ≤ c0) (h : seal_Halves.f l0 = some (r1, r2, r3)) :
    Calls Try.prog 14 #[.slice A0 l0.length c0] w fun e w' => ∃ v0_ v1_ : Value, e = .returned (.tuple #[v0_, v1_, .int .i64 r3]) ∧ Kd.R (Kd.int .u8) 5 w' w.heap.size (fun k_ => some k_ ≠ (v1_ : Value).ownBlock) v0_ r1 ∧ Kd.R (Kd.int .u8) 5 w' w.heap.size (fun k_ => some k_ ≠ (v0_ : Value).ownBlock) v1_ r2 ∧ Below w.heap.size w w' := by
  unfold seal_Halves.f at h
  by_cases h32 : l0.length = 32
  case neg =>
    rw [if_neg h32] at h
    injection h with h
    injection h with h1 h2
    injection h2 with h2 h3
    subst h1 h2 h3
    have d0 : ((l0.length : Int) == 32) = false := by simp; omega
    have d1 : ((l0.length : Int) != 32) = true := by simp; omega
    go_enter Try.func14, Try.ntmps14
    go_wp2
    go_ret3
    exact ⟨_, _, rfl, Kd.R_nil _ _ _ _ _, Kd.R_nil _ _ _ _ _, (Below.refl _ _).alloc (Nat.le_refl _) _⟩
  rw [if_pos h32] at h
  split at h
  case isFalse => cases h
  case isTrue ho =>
  injection h with h
  injection h with h1 h2
  injection h2 with h2 h3
  subst h1 h2 h3
  rw [h32] at hc0 ⊢
  have HK := Lib.hid (And.intro h32 (And.intro ho hr0))
  clear h32 ho hr0
  go_enter Try.func14, Try.ntmps14
  go_wp2_with fail
  have b0 := Blk.new w 22 #[.slice A0 32 c0]
  have hb0 : Below w.heap.size w (w.alloc (Obj.cells #[.slice A0 32 c0] 22)) := (Below.refl _ _).alloc (Nat.le_refl _) _
  refine (half_calls labLock 16 16 rfl (by decide) (by decide) w.heap.size A0 c0 l0 _ HK.out.2.1 HK.out.1 (b0.cell 0) (Kd.C_alloc HK.out.2.2 _) hc0).mono ?_
  rintro e W1 ⟨v1, rfl, hR1, hb1⟩
  have H1 := Lib.hid (And.intro (b0.below hb1 b0.lt) (And.intro (Kd.C_below (Kd.C_alloc HK.out.2.2 _) hb1) (And.intro hR1 (hb0.trans (hb1.mono hb0.size)))))
  clear b0 hb0 hR1 hb1
  go_wp2_with fail
  refine (half_calls labTag 32 32 rfl (by decide) (by decide) w.heap.size A0 c0 l0 _ HK.out.2.1 HK.out.1 (H1.out.1.cell 0) H1.out.2.1 hc0).mono ?_
  rintro e W2 ⟨v2, rfl, hR2, hb2⟩
  have hlt := Kd.R_lt H1.out.2.2.1
  have hR1' := Kd.R_elder' H1.out.2.2.1 (v := v2) (fun k hk => own_base (Kd.own_of_R (enc := Value.int .u8) (h1 := fun _ => rfl) hR2) k hk) hb2
  have hR2' := Kd.R_new' hR2 (u := v1) hlt
  have H2 := Lib.hid (And.intro hR1' (And.intro hR2' (And.intro (H1.out.2.2.2.trans (hb2.mono H1.out.2.2.2.size)) H1.out.2.2.2.size)))
  clear hlt hR1' hR2' H1 hR2 hb2
  go_wp2
  go_ret3
  exact ⟨_, _, rfl, Kd.R_mono (Kd.R_lower H2.out.1 (by simp)) (fun _ hk => hk.2), Kd.R_mono (Kd.R_lower H2.out.2.1 H2.out.2.2.2) (fun _ hk => hk.2), H2.out.2.2.1⟩
end P
end Go.Proofs.Ytifpdpfjhjoieaa

/-! H0 -/
namespace Go.Proofs.Ytifpdpfjhjoieaa.H
open Go.Proofs.Ytifpdpfjhjoieaa.P
open Go.RowKit Go.Proofs.YtifpdpfjhjoieaaW.PrintWords Go.Proofs.YtifpdpfjhjoieaaW.PrintLast Go.Proofs.YtifpdpfjhjoieaaW.PrintMore
attribute [local go_sem] max2_int min2_int max_two min_two max_three min_three max_four min_four   -- for this text's walks alone
set_option linter.unusedVariables false
set_option linter.unusedSimpArgs false
def errW : Option Int → Value
  | none => .nilIface
  | some c => .iface 0 (.int .i64 c)
theorem errW_none : errW none = .nilIface := rfl
theorem errW_some (c : Int) : errW (some c) = .iface 0 (.int .i64 c) := rfl
theorem info5 : (Try.prog.info? 5).map (fun i => (i.zero, i.size, i.bytes)) = some (some (.int .u8 0), 1, 1) := by kernel_rfl
-- the values' own types
def rd_L1 (xs : List (List Int)) (i : Int) : (List Int) := xs.getD i.toNat ([] : List Int)
theorem at_L1 {w : World} {A : Option Addr} {n : Nat} {xs : List (List Int)} (h : Kd.C (Kd.slice 5 (Kd.int .u8)) w A n xs) (i : Int) (h0 : 0 ≤ i) (h1 : i < n) : ∃ ad A0 c0, A = some ad ∧ w.cell? (ad.add i.toNat) = some (.slice A0 (rd_L1 xs i).length c0) ∧ (rd_L1 xs i).length ≤ c0 ∧ (Kd.int .u8).C w A0 (rd_L1 xs i).length (rd_L1 xs i) := by
  obtain ⟨ad, c, e, _, hK, hc0⟩ := Kd.C_get h ([] : List Int) i h0 h1
  have hc : ∀ j u, c[j]? = some u → w.cell? (ad.add (i.toNat * 1 + j)) = some u := hc0
  obtain ⟨A0, c0, rfl, l0, g0⟩ := hK
  exact ⟨ad, A0, c0, e, by have hq := hc 0 _ rfl; rwa [Nat.mul_one, Nat.add_zero] at hq, l0, g0⟩
end Go.Proofs.Ytifpdpfjhjoieaa.H

/-! H1 -/
namespace Go.Proofs.Ytifpdpfjhjoieaa.H
open Go.Proofs.Ytifpdpfjhjoieaa.P
open Go.RowKit Go.Proofs.YtifpdpfjhjoieaaW.PrintWords Go.Proofs.YtifpdpfjhjoieaaW.PrintLast Go.Proofs.YtifpdpfjhjoieaaW.PrintMore
attribute [local go_sem] max2_int min2_int max_two min_two max_three min_three max_four min_four   -- for this text's walks alone
set_option linter.unusedVariables false
set_option linter.unusedSimpArgs false
-- NOT PRINTED: function 95 (byt_wide)
-- NOT PRINTED: function 79 (byt_Len)
/-! ### seal_ready: function 42 -/
def seal_ready.f (l0 : List Int) (l1 : List Int) (l2 : List Int) : Option (List Int × List Int × List Int × Int) := (seal_Halves.f l0).bind fun bt101 => (if bt101.2.2 = 0 then (if (l1.length : Int) = 12 then ((byt_Row.f l2).bind fun bt108 => (some (bt101.1, bt101.2.1, bt108.1, bt108.2))) else (some (([] : List Int), ([] : List Int), ([] : List Int), 1))) else (some (([] : List Int), ([] : List Int), ([] : List Int), 1)))
set_option maxHeartbeats 8000000 in
set_option maxRecDepth 100000 in
theorem seal_ready.calls (A0 : Option Addr) (c0 : Nat) (l0 : List Int) (A1 : Option Addr) (c1 : Nat) (l1 : List Int) (A2 : Option Addr) (c2 : Nat) (l2 : List Int) (r1 : List Int) (r2 : List Int) (r3 : List Int) (r4 : Int) (w : World) (hr0 : Kd.C (Kd.int .u8) w A0 l0.length l0) (hc0 : l0.length ≤ c0) (hr1 : Kd.C (Kd.int .u8) w A1 l1.length l1) (hc1 : l1.length ≤ c1) (hr2 : Kd.C (Kd.int .u8) w A2 l2.length l2) (hc2 : l2.length ≤ c2) (h : seal_ready.f l0 l1 l2 = some (r1, r2, r3, r4)) :
    Calls Try.prog 42 #[.slice A0 l0.length c0, .slice A1 l1.length c1, .slice A2 l2.length c2] w fun e w' => ∃ v0_ v1_ v2_ : Value, e = .returned (.tuple #[v0_, v1_, v2_, .int .i64 r4]) ∧ Kd.R (Kd.int .u8) 5 w' w.heap.size (fun k_ => some k_ ≠ (v1_ : Value).ownBlock ∧ some k_ ≠ (v2_ : Value).ownBlock) v0_ r1 ∧ Kd.R (Kd.int .u8) 5 w' w.heap.size (fun k_ => some k_ ≠ (v0_ : Value).ownBlock ∧ some k_ ≠ (v2_ : Value).ownBlock) v1_ r2 ∧ Kd.R (Kd.int .u8) 5 w' w.heap.size (fun k_ => some k_ ≠ (v0_ : Value).ownBlock ∧ some k_ ≠ (v1_ : Value).ownBlock) v2_ r3 ∧ Below w.heap.size w w' := by
  have HR0 := Aside0.mk hr0
  have HC0 := Aside0.mk hc0
  clear hr0 hc0
  have HR1 := Aside0.mk hr1
  have HC1 := Aside0.mk hc1
  clear hr1 hc1
  have HR2 := Aside0.mk hr2
  have HC2 := Aside0.mk hc2
  clear hr2 hc2
  have HB := Aside0.mk (Below.refl w.heap.size w)
  have H : ((seal_Halves.f l0).bind fun bt101 => (if bt101.2.2 = 0 then (if (l1.length : Int) = 12 then ((byt_Row.f l2).bind fun bt108 => (some (bt101.1, bt101.2.1, bt108.1, bt108.2))) else (some (([] : List Int), ([] : List Int), ([] : List Int), 1))) else (some (([] : List Int), ([] : List Int), ([] : List Int), 1)))) = some (r1, r2, r3, r4) := h
  clear h
  replace H := Option.bind_eq_some_iff.mp H
  obtain ⟨⟨t101, t102, t103⟩, A40, H⟩ := H
  replace H : (if t103 = 0 then (if (l1.length : Int) = 12 then ((byt_Row.f l2).bind fun bt108 => (some (t101, t102, bt108.1, bt108.2))) else (some (([] : List Int), ([] : List Int), ([] : List Int), 1))) else (some (([] : List Int), ([] : List Int), ([] : List Int), 1))) = some (r1, r2, r3, r4) := H
  have A4 := Aside0.mk A40
  clear A40
  by_cases c5 : t103 = 0
  rotate_left
  · rw [if_neg c5] at H
    have c5b0 : (t103 == 0) = false := beq_eq_false_iff_ne.mpr c5
    have c5b1 : (t103 != 0) = true := bne_iff_ne.mpr c5
    simp only [Option.some.injEq, Prod.mk.injEq] at H
    obtain ⟨rfl, rfl, rfl, rfl⟩ := H
    go_enter Try.func42, Try.ntmps42
    go_wp2_with (first | ((with_reducible refine gate_callee (f := 14) rfl ?_); refine goesL_ (some 16) rfl rfl Try.func14 (by kernel_rfl) rfl #[.slice A0 l0.length c0] rfl (by (try simp only [List.map_toArray, List.map_cons, List.map_nil]); first | rfl) ?_; (with_reducible refine (seal_Halves.calls _ _ l0 t101 t102 t103 _ ?side1 ?side2 A4.out).mono ?_); (case side1 => repeat (exact HR0.out)); (case side2 => exact HC0.out); rintro e w11 ⟨v104, v106, rfl, ho0, ho1, hb⟩; refine ⟨_, rfl, ?_⟩; have n0_ := Aside0.mk (Kd.R_lower ho0 (below_size (by repeat ((with_reducible first | exact HB.out))))); have n1_ := Aside0.mk (Kd.R_lower ho1 (below_size (by repeat ((with_reducible first | exact HB.out))))); have n2_ := Aside0.mk (below_step (by repeat ((with_reducible first | exact HB.out))) hb); clear HB; have HO105 := n0_; have HO107 := n1_; have HB := n2_; clear n0_ n1_ n2_; (try clear hb); (try clear ho0); (try clear ho1)))
    refine bodyPost_ret (results_list (rs := [.tmp 6, .tmp 7, .tmp 8, .tmp 9]) rfl (by simp) (.tmp (.tmp (.tmp (.tmp .nil))))) rfl ?_
    exact ⟨_, _, _, by first | rfl, by first | exact Kd.R_nil _ _ _ _ _, by first | exact Kd.R_nil _ _ _ _ _, by first | exact Kd.R_nil _ _ _ _ _, by repeat ((with_reducible first | exact HB.out))⟩
  rw [if_pos c5] at H
  have c5b0 : (t103 == 0) = true := beq_iff_eq.mpr c5
  have c5b1 : (t103 != 0) = false := bne_eq_false_iff_eq.mpr c5
  clear c5
  by_cases c6 : (l1.length : Int) = 12
  rotate_left
  · rw [if_neg c6] at H
    have c6b0 : ((l1.length : Int) == 12) = false := beq_eq_false_iff_ne.mpr c6
    have c6b1 : ((l1.length : Int) != 12) = true := bne_iff_ne.mpr c6
    simp only [Option.some.injEq, Prod.mk.injEq] at H
    obtain ⟨rfl, rfl, rfl, rfl⟩ := H
    go_enter Try.func42, Try.ntmps42
    go_wp2_with (first | ((with_reducible refine gate_callee (f := 14) rfl ?_); refine goesL_ (some 16) rfl rfl Try.func14 (by kernel_rfl) rfl #[.slice A0 l0.length c0] rfl (by (try simp only [List.map_toArray, List.map_cons, List.map_nil]); first | rfl) ?_; (with_reducible refine (seal_Halves.calls _ _ l0 t101 t102 t103 _ ?side1 ?side2 A4.out).mono ?_); (case side1 => repeat (exact HR0.out)); (case side2 => exact HC0.out); rintro e w10 ⟨v104, v106, rfl, ho0, ho1, hb⟩; refine ⟨_, rfl, ?_⟩; have n0_ := Aside0.mk (Kd.R_lower ho0 (below_size (by repeat ((with_reducible first | exact HB.out))))); have n1_ := Aside0.mk (Kd.R_lower ho1 (below_size (by repeat ((with_reducible first | exact HB.out))))); have n2_ := Aside0.mk (below_step (by repeat ((with_reducible first | exact HB.out))) hb); clear HB; have HO105 := n0_; have HO107 := n1_; have HB := n2_; clear n0_ n1_ n2_; (try clear hb); (try clear ho0); (try clear ho1)))
    refine bodyPost_ret (results_list (rs := [.tmp 6, .tmp 7, .tmp 8, .tmp 9]) rfl (by simp) (.tmp (.tmp (.tmp (.tmp .nil))))) rfl ?_
    exact ⟨_, _, _, by first | rfl, by first | exact Kd.R_nil _ _ _ _ _, by first | exact Kd.R_nil _ _ _ _ _, by first | exact Kd.R_nil _ _ _ _ _, by repeat ((with_reducible first | exact HB.out))⟩
  rw [if_pos c6] at H
  have c6b0 : ((l1.length : Int) == 12) = true := beq_iff_eq.mpr c6
  have c6b1 : ((l1.length : Int) != 12) = false := bne_eq_false_iff_eq.mpr c6
  clear c6
  replace H := Option.bind_eq_some_iff.mp H
  obtain ⟨⟨t108, t109⟩, A70, H⟩ := H
  replace H : (some (t101, t102, t108, t109)) = some (r1, r2, r3, r4) := H
  have A7 := Aside0.mk A70
  clear A70
  simp only [Option.some.injEq, Prod.mk.injEq] at H
  obtain ⟨rfl, rfl, rfl, rfl⟩ := H
  go_enter Try.func42, Try.ntmps42
  go_wp2_with (first | ((with_reducible refine gate_callee (f := 14) rfl ?_); refine goesL_ (some 16) rfl rfl Try.func14 (by kernel_rfl) rfl #[.slice A0 l0.length c0] rfl (by (try simp only [List.map_toArray, List.map_cons, List.map_nil]); first | rfl) ?_; (with_reducible refine (seal_Halves.calls _ _ l0 t101 t102 t103 _ ?side1 ?side2 A4.out).mono ?_); (case side1 => repeat (exact HR0.out)); (case side2 => exact HC0.out); rintro e w8 ⟨v104, v106, rfl, ho0, ho1, hb⟩; refine ⟨_, rfl, ?_⟩; have n0_ := Aside0.mk (Kd.R_lower ho0 (below_size (by repeat ((with_reducible first | exact HB.out))))); have n1_ := Aside0.mk (Kd.R_lower ho1 (below_size (by repeat ((with_reducible first | exact HB.out))))); have n2_ := Aside0.mk (below_step (by repeat ((with_reducible first | exact HB.out))) hb); clear HB; have HO105 := n0_; have HO107 := n1_; have HB := n2_; clear n0_ n1_ n2_; (try clear hb); (try clear ho0); (try clear ho1)) | ((with_reducible refine gate_callee (f := 62) rfl ?_); refine goesL_ (some 29) rfl rfl Try.func62 (by kernel_rfl) rfl #[.slice A2 l2.length c2] rfl (by (try simp only [List.map_toArray, List.map_cons, List.map_nil]); first | rfl) ?_; (with_reducible refine (byt_Row.calls _ _ l2 t108 t109 _ ?side1 ?side2 A7.out).mono ?_); (case side1 => repeat (exact (Kd.C_below HR2.out HB.out))); (case side2 => exact HC2.out); rintro e w9 ⟨v110, rfl, ho0, hb⟩; refine ⟨_, rfl, ?_⟩; have n0_ := Aside0.mk (Kd.R_elder' (by (with_reducible repeat (fail)); exact HO105.out) (Kd.R_base ho0) hb); have n1_ := Aside0.mk (Kd.R_elder' (by (with_reducible repeat (fail)); exact HO107.out) (Kd.R_base ho0) hb); have n2_ := Aside0.mk (Kd.R_lower (Kd.R_new' (Kd.R_new' ho0 (Kd.R_lt (by (with_reducible repeat (fail)); exact HO105.out))) (Kd.R_lt (by (with_reducible repeat (fail)); exact HO107.out))) (below_size (by repeat ((with_reducible first | exact HB.out))))); have n3_ := Aside0.mk (below_step (by repeat ((with_reducible first | exact HB.out))) hb); clear HO105; clear HO107; clear HB; have HO105 := n0_; have HO107 := n1_; have HO111 := n2_; have HB := n3_; clear n0_ n1_ n2_ n3_; (try clear hb); (try clear ho0)))
  refine bodyPost_ret (results_list (rs := [.tmp 6, .tmp 7, .tmp 8, .tmp 9]) rfl (by simp) (.tmp (.tmp (.tmp (.tmp .nil))))) rfl ?_
  exact ⟨_, _, _, by first | rfl, by (with_reducible repeat (fail)); exact HO105.out, by (with_reducible repeat (fail)); exact HO107.out, by (with_reducible repeat (fail)); exact Kd.R_mono HO111.out (fun _ hk => ⟨hk.1.2, hk.2⟩), by repeat ((with_reducible first | exact HB.out))⟩
-- NOT PRINTED: function 104 (slices_Grow_byte_byte)
-- NOT PRINTED: function 99 (slices_Concat_byte_byte)
-- NOT PRINTED: function 87 (mac_joined)
-- NOT PRINTED: function 105 (sha_primes)
-- NOT PRINTED: function 112 (bits_Mul64)
-- NOT PRINTED: function 113 (bits_Add64)
-- NOT PRINTED: function 110 (sha_above)
-- NOT PRINTED: function 106 (sha_root)
-- NOT PRINTED: function 100 (sha_keys)
-- NOT PRINTED: function 101 (sha_Start)
-- NOT PRINTED: function 111 (bits_RotateLeft32)
-- NOT PRINTED: function 108 (sha_turned)
-- NOT PRINTED: function 107 (sha_words)
-- NOT PRINTED: function 102 (sha_mixed)
-- NOT PRINTED: function 103 (sha_Pad)
-- NOT PRINTED: function 94 (sha_Sum)
-- NOT PRINTED: function 91 (mac_Key)
/-! ### seal_tag: function 44 -/
def seal_tag.f (l0 : List Int) (l1 : List (List Int)) : Option (List Int) := (mac_All.f l0 l1).bind fun t112 => (some t112)
set_option maxHeartbeats 8000000 in
set_option maxRecDepth 100000 in
theorem seal_tag.calls (A0 : Option Addr) (c0 : Nat) (l0 : List Int) (A1 : Option Addr) (c1 : Nat) (l1 : List (List Int)) (r : List Int) (w : World) (hr0 : Kd.C (Kd.int .u8) w A0 l0.length l0) (hc0 : l0.length ≤ c0) (hr1 : Kd.C (Kd.slice 5 (Kd.int .u8)) w A1 l1.length l1) (hc1 : l1.length ≤ c1) (h : seal_tag.f l0 l1 = some r) :
    Calls Try.prog 44 #[.slice A0 l0.length c0, .slice A1 l1.length c1] w fun e w' => ∃ v0_ : Value, e = .returned (v0_) ∧ Kd.R (Kd.int .u8) 5 w' w.heap.size (fun _ => True) v0_ r ∧ Below w.heap.size w w' := by
  have HR0 := Aside0.mk hr0
  have HC0 := Aside0.mk hc0
  clear hr0 hc0
  have HR1 := Aside0.mk hr1
  have HC1 := Aside0.mk hc1
  clear hr1 hc1
  have HB := Aside0.mk (Below.refl w.heap.size w)
  have H : ((mac_All.f l0 l1).bind fun t112 => (some t112)) = some r := h
  clear h
  replace H := Option.bind_eq_some_iff.mp H
  obtain ⟨t112, A30, H⟩ := H
  replace H : (some t112) = some r := H
  have A3 := Aside0.mk A30
  clear A30
  obtain rfl := Option.some.inj H
  go_enter Try.func44, Try.ntmps44
  go_wp2_with (first | ((with_reducible refine gate_callee (f := 68) rfl ?_); refine goesL_ (some 7) rfl rfl Try.func68 (by kernel_rfl) rfl #[.slice A0 l0.length c0, .slice A1 l1.length c1] rfl (by (try simp only [List.map_toArray, List.map_cons, List.map_nil]); first | rfl) ?_; (with_reducible refine (mac_All.calls _ _ l0 _ _ l1 t112 _ ?side1 ?side2 ?side3 ?side4 A3.out).mono ?_); (case side1 => repeat (exact HR0.out)); (case side2 => exact HC0.out); (case side3 => repeat (exact HR1.out)); (case side4 => exact HC1.out); rintro e w4 ⟨v113, rfl, ho0, hb⟩; refine ⟨_, rfl, ?_⟩; have n0_ := Aside0.mk (Kd.R_lower ho0 (below_size (by repeat ((with_reducible first | exact HB.out))))); have n1_ := Aside0.mk (below_step (by repeat ((with_reducible first | exact HB.out))) hb); clear HB; have HO114 := n0_; have HB := n1_; clear n0_ n1_; (try clear hb); (try clear ho0)))
  go_ret
  exact ⟨_, by first | rfl, by (with_reducible repeat (fail)); exact HO114.out, by repeat ((with_reducible first | exact HB.out))⟩
-- NOT PRINTED: function 83 (aes_Mul)
-- NOT PRINTED: function 96 (aes_inverse)
-- NOT PRINTED: function 97 (bits_RotateLeft8)
-- NOT PRINTED: function 82 (aes_Box)
-- NOT PRINTED: function 65 (aes_boxes)
-- NOT PRINTED: function 66 (aes_keys)
-- NOT PRINTED: function 84 (aes_state_with)
-- NOT PRINTED: function 85 (aes_state_shifted)
-- NOT PRINTED: function 86 (aes_state_mixed)
-- NOT PRINTED: function 67 (aes_locked)
-- NOT PRINTED: function 16 (seal_Seal)
/-! ### seal_Open: function 19 -/
def seal_Open.f (l0 : List Int) (l1 : List Int) (l2 : List Int) (l3 : List Int) : Option (List Int × Int) := (seal_ready.f l0 l1 l2).bind fun bt138 => (if bt138.2.2.2 = 0 then (if (wrap64 ((l3.length : Int) - 32)) < 0 then (some (([] : List Int), 3)) else (if 0 ≤ (wrap64 ((l3.length : Int) - 32)) then (if (wrap64 ((l3.length : Int) - 32)) ≤ (l3.length : Int) then ((seal_tag.f bt138.2.1 (([bt138.2.2.1, l1, (l3.take ((wrap64 ((l3.length : Int) - 32)) : Int).toNat)] : List (List Int)))).bind fun t156 => ((mac_Same.f t156 (l3.drop ((wrap64 ((l3.length : Int) - 32)) : Int).toNat)).bind fun t164 => (if t164 = true then ((aes_Stream.f bt138.1 l1 (l3.take ((wrap64 ((l3.length : Int) - 32)) : Int).toNat)).bind fun bt170 => (some (bt170.1, bt170.2))) else (some (([] : List Int), 5))))) else (none)) else (none))) else (some (([] : List Int), bt138.2.2.2)))
def seal_Open.T7 : Bool × List (List Nat × List Nat) := (true, [([], []), ([], []), ([], []), ([], []), ([], []), ([3, 4], [3, 4]), ([1, 2, 5], [1, 2, 5]), ([0, 6], [0, 6]), ([], []), ([], []), ([8, 9], [8, 9]), ([7, 10, 7], [7, 10]), ([11], [11]), ([12, 11], [12])])
def seal_Open.B7 : List Nat := [0, 0, 0, 0, 0, 24, 62, 127, 0, 0, 768, 2047, 4095, 8191]
theorem seal_Open.tab7 : rtab .any (opsOf Try.f19 7) = seal_Open.T7 := by kernel_rfl
theorem seal_Open.bits7 : waitsOk seal_Open.T7.2 seal_Open.B7 = true := by kernel_rfl
set_option maxHeartbeats 8000000 in
set_option maxRecDepth 100000 in
theorem seal_Open.calls (A0 : Option Addr) (c0 : Nat) (l0 : List Int) (P1_ : Nat → Prop) (A1 : Option Addr) (c1 : Nat) (l1 : List Int) (A2 : Option Addr) (c2 : Nat) (l2 : List Int) (P3_ : Nat → Prop) (A3 : Option Addr) (c3 : Nat) (l3 : List Int) (r1 : List Int) (r2 : Int) (w : World) (hr0 : Kd.C (Kd.int .u8) w A0 l0.length l0) (hc0 : l0.length ≤ c0) (hs1 : Kd.V (Kd.int .u8) 5 w w.heap.size (fun k_ => P1_ k_) (.slice A1 l1.length c1) l1) (hr2 : Kd.C (Kd.int .u8) w A2 l2.length l2) (hc2 : l2.length ≤ c2) (hs3 : Kd.V (Kd.int .u8) 5 w w.heap.size (fun k_ => P3_ k_) (.slice A3 l3.length c3) l3) (h : seal_Open.f l0 l1 l2 l3 = some (r1, r2)) :
    Calls Try.prog 19 #[.slice A0 l0.length c0, .slice A1 l1.length c1, .slice A2 l2.length c2, .slice A3 l3.length c3] w fun e w' => ∃ v0_ : Value, e = .returned (.tuple #[v0_, .int .i64 r2]) ∧ Kd.R (Kd.int .u8) 5 w' w.heap.size (fun k_ => (w.heap.size ≤ k_)) v0_ r1 ∧ Below w.heap.size w w' := by
  have HR0 := Aside0.mk hr0
  have HC0 := Aside0.mk hc0
  clear hr0 hc0
  have HO1 := Aside0.mk (show Kd.V (Kd.int .u8) 5 w w.heap.size (fun k_ => ((P1_ k_ ∨ P3_ k_) ∨ w.heap.size ≤ k_)) (.slice A1 l1.length c1) l1 from Kd.V_mono hs1 (fun k_ hk => .inl (.inl hk)))
  have HR2 := Aside0.mk hr2
  have HC2 := Aside0.mk hc2
  clear hr2 hc2
  have HO3 := Aside0.mk (show Kd.V (Kd.int .u8) 5 w w.heap.size (fun k_ => ((P1_ k_ ∨ P3_ k_) ∨ w.heap.size ≤ k_)) (.slice A3 l3.length c3) l3 from Kd.V_mono hs3 (fun k_ hk => .inl (.inr hk)))
  have HB := Aside0.mk (Below.refl w.heap.size w)
  have H : ((seal_ready.f l0 l1 l2).bind fun bt138 => (if bt138.2.2.2 = 0 then (if (wrap64 ((l3.length : Int) - 32)) < 0 then (some (([] : List Int), 3)) else (if 0 ≤ (wrap64 ((l3.length : Int) - 32)) then (if (wrap64 ((l3.length : Int) - 32)) ≤ (l3.length : Int) then ((seal_tag.f bt138.2.1 (([bt138.2.2.1, l1, (l3.take ((wrap64 ((l3.length : Int) - 32)) : Int).toNat)] : List (List Int)))).bind fun t156 => ((mac_Same.f t156 (l3.drop ((wrap64 ((l3.length : Int) - 32)) : Int).toNat)).bind fun t164 => (if t164 = true then ((aes_Stream.f bt138.1 l1 (l3.take ((wrap64 ((l3.length : Int) - 32)) : Int).toNat)).bind fun bt170 => (some (bt170.1, bt170.2))) else (some (([] : List Int), 5))))) else (none)) else (none))) else (some (([] : List Int), bt138.2.2.2)))) = some (r1, r2) := h
  clear h
  replace H := Option.bind_eq_some_iff.mp H
  obtain ⟨⟨t138, t139, t140, t141⟩, A50, H⟩ := H
  replace H : (if t141 = 0 then (if (wrap64 ((l3.length : Int) - 32)) < 0 then (some (([] : List Int), 3)) else (if 0 ≤ (wrap64 ((l3.length : Int) - 32)) then (if (wrap64 ((l3.length : Int) - 32)) ≤ (l3.length : Int) then ((seal_tag.f t139 (([t140, l1, (l3.take ((wrap64 ((l3.length : Int) - 32)) : Int).toNat)] : List (List Int)))).bind fun t156 => ((mac_Same.f t156 (l3.drop ((wrap64 ((l3.length : Int) - 32)) : Int).toNat)).bind fun t164 => (if t164 = true then ((aes_Stream.f t138 l1 (l3.take ((wrap64 ((l3.length : Int) - 32)) : Int).toNat)).bind fun bt170 => (some (bt170.1, bt170.2))) else (some (([] : List Int), 5))))) else (none)) else (none))) else (some (([] : List Int), t141))) = some (r1, r2) := H
  have A5 := Aside0.mk A50
  clear A50
  by_cases c6 : t141 = 0
  rotate_left
  · rw [if_neg c6] at H
    have c6b0 : (t141 == 0) = false := beq_eq_false_iff_ne.mpr c6
    have c6b1 : (t141 != 0) = true := bne_iff_ne.mpr c6
    simp only [Option.some.injEq, Prod.mk.injEq] at H
    obtain ⟨rfl, rfl⟩ := H
    go_enter Try.func19, Try.ntmps19
    go_wp2_with (first | ((with_reducible refine gate_callee (f := 42) rfl ?_); refine goesL_ (some 19) rfl rfl Try.func42 (by kernel_rfl) rfl #[.slice A0 l0.length c0, .slice A1 l1.length c1, .slice A2 l2.length c2] rfl (by (try simp only [List.map_toArray, List.map_cons, List.map_nil]); first | rfl) ?_; (with_reducible refine (seal_ready.calls _ _ l0 _ _ l1 _ _ l2 t138 t139 t140 t141 _ ?side1 ?side2 ?side3 ?side4 ?side5 ?side6 A5.out).mono ?_); (case side1 => repeat (exact HR0.out)); (case side2 => exact HC0.out); (case side3 => repeat (exact (Kd.V_reads' HO1.out).2.2)); (case side4 => exact (Kd.V_reads' HO1.out).2.1); (case side5 => repeat (exact HR2.out)); (case side6 => exact HC2.out); rintro e w45 ⟨v142, v144, v146, rfl, ho0, ho1, ho2, hb⟩; refine ⟨_, rfl, ?_⟩; have n0_ := Aside0.mk (Kd.V_mono (Kd.V_told (Kd.V_told (Kd.V_told (Kd.V_old (by (with_reducible repeat (fail)); exact HO1.out) hb) (Kd.R_base ho0)) (Kd.R_base ho1)) (Kd.R_base ho2)) (fun _ h_ => h_.1)); have n1_ := Aside0.mk (Kd.V_mono (Kd.V_told (Kd.V_told (Kd.V_told (Kd.V_old (by (with_reducible repeat (fail)); exact HO3.out) hb) (Kd.R_base ho0)) (Kd.R_base ho1)) (Kd.R_base ho2)) (fun _ h_ => h_.1)); have n2_ := Aside0.mk (Kd.R_lower (Kd.R_newM (M := fun k_ => (w.heap.size ≤ k_)) ho0 (below_size (by repeat ((with_reducible first | exact HB.out)))) (fun k_ h_ => h_)) (below_size (by repeat ((with_reducible first | exact HB.out))))); have n3_ := Aside0.mk (Kd.R_lower (Kd.R_newM (M := fun k_ => (w.heap.size ≤ k_)) ho1 (below_size (by repeat ((with_reducible first | exact HB.out)))) (fun k_ h_ => h_)) (below_size (by repeat ((with_reducible first | exact HB.out))))); have n4_ := Aside0.mk (Kd.R_lower (Kd.R_newM (M := fun k_ => (w.heap.size ≤ k_)) ho2 (below_size (by repeat ((with_reducible first | exact HB.out)))) (fun k_ h_ => h_)) (below_size (by repeat ((with_reducible first | exact HB.out))))); have n5_ := Aside0.mk (below_step (by repeat ((with_reducible first | exact HB.out))) hb); clear HO1; clear HO3; clear HB; have HO1 := n0_; have HO3 := n1_; have HO143 := n2_; have HO145 := n3_; have HO147 := n4_; have HB := n5_; clear n0_ n1_ n2_ n3_ n4_ n5_; (try clear hb); (try clear ho0); (try clear ho1); (try clear ho2)))
    go_ret2
    exact ⟨_, by first | rfl, by first | exact Kd.R_nil _ _ _ _ _, by repeat ((with_reducible first | exact HB.out))⟩
  rw [if_pos c6] at H
  have c6b0 : (t141 == 0) = true := beq_iff_eq.mpr c6
  have c6b1 : (t141 != 0) = false := bne_eq_false_iff_eq.mpr c6
  clear c6
  by_cases c7 : (wrap64 ((l3.length : Int) - 32)) < 0
  · rw [if_pos c7] at H
    have c7b0 : decide ((wrap64 ((l3.length : Int) - 32)) < 0) = true := decide_eq_true c7
    clear c7
    simp only [Option.some.injEq, Prod.mk.injEq] at H
    obtain ⟨rfl, rfl⟩ := H
    go_enter Try.func19, Try.ntmps19
    go_wp2_with (first | ((with_reducible refine gate_callee (f := 42) rfl ?_); refine goesL_ (some 19) rfl rfl Try.func42 (by kernel_rfl) rfl #[.slice A0 l0.length c0, .slice A1 l1.length c1, .slice A2 l2.length c2] rfl (by (try simp only [List.map_toArray, List.map_cons, List.map_nil]); first | rfl) ?_; (with_reducible refine (seal_ready.calls _ _ l0 _ _ l1 _ _ l2 t138 t139 t140 t141 _ ?side1 ?side2 ?side3 ?side4 ?side5 ?side6 A5.out).mono ?_); (case side1 => repeat (exact HR0.out)); (case side2 => exact HC0.out); (case side3 => repeat (exact (Kd.V_reads' HO1.out).2.2)); (case side4 => exact (Kd.V_reads' HO1.out).2.1); (case side5 => repeat (exact HR2.out)); (case side6 => exact HC2.out); rintro e w8 ⟨v142, v144, v146, rfl, ho0, ho1, ho2, hb⟩; refine ⟨_, rfl, ?_⟩; have n0_ := Aside0.mk (Kd.V_mono (Kd.V_told (Kd.V_told (Kd.V_told (Kd.V_old (by (with_reducible repeat (fail)); exact HO1.out) hb) (Kd.R_base ho0)) (Kd.R_base ho1)) (Kd.R_base ho2)) (fun _ h_ => h_.1)); have n1_ := Aside0.mk (Kd.V_mono (Kd.V_told (Kd.V_told (Kd.V_told (Kd.V_old (by (with_reducible repeat (fail)); exact HO3.out) hb) (Kd.R_base ho0)) (Kd.R_base ho1)) (Kd.R_base ho2)) (fun _ h_ => h_.1)); have n2_ := Aside0.mk (Kd.R_lower (Kd.R_newM (M := fun k_ => (w.heap.size ≤ k_)) ho0 (below_size (by repeat ((with_reducible first | exact HB.out)))) (fun k_ h_ => h_)) (below_size (by repeat ((with_reducible first | exact HB.out))))); have n3_ := Aside0.mk (Kd.R_lower (Kd.R_newM (M := fun k_ => (w.heap.size ≤ k_)) ho1 (below_size (by repeat ((with_reducible first | exact HB.out)))) (fun k_ h_ => h_)) (below_size (by repeat ((with_reducible first | exact HB.out))))); have n4_ := Aside0.mk (Kd.R_lower (Kd.R_newM (M := fun k_ => (w.heap.size ≤ k_)) ho2 (below_size (by repeat ((with_reducible first | exact HB.out)))) (fun k_ h_ => h_)) (below_size (by repeat ((with_reducible first | exact HB.out))))); have n5_ := Aside0.mk (below_step (by repeat ((with_reducible first | exact HB.out))) hb); clear HO1; clear HO3; clear HB; have HO1 := n0_; have HO3 := n1_; have HO143 := n2_; have HO145 := n3_; have HO147 := n4_; have HB := n5_; clear n0_ n1_ n2_ n3_ n4_ n5_; (try clear hb); (try clear ho0); (try clear ho1); (try clear ho2)))
    go_ret2
    exact ⟨_, by first | rfl, by first | exact Kd.R_nil _ _ _ _ _, by repeat ((with_reducible first | exact HB.out))⟩
  rw [if_neg c7] at H
  have c7b0 : decide ((wrap64 ((l3.length : Int) - 32)) < 0) = false := decide_eq_false c7
  clear c7
  obtain ⟨ji9, hji9⟩ : ∃ j_ : Int, (wrap64 ((l3.length : Int) - 32)) = j_ := ⟨_, rfl⟩
  replace H : (if 0 ≤ (ji9) then (if (ji9) ≤ (l3.length : Int) then ((seal_tag.f t139 (([t140, l1, (l3.take ((ji9) : Int).toNat)] : List (List Int)))).bind fun t156 => ((mac_Same.f t156 (l3.drop ((ji9) : Int).toNat)).bind fun t164 => (if t164 = true then ((aes_Stream.f t138 l1 (l3.take ((ji9) : Int).toNat)).bind fun bt170 => (some (bt170.1, bt170.2))) else (some (([] : List Int), 5))))) else (none)) else (none)) = some (r1, r2) := by first | (rw [hji9] at H; exact H)
  (try rw [hji9] at c7b0)
  (skip)
  have hji9w : (IntKind.i64.wrap ((l3.length : Int) - 32)) = ji9 := (i64_w _).trans hji9
  by_cases c10 : 0 ≤ (ji9)
  rotate_left
  · rw [if_neg c10] at H
    exact absurd H (by simp)
  rw [if_pos c10] at H
  have c10b0 := eq_true c10
  have c10b1 : decide (0 ≤ (ji9)) = true := decide_eq_true c10
  clear c10
  by_cases c11 : (ji9) ≤ (l3.length : Int)
  rotate_left
  · rw [if_neg c11] at H
    exact absurd H (by simp)
  rw [if_pos c11] at H
  have c11b0 := eq_true c11
  have c11b1 : decide ((ji9) ≤ (l3.length : Int)) = true := decide_eq_true c11
  clear c11
  obtain ⟨y148, hy148⟩ : ∃ y_ : List Int, y_ = (l3.take ((ji9) : Int).toNat) := ⟨_, rfl⟩
  replace H : ((seal_tag.f t139 (([t140, l1, y148] : List (List Int)))).bind fun t156 => ((mac_Same.f t156 (l3.drop ((ji9) : Int).toNat)).bind fun t164 => (if t164 = true then ((aes_Stream.f t138 l1 (l3.take ((ji9) : Int).toNat)).bind fun bt170 => (some (bt170.1, bt170.2))) else (some (([] : List Int), 5))))) = some (r1, r2) := by first | (rw [hy148]; with_reducible exact H)
  have Ny148 := Aside0.mk hy148
  clear hy148
  obtain ⟨y153, hy153⟩ : ∃ y_ : List (List Int), y_ = (([t140, l1, y148] : List (List Int))) := ⟨_, rfl⟩
  replace H : ((seal_tag.f t139 y153).bind fun t156 => ((mac_Same.f t156 (l3.drop ((ji9) : Int).toNat)).bind fun t164 => (if t164 = true then ((aes_Stream.f t138 l1 (l3.take ((ji9) : Int).toNat)).bind fun bt170 => (some (bt170.1, bt170.2))) else (some (([] : List Int), 5))))) = some (r1, r2) := by first | (rw [hy153]; with_reducible exact H)
  have Ny153 := Aside0.mk hy153
  clear hy153
  replace H := Option.bind_eq_some_iff.mp H
  obtain ⟨t156, A120, H⟩ := H
  replace H : ((mac_Same.f t156 (l3.drop ((ji9) : Int).toNat)).bind fun t164 => (if t164 = true then ((aes_Stream.f t138 l1 (l3.take ((ji9) : Int).toNat)).bind fun bt170 => (some (bt170.1, bt170.2))) else (some (([] : List Int), 5)))) = some (r1, r2) := H
  have A12 := Aside0.mk A120
  clear A120
  have c13b0 := eq_true (of_decide_eq_true (by first | (with_reducible assumption)) : 0 ≤ (ji9))
  have c14b0 := eq_true (of_decide_eq_true (by first | (with_reducible assumption)) : (ji9) ≤ (l3.length : Int))
  obtain ⟨y159, hy159⟩ : ∃ y_ : List Int, y_ = (l3.drop ((ji9) : Int).toNat) := ⟨_, rfl⟩
  replace H : ((mac_Same.f t156 y159).bind fun t164 => (if t164 = true then ((aes_Stream.f t138 l1 (l3.take ((ji9) : Int).toNat)).bind fun bt170 => (some (bt170.1, bt170.2))) else (some (([] : List Int), 5)))) = some (r1, r2) := by first | (rw [hy159]; with_reducible exact H)
  have Ny159 := Aside0.mk hy159
  clear hy159
  replace H := Option.bind_eq_some_iff.mp H
  obtain ⟨t164, A150, H⟩ := H
  replace H : (if t164 = true then ((aes_Stream.f t138 l1 (l3.take ((ji9) : Int).toNat)).bind fun bt170 => (some (bt170.1, bt170.2))) else (some (([] : List Int), 5))) = some (r1, r2) := H
  have A15 := Aside0.mk A150
  clear A150
  by_cases c16 : t164 = true
  rotate_left
  · replace c16 := Bool.eq_false_iff.mpr c16
    subst c16
    have H1 : (some (([] : List Int), 5)) = some (r1, r2) := by rw [if_neg (show ¬ (false = true) by decide)] at H; exact H
    clear H
    have H := H1
    clear H1
    simp only [Option.some.injEq, Prod.mk.injEq] at H
    obtain ⟨rfl, rfl⟩ := H
    go_enter Try.func19, Try.ntmps19
    try go_wp2_with (first | ((with_reducible refine gate_callee (f := 42) rfl ?_); refine goesL_ (some 19) rfl rfl Try.func42 (by kernel_rfl) rfl #[.slice A0 l0.length c0, .slice A1 l1.length c1, .slice A2 l2.length c2] rfl (by (try simp only [List.map_toArray, List.map_cons, List.map_nil]); first | rfl) ?_; (with_reducible refine (seal_ready.calls _ _ l0 _ _ l1 _ _ l2 t138 t139 t140 t141 _ ?side1 ?side2 ?side3 ?side4 ?side5 ?side6 A5.out).mono ?_); (case side1 => repeat (exact HR0.out)); (case side2 => exact HC0.out); (case side3 => repeat (exact (Kd.V_reads' HO1.out).2.2)); (case side4 => exact (Kd.V_reads' HO1.out).2.1); (case side5 => repeat (exact HR2.out)); (case side6 => exact HC2.out); rintro e w34 ⟨v142, v144, v146, rfl, ho0, ho1, ho2, hb⟩; refine ⟨_, rfl, ?_⟩; have n0_ := Aside0.mk (Kd.V_mono (Kd.V_told (Kd.V_told (Kd.V_told (Kd.V_old (by (with_reducible repeat (fail)); exact HO1.out) hb) (Kd.R_base ho0)) (Kd.R_base ho1)) (Kd.R_base ho2)) (fun _ h_ => h_.1)); have n1_ := Aside0.mk (Kd.V_mono (Kd.V_told (Kd.V_told (Kd.V_told (Kd.V_old (by (with_reducible repeat (fail)); exact HO3.out) hb) (Kd.R_base ho0)) (Kd.R_base ho1)) (Kd.R_base ho2)) (fun _ h_ => h_.1)); have n2_ := Aside0.mk (Kd.R_lower (Kd.R_newM (M := fun k_ => (w.heap.size ≤ k_)) ho0 (below_size (by repeat ((with_reducible first | exact HB.out)))) (fun k_ h_ => h_)) (below_size (by repeat ((with_reducible first | exact HB.out))))); have n3_ := Aside0.mk (Kd.R_lower (Kd.R_newM (M := fun k_ => (w.heap.size ≤ k_)) ho1 (below_size (by repeat ((with_reducible first | exact HB.out)))) (fun k_ h_ => h_)) (below_size (by repeat ((with_reducible first | exact HB.out))))); have n4_ := Aside0.mk (Kd.R_lower (Kd.R_newM (M := fun k_ => (w.heap.size ≤ k_)) ho2 (below_size (by repeat ((with_reducible first | exact HB.out)))) (fun k_ h_ => h_)) (below_size (by repeat ((with_reducible first | exact HB.out))))); have n5_ := Aside0.mk (below_step (by repeat ((with_reducible first | exact HB.out))) hb); clear HO1; clear HO3; clear HB; have HO1 := n0_; have HO3 := n1_; have HO143 := n2_; have HO145 := n3_; have HO147 := n4_; have HB := n5_; clear n0_ n1_ n2_ n3_ n4_ n5_; (try clear hb); (try clear ho0); (try clear ho1); (try clear ho2)))
    have n0_ := Aside0.mk (Kd.V_drew HO1.out)
    have n1_ := Aside0.mk (Kd.V_drew HO3.out)
    have n2_ := Aside0.mk (Kd.R_drew HO143.out)
    have n3_ := Aside0.mk (Kd.R_drew HO145.out)
    have n4_ := Aside0.mk (Kd.R_drew HO147.out)
    have n5_ := Aside0.mk (below_drew1 HB.out)
    clear HO1
    clear HO3
    clear HO143
    clear HO145
    clear HO147
    clear HB
    have HO1 := n0_
    have HO3 := n1_
    have HO143 := n2_
    have HO145 := n3_
    have HO147 := n4_
    have HB := n5_
    clear n0_ n1_ n2_ n3_ n4_ n5_
    have q36 : ((ji9) : Int) ≤ ((l3.length : Int) : Int) := of_decide_eq_true (by first | (with_reducible assumption))
    obtain ⟨i036, hi036, _, hsz36, _⟩ := info_parts info5
    have hroom36 : l3.length ≤ c3 := (Kd.V_reads' HO3.out).2.1
    have hC36 : Kd.F (Kd.int .u8) _ _ A3 l3.length l3 := (Kd.V_at (base := w.heap.size) HO3.out).2.2
    skip
    skip
    skip
    have hcut36 := cut_to (P := Try.prog) 22 5 .i64 Try.underlying22 hi036 A3 l3.length c3 (ji9) (of_decide_eq_true (by first | (with_reducible assumption))) q36 hroom36
    have hr36 := Kd.F_take (m := ((ji9) : Int).toNat) hC36 (by omega)
    have hy36 : y148.length = ((ji9) : Int).toNat := (by rw [Ny148.out, List.length_take]; omega)
    rw [← Ny148.out] at hr36
    rw [← hy36] at hcut36
    have HO152 := Aside0.mk (show Kd.V (Kd.int .u8) 5 _ w.heap.size _ (.slice A3 y148.length c3) y148 from Kd.V_mk (by omega) hr36)
    have HC152 := Aside0.mk (show y148.length ≤ c3 from by omega)
    clear hr36 hC36 hroom36 hi036 hsz36
    have KY36 := Aside0.mk hy36
    clear hy36
    replace q36 := eq_true q36
    have q37 : ((ji9) : Int) ≤ ((l3.length : Int) : Int) := of_decide_eq_true (by first | (with_reducible assumption))
    obtain ⟨i037, hi037, _, hsz37, _⟩ := info_parts info5
    have hroom37 : l3.length ≤ c3 := (Kd.V_reads' HO3.out).2.1
    have hC37 : Kd.F (Kd.int .u8) _ _ A3 l3.length l3 := (Kd.V_at (base := w.heap.size) HO3.out).2.2
    have q037 : (0 : Int) ≤ ((ji9) : Int) := of_decide_eq_true (by first | (with_reducible assumption))
    skip
    skip
    skip
    have hcut37 := cut_from (P := Try.prog) 22 5 .i64 Try.underlying22 hi037 1 hsz37 A3 l3.length c3 (ji9) q037 q37
    have hr37 := Kd.F_cut (m := ((ji9) : Int).toNat) (c := c3) hC37 (by omega) hroom37
    obtain ⟨A37, hA37⟩ : ∃ A1, A1 = (if c3 = ((ji9) : Int).toNat then A3 else (A3 : Option Addr).map (·.add (((ji9) : Int).toNat * 1))) := ⟨_, rfl⟩
    obtain ⟨c37, hc37⟩ : ∃ c1, c1 = c3 - ((ji9) : Int).toNat := ⟨_, rfl⟩
    have hy37 : y159.length = l3.length - ((ji9) : Int).toNat := (by rw [Ny159.out, List.length_drop] <;> omega)
    rw [show (l3).drop ((ji9) : Int).toNat = y159 from Ny159.out.symm] at hr37
    replace hr37 : Kd.F (Kd.int .u8) _ _ A37 y159.length y159 := (by rw [hA37]; exact hr37)
    rw [← hy37, ← hA37, ← hc37] at hcut37
    have HO163 := Aside0.mk (show Kd.V (Kd.int .u8) 5 _ w.heap.size _ (.slice A37 y159.length c37) y159 from Kd.V_mk (by rw [hy37, hc37]; exact Nat.sub_le_sub_right hroom37 _) hr37)
    have HC163 := Aside0.mk (show y159.length ≤ c37 from by rw [hy37, hc37]; exact Nat.sub_le_sub_right hroom37 _)
    clear hr37 hC37 hroom37 hi037 hsz37 hc37
    have KY37 := Aside0.mk hy37
    have KA37 := Aside0.mk hA37
    clear hy37 hA37
    replace q37 := eq_true q37
    obtain ⟨Ao38, co38, eo38⟩ := Kd.R_slice HO147.out
    (subst eo38)
    refine start_ (n := 14) (S := fun w' => True) (ds := []) #[false, false, false, false, false, false, false, false, false, false, false, false, false, false] (by kernel_rfl) rfl rfl trivial (fun hHeld => ?_); refine with_tabW seal_Open.tab7 seal_Open.bits7 (fun HT_ HW_ => ?_)
    generalize w34.drew = w35 at HO1 HO3 HO143 HO145 HO147 HB HO152 HO163 hHeld ⊢
    refine pure_ (i := 0) (N := some 34) (v := ?_) (a' := ?_) #[true, false, false, false, false, false, false, false, false, false, false, false, false, false] rfl rfl (any_of HT_.out (by kernel_rfl)) (fun _ _ _ h => h) (Or.inl ⟨by rfl, ?_⟩) ?_ ?_
    rotate_left
    · intro w'
      go_simp
      with_reducible rfl
    rotate_left
    · simp only [Act.put, List.setIfInBounds_toArray, List.set_cons_zero, List.set_cons_succ, i64_w, i32_w]
      rfl
    refine pure_ (i := 1) (N := some 35) (v := ?_) (a' := ?_) #[true, true, false, false, false, false, false, false, false, false, false, false, false, false] rfl rfl (any_of HT_.out (by kernel_rfl)) (fun _ _ _ h => h) (Or.inl ⟨by rfl, ?_⟩) ?_ ?_
    rotate_left
    · intro w'
      go_simp
      with_reducible rfl
    rotate_left
    · simp only [Act.put, List.setIfInBounds_toArray, List.set_cons_zero, List.set_cons_succ, i64_w, i32_w]
      rfl
    refine pure_ (i := 2) (N := some 36) (v := ?_) (a' := ?_) #[true, true, true, false, false, false, false, false, false, false, false, false, false, false] rfl rfl (any_of HT_.out (by kernel_rfl)) (fun _ _ _ h => h) (Or.inl ⟨by rfl, ?_⟩) ?_ ?_
    rotate_left
    · intro w'
      go_simp
      with_reducible rfl
    rotate_left
    · simp only [Act.put, List.setIfInBounds_toArray, List.set_cons_zero, List.set_cons_succ, i64_w, i32_w]
      rfl
    refine pure_ (i := 3) (N := some 37) (v := ?_) (a' := ?_) #[true, true, true, true, false, false, false, false, false, false, false, false, false, false] rfl rfl (any_of HT_.out (by kernel_rfl)) (fun _ _ _ h => h) (Or.inl ⟨by rfl, ?_⟩) ?_ ?_
    rotate_left
    · intro w'
      go_simp
      with_reducible rfl
    rotate_left
    · simp only [Act.put, List.setIfInBounds_toArray, List.set_cons_zero, List.set_cons_succ, i64_w, i32_w]
      rfl
    refine pure_ (i := 4) (N := some 38) (v := ?_) (a' := ?_) #[true, true, true, true, true, false, false, false, false, false, false, false, false, false] rfl rfl (any_of HT_.out (by kernel_rfl)) (fun _ _ _ h => h) (Or.inl ⟨by rfl, ?_⟩) ?_ ?_
    rotate_left
    · intro w'
      go_simp
      with_reducible rfl
    rotate_left
    · simp only [Act.put, List.setIfInBounds_toArray, List.set_cons_zero, List.set_cons_succ, i64_w, i32_w]
      rfl
    refine pure_ (i := 5) (N := some 39) (v := ?_) (a' := ?_) #[true, true, true, true, true, true, false, false, false, false, false, false, false, false] rfl rfl (any_of HT_.out (by kernel_rfl)) (fun _ _ _ h => h) (Or.inl ⟨by rfl, ?_⟩) ?_ ?_
    rotate_left
    · intro w'
      go_simp
      with_reducible rfl
    rotate_left
    · simp only [Act.put, List.setIfInBounds_toArray, List.set_cons_zero, List.set_cons_succ, i64_w, i32_w]
      rfl
    refine pure_ (i := 8) (N := some 42) (v := ?_) (a' := ?_) #[true, true, true, true, true, true, false, false, true, false, false, false, false, false] rfl rfl (any_of HT_.out (by kernel_rfl)) (fun _ _ _ h => h) (Or.inl ⟨by rfl, ?_⟩) ?_ ?_
    rotate_left
    · intro w'
      go_simp
      with_reducible rfl
    rotate_left
    · simp only [Act.put, List.setIfInBounds_toArray, List.set_cons_zero, List.set_cons_succ, i64_w, i32_w]
      rfl
    refine pure_ (i := 9) (N := some 43) (v := ?_) (a' := ?_) #[true, true, true, true, true, true, false, false, true, true, false, false, false, false] rfl rfl (any_of HT_.out (by kernel_rfl)) (fun _ _ _ h => h) (Or.inl ⟨by rfl, ?_⟩) ?_ ?_
    rotate_left
    · intro w'
      go_simp
      with_reducible rfl
    rotate_left
    · simp only [Act.put, List.setIfInBounds_toArray, List.set_cons_zero, List.set_cons_succ, i64_w, i32_w]
      rfl
    refine pure_ (i := 10) (N := some 44) (v := ?_) (a' := ?_) #[true, true, true, true, true, true, false, false, true, true, true, false, false, false] rfl rfl (any_of HT_.out (by kernel_rfl)) (fun _ _ _ h => h) (Or.inl ⟨by rfl, ?_⟩) ?_ ?_
    rotate_left
    · intro w'
      go_simp
      with_reducible rfl
    rotate_left
    · simp only [Act.put, List.setIfInBounds_toArray, List.set_cons_zero, List.set_cons_succ, i64_w, i32_w]
      rfl
    refine one_ (i := 6) (N := some 40) #[true, true, true, true, true, true, true, false, true, true, true, false, false, false] rfl rfl (one_of HT_.out (by kernel_rfl)) (by decide) (fun K hK => ?_)
    refine Kd.N_lit_step (Kd.slice 5 (Kd.int .u8)) _ 22 ?hg (N' := 40) ?hd (xs := ([t140, l1, y148] : List (List Int))) (inner := [.slice Ao38 t140.length co38, .slice A1 l1.length c1, .slice A3 y148.length c3]) (ok := (fun k_ => ((P1_ k_ ∨ P3_ k_) ∨ w.heap.size ≤ k_) ∧ some k_ ≠ (v142 : Value).ownBlock ∧ some k_ ≠ (v144 : Value).ownBlock)) (okp := (fun k_ => ((P1_ k_ ∨ P3_ k_) ∨ w.heap.size ≤ k_) ∧ some k_ ≠ (v142 : Value).ownBlock ∧ some k_ ≠ (v144 : Value).ownBlock)) ?hr ?hp (fun _ hk => hk) ((show ∀ k_, w35.heap.size ≤ k_ → (fun k_ => ((P1_ k_ ∨ P3_ k_) ∨ w.heap.size ≤ k_) ∧ some k_ ≠ (v142 : Value).ownBlock ∧ some k_ ≠ (v144 : Value).ownBlock) k_ from fun k_ hk => ⟨(.inr (Nat.le_trans (below_size (by repeat ((with_reducible first | exact HB.out)))) hk)), Kd.fresh' (Kd.R_lt (by (with_reducible repeat (fail)); exact HO143.out)) k_ hk, Kd.fresh' (Kd.R_lt (by (with_reducible repeat (fail)); exact HO145.out)) k_ hk⟩) _ (Nat.le_refl _)) (Below.refl _ _) (Nat.le_refl _) (by simp) ?_; (case hd => rfl); (case hg => rfl); (case hr => first | (go_simp; done)); (case hp => exact (Reps.one (show Kd.FK (Kd.slice 5 (Kd.int .u8)) _ _ t140 [.slice Ao38 t140.length co38] from (Kd.FK_slice_mk (Kd.R_reads' (Kd.R_mono (ok' := (fun k_ => ((P1_ k_ ∨ P3_ k_) ∨ w.heap.size ≤ k_) ∧ some k_ ≠ (v142 : Value).ownBlock ∧ some k_ ≠ (v144 : Value).ownBlock)) (HO147.out) (fun k_ hk => ⟨(.inr (hk.1)), ⟨hk.2.1, hk.2.2⟩⟩))).2.1 (Kd.R_F (Kd.R_mono (ok' := (fun k_ => ((P1_ k_ ∨ P3_ k_) ∨ w.heap.size ≤ k_) ∧ some k_ ≠ (v142 : Value).ownBlock ∧ some k_ ≠ (v144 : Value).ownBlock)) (HO147.out) (fun k_ hk => ⟨(.inr (hk.1)), ⟨hk.2.1, hk.2.2⟩⟩))))) (Reps.one (show Kd.FK (Kd.slice 5 (Kd.int .u8)) _ _ l1 [.slice A1 l1.length c1] from (Kd.FK_slice_mk (Kd.V_reads' (Kd.V_mono (ok' := (fun k_ => ((P1_ k_ ∨ P3_ k_) ∨ w.heap.size ≤ k_) ∧ some k_ ≠ (v142 : Value).ownBlock ∧ some k_ ≠ (v144 : Value).ownBlock)) (HO1.out) (fun k_ hk => ⟨hk.1.1.1, ⟨hk.1.1.2, hk.1.2⟩⟩))).2.1 (Kd.V_F (Kd.V_mono (ok' := (fun k_ => ((P1_ k_ ∨ P3_ k_) ∨ w.heap.size ≤ k_) ∧ some k_ ≠ (v142 : Value).ownBlock ∧ some k_ ≠ (v144 : Value).ownBlock)) (HO1.out) (fun k_ hk => ⟨hk.1.1.1, ⟨hk.1.1.2, hk.1.2⟩⟩))))) (Reps.one (show Kd.FK (Kd.slice 5 (Kd.int .u8)) _ _ y148 [.slice A3 y148.length c3] from (Kd.FK_slice_mk (Kd.V_reads' (Kd.V_mono (ok' := (fun k_ => ((P1_ k_ ∨ P3_ k_) ∨ w.heap.size ≤ k_) ∧ some k_ ≠ (v142 : Value).ownBlock ∧ some k_ ≠ (v144 : Value).ownBlock)) (HO152.out) (fun k_ hk => ⟨hk.1.1.1, ⟨hk.1.1.2, hk.1.2⟩⟩))).2.1 (Kd.V_F (Kd.V_mono (ok' := (fun k_ => ((P1_ k_ ∨ P3_ k_) ∨ w.heap.size ≤ k_) ∧ some k_ ≠ (v142 : Value).ownBlock ∧ some k_ ≠ (v144 : Value).ownBlock)) (HO152.out) (fun k_ hk => ⟨hk.1.1.1, ⟨hk.1.1.2, hk.1.2⟩⟩))))) (Reps.none _ _)))))
    intro v154 w39 ho40 hb hg_ hnew_
    clear hg_ hnew_
    (rw [← Ny153.out] at ho40)
    have n0_ := Aside0.mk (Kd.V_elder' (by (with_reducible repeat (fail)); exact HO1.out) (Kd.N_base ho40) hb)
    have n1_ := Aside0.mk (Kd.V_elder' (by (with_reducible repeat (fail)); exact HO3.out) (Kd.N_base ho40) hb)
    have n2_ := Aside0.mk (Kd.R_below (by (with_reducible repeat (fail)); exact HO143.out) hb)
    have n3_ := Aside0.mk (Kd.R_below (by (with_reducible repeat (fail)); exact HO145.out) hb)
    have n4_ := Aside0.mk (Kd.V_elder' (by (with_reducible repeat (fail)); exact HO152.out) (Kd.N_base ho40) hb)
    have n5_ := Aside0.mk (Kd.V_elder' (by (with_reducible repeat (fail)); exact HO163.out) (Kd.N_base ho40) hb)
    have n6_ := Aside0.mk (Kd.N_lower ho40 (below_size (by repeat ((with_reducible first | exact HB.out)))))
    have n7_ := Aside0.mk (below_step (by repeat ((with_reducible first | exact HB.out))) hb)
    clear HO1
    clear HO3
    clear HO143
    clear HO145
    clear HO152
    clear HO163
    clear HB
    clear HO147
    have HO1 := n0_
    have HO3 := n1_
    have HO143 := n2_
    have HO145 := n3_
    have HO152 := n4_
    have HO163 := n5_
    have HO155 := n6_
    have HB := n7_
    clear n0_ n1_ n2_ n3_ n4_ n5_ n6_ n7_
    clear hb ho40
    obtain ⟨Ao41, co41, eo41⟩ := Kd.R_slice HO145.out
    (subst eo41)
    obtain ⟨Ao42, co42, eo42⟩ := Kd.N_slice HO155.out
    (subst eo42)
    refine hK.out _ _ trivial (fun hHeld => ?_)
    clear hK K
    refine norm_ (a' := ?_) ?_ ?_
    rotate_left
    · show Act.put _ (some 40) _ = _
      simp only [Act.put, List.setIfInBounds_toArray, List.set_cons_zero, List.set_cons_succ, i64_w, i32_w]
      rfl
    refine one_ (i := 7) (N := some 41) #[true, true, true, true, true, true, true, true, true, true, true, false, false, false] rfl rfl (one_of HT_.out (by kernel_rfl)) (by decide) (fun K hK => ?_)
    refine goes_ Try.func44 (by kernel_rfl) rfl #[.slice Ao41 t139.length co41, .slice Ao42 y153.length co42] (by rfl) rfl rfl (by (try simp only [List.map_toArray, List.map_cons, List.map_nil]); first | rfl) ?_
    with_reducible refine (seal_tag.calls _ _ t139 _ _ y153 t156 _ ?side1 ?side2 ?side3 ?side4 A12.out).mono ?_
    (case side1 => repeat (exact (Kd.R_reads' HO145.out).2.2))
    (case side2 => exact (Kd.R_reads' HO145.out).2.1)
    (case side3 => repeat (exact (Kd.N_reads' HO155.out).2.2))
    (case side4 => exact (Kd.N_reads' HO155.out).2.1)
    rintro e w43 ⟨v157, rfl, ho0, hb⟩
    refine ⟨_, rfl, ?_⟩
    have n0_ := Aside0.mk (Kd.V_elder' (by (with_reducible repeat (fail)); exact HO1.out) (Kd.R_base ho0) hb)
    have n1_ := Aside0.mk (Kd.V_elder' (by (with_reducible repeat (fail)); exact HO3.out) (Kd.R_base ho0) hb)
    have n2_ := Aside0.mk (Kd.R_elder' (by (with_reducible repeat (fail)); exact HO143.out) (Kd.R_base ho0) hb)
    have n3_ := Aside0.mk (Kd.R_elder' (by (with_reducible repeat (fail)); exact HO145.out) (Kd.R_base ho0) hb)
    have n4_ := Aside0.mk (Kd.V_elder' (by (with_reducible repeat (fail)); exact HO152.out) (Kd.R_base ho0) hb)
    have n5_ := Aside0.mk (Kd.V_elder' (by (with_reducible repeat (fail)); exact HO163.out) (Kd.R_base ho0) hb)
    have n6_ := Aside0.mk (Kd.N_elder' (by (with_reducible repeat (fail)); exact HO155.out) (Kd.R_base ho0) hb)
    have n7_ := Aside0.mk (Kd.R_lower (Kd.R_new' (Kd.R_new' (Kd.R_newM (M := fun k_ => (w.heap.size ≤ k_)) ho0 (below_size (by repeat ((with_reducible first | exact HB.out)))) (fun k_ h_ => h_)) (Kd.R_lt (by (with_reducible repeat (fail)); exact HO143.out))) (Kd.R_lt (by (with_reducible repeat (fail)); exact HO145.out))) (below_size (by repeat ((with_reducible first | exact HB.out)))))
    have n8_ := Aside0.mk (below_step (by repeat ((with_reducible first | exact HB.out))) hb)
    clear HO1
    clear HO3
    clear HO143
    clear HO145
    clear HO152
    clear HO163
    clear HO155
    clear HB
    have HO1 := n0_
    have HO3 := n1_
    have HO143 := n2_
    have HO145 := n3_
    have HO152 := n4_
    have HO163 := n5_
    have HO155 := n6_
    have HO158 := n7_
    have HB := n8_
    clear n0_ n1_ n2_ n3_ n4_ n5_ n6_ n7_ n8_
    (try clear hb)
    (skip)
    (skip)
    (skip)
    (try clear ho0)
    obtain ⟨Ao44, co44, eo44⟩ := Kd.R_slice HO158.out
    (subst eo44)
    refine hK.out _ _ trivial (fun hHeld => ?_)
    clear hK K
    refine norm_ (a' := ?_) ?_ ?_
    rotate_left
    · show Act.put _ (some 41) _ = _
      simp only [Act.put, List.setIfInBounds_toArray, List.set_cons_zero, List.set_cons_succ, i64_w, i32_w]
      rfl
    refine one_ (i := 11) (N := some 45) #[true, true, true, true, true, true, true, true, true, true, true, true, false, false] rfl rfl (one_of HT_.out (by kernel_rfl)) (by decide) (fun K hK => ?_)
    refine goes_ Try.func46 (by kernel_rfl) rfl #[.slice Ao44 t156.length co44, .slice A37 y159.length c37] (by rfl) rfl rfl (by (try simp only [List.map_toArray, List.map_cons, List.map_nil]); first | rfl) ?_
    with_reducible refine (mac_Same.calls _ _ t156 _ _ y159 false _ ?side1 ?side2 ?side3 ?side4 A15.out).mono ?_
    (case side1 => repeat (exact (Kd.R_reads' HO158.out).2.2))
    (case side2 => exact (Kd.R_reads' HO158.out).2.1)
    (case side3 => repeat (exact (Kd.V_reads' HO163.out).2.2))
    (case side4 => exact (Kd.V_reads' HO163.out).2.1)
    rintro e w' ⟨rfl, ⟨nd, rfl⟩⟩
    refine ⟨_, rfl, ?_⟩
    refine hK.out _ _ trivial (fun hHeld => ?_)
    clear hK K
    refine norm_ (a' := ?_) ?_ ?_
    rotate_left
    · show Act.put _ (some 45) _ = _
      simp only [Act.put, List.setIfInBounds_toArray, List.set_cons_zero, List.set_cons_succ, i64_w, i32_w]
      rfl
    refine pure_ (i := 12) (N := some 46) (v := ?_) (a' := ?_) #[true, true, true, true, true, true, true, true, true, true, true, true, true, false] rfl rfl (any_of HT_.out (by kernel_rfl)) (fun _ _ _ h => h) (Or.inl ⟨by rfl, ?_⟩) ?_ ?_
    rotate_left
    · intro w'
      go_simp
      with_reducible rfl
    rotate_left
    · simp only [Act.put, List.setIfInBounds_toArray, List.set_cons_zero, List.set_cons_succ, i64_w, i32_w]
      rfl
    refine pure_ (i := 13) (N := some 33) (v := ?_) (a' := ?_) #[true, true, true, true, true, true, true, true, true, true, true, true, true, true] rfl rfl (any_of HT_.out (by kernel_rfl)) (fun _ _ _ h => h) (Or.inl ⟨by rfl, ?_⟩) ?_ ?_
    rotate_left
    · intro w'
      go_simp
      with_reducible rfl
    rotate_left
    · simp only [Act.put, List.setIfInBounds_toArray, List.set_cons_zero, List.set_cons_succ, i64_w, i32_w]
      rfl
    refine done_ (done_of HT_.out (by kernel_rfl)) ?_
    try go_wp2
    go_ret2
    exact ⟨_, by first | rfl, by first | exact Kd.R_nil _ _ _ _ _, by repeat ((with_reducible first | exact HB.out | apply pw_below_drewN))⟩
  subst c16
  have H1 : ((aes_Stream.f t138 l1 (l3.take ((ji9) : Int).toNat)).bind fun bt170 => (some (bt170.1, bt170.2))) = some (r1, r2) := by rw [if_pos rfl] at H; exact H
  clear H
  have H := H1
  clear H1
  have c17b0 := eq_true (of_decide_eq_true (by first | (with_reducible assumption)) : 0 ≤ (ji9))
  have c18b0 := eq_true (of_decide_eq_true (by first | (with_reducible assumption)) : (ji9) ≤ (l3.length : Int))
  obtain ⟨y165, hy165⟩ : ∃ y_ : List Int, y_ = (l3.take ((ji9) : Int).toNat) := ⟨_, rfl⟩
  replace H : ((aes_Stream.f t138 l1 y165).bind fun bt170 => (some (bt170.1, bt170.2))) = some (r1, r2) := by first | (rw [hy165]; with_reducible exact H)
  have Ny165 := Aside0.mk hy165
  clear hy165
  replace H := Option.bind_eq_some_iff.mp H
  obtain ⟨⟨t170, t171⟩, A190, H⟩ := H
  replace H : (some (t170, t171)) = some (r1, r2) := H
  have A19 := Aside0.mk A190
  clear A190
  simp only [Option.some.injEq, Prod.mk.injEq] at H
  obtain ⟨rfl, rfl⟩ := H
  go_enter Try.func19, Try.ntmps19
  try go_wp2_with (first | ((with_reducible refine gate_callee (f := 42) rfl ?_); refine goesL_ (some 19) rfl rfl Try.func42 (by kernel_rfl) rfl #[.slice A0 l0.length c0, .slice A1 l1.length c1, .slice A2 l2.length c2] rfl (by (try simp only [List.map_toArray, List.map_cons, List.map_nil]); first | rfl) ?_; (with_reducible refine (seal_ready.calls _ _ l0 _ _ l1 _ _ l2 t138 t139 t140 t141 _ ?side1 ?side2 ?side3 ?side4 ?side5 ?side6 A5.out).mono ?_); (case side1 => repeat (exact HR0.out)); (case side2 => exact HC0.out); (case side3 => repeat (exact (Kd.V_reads' HO1.out).2.2)); (case side4 => exact (Kd.V_reads' HO1.out).2.1); (case side5 => repeat (exact HR2.out)); (case side6 => exact HC2.out); rintro e w20 ⟨v142, v144, v146, rfl, ho0, ho1, ho2, hb⟩; refine ⟨_, rfl, ?_⟩; have n0_ := Aside0.mk (Kd.V_mono (Kd.V_told (Kd.V_told (Kd.V_told (Kd.V_old (by (with_reducible repeat (fail)); exact HO1.out) hb) (Kd.R_base ho0)) (Kd.R_base ho1)) (Kd.R_base ho2)) (fun _ h_ => h_.1)); have n1_ := Aside0.mk (Kd.V_mono (Kd.V_told (Kd.V_told (Kd.V_told (Kd.V_old (by (with_reducible repeat (fail)); exact HO3.out) hb) (Kd.R_base ho0)) (Kd.R_base ho1)) (Kd.R_base ho2)) (fun _ h_ => h_.1)); have n2_ := Aside0.mk (Kd.R_lower (Kd.R_newM (M := fun k_ => (w.heap.size ≤ k_)) ho0 (below_size (by repeat ((with_reducible first | exact HB.out)))) (fun k_ h_ => h_)) (below_size (by repeat ((with_reducible first | exact HB.out))))); have n3_ := Aside0.mk (Kd.R_lower (Kd.R_newM (M := fun k_ => (w.heap.size ≤ k_)) ho1 (below_size (by repeat ((with_reducible first | exact HB.out)))) (fun k_ h_ => h_)) (below_size (by repeat ((with_reducible first | exact HB.out))))); have n4_ := Aside0.mk (Kd.R_lower (Kd.R_newM (M := fun k_ => (w.heap.size ≤ k_)) ho2 (below_size (by repeat ((with_reducible first | exact HB.out)))) (fun k_ h_ => h_)) (below_size (by repeat ((with_reducible first | exact HB.out))))); have n5_ := Aside0.mk (below_step (by repeat ((with_reducible first | exact HB.out))) hb); clear HO1; clear HO3; clear HB; have HO1 := n0_; have HO3 := n1_; have HO143 := n2_; have HO145 := n3_; have HO147 := n4_; have HB := n5_; clear n0_ n1_ n2_ n3_ n4_ n5_; (try clear hb); (try clear ho0); (try clear ho1); (try clear ho2)))
  have n0_ := Aside0.mk (Kd.V_drew HO1.out)
  have n1_ := Aside0.mk (Kd.V_drew HO3.out)
  have n2_ := Aside0.mk (Kd.R_drew HO143.out)
  have n3_ := Aside0.mk (Kd.R_drew HO145.out)
  have n4_ := Aside0.mk (Kd.R_drew HO147.out)
  have n5_ := Aside0.mk (below_drew1 HB.out)
  clear HO1
  clear HO3
  clear HO143
  clear HO145
  clear HO147
  clear HB
  have HO1 := n0_
  have HO3 := n1_
  have HO143 := n2_
  have HO145 := n3_
  have HO147 := n4_
  have HB := n5_
  clear n0_ n1_ n2_ n3_ n4_ n5_
  have q22 : ((ji9) : Int) ≤ ((l3.length : Int) : Int) := of_decide_eq_true (by first | (with_reducible assumption))
  obtain ⟨i022, hi022, _, hsz22, _⟩ := info_parts info5
  have hroom22 : l3.length ≤ c3 := (Kd.V_reads' HO3.out).2.1
  have hC22 : Kd.F (Kd.int .u8) _ _ A3 l3.length l3 := (Kd.V_at (base := w.heap.size) HO3.out).2.2
  have hcut22 := cut_to (P := Try.prog) 22 5 .i64 Try.underlying22 hi022 A3 l3.length c3 (ji9) (of_decide_eq_true (by first | (with_reducible assumption))) q22 hroom22
  have hr22 := Kd.F_take (m := ((ji9) : Int).toNat) hC22 (by omega)
  have hy22 : y148.length = ((ji9) : Int).toNat := (by rw [Ny148.out, List.length_take]; omega)
  rw [← Ny148.out] at hr22
  rw [← hy22] at hcut22
  have HO152 := Aside0.mk (show Kd.V (Kd.int .u8) 5 _ w.heap.size _ (.slice A3 y148.length c3) y148 from Kd.V_mk (by omega) hr22)
  have HC152 := Aside0.mk (show y148.length ≤ c3 from by omega)
  clear hr22 hC22 hroom22 hi022 hsz22
  have KY22 := Aside0.mk hy22
  clear hy22
  replace q22 := eq_true q22
  have q23 : ((ji9) : Int) ≤ ((l3.length : Int) : Int) := of_decide_eq_true (by first | (with_reducible assumption))
  obtain ⟨i023, hi023, _, hsz23, _⟩ := info_parts info5
  have hroom23 : l3.length ≤ c3 := (Kd.V_reads' HO3.out).2.1
  have hC23 : Kd.F (Kd.int .u8) _ _ A3 l3.length l3 := (Kd.V_at (base := w.heap.size) HO3.out).2.2
  have q023 : (0 : Int) ≤ ((ji9) : Int) := of_decide_eq_true (by first | (with_reducible assumption))
  have hcut23 := cut_from (P := Try.prog) 22 5 .i64 Try.underlying22 hi023 1 hsz23 A3 l3.length c3 (ji9) q023 q23
  have hr23 := Kd.F_cut (m := ((ji9) : Int).toNat) (c := c3) hC23 (by omega) hroom23
  obtain ⟨A23, hA23⟩ : ∃ A1, A1 = (if c3 = ((ji9) : Int).toNat then A3 else (A3 : Option Addr).map (·.add (((ji9) : Int).toNat * 1))) := ⟨_, rfl⟩
  obtain ⟨c23, hc23⟩ : ∃ c1, c1 = c3 - ((ji9) : Int).toNat := ⟨_, rfl⟩
  have hy23 : y159.length = l3.length - ((ji9) : Int).toNat := (by rw [Ny159.out, List.length_drop] <;> omega)
  rw [show (l3).drop ((ji9) : Int).toNat = y159 from Ny159.out.symm] at hr23
  replace hr23 : Kd.F (Kd.int .u8) _ _ A23 y159.length y159 := (by rw [hA23]; exact hr23)
  rw [← hy23, ← hA23, ← hc23] at hcut23
  have HO163 := Aside0.mk (show Kd.V (Kd.int .u8) 5 _ w.heap.size _ (.slice A23 y159.length c23) y159 from Kd.V_mk (by rw [hy23, hc23]; exact Nat.sub_le_sub_right hroom23 _) hr23)
  have HC163 := Aside0.mk (show y159.length ≤ c23 from by rw [hy23, hc23]; exact Nat.sub_le_sub_right hroom23 _)
  clear hr23 hC23 hroom23 hi023 hsz23 hc23
  have KY23 := Aside0.mk hy23
  have KA23 := Aside0.mk hA23
  clear hy23 hA23
  replace q23 := eq_true q23
  obtain ⟨Ao24, co24, eo24⟩ := Kd.R_slice HO147.out
  (subst eo24)
  refine start_ (n := 14) (S := fun w' => True) (ds := []) #[false, false, false, false, false, false, false, false, false, false, false, false, false, false] (by kernel_rfl) rfl rfl trivial (fun hHeld => ?_); refine with_tabW seal_Open.tab7 seal_Open.bits7 (fun HT_ HW_ => ?_)
  generalize w20.drew = w21 at HO1 HO3 HO143 HO145 HO147 HB HO152 HO163 hHeld ⊢
  refine pure_ (i := 0) (N := some 34) (v := ?_) (a' := ?_) #[true, false, false, false, false, false, false, false, false, false, false, false, false, false] rfl rfl (any_of HT_.out (by kernel_rfl)) (fun _ _ _ h => h) (Or.inl ⟨by rfl, ?_⟩) ?_ ?_
  rotate_left
  · intro w'
    go_simp
    with_reducible rfl
  rotate_left
  · simp only [Act.put, List.setIfInBounds_toArray, List.set_cons_zero, List.set_cons_succ, i64_w, i32_w]
    rfl
  refine pure_ (i := 1) (N := some 35) (v := ?_) (a' := ?_) #[true, true, false, false, false, false, false, false, false, false, false, false, false, false] rfl rfl (any_of HT_.out (by kernel_rfl)) (fun _ _ _ h => h) (Or.inl ⟨by rfl, ?_⟩) ?_ ?_
  rotate_left
  · intro w'
    go_simp
    with_reducible rfl
  rotate_left
  · simp only [Act.put, List.setIfInBounds_toArray, List.set_cons_zero, List.set_cons_succ, i64_w, i32_w]
    rfl
  refine pure_ (i := 2) (N := some 36) (v := ?_) (a' := ?_) #[true, true, true, false, false, false, false, false, false, false, false, false, false, false] rfl rfl (any_of HT_.out (by kernel_rfl)) (fun _ _ _ h => h) (Or.inl ⟨by rfl, ?_⟩) ?_ ?_
  rotate_left
  · intro w'
    go_simp
    with_reducible rfl
  rotate_left
  · simp only [Act.put, List.setIfInBounds_toArray, List.set_cons_zero, List.set_cons_succ, i64_w, i32_w]
    rfl
  refine pure_ (i := 3) (N := some 37) (v := ?_) (a' := ?_) #[true, true, true, true, false, false, false, false, false, false, false, false, false, false] rfl rfl (any_of HT_.out (by kernel_rfl)) (fun _ _ _ h => h) (Or.inl ⟨by rfl, ?_⟩) ?_ ?_
  rotate_left
  · intro w'
    go_simp
    with_reducible rfl
  rotate_left
  · simp only [Act.put, List.setIfInBounds_toArray, List.set_cons_zero, List.set_cons_succ, i64_w, i32_w]
    rfl
  refine pure_ (i := 4) (N := some 38) (v := ?_) (a' := ?_) #[true, true, true, true, true, false, false, false, false, false, false, false, false, false] rfl rfl (any_of HT_.out (by kernel_rfl)) (fun _ _ _ h => h) (Or.inl ⟨by rfl, ?_⟩) ?_ ?_
  rotate_left
  · intro w'
    go_simp
    with_reducible rfl
  rotate_left
  · simp only [Act.put, List.setIfInBounds_toArray, List.set_cons_zero, List.set_cons_succ, i64_w, i32_w]
    rfl
  refine pure_ (i := 5) (N := some 39) (v := ?_) (a' := ?_) #[true, true, true, true, true, true, false, false, false, false, false, false, false, false] rfl rfl (any_of HT_.out (by kernel_rfl)) (fun _ _ _ h => h) (Or.inl ⟨by rfl, ?_⟩) ?_ ?_
  rotate_left
  · intro w'
    go_simp
    with_reducible rfl
  rotate_left
  · simp only [Act.put, List.setIfInBounds_toArray, List.set_cons_zero, List.set_cons_succ, i64_w, i32_w]
    rfl
  refine pure_ (i := 8) (N := some 42) (v := ?_) (a' := ?_) #[true, true, true, true, true, true, false, false, true, false, false, false, false, false] rfl rfl (any_of HT_.out (by kernel_rfl)) (fun _ _ _ h => h) (Or.inl ⟨by rfl, ?_⟩) ?_ ?_
  rotate_left
  · intro w'
    go_simp
    with_reducible rfl
  rotate_left
  · simp only [Act.put, List.setIfInBounds_toArray, List.set_cons_zero, List.set_cons_succ, i64_w, i32_w]
    rfl
  refine pure_ (i := 9) (N := some 43) (v := ?_) (a' := ?_) #[true, true, true, true, true, true, false, false, true, true, false, false, false, false] rfl rfl (any_of HT_.out (by kernel_rfl)) (fun _ _ _ h => h) (Or.inl ⟨by rfl, ?_⟩) ?_ ?_
  rotate_left
  · intro w'
    go_simp
    with_reducible rfl
  rotate_left
  · simp only [Act.put, List.setIfInBounds_toArray, List.set_cons_zero, List.set_cons_succ, i64_w, i32_w]
    rfl
  refine pure_ (i := 10) (N := some 44) (v := ?_) (a' := ?_) #[true, true, true, true, true, true, false, false, true, true, true, false, false, false] rfl rfl (any_of HT_.out (by kernel_rfl)) (fun _ _ _ h => h) (Or.inl ⟨by rfl, ?_⟩) ?_ ?_
  rotate_left
  · intro w'
    go_simp
    with_reducible rfl
  rotate_left
  · simp only [Act.put, List.setIfInBounds_toArray, List.set_cons_zero, List.set_cons_succ, i64_w, i32_w]
    rfl
  refine one_ (i := 6) (N := some 40) #[true, true, true, true, true, true, true, false, true, true, true, false, false, false] rfl rfl (one_of HT_.out (by kernel_rfl)) (by decide) (fun K hK => ?_)
  refine Kd.N_lit_step (Kd.slice 5 (Kd.int .u8)) _ 22 ?hg (N' := 40) ?hd (xs := ([t140, l1, y148] : List (List Int))) (inner := [.slice Ao24 t140.length co24, .slice A1 l1.length c1, .slice A3 y148.length c3]) (ok := (fun k_ => ((P1_ k_ ∨ P3_ k_) ∨ w.heap.size ≤ k_) ∧ some k_ ≠ (v142 : Value).ownBlock ∧ some k_ ≠ (v144 : Value).ownBlock)) (okp := (fun k_ => ((P1_ k_ ∨ P3_ k_) ∨ w.heap.size ≤ k_) ∧ some k_ ≠ (v142 : Value).ownBlock ∧ some k_ ≠ (v144 : Value).ownBlock)) ?hr ?hp (fun _ hk => hk) ((show ∀ k_, w21.heap.size ≤ k_ → (fun k_ => ((P1_ k_ ∨ P3_ k_) ∨ w.heap.size ≤ k_) ∧ some k_ ≠ (v142 : Value).ownBlock ∧ some k_ ≠ (v144 : Value).ownBlock) k_ from fun k_ hk => ⟨(.inr (Nat.le_trans (below_size (by repeat ((with_reducible first | exact HB.out)))) hk)), Kd.fresh' (Kd.R_lt (by (with_reducible repeat (fail)); exact HO143.out)) k_ hk, Kd.fresh' (Kd.R_lt (by (with_reducible repeat (fail)); exact HO145.out)) k_ hk⟩) _ (Nat.le_refl _)) (Below.refl _ _) (Nat.le_refl _) (by simp) ?_; (case hd => rfl); (case hg => rfl); (case hr => first | (go_simp; done)); (case hp => exact (Reps.one (show Kd.FK (Kd.slice 5 (Kd.int .u8)) _ _ t140 [.slice Ao24 t140.length co24] from (Kd.FK_slice_mk (Kd.R_reads' (Kd.R_mono (ok' := (fun k_ => ((P1_ k_ ∨ P3_ k_) ∨ w.heap.size ≤ k_) ∧ some k_ ≠ (v142 : Value).ownBlock ∧ some k_ ≠ (v144 : Value).ownBlock)) (HO147.out) (fun k_ hk => ⟨(.inr (hk.1)), ⟨hk.2.1, hk.2.2⟩⟩))).2.1 (Kd.R_F (Kd.R_mono (ok' := (fun k_ => ((P1_ k_ ∨ P3_ k_) ∨ w.heap.size ≤ k_) ∧ some k_ ≠ (v142 : Value).ownBlock ∧ some k_ ≠ (v144 : Value).ownBlock)) (HO147.out) (fun k_ hk => ⟨(.inr (hk.1)), ⟨hk.2.1, hk.2.2⟩⟩))))) (Reps.one (show Kd.FK (Kd.slice 5 (Kd.int .u8)) _ _ l1 [.slice A1 l1.length c1] from (Kd.FK_slice_mk (Kd.V_reads' (Kd.V_mono (ok' := (fun k_ => ((P1_ k_ ∨ P3_ k_) ∨ w.heap.size ≤ k_) ∧ some k_ ≠ (v142 : Value).ownBlock ∧ some k_ ≠ (v144 : Value).ownBlock)) (HO1.out) (fun k_ hk => ⟨hk.1.1.1, ⟨hk.1.1.2, hk.1.2⟩⟩))).2.1 (Kd.V_F (Kd.V_mono (ok' := (fun k_ => ((P1_ k_ ∨ P3_ k_) ∨ w.heap.size ≤ k_) ∧ some k_ ≠ (v142 : Value).ownBlock ∧ some k_ ≠ (v144 : Value).ownBlock)) (HO1.out) (fun k_ hk => ⟨hk.1.1.1, ⟨hk.1.1.2, hk.1.2⟩⟩))))) (Reps.one (show Kd.FK (Kd.slice 5 (Kd.int .u8)) _ _ y148 [.slice A3 y148.length c3] from (Kd.FK_slice_mk (Kd.V_reads' (Kd.V_mono (ok' := (fun k_ => ((P1_ k_ ∨ P3_ k_) ∨ w.heap.size ≤ k_) ∧ some k_ ≠ (v142 : Value).ownBlock ∧ some k_ ≠ (v144 : Value).ownBlock)) (HO152.out) (fun k_ hk => ⟨hk.1.1.1, ⟨hk.1.1.2, hk.1.2⟩⟩))).2.1 (Kd.V_F (Kd.V_mono (ok' := (fun k_ => ((P1_ k_ ∨ P3_ k_) ∨ w.heap.size ≤ k_) ∧ some k_ ≠ (v142 : Value).ownBlock ∧ some k_ ≠ (v144 : Value).ownBlock)) (HO152.out) (fun k_ hk => ⟨hk.1.1.1, ⟨hk.1.1.2, hk.1.2⟩⟩))))) (Reps.none _ _)))))
  intro v154 w25 ho26 hb hg_ hnew_
  clear hg_ hnew_
  (rw [← Ny153.out] at ho26)
  have n0_ := Aside0.mk (Kd.V_elder' (by (with_reducible repeat (fail)); exact HO1.out) (Kd.N_base ho26) hb)
  have n1_ := Aside0.mk (Kd.V_elder' (by (with_reducible repeat (fail)); exact HO3.out) (Kd.N_base ho26) hb)
  have n2_ := Aside0.mk (Kd.R_below (by (with_reducible repeat (fail)); exact HO143.out) hb)
  have n3_ := Aside0.mk (Kd.R_below (by (with_reducible repeat (fail)); exact HO145.out) hb)
  have n4_ := Aside0.mk (Kd.V_elder' (by (with_reducible repeat (fail)); exact HO152.out) (Kd.N_base ho26) hb)
  have n5_ := Aside0.mk (Kd.V_elder' (by (with_reducible repeat (fail)); exact HO163.out) (Kd.N_base ho26) hb)
  have n6_ := Aside0.mk (Kd.N_lower ho26 (below_size (by repeat ((with_reducible first | exact HB.out)))))
  have n7_ := Aside0.mk (below_step (by repeat ((with_reducible first | exact HB.out))) hb)
  clear HO1
  clear HO3
  clear HO143
  clear HO145
  clear HO152
  clear HO163
  clear HB
  clear HO147
  have HO1 := n0_
  have HO3 := n1_
  have HO143 := n2_
  have HO145 := n3_
  have HO152 := n4_
  have HO163 := n5_
  have HO155 := n6_
  have HB := n7_
  clear n0_ n1_ n2_ n3_ n4_ n5_ n6_ n7_
  clear hb ho26
  obtain ⟨Ao27, co27, eo27⟩ := Kd.R_slice HO145.out
  (subst eo27)
  obtain ⟨Ao28, co28, eo28⟩ := Kd.N_slice HO155.out
  (subst eo28)
  refine hK.out _ _ trivial (fun hHeld => ?_)
  clear hK K
  refine norm_ (a' := ?_) ?_ ?_
  rotate_left
  · show Act.put _ (some 40) _ = _
    simp only [Act.put, List.setIfInBounds_toArray, List.set_cons_zero, List.set_cons_succ, i64_w, i32_w]
    rfl
  refine one_ (i := 7) (N := some 41) #[true, true, true, true, true, true, true, true, true, true, true, false, false, false] rfl rfl (one_of HT_.out (by kernel_rfl)) (by decide) (fun K hK => ?_)
  refine goes_ Try.func44 (by kernel_rfl) rfl #[.slice Ao27 t139.length co27, .slice Ao28 y153.length co28] (by rfl) rfl rfl (by (try simp only [List.map_toArray, List.map_cons, List.map_nil]); first | rfl) ?_
  with_reducible refine (seal_tag.calls _ _ t139 _ _ y153 t156 _ ?side1 ?side2 ?side3 ?side4 A12.out).mono ?_
  (case side1 => repeat (exact (Kd.R_reads' HO145.out).2.2))
  (case side2 => exact (Kd.R_reads' HO145.out).2.1)
  (case side3 => repeat (exact (Kd.N_reads' HO155.out).2.2))
  (case side4 => exact (Kd.N_reads' HO155.out).2.1)
  rintro e w29 ⟨v157, rfl, ho0, hb⟩
  refine ⟨_, rfl, ?_⟩
  have n0_ := Aside0.mk (Kd.V_elder' (by (with_reducible repeat (fail)); exact HO1.out) (Kd.R_base ho0) hb)
  have n1_ := Aside0.mk (Kd.V_elder' (by (with_reducible repeat (fail)); exact HO3.out) (Kd.R_base ho0) hb)
  have n2_ := Aside0.mk (Kd.R_elder' (by (with_reducible repeat (fail)); exact HO143.out) (Kd.R_base ho0) hb)
  have n3_ := Aside0.mk (Kd.R_elder' (by (with_reducible repeat (fail)); exact HO145.out) (Kd.R_base ho0) hb)
  have n4_ := Aside0.mk (Kd.V_elder' (by (with_reducible repeat (fail)); exact HO152.out) (Kd.R_base ho0) hb)
  have n5_ := Aside0.mk (Kd.V_elder' (by (with_reducible repeat (fail)); exact HO163.out) (Kd.R_base ho0) hb)
  have n6_ := Aside0.mk (Kd.N_elder' (by (with_reducible repeat (fail)); exact HO155.out) (Kd.R_base ho0) hb)
  have n7_ := Aside0.mk (Kd.R_lower (Kd.R_new' (Kd.R_new' (Kd.R_newM (M := fun k_ => (w.heap.size ≤ k_)) ho0 (below_size (by repeat ((with_reducible first | exact HB.out)))) (fun k_ h_ => h_)) (Kd.R_lt (by (with_reducible repeat (fail)); exact HO143.out))) (Kd.R_lt (by (with_reducible repeat (fail)); exact HO145.out))) (below_size (by repeat ((with_reducible first | exact HB.out)))))
  have n8_ := Aside0.mk (below_step (by repeat ((with_reducible first | exact HB.out))) hb)
  clear HO1
  clear HO3
  clear HO143
  clear HO145
  clear HO152
  clear HO163
  clear HO155
  clear HB
  have HO1 := n0_
  have HO3 := n1_
  have HO143 := n2_
  have HO145 := n3_
  have HO152 := n4_
  have HO163 := n5_
  have HO155 := n6_
  have HO158 := n7_
  have HB := n8_
  clear n0_ n1_ n2_ n3_ n4_ n5_ n6_ n7_ n8_
  (try clear hb)
  (skip)
  (skip)
  (skip)
  (try clear ho0)
  obtain ⟨Ao30, co30, eo30⟩ := Kd.R_slice HO158.out
  (subst eo30)
  refine hK.out _ _ trivial (fun hHeld => ?_)
  clear hK K
  refine norm_ (a' := ?_) ?_ ?_
  rotate_left
  · show Act.put _ (some 41) _ = _
    simp only [Act.put, List.setIfInBounds_toArray, List.set_cons_zero, List.set_cons_succ, i64_w, i32_w]
    rfl
  refine one_ (i := 11) (N := some 45) #[true, true, true, true, true, true, true, true, true, true, true, true, false, false] rfl rfl (one_of HT_.out (by kernel_rfl)) (by decide) (fun K hK => ?_)
  refine goes_ Try.func46 (by kernel_rfl) rfl #[.slice Ao30 t156.length co30, .slice A23 y159.length c23] (by rfl) rfl rfl (by (try simp only [List.map_toArray, List.map_cons, List.map_nil]); first | rfl) ?_
  with_reducible refine (mac_Same.calls _ _ t156 _ _ y159 true _ ?side1 ?side2 ?side3 ?side4 A15.out).mono ?_
  (case side1 => repeat (exact (Kd.R_reads' HO158.out).2.2))
  (case side2 => exact (Kd.R_reads' HO158.out).2.1)
  (case side3 => repeat (exact (Kd.V_reads' HO163.out).2.2))
  (case side4 => exact (Kd.V_reads' HO163.out).2.1)
  rintro e w' ⟨rfl, ⟨nd, rfl⟩⟩
  refine ⟨_, rfl, ?_⟩
  refine hK.out _ _ trivial (fun hHeld => ?_)
  clear hK K
  refine norm_ (a' := ?_) ?_ ?_
  rotate_left
  · show Act.put _ (some 45) _ = _
    simp only [Act.put, List.setIfInBounds_toArray, List.set_cons_zero, List.set_cons_succ, i64_w, i32_w]
    rfl
  refine pure_ (i := 12) (N := some 46) (v := ?_) (a' := ?_) #[true, true, true, true, true, true, true, true, true, true, true, true, true, false] rfl rfl (any_of HT_.out (by kernel_rfl)) (fun _ _ _ h => h) (Or.inl ⟨by rfl, ?_⟩) ?_ ?_
  rotate_left
  · intro w'
    go_simp
    with_reducible rfl
  rotate_left
  · simp only [Act.put, List.setIfInBounds_toArray, List.set_cons_zero, List.set_cons_succ, i64_w, i32_w]
    rfl
  refine pure_ (i := 13) (N := some 33) (v := ?_) (a' := ?_) #[true, true, true, true, true, true, true, true, true, true, true, true, true, true] rfl rfl (any_of HT_.out (by kernel_rfl)) (fun _ _ _ h => h) (Or.inl ⟨by rfl, ?_⟩) ?_ ?_
  rotate_left
  · intro w'
    go_simp
    with_reducible rfl
  rotate_left
  · simp only [Act.put, List.setIfInBounds_toArray, List.set_cons_zero, List.set_cons_succ, i64_w, i32_w]
    rfl
  refine done_ (done_of HT_.out (by kernel_rfl)) ?_
  have q31 : ((ji9) : Int) ≤ ((l3.length : Int) : Int) := of_decide_eq_true (by first | (with_reducible assumption))
  obtain ⟨i031, hi031, _, hsz31, _⟩ := info_parts info5
  have hroom31 : l3.length ≤ c3 := (Kd.V_reads' HO3.out).2.1
  have hC31 : Kd.F (Kd.int .u8) _ _ A3 l3.length l3 := (Kd.V_at (base := w.heap.size) HO3.out).2.2
  try clear hcut22
  try clear hcut23
  have hcut31 := cut_to (P := Try.prog) 22 5 .i64 Try.underlying22 hi031 A3 l3.length c3 (ji9) (of_decide_eq_true (by first | (with_reducible assumption))) q31 hroom31
  have hr31 := Kd.F_take (m := ((ji9) : Int).toNat) hC31 (by omega)
  have hy31 : y165.length = ((ji9) : Int).toNat := (by rw [Ny165.out, List.length_take]; omega)
  rw [← Ny165.out] at hr31
  rw [← hy31] at hcut31
  have HO169 := Aside0.mk (show Kd.V (Kd.int .u8) 5 _ w.heap.size _ (.slice A3 y165.length c3) y165 from Kd.V_mk (by omega) hr31)
  have HC169 := Aside0.mk (show y165.length ≤ c3 from by omega)
  clear hr31 hC31 hroom31 hi031 hsz31
  have KY31 := Aside0.mk hy31
  clear hy31
  replace q31 := eq_true q31
  obtain ⟨Ao32, co32, eo32⟩ := Kd.R_slice HO143.out
  subst eo32
  try go_wp2_with (first | ((with_reducible refine gate_callee (f := 43) rfl ?_); refine goesL_ (some 52) rfl rfl Try.func43 (by kernel_rfl) rfl #[.slice Ao32 t138.length co32, .slice A1 l1.length c1, .slice A3 y165.length c3] rfl (by (try simp only [List.map_toArray, List.map_cons, List.map_nil]); first | rfl) ?_; (with_reducible refine (aes_Stream.calls _ _ t138 _ _ l1 _ _ y165 t170 t171 _ ?side1 ?side2 ?side3 ?side4 ?side5 ?side6 A19.out).mono ?_); (case side1 => repeat (exact (Kd.R_reads' HO143.out).2.2)); (case side2 => exact (Kd.R_reads' HO143.out).2.1); (case side3 => repeat (exact (Kd.V_reads' HO1.out).2.2)); (case side4 => exact (Kd.V_reads' HO1.out).2.1); (case side5 => repeat (exact (Kd.V_reads' HO169.out).2.2)); (case side6 => exact (Kd.V_reads' HO169.out).2.1); rintro e w33 ⟨v172, rfl, ho0, hb⟩; refine ⟨_, rfl, ?_⟩; have n0_ := Aside0.mk (Kd.V_elder' (by (with_reducible repeat (apply Kd.V_drewN)); exact HO1.out) (Kd.R_base ho0) hb); have n1_ := Aside0.mk (Kd.V_elder' (by (with_reducible repeat (apply Kd.V_drewN)); exact HO3.out) (Kd.R_base ho0) hb); have n2_ := Aside0.mk (Kd.R_elder' (by (with_reducible repeat (apply Kd.R_drewN)); exact HO143.out) (Kd.R_base ho0) hb); have n3_ := Aside0.mk (Kd.R_elder' (by (with_reducible repeat (apply Kd.R_drewN)); exact HO145.out) (Kd.R_base ho0) hb); have n4_ := Aside0.mk (Kd.V_elder' (by (with_reducible repeat (apply Kd.V_drewN)); exact HO152.out) (Kd.R_base ho0) hb); have n5_ := Aside0.mk (Kd.V_elder' (by (with_reducible repeat (apply Kd.V_drewN)); exact HO163.out) (Kd.R_base ho0) hb); have n6_ := Aside0.mk (Kd.N_elder' (by (with_reducible repeat (apply Kd.N_drewN)); exact HO155.out) (Kd.R_base ho0) hb); have n7_ := Aside0.mk (Kd.R_elder' (by (with_reducible repeat (apply Kd.R_drewN)); exact HO158.out) (Kd.R_base ho0) hb); have n8_ := Aside0.mk (Kd.V_elder' (by (with_reducible repeat (apply Kd.V_drewN)); exact HO169.out) (Kd.R_base ho0) hb); have n9_ := Aside0.mk (Kd.R_lower (Kd.R_new' (Kd.R_new' (Kd.R_new' (Kd.R_newM (M := fun k_ => (w.heap.size ≤ k_)) ho0 (below_size (by repeat ((with_reducible first | exact HB.out | apply pw_below_drewN)))) (fun k_ h_ => h_)) (Kd.R_lt (by (with_reducible repeat (apply Kd.R_drewN)); exact HO143.out))) (Kd.R_lt (by (with_reducible repeat (apply Kd.R_drewN)); exact HO145.out))) (Kd.R_lt (by (with_reducible repeat (apply Kd.R_drewN)); exact HO158.out))) (below_size (by repeat ((with_reducible first | exact HB.out | apply pw_below_drewN))))); have n10_ := Aside0.mk (below_step (by repeat ((with_reducible first | exact HB.out | apply pw_below_drewN))) hb); clear HO1; clear HO3; clear HO143; clear HO145; clear HO152; clear HO163; clear HO155; clear HO158; clear HO169; clear HB; have HO1 := n0_; have HO3 := n1_; have HO143 := n2_; have HO145 := n3_; have HO152 := n4_; have HO163 := n5_; have HO155 := n6_; have HO158 := n7_; have HO169 := n8_; have HO173 := n9_; have HB := n10_; clear n0_ n1_ n2_ n3_ n4_ n5_ n6_ n7_ n8_ n9_ n10_; (try clear hb); (try clear ho0)))
  go_ret2
  exact ⟨_, by first | rfl, by (with_reducible repeat (fail)); exact Kd.R_mono HO173.out (fun _ hk => hk.1.1.1.1), by repeat ((with_reducible first | exact HB.out))⟩
end Go.Proofs.Ytifpdpfjhjoieaa.H

/-! SealB -/
namespace Go.Proofs.Ytifpdpfjhjoieaa
set_option linter.unusedVariables false
set_option linter.unusedSimpArgs false
open Go.RowKit Go.Shelf Iter Go.Proofs.YtifpdpfjhjoieaaW.PrintWords Go.Proofs.YtifpdpfjhjoieaaW.PrintLast
attribute [local go_sem] Oper.semAt_some
/-- What is sealed: the stream, and the tag. -/
def lockOf (key : List Int) : List Int := labelOf key labLock [] 16
def tagOf (key : List Int) : List Int := labelOf key labTag [] 32
def sealTag (key nonce aad s : List Int) : List Int := macSum (tagOf key) (rowB aad ++ (nonce ++ s))
def sealOf (key nonce aad b : List Int) : List Int := streamOf (lockOf key) nonce b ++ sealTag key nonce aad (streamOf (lockOf key) nonce b)
theorem sealTag_length (key nonce aad s : List Int) : (sealTag key nonce aad s).length = 32 := macSum_length _ _
theorem sealOf_length (key nonce aad b : List Int) : (sealOf key nonce aad b).length = b.length + 32 := by
  unfold sealOf
  rw [List.length_append, streamOf_length, sealTag_length]
theorem byteOk_sealTag (key nonce aad s : List Int) : byteOk (sealTag key nonce aad s) = true := byteOk_macSum _ _
theorem byteOk_sealOf (key nonce aad b : List Int) : byteOk (sealOf key nonce aad b) = true := (byteOk_append _ _).2 ⟨byteOk_streamOf _ _ _, byteOk_macSum _ _⟩
theorem lockOf_length (key : List Int) : (lockOf key).length = 16 := labelOf_length _ _ _ _
theorem tagOf_length (key : List Int) : (tagOf key).length = 32 := labelOf_length _ _ _ _
theorem ready_bad (l0 l1 l2 : List Int) (h0 : byteOk l0 = true) (h : ¬ (l0.length = 32 ∧ l1.length = 12)) : H.seal_ready.f l0 l1 l2 = some ([], [], [], 1) := by
  unfold H.seal_ready.f P.seal_Halves.f
  by_cases h32 : l0.length = 32
  · rw [if_pos h32, if_pos h0, Option.bind_some, if_pos rfl, if_neg (by omega)]
  · rw [if_neg h32, Option.bind_some, if_neg (by decide)]
theorem ready_good (l0 l1 l2 : List Int) (h0 : byteOk l0 = true) (h32 : l0.length = 32) (h12 : l1.length = 12) (h2 : l2.length ≤ 1000000) : H.seal_ready.f l0 l1 l2 = some (lockOf l0, tagOf l0, rowB l2, 0) := by
  unfold H.seal_ready.f P.seal_Halves.f P.byt_Row.f
  rw [if_pos h32, if_pos h0, Option.bind_some, if_pos rfl, if_pos (by omega), rowOf_small _ (by omega), Option.bind_some]
  rfl
theorem tag_good (key nonce aad s : List Int) (h1 : byteOk nonce = true) (h2 : byteOk aad = true) (h3 : byteOk s = true) (l1 : nonce.length = 12) (l2 : aad.length ≤ 300000) (l3 : s.length ≤ 300000) : H.seal_tag.f (tagOf key) [rowB aad, nonce, s] = some (sealTag key nonce aad s) := by
  have hl := rowB_length aad
  have e : ([rowB aad, nonce, s] : List (List Int)).flatten = rowB aad ++ (nonce ++ s) := by simp
  unfold H.seal_tag.f P.mac_All.f
  rw [e, if_pos ⟨byteOk_labelOf _ _ _ _, (byteOk_append _ _).2 ⟨byteOk_rowB _ h2, (byteOk_append _ _).2 ⟨h1, h3⟩⟩, by rw [tagOf_length]; decide, by rw [List.length_append, List.length_append]; omega⟩, Option.bind_some]
  rfl
namespace P
def seal_Seal.f (key nonce aad b : List Int) : Option (List Int × Int) :=
  if byteOk key = true ∧ byteOk nonce = true ∧ byteOk aad = true ∧ byteOk b = true ∧ aad.length ≤ 300000 ∧ b.length ≤ 300000 then (if key.length = 32 ∧ nonce.length = 12 then some (sealOf key nonce aad b, 0) else some ([], 1)) else none
set_option maxRecDepth 100000 in
set_option maxHeartbeats 1000000 in
theorem seal_Seal.calls (A0 : Option Addr) (c0 : Nat) (l0 : List Int) (A1 : Option Addr) (c1 : Nat) (l1 : List Int) (A2 : Option Addr) (c2 : Nat) (l2 : List Int) (A3 : Option Addr) (c3 : Nat) (l3 : List Int) (r1 : List Int) (r2 : Int) (w : World) (hr0 : Kd.C (Kd.int .u8) w A0 l0.length l0) (hc0 : l0.length ≤ c0) (hr1 : Kd.C (Kd.int .u8) w A1 l1.length l1) (hc1 : l1.length ≤ c1) (hr2 : Kd.C (Kd.int .u8) w A2 l2.length l2) (hc2 : l2.length ≤ c2) (hr3 : Kd.C (Kd.int .u8) w A3 l3.length l3) (hc3 : l3.length ≤ c3) (h : seal_Seal.f l0 l1 l2 l3 = some (r1, r2)) :
    Calls Try.prog 16 #[.slice A0 l0.length c0, .slice A1 l1.length c1, .slice A2 l2.length c2, .slice A3 l3.length c3] w fun e w' => ∃ v0_ : Value, e = .returned (.tuple #[v0_, .int .i64 r2]) ∧ Kd.R (Kd.int .u8) 5 w' w.heap.size (fun _ => True) v0_ r1 ∧ Below w.heap.size w w' := by
  unfold seal_Seal.f at h
  split at h
  case isFalse => cases h
  case isTrue hok =>
  obtain ⟨o0, o1, o2, o3, o4, o5⟩ := hok
  by_cases hk : l0.length = 32 ∧ l1.length = 12
  case neg =>
    rw [if_neg hk] at h
    injection h with h
    injection h with h1 h2
    subst h1 h2
    have hb := Lib.hid (ready_bad l0 l1 l2 o0 hk)
    clear hk
    have HK := Lib.hid (And.intro hr0 (And.intro hr1 hr2))
    go_enter Try.func16, Try.ntmps16
    go_wp2_with fail
    refine (H.seal_ready.calls A0 c0 l0 A1 c1 l1 A2 c2 l2 [] [] [] 1 w HK.out.1 hc0 HK.out.2.1 hc1 HK.out.2.2 hc2 hb.out).mono ?_
    rintro e W1 ⟨v0, v1, v2, rfl, -, -, -, hb1⟩
    go_wp2
    go_ret2
    exact ⟨_, rfl, Kd.R_nil _ _ _ _ _, hb1⟩
  rw [if_pos hk] at h
  obtain ⟨h32, h12⟩ := hk
  injection h with h
  injection h with h1 h2
  subst h1 h2
  have hb := Lib.hid (ready_good l0 l1 l2 o0 h32 h12 (by omega))
  have hs := Lib.hid (show P.aes_Stream.f (lockOf l0) l1 l3 = some (streamOf (lockOf l0) l1 l3, 0) by
    unfold P.aes_Stream.f
    rw [if_pos (lockOf_length l0), if_pos h12, if_pos ⟨byteOk_labelOf _ _ _ _, o1, o3, by omega⟩])
  have ht := Lib.hid (tag_good l0 l1 l2 (streamOf (lockOf l0) l1 l3) o1 o2 (byteOk_streamOf _ _ _) h12 o4 (by rw [streamOf_length]; exact o5))
  have HK := Lib.hid (And.intro hr0 (And.intro hr1 (And.intro hr2 (And.intro hr3 (And.intro h32 (And.intro h12 (And.intro o4 o5)))))))
  clear hr0 hr1 hr2 hr3 h32 h12 o0 o1 o2 o3 o4 o5
  go_enter Try.func16, Try.ntmps16
  go_wp2_with fail
  refine (H.seal_ready.calls A0 c0 l0 A1 c1 l1 A2 c2 l2 _ _ _ 0 w HK.out.1 hc0 HK.out.2.1 hc1 HK.out.2.2.1 hc2 hb.out).mono ?_
  rintro e W1 ⟨v0, v1, v2, rfl, hR0, hR1, hR2, hb1⟩
  obtain ⟨Al, cl, rfl, hcl, hCl⟩ := Kd.R_reads hR0
  obtain ⟨At, ct, rfl, hct, hCt⟩ := Kd.R_reads hR1
  obtain ⟨Ar, cr, rfl, hcr, hCr⟩ := Kd.R_reads hR2
  have H1 := Lib.hid (And.intro hCl (And.intro hCt (And.intro hCr (And.intro (Kd.C_below HK.out.2.1 hb1) (And.intro (Kd.C_below HK.out.2.2.2.1 hb1) hb1)))))
  clear hR0 hR1 hR2 hCl hCt hCr hb1
  go_wp2_with fail
  refine (P.aes_Stream.calls Al cl (lockOf l0) A1 c1 l1 A3 c3 l3 _ 0 W1 H1.out.1 hcl H1.out.2.2.2.1 hc1 H1.out.2.2.2.2.1 hc3 hs.out).mono ?_
  rintro e W2 ⟨v3, rfl, hR3, hb2⟩
  obtain ⟨As, cs, rfl, hcs, hCs⟩ := Kd.R_reads hR3
  have hw2 := H1.out.2.2.2.2.2.trans (hb2.mono H1.out.2.2.2.2.2.size)
  have H2 := Lib.hid (And.intro hR3 (And.intro hCs (And.intro (Kd.C_below H1.out.2.1 hb2) (And.intro (Kd.C_below H1.out.2.2.1 hb2) (And.intro (Kd.C_below H1.out.2.2.2.1 hb2) (And.intro hw2 H1.out.2.2.2.2.2.size))))))
  clear H1 hR3 hCs hb2 hw2
  go_wp2_with fail
  have c3' := c_three W2 22 Ar A1 As cr c1 cs _ _ _ H2.out.2.2.2.1 hcr H2.out.2.2.2.2.1 hc1 H2.out.2.1 hcs
  refine (H.seal_tag.calls At ct (tagOf l0) (some ⟨W2.heap.size, 0, none⟩) 3 [rowB l2, l1, streamOf (lockOf l0) l1 l3] (sealTag l0 l1 l2 (streamOf (lockOf l0) l1 l3)) _ (Kd.C_alloc H2.out.2.2.1 _) hct c3' (Nat.le_refl 3) ht.out).mono ?_
  rintro e W3 ⟨v4, rfl, hR4, hb3⟩
  obtain ⟨A4, c4, rfl, hc4, hC4⟩ := Kd.R_reads hR4
  have hOut := Kd.R_lower (Kd.R_below (Kd.R_alloc H2.out.1 (Obj.cells #[Value.slice Ar (rowB l2).length cr, Value.slice A1 l1.length c1, Value.slice As (streamOf (lockOf l0) l1 l3).length cs] 22)) hb3) H2.out.2.2.2.2.2.2
  have hw3 := (H2.out.2.2.2.2.2.1.alloc H2.out.2.2.2.2.2.1.size (Obj.cells #[Value.slice Ar (rowB l2).length cr, Value.slice A1 l1.length c1, Value.slice As (streamOf (lockOf l0) l1 l3).length cs] 22)).trans (hb3.mono (by have := H2.out.2.2.2.2.2.1.size; simp; omega))
  have hlen : ((streamOf (lockOf l0) l1 l3).length + (sealTag l0 l1 l2 (streamOf (lockOf l0) l1 l3)).length) * 1 ≤ 140737488355328 := by
    rw [streamOf_length, sealTag_length]
    have := HK.out.2.2.2.2.2.2.2
    omega
  have H3 := Lib.hid (And.intro hOut (And.intro hC4 (And.intro hw3 hlen)))
  have HE := Lib.hid (show sealOf l0 l1 l2 l3 = streamOf (lockOf l0) l1 l3 ++ sealTag l0 l1 l2 (streamOf (lockOf l0) l1 l3) from rfl)
  clear H2 hR4 hb3 hC4 hOut hw3 hlen c3'
  generalize sealTag l0 l1 l2 (streamOf (lockOf l0) l1 l3) = T at *
  generalize streamOf (lockOf l0) l1 l3 = X at *
  go_wp2_with (((with_reducible refine gate_builtin (b := .append) (xs := #[.tmp 37, .tmp 43]) rfl ?_); at_builtin; refine Kd.R_append_rows (Kd.int .u8) (w0 := w) w.heap.size rfl (.tmp 37) (.tmp 43) 22 5 (.int .u8 0) 1 rfl Try.underlying22 B.info5 rfl (by decide) (by omega) _ X T _ _ _ (fun _ => True) (fun _ => False) rfl rfl H3.out.1 H3.out.2.1 (fun _ _ h => h) (fun _ h => h.elim) (fun _ _ => trivial) H3.out.2.2.1 H3.out.2.2.1.size H3.out.2.2.2 ?_; intro v6 W6 hv6 hb6 hgr6 hat6; rw [← HE.out] at hv6; clear hgr6 hat6))
  go_ret2
  exact ⟨_, rfl, hv6, hb6⟩
end P
end Go.Proofs.Ytifpdpfjhjoieaa
