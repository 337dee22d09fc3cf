/-
  The lower layers, walked and in closed forms, part 4: AesF, AesL, C0, C1, C2, AesQ, AesR.
-/
import Derived.Test.YtifpdpfjhjoieaaX0
import Derived.Test.YtifpdpfjhjoieaaX1
import Derived.Test.YtifpdpfjhjoieaaX3
import Derived.Test.YtifpdpfjhjoieaaProg
import Derived.Test.YtifpdpfjhjoieaaJWords
import Derived.Test.YtifpdpfjhjoieaaJLast
import Derived.Test.YtifpdpfjhjoieaaJMore
import Derived.Test.YtifpdpfjhjoieaaJRepsOne
import Derived.Test.YtifpdpfjhjoieaaJTab
import Derived.Deep.MidRow
import Derived.Laws.CopyOwn
import Derived.StillTailTactics
import Derived.Below
import Derived.Deep.Draws
import Derived.Deep.AppendLies
import Derived.Maps.AppendAt
import Derived.OwnWalk
import Derived.Laws.BytesArg
import Derived.Laws.MakeOwn
import Derived.Laws.OwnMore
import Derived.Deep.OwnRows
import Derived.Tactics
import Derived.Lib.ConvBytes
import Derived.Laws.Slices
import Derived.WalkKit
import Derived.KernelRfl
import Derived.RowKit3
import Derived.Deep.LoopGhost
import Derived.Deep.QuietTactic
import Derived.BigQuiet
import Derived.WideLaws
import Derived.Deep.DeepCutAuto
import Derived.Deep.CutBlock
import Derived.Deep.RegionHeld3
import Derived.Laws.Rows
import Derived.Lib.AppendStr
import Derived.ArgAppend
import Derived.Laws.IdiomCopy
import Derived.OrdersHeld
import Derived.Laws.BitsLemmas
import Derived.RowKit
/-! AesF -/
namespace Go.Proofs.Ytifpdpfjhjoieaa
set_option linter.unusedVariables false
set_option linter.unusedSimpArgs false
open Go.RowKit Go.Shelf Iter Go.Proofs.YtifpdpfjhjoieaaW.PrintWords
attribute [local go_sem] Oper.semAt_some
theorem byte_cell {w : World} {Ak : Option Addr} {n : Nat} (l : List Int) (hn : 0 < n) (hk : Kd.C (Kd.int .u8) w Ak n l) : ∃ ak, Ak = some ak ∧ ∀ t, t < n → w.cell? (ak.add t) = some (.int .u8 (l.getD t 0)) := by
  obtain ⟨h1, _, h3⟩ := Kd.reads_of_C (enc := Value.int .u8) (d := (0 : Int)) (h1 := fun _ => rfl) hk
  obtain ⟨ak, e, hc⟩ := h3 (by omega)
  exact ⟨ak, e, fun t ht => hc t ht⟩
def z176 : List Int := List.replicate 176 0
set_option maxRecDepth 100000 in
theorem zero176 : Try.zeroCells104 = byV z176 := by kernel_rfl
theorem infoKeys : (Try.prog.info? 104).map (·.size) = some 176 := by kernel_rfl
theorem info_u8s : (Try.prog.info? 5).map (·.size) = some 1 := by kernel_rfl
/-- Cells of bytes. -/
def valsB (l : List Int) : List Value := l.map fun (x : Int) => Value.int .u8 x
theorem byV_vals (l : List Int) : byV l = (valsB l).toArray := rfl
theorem valsB_length (l : List Int) : (valsB l).length = l.length := by simp [valsB]
theorem valsB_one (l : List Int) : ∀ v ∈ valsB l, v.oneCell' = true := by
  intro v hv
  obtain ⟨x, -, rfl⟩ := List.mem_map.1 hv
  rfl
theorem valsB_at (l : List Int) (j : Nat) (v : Value) (h : (valsB l)[j]? = some v) : j < l.length ∧ v = .int .u8 (l.getD j 0) := by
  unfold valsB at h
  rw [List.getElem?_map] at h
  obtain ⟨x, hx, rfl⟩ := Option.map_eq_some_iff.1 h
  have := (List.getElem?_eq_some_iff.1 hx)
  refine ⟨this.1, ?_⟩
  rw [List.getD_eq_getElem?_getD, hx]
  rfl
theorem splice_valsB (z k : List Int) (off : Nat) : splice (valsB z) off (valsB k) = valsB (z.take off ++ (k ++ z.drop (off + k.length))) := by
  unfold splice valsB
  rw [List.length_map, List.map_append, List.map_append, List.map_take, List.map_drop]
theorem keys_first (key : List Int) (h : key.length = 16) : z176.take 0 ++ (key ++ z176.drop (0 + key.length)) = rowTo 176 (keyF key) (fun _ => 0) (16 * 1) := by
  rw [List.take_zero, List.nil_append]
  apply List.ext_getElem?
  intro i
  unfold rowTo z176
  rw [List.getElem?_map, List.getElem?_append, h]
  by_cases h1 : i < 16
  · rw [if_pos h1, List.getElem?_range (by omega), List.getElem?_eq_getElem (by omega)]
    simp only [Option.map_some]
    rw [if_pos (by omega)]
    have := keyF_at key 0 i h1
    rw [Nat.mul_zero, Nat.zero_add] at this
    rw [this]
    simp [keyT, h, h1]
  · rw [if_neg h1]
    by_cases h2 : i < 176
    · rw [List.getElem?_range h2]
      simp only [Option.map_some]
      rw [if_neg (by omega), List.getElem?_drop, List.getElem?_replicate, if_pos (by omega)]
    · rw [List.getElem?_eq_none (by simp; omega), List.getElem?_eq_none (by simp; omega)]
      rfl
theorem keys_last (key : List Int) : rowTo 176 (keyF key) (fun _ => 0) (16 * 11) = keysV key := by
  unfold rowTo keysV
  apply List.map_congr_left
  intro i hi
  rw [if_pos (List.mem_range.1 hi)]
theorem byteOk_keyT (key : List Int) (h : byteOk key = true) (n : Nat) : byteOk (keyT key n) = true := by
  cases n with
  | zero => exact h
  | succ n => exact byteOk_row16 _ fun i => keyB_wf _ _ _
theorem range_of {w : World} {g : Nat} {t : TypeId} {l : List Int} (h : Blk w g t (byV l)) (o : Nat) (k : List Int) (hl : o + k.length ≤ l.length) (hk : ∀ j, j < k.length → l.getD (o + j) 0 = k.getD j 0) : w.rangeAt g o (valsB k) := by
  intro j v hj
  obtain ⟨hj', rfl⟩ := valsB_at k j v hj
  rw [h.cell, byV_at _ _ (by omega), hk j hj']
theorem keys_range {w : World} {g : Nat} {ty : TypeId} (key : List Int) (h16 : key.length = 16) (n t : Nat) (hn : n ≤ 11) (ht : t + 1 = n) (h : Blk w g ty (byV (rowTo 176 (keyF key) (fun _ => 0) (16 * n)))) : w.rangeAt g (t * 16) (valsB (keyT key t)) := by
  have hl := keyT_length key h16 t
  refine range_of h _ _ (by rw [rowTo_length, hl]; omega) fun j hj => ?_
  rw [hl] at hj
  rw [rowTo_at _ _ _ _ _ (by omega), if_pos (by omega), Nat.mul_comm t 16, keyF_at _ _ _ hj]
set_option maxRecDepth 100000 in
set_option maxHeartbeats 400000 in
theorem aesKeys_calls (A0 : Option Addr) (c0 : Nat) (key : List Int) (gk : Nat) (w : World) (hkey : key.length = 16) (ho : byteOk key = true) (hr0 : Kd.C (Kd.int .u8) w A0 16 key) (hc0 : 16 ≤ c0) (hk : Blk w gk 123 (byV boxT)) :
    Calls Try.prog 66 #[.slice A0 16 c0, .pointer (some ⟨gk, 0, none⟩)] w fun e w' => e = .returned (.agg (byV (keysV key))) ∧ Below w.heap.size w w' := by
  have hgk := hk.lt
  obtain ⟨ak, rfl, hcell⟩ := byte_cell key (by omega) hr0
  have hcur : ((w.alloc (Obj.cells Try.zeroCells104 104)).alloc (Obj.cells Try.zeroCells104 104)).heap[w.heap.size + 1]? = some (.cells (valsB z176).toArray 104 (0, 0)) := by
    rw [zero176, byV_vals]
    have := heap_alloc_new (w.alloc (Obj.cells (valsB z176).toArray 104)) (Obj.cells (valsB z176).toArray 104)
    rwa [World.size_alloc] at this
  have hsrc : ∀ j v, (valsB key)[j]? = some v → ((w.alloc (Obj.cells Try.zeroCells104 104)).alloc (Obj.cells Try.zeroCells104 104)).cell? (ak.add j) = some v := by
    intro j v hj
    obtain ⟨hj, rfl⟩ := valsB_at key j v hj
    have hc := hcell j (by omega)
    have hlt := World.block_lt_of_cell? w _ hc
    rw [World.cell?_alloc_lt _ _ _ (by simp; omega), World.cell?_alloc_lt _ _ _ hlt]
    exact hc
  have hb0 : Below (w.heap.size + 1) (w.alloc (Obj.cells Try.zeroCells104 104)) ((w.alloc (Obj.cells Try.zeroCells104 104)).alloc (Obj.cells Try.zeroCells104 104)) := (Below.refl _ _).alloc (by simp) _
  have hn : (valsB key).length = Nat.min 16 16 := by rw [valsB_length, hkey]; rfl
  have hfit : 0 + (valsB key).length ≤ (valsB z176).length := by rw [valsB_length, valsB_length, hkey]; decide
  have HC := Lib.hid (And.intro hcur (And.intro hsrc (And.intro hb0 (And.intro hn hfit))))
  clear hcur hsrc hb0 hn hfit hcell
  have HK := Lib.hid (And.intro hkey (And.intro hk hr0))
  clear hkey hk hr0
  go_enter Try.func66, Try.ntmps66
  go_wp2_with (with_reducible refine wpList_copy_splice rfl (.tmp 12) (.tmp 13) 22 22 rfl 5 Try.underlying22 info_u8s (some ⟨w.heap.size + 1, 0, none⟩) (some ak) 16 16 16 c0 rfl rfl (w.heap.size + 1) 0 (valsB z176) 104 HC.out.1 (valsB key) HC.out.2.2.2.1 (fun _ => ⟨rfl, ak, rfl, HC.out.2.1⟩) HC.out.2.2.2.2 (valsB_one key) (w.heap.size + 1) (w.alloc (Obj.cells Try.zeroCells104 104)) HC.out.2.2.1 (Nat.le_refl _) ?_; intro W1 hg1 hb1)
  have bo : Blk W1 (w.heap.size + 1) 104 (byV (rowTo 176 (keyF key) (fun _ => 0) (16 * (0 + 1)))) := by
    have h1 := hg1.out
    rw [splice_valsB, keys_first key HK.out.1] at h1
    exact h1
  have br : Blk W1 w.heap.size 104 (byV z176) := by
    have h1 := Blk.new w 104 Try.zeroCells104
    rw [zero176] at h1 hb1
    exact h1.below hb1 (by omega)
  have hbl : Below w.heap.size w W1 := ((Below.refl _ w).alloc (Nat.le_refl _) _).trans (hb1.mono (by omega))
  have bk : Blk W1 gk 123 (byV boxT) := HK.out.2.1.below hbl hgk
  clear hg1 hb1 HC
  have ho := Lib.hid ho
  go_loopw [6, 7] (fun vr vn wr => ∃ t : Nat, t ≤ 10 ∧ vn = .int .i64 ((t + 1 : Nat) : Int) ∧ vr = .int .u8 (rconT t) ∧ Blk wr w.heap.size 104 (byV z176) ∧ Blk wr (w.heap.size + 1) 104 (byV (rowTo 176 (keyF key) (fun _ => 0) (16 * (t + 1)))) ∧ Blk wr gk 123 (byV boxT) ∧ Below w.heap.size w wr) (fun _ vn _ => 11 - (intOf vn).toNat)
  case atStart => exact ⟨0, by omega, rfl, rfl, br, bo, bk, hbl⟩
  clear br bo bk hbl
  obtain ⟨t, ht, rfl, rfl, br, bo, bk, hbl⟩ := hrel
  obtain ⟨n, hn⟩ : ∃ n, t + 1 = n := ⟨_, rfl⟩
  rw [hn] at bo ⊢
  by_cases h10 : n ≤ 10
  rotate_left
  · obtain rfl : n = 11 := by omega
    have hdj : decide (((11 : Nat) : Int) ≤ 10) = false := by decide
    rw [keys_last] at bo
    go_wp2_with (first
      | (refine wpList_load_row rfl 104 (.tmp 5) rfl (w.heap.size + 1) rfl 104 _ (0, 0) _ bo Try.underlying104 rfl (by rw [byV_size, keysV_length]; exact infoKeys) ?_)
      | (refine wpList_store_row rfl 104 (.tmp 4) (.tmp 73) rfl w.heap.size _ rfl rfl 104 _ br (by rw [byV_size, keysV_length]; exact infoKeys) (by rw [byV_size, byV_size, keysV_length]; rfl) (by simp [byV, Value.oneCell']) ?_))
    exact bodyPost_ret (results_cell_row rfl _ _ w.heap.size 104 (byV (keysV key)) (0, 0) _ rfl (setRow_heap wr w.heap.size _ _ _ _ br) Try.underlying104 rfl (by rw [byV_size, keysV_length]; exact infoKeys)) rfl ⟨rfl, hbl.trans (Iter.below_setRow _ (Nat.le_refl _))⟩
  have HB := Lib.hid (And.intro br (And.intro bo (And.intro bk hbl)))
  clear br bo bk hbl
  have n1 : (1 : Int) ≤ (n : Int) := by omega
  have n2 : (n : Int) ≤ 10 := by omega
  have n3 : (n : Int) - 1 = (t : Int) := by omega
  have n4 : IntKind.i64.wrap ((n : Int) - 1) = (t : Int) := by rw [n3, IntKind.wrap_i64]; omega
  have n5 : (0 : Int) ≤ (t : Int) := by omega
  have n6 : (t : Int) < 11 := by omega
  have hn := Lib.hid hn
  have hr := Lib.hid (keys_range key HK.out.1 n t (by omega) hn.out HB.out.2.1)
  have hl := keyT_length key HK.out.1 t
  have hi := Lib.hid (show (Try.prog.info? 103).map (·.size) = some (valsB (keyT key t)).length by rw [valsB_length, hl]; exact infoState)
  have hi1 := Lib.hid (show (Try.prog.info? 103).map (·.size) = some (valsB (keyT key t)).toArray.size by rw [← byV_vals, byV_size, hl]; exact infoState)
  have hi2 := Lib.hid (show (byV z16).size = (valsB (keyT key t)).toArray.size by rw [← byV_vals, byV_size, byV_size, hl]; rfl)
  have hi3 := Lib.hid (show (valsB (keyT key t)).toArray.all (·.oneCell') = true by simp [valsB, Value.oneCell'])
  have hl := Lib.hid hl
  go_wp2_with (first
    | (refine wpList_load_mid rfl 103 (.tmp 21) rfl (w.heap.size + 1) (t * 16) rfl (valsB (keyT key t)) _ hr.out Try.underlying103 rfl hi.out ?_)
    | (refine wpList_store_row rfl 103 (.tmp 8) (.tmp 22) rfl wr.heap.size _ rfl rfl 103 (byV z16) (Blk.new wr 103 (byV z16)) hi1.out hi2.out hi3.out ?_))
  rw [zero16]
  have ba := (Blk.new wr 103 (byV z16)).setRow_ (byV (keyT key t))
  have br := (HB.out.1.alloc (Obj.cells (byV z16) 103)).farRow (g' := wr.heap.size) (Nat.ne_of_lt HB.out.1.lt) (byV (keyT key t))
  have bo := (HB.out.2.1.alloc (Obj.cells (byV z16) 103)).farRow (g' := wr.heap.size) (Nat.ne_of_lt HB.out.2.1.lt) (byV (keyT key t))
  have bk := (HB.out.2.2.1.alloc (Obj.cells (byV z16) 103)).farRow (g' := wr.heap.size) (Nat.ne_of_lt HB.out.2.2.1.lt) (byV (keyT key t))
  have hbl := (HB.out.2.2.2.alloc HB.out.2.2.2.size (Obj.cells (byV z16) 103)).trans (Iter.below_setRow (g := wr.heap.size) (byV (keyT key t)) HB.out.2.2.2.size)
  have hsz := Lib.hid (show ((wr.alloc (Obj.cells (byV z16) 103)).setRow wr.heap.size (byV (keyT key t))).heap.size = wr.heap.size + 1 by rw [size_setRow, World.size_alloc])
  rw [← byV_vals]
  have hgo := Lib.hid (show w.heap.size + 1 < wr.heap.size from HB.out.2.1.lt)
  generalize ((wr.alloc (Obj.cells (byV z16) 103)).setRow wr.heap.size (byV (keyT key t))) = W2 at *
  have cell_a : ∀ i, i < 16 → W2.cell? ⟨wr.heap.size, i, none⟩ = some (.int .u8 ((keyT key t).getD i 0)) := fun i h => (ba.cell i).trans (byV_at _ _ (by rw [hl.out]; exact h))
  have kb : byteOk (keyT key t) = true := byteOk_keyT key ho.out t
  have c12 := cell_a 12 (by omega)
  have c13 := cell_a 13 (by omega)
  have c14 := cell_a 14 (by omega)
  have c15 := cell_a 15 (by omega)
  obtain ⟨b12, b12'⟩ := byte_getD _ kb 12
  obtain ⟨b13, b13'⟩ := byte_getD _ kb 13
  obtain ⟨b14, b14'⟩ := byte_getD _ kb 14
  obtain ⟨b15, b15'⟩ := byte_getD _ kb 15
  have d12 := (bk.cell _).trans (box_at _ b12 b12')
  have d13 := (bk.cell _).trans (box_at _ b13 b13')
  have d14 := (bk.cell _).trans (box_at _ b14 b14')
  have d15 := (bk.cell _).trans (box_at _ b15 b15')
  have e0 : keyW (keyT key t) (rconT t) 0 = xr (bx ((keyT key t).getD 13 0)) (rconT t) := rfl
  have e1 : keyW (keyT key t) (rconT t) 1 = bx ((keyT key t).getD 14 0) := rfl
  have e2 : keyW (keyT key t) (rconT t) 2 = bx ((keyT key t).getD 15 0) := rfl
  have e3 : keyW (keyT key t) (rconT t) 3 = bx ((keyT key t).getD 12 0) := rfl
  obtain ⟨r0, r1⟩ := rconT_wf t
  generalize hrr : rconT t = rr at *
  generalize hK : keyT key t = K at *
  generalize K.getD 12 0 = x12 at *
  generalize K.getD 13 0 = x13 at *
  generalize K.getD 14 0 = x14 at *
  generalize K.getD 15 0 = x15 at *
  generalize bx x12 = y12 at *
  generalize bx x13 = y13 at *
  generalize bx x14 = y14 at *
  generalize bx x15 = y15 at *
  have HB2 := Lib.hid (And.intro ba (And.intro br (And.intro bo (And.intro bk hbl))))
  have HE := Lib.hid (And.intro e0 (And.intro e1 (And.intro e2 e3)))
  have HR := Lib.hid (And.intro hrr hK)
  have := World.new_ne W2 _ c12
  have := World.new_ne W2 _ c13
  have := World.new_ne W2 _ c14
  have := World.new_ne W2 _ c15
  have := World.new_ne W2 _ d12
  have := World.new_ne W2 _ d13
  have := World.new_ne W2 _ d14
  have := World.new_ne W2 _ d15
  clear ba br bo bk hbl cell_a kb e0 e1 e2 e3 hrr hK hr hi hi1 hi2 hi3 HB
  go_region_held3 (fun w' => w'.cell? ⟨wr.heap.size, 12, none⟩ = some (.int .u8 x12) ∧ w'.cell? ⟨wr.heap.size, 13, none⟩ = some (.int .u8 x13) ∧ w'.cell? ⟨wr.heap.size, 14, none⟩ = some (.int .u8 x14) ∧ w'.cell? ⟨wr.heap.size, 15, none⟩ = some (.int .u8 x15) ∧ w'.cell? ⟨gk, x12.toNat, none⟩ = some (.int .u8 y12) ∧ w'.cell? ⟨gk, x13.toNat, none⟩ = some (.int .u8 y13) ∧ w'.cell? ⟨gk, x14.toNat, none⟩ = some (.int .u8 y14) ∧ w'.cell? ⟨gk, x15.toNat, none⟩ = some (.int .u8 y15)) (go_keep) (fail)
  have hw0 : #[Value.int IntKind.u8 (Go.bits BinOp.xor IntKind.u8 y13 rr), Value.int IntKind.u8 y14, Value.int IntKind.u8 y15, Value.int IntKind.u8 y12] = byV (wordT K rr 0) := by
    obtain ⟨e0, e1, e2, e3⟩ := HE.out
    show _ = byV [keyW K rr 0, keyW K rr 1, keyW K rr 2, keyW K rr 3]
    rw [e0, e1, e2, e3]
    rfl
  rw [hw0]
  have HB3 : Hid (Blk (W2.alloc (Obj.cells (byV (wordT K rr 0)) 124)).drew wr.heap.size 103 (byV K) ∧ Blk (W2.alloc (Obj.cells (byV (wordT K rr 0)) 124)).drew W2.heap.size 124 (byV (wordT K rr 0)) ∧ Blk (W2.alloc (Obj.cells (byV (wordT K rr 0)) 124)).drew w.heap.size 104 (byV z176) ∧ Blk (W2.alloc (Obj.cells (byV (wordT K rr 0)) 124)).drew (w.heap.size + 1) 104 (byV (rowTo 176 (keyF key) (fun _ => 0) (16 * n + 0))) ∧ Blk (W2.alloc (Obj.cells (byV (wordT K rr 0)) 124)).drew gk 123 (byV boxT) ∧ Below w.heap.size w (W2.alloc (Obj.cells (byV (wordT K rr 0)) 124)).drew) :=
    Lib.hid ⟨HB2.out.1.alloc _, Blk.new W2 _ _, HB2.out.2.1.alloc _, HB2.out.2.2.1.alloc _, HB2.out.2.2.2.1.alloc _, (HB2.out.2.2.2.2.alloc HB2.out.2.2.2.2.size _).drew⟩
  clear HB2 HE hw0
  generalize (W2.alloc (Obj.cells (byV (wordT K rr 0)) 124)).drew = W3 at *
  have hs2 := hsz.out
  have hg2 := hgo.out
  clear hsz hgo
  generalize wr.heap.size = ga at *
  generalize W2.heap.size = gw at *
  have hgs := Lib.hid (And.intro hs2 hg2)
  clear hs2 hg2 b12 b12' b13 b13' b14 b14' b15 b15'
  clear c12 c13 c14 c15 d12 d13 d14 d15
  go_wp2_with fail
  go_loopw [50] (fun i wv => ∃ s : Nat, s ≤ 16 ∧ i = .int .i64 s ∧ Blk wv ga 103 (byV K) ∧ Blk wv gw 124 (byV (wordT K rr s)) ∧ Blk wv w.heap.size 104 (byV z176) ∧ Blk wv (w.heap.size + 1) 104 (byV (rowTo 176 (keyF key) (fun _ => 0) (16 * n + s))) ∧ Blk wv gk 123 (byV boxT) ∧ Below w.heap.size w wv) (fun i _ => 16 - (intOf i).toNat)
  case atStart => exact ⟨0, by omega, rfl, HB3.out⟩
  clear HB3
  obtain ⟨s, hs, rfl, ba, bw, br, bo, bk, hbl⟩ := hrel
  by_cases h16 : s < 16
  rotate_left
  · obtain rfl : s = 16 := by omega
    have hdj : decide (((16 : Nat) : Int) < 16) = false := by decide
    have HB3 := Lib.hid (And.intro br (And.intro bo (And.intro bk hbl)))
    clear ba bw br bo bk hbl
    have hm := aes_mul2 rr r0 r1
    have hr1 := Lib.hid (show m2 rr = rconT n by rw [← hn.out, rconT, HR.out.1])
    go_wp2_with ((with_reducible refine (A.aes_Mul.calls 10 _ _ _ _ hm).mono ?_); rintro e w' ⟨rfl, hd⟩; obtain ⟨n1, rfl⟩ := hd.out)
    exact ⟨⟨n, by omega, by go_num, by rw [hr1.out], HB3.out.1, by rw [show 16 * (n + 1) = 16 * n + 16 from by omega]; exact HB3.out.2.1, HB3.out.2.2.1, pw_below_drewN HB3.out.2.2.2 _⟩, by simp [intOf]; omega⟩
  obtain ⟨q, hq⟩ : ∃ q, s % 4 = q := ⟨_, rfl⟩
  have q4 : q < 4 := by omega
  have vx : (byV (wordT K rr s))[q]? = some (.int .u8 ((wordT K rr s).getD q 0)) := byV_at _ _ (by rw [wordT_length]; exact q4)
  have gx : wr.cell? ⟨gw, q, none⟩ = some (.int .u8 ((wordT K rr s).getD q 0)) := (bw.cell q).trans vx
  have gy : wr.cell? ⟨ga, s, none⟩ = some (.int .u8 (K.getD s 0)) := (ba.cell s).trans (byV_at _ _ (by have := hl.out; omega))
  have fx := bw.frozen q
  have q0 : (0 : Int) ≤ (q : Int) := by omega
  have q1 : (q : Int) < 4 := by omega
  have s0 : (0 : Int) ≤ (s : Int) := by omega
  have s1 : (s : Int) < 16 := by omega
  have hset := bw.set_ q (.int .u8 (xr ((wordT K rr s).getD q 0) (K.getD s 0)))
  rw [byV_set] at hset
  have hw1 : (wordT K rr s).set q (xr ((wordT K rr s).getD q 0) (K.getD s 0)) = wordT K rr (s + 1) := by rw [← hq]; rfl
  rw [hw1] at hset
  have hgs' := hgs.out
  have ba2 := ba.far (p := ⟨gw, q, none⟩) (by simp; omega) (.int .u8 (xr ((wordT K rr s).getD q 0) (K.getD s 0)))
  have br2 := br.far (p := ⟨gw, q, none⟩) (by simp; omega) (.int .u8 (xr ((wordT K rr s).getD q 0) (K.getD s 0)))
  have bo2 := bo.far (p := ⟨gw, q, none⟩) (by simp; omega) (.int .u8 (xr ((wordT K rr s).getD q 0) (K.getD s 0)))
  have hgk2 := Lib.hid hgk
  have bk2 := bk.far (p := ⟨gw, q, none⟩) (by simp; omega) (.int .u8 (xr ((wordT K rr s).getD q 0) (K.getD s 0)))
  have hb2 := hbl.setCell (p := ⟨gw, q, none⟩) (by simp; omega) (.int .u8 (xr ((wordT K rr s).getD q 0) (K.getD s 0)))
  have hkb := wordT_key K rr s
  rw [hq] at hkb
  have HF := Lib.hid (And.intro ba2 (And.intro hset (And.intro br2 (And.intro bo2 (And.intro bk2 hb2)))))
  have HQ := Lib.hid (And.intro hq hkb)
  clear hset ba2 br2 bo2 bk2 hb2 ba bw br bo bk hbl vx hw1 hgs' hkb
  have q2 : Int.tmod (s : Int) 4 = (q : Int) := by rw [← hq]; rfl
  clear hq
  generalize (wordT K rr s).getD q 0 = x at *
  generalize K.getD s 0 = y at *
  go_wp2_with fail
  go_region
  clear gx gy fx
  obtain ⟨W4, hW4⟩ : ∃ W4, (wr.setCell ⟨gw, q, none⟩ (Value.int IntKind.u8 (Go.bits BinOp.xor IntKind.u8 x y))).drew = W4 := ⟨_, rfl⟩
  have HG : Hid (Blk W4 ga 103 (byV K) ∧ Blk W4 gw 124 (byV (wordT K rr (s + 1))) ∧ Blk W4 w.heap.size 104 (byV z176) ∧ Blk W4 (w.heap.size + 1) 104 (byV (rowTo 176 (keyF key) (fun _ => 0) (16 * n + s))) ∧ Blk W4 gk 123 (byV boxT) ∧ Below w.heap.size w W4) := by
    rw [← hW4]
    exact Lib.hid ⟨HF.out.1, HF.out.2.1, HF.out.2.2.1, HF.out.2.2.2.1, HF.out.2.2.2.2.1, HF.out.2.2.2.2.2.drew⟩
  rw [hW4]
  clear hW4 HF
  clear wr
  obtain ⟨hq, hkb⟩ := HQ.out
  have hz : (byV (wordT K rr (s + 1)))[q]? = some (.int .u8 (keyB K rr s)) := by
    rw [byV_at _ _ (by rw [wordT_length]; exact q4)]
    have h1 := wordT_at K rr (s + 1) q q4
    rw [if_neg (by omega), show (s + 1 - 1 - q) / 4 * 4 + q = s from by omega] at h1
    rw [h1]
  have gz : W4.cell? ⟨gw, q, none⟩ = some (.int .u8 (keyB K rr s)) := (HG.out.2.1.cell q).trans hz
  obtain ⟨m, hm⟩ : ∃ m, n * 16 + s = m := ⟨_, rfl⟩
  have hn' := hn.out
  have hm176 : m < 176 := by omega
  have go1 : W4.cell? ⟨w.heap.size + 1, n * 16 + s, none⟩ = some (.int .u8 0) := by
    refine (HG.out.2.2.2.1.cell _).trans ?_
    rw [hm, byV_at _ _ (by rw [rowTo_length]; exact hm176), rowTo_at _ _ _ _ _ hm176, if_neg (by omega)]
  have fo1 : W4.frozen? ⟨w.heap.size + 1, n * 16 + s, none⟩ = false := HG.out.2.2.2.1.frozen _
  have hkf : keyF key (16 * n + s) = keyB K rr s := by
    rw [← hn', keyF_next _ _ _ h16, HR.out.1, HR.out.2]
  have hset : Blk (W4.setCell ⟨w.heap.size + 1, n * 16 + s, none⟩ (.int .u8 (keyB K rr s))) (w.heap.size + 1) 104 (byV (rowTo 176 (keyF key) (fun _ => 0) (16 * n + (s + 1)))) := by
    have h1 := HG.out.2.2.2.1.set_ (n * 16 + s) (.int .u8 (keyB K rr s))
    have h2 := rowTo_set 176 (keyF key) (fun _ => 0) (16 * n + s)
    have h3 : 16 * n + s = n * 16 + s := by omega
    rw [hkf, h3] at h2
    rw [byV_set, h3, h2] at h1
    rw [show 16 * n + (s + 1) = n * 16 + s + 1 from by omega]
    exact h1
  have hgs' := hgs.out
  have ba2 := HG.out.1.far (p := ⟨w.heap.size + 1, n * 16 + s, none⟩) (by simp; omega) (.int .u8 (keyB K rr s))
  have bw2 := HG.out.2.1.far (p := ⟨w.heap.size + 1, n * 16 + s, none⟩) (by simp; omega) (.int .u8 (keyB K rr s))
  have br2 := HG.out.2.2.1.far (p := ⟨w.heap.size + 1, n * 16 + s, none⟩) (by simp) (.int .u8 (keyB K rr s))
  have bk2 := HG.out.2.2.2.2.1.far (p := ⟨w.heap.size + 1, n * 16 + s, none⟩) (by simp; have := hgk2.out; omega) (.int .u8 (keyB K rr s))
  have hb2 := HG.out.2.2.2.2.2.setCell (p := ⟨w.heap.size + 1, n * 16 + s, none⟩) (by simp) (.int .u8 (keyB K rr s))
  have HF := Lib.hid (And.intro ba2 (And.intro bw2 (And.intro br2 (And.intro hset (And.intro bk2 hb2)))))
  clear hset ba2 bw2 br2 bk2 hb2 HG hz hq hkb hkf hm hn' hgs' HQ hm176
  generalize keyB K rr s = z at *
  have n7 : (n : Int) < 11 := by omega
  have n8 : (0 : Int) ≤ (n : Int) := by omega
  go_wp2_with fail
  go_region
  go_wp2
  exact ⟨⟨s + 1, by omega, by go_num, HF.out.1, HF.out.2.1, HF.out.2.2.1, HF.out.2.2.2.1, HF.out.2.2.2.2.1, HF.out.2.2.2.2.2.drew⟩, by simp [intOf]; omega⟩
end Go.Proofs.Ytifpdpfjhjoieaa

/-! AesL -/
namespace Go.Proofs.Ytifpdpfjhjoieaa
set_option linter.unusedVariables false
set_option linter.unusedSimpArgs false
open Go.RowKit Go.Shelf Iter Go.Proofs.YtifpdpfjhjoieaaW.PrintWords Go.Proofs.YtifpdpfjhjoieaaW.PrintLast
attribute [local go_sem] Oper.semAt_some
set_option maxHeartbeats 400000 in
theorem left1 (x : Int) (w : World) (h0 : 0 ≤ x) (h1 : x < 256) : Calls Try.prog 90 #[.int .u8 x, .int .u8 1] w fun e w' => e = .returned (.int .u8 (Go.bits .or .u8 (x * 2 % 256) (x / 128))) ∧ w = w' := by
  go_enter Try.func90, Try.ntmps90
  go_wp2
  go_ret
  exact ⟨rfl, rfl⟩
set_option maxHeartbeats 400000 in
theorem left2 (x : Int) (w : World) (h0 : 0 ≤ x) (h1 : x < 256) : Calls Try.prog 90 #[.int .u8 x, .int .u8 2] w fun e w' => e = .returned (.int .u8 (Go.bits .or .u8 (x * 4 % 256) (x / 64))) ∧ w = w' := by
  go_enter Try.func90, Try.ntmps90
  go_wp2
  go_ret
  exact ⟨rfl, rfl⟩
set_option maxHeartbeats 400000 in
theorem left3 (x : Int) (w : World) (h0 : 0 ≤ x) (h1 : x < 256) : Calls Try.prog 90 #[.int .u8 x, .int .u8 3] w fun e w' => e = .returned (.int .u8 (Go.bits .or .u8 (x * 8 % 256) (x / 32))) ∧ w = w' := by
  go_enter Try.func90, Try.ntmps90
  go_wp2
  go_ret
  exact ⟨rfl, rfl⟩
set_option maxHeartbeats 400000 in
theorem left4 (x : Int) (w : World) (h0 : 0 ≤ x) (h1 : x < 256) : Calls Try.prog 90 #[.int .u8 x, .int .u8 4] w fun e w' => e = .returned (.int .u8 (Go.bits .or .u8 (x * 16 % 256) (x / 16))) ∧ w = w' := by
  go_enter Try.func90, Try.ntmps90
  go_wp2
  go_ret
  exact ⟨rfl, rfl⟩
namespace P
def pyxref05_left.f (x n : Int) : Option Int := if 0 ≤ x ∧ x < 256 then (if n = 1 then some (Go.bits .or .u8 (x * 2 % 256) (x / 128)) else if n = 2 then some (Go.bits .or .u8 (x * 4 % 256) (x / 64)) else if n = 3 then some (Go.bits .or .u8 (x * 8 % 256) (x / 32)) else if n = 4 then some (Go.bits .or .u8 (x * 16 % 256) (x / 16)) else none) else none
theorem pyxref05_left.calls (a0 a1 r : Int) (w : World) (h : pyxref05_left.f a0 a1 = some r) : Calls Try.prog 90 #[.int .u8 a0, .int .u8 a1] w fun e w' => e = .returned (.int .u8 r) ∧ Drawn0 w w' := by
  unfold pyxref05_left.f at h
  split at h
  case isFalse => cases h
  case isTrue hx =>
  by_cases h1 : a1 = 1
  · subst h1
    rw [if_pos rfl] at h
    injection h with h
    subst h
    exact (left1 a0 w hx.1 hx.2).mono fun e w' ⟨h1, h2⟩ => ⟨h1, by rw [← h2]; exact Drawn0.refl w⟩
  rw [if_neg h1] at h
  by_cases h2 : a1 = 2
  · subst h2
    rw [if_pos rfl] at h
    injection h with h
    subst h
    exact (left2 a0 w hx.1 hx.2).mono fun e w' ⟨h1, h2⟩ => ⟨h1, by rw [← h2]; exact Drawn0.refl w⟩
  rw [if_neg h2] at h
  by_cases h3 : a1 = 3
  · subst h3
    rw [if_pos rfl] at h
    injection h with h
    subst h
    exact (left3 a0 w hx.1 hx.2).mono fun e w' ⟨h1, h2⟩ => ⟨h1, by rw [← h2]; exact Drawn0.refl w⟩
  rw [if_neg h3] at h
  by_cases h4 : a1 = 4
  · subst h4
    rw [if_pos rfl] at h
    injection h with h
    subst h
    exact (left4 a0 w hx.1 hx.2).mono fun e w' ⟨h1, h2⟩ => ⟨h1, by rw [← h2]; exact Drawn0.refl w⟩
  rw [if_neg h4] at h
  cases h
end P
end Go.Proofs.Ytifpdpfjhjoieaa

/-! C0 -/
namespace Go.Proofs.Ytifpdpfjhjoieaa.C
open Go.Proofs.Ytifpdpfjhjoieaa.P
open Go.RowKit Go.Proofs.YtifpdpfjhjoieaaW.PrintWords Go.Proofs.YtifpdpfjhjoieaaW.PrintLast Go.Proofs.YtifpdpfjhjoieaaW.PrintMore
attribute [local go_sem] max2_int min2_int max_two min_two max_three min_three max_four min_four   -- for this text's walks alone
set_option linter.unusedVariables false
set_option linter.unusedSimpArgs false
def errW : Option Int → Value
  | none => .nilIface
  | some c => .iface 0 (.int .i64 c)
theorem errW_none : errW none = .nilIface := rfl
theorem errW_some (c : Int) : errW (some c) = .iface 0 (.int .i64 c) := rfl
theorem info5 : (Try.prog.info? 5).map (fun i => (i.zero, i.size, i.bytes)) = some (some (.int .u8 0), 1, 1) := by kernel_rfl
-- the values' own types
end Go.Proofs.Ytifpdpfjhjoieaa.C

/-! C1 -/
namespace Go.Proofs.Ytifpdpfjhjoieaa.C
open Go.Proofs.Ytifpdpfjhjoieaa.P
open Go.RowKit Go.Proofs.YtifpdpfjhjoieaaW.PrintWords Go.Proofs.YtifpdpfjhjoieaaW.PrintLast Go.Proofs.YtifpdpfjhjoieaaW.PrintMore
attribute [local go_sem] max2_int min2_int max_two min_two max_three min_three max_four min_four   -- for this text's walks alone
set_option linter.unusedVariables false
set_option linter.unusedSimpArgs false
/-! ### pyxref05_turned: function 75 -/
def pyxref05_turned.f (a0 : Int) : Option (Int) := (pyxref05_left.f a0 1).bind fun t101 => ((pyxref05_left.f a0 2).bind fun t102 => ((pyxref05_left.f a0 3).bind fun t103 => ((pyxref05_left.f a0 4).bind fun t104 => (some (Go.bits .xor .u8 (Go.bits .xor .u8 (Go.bits .xor .u8 (Go.bits .xor .u8 (Go.bits .xor .u8 a0 t101) t102) t103) t104) 99)))))
set_option maxHeartbeats 8000000 in
set_option maxRecDepth 100000 in
theorem pyxref05_turned.calls (a0 : Int) (r : Int) (w : World) (h : pyxref05_turned.f a0 = some r) :
    Calls Try.prog 75 #[.int .u8 a0] w fun e w' => e = .returned (.int .u8 r) ∧ Drawn0 w w' := by
  have H : ((pyxref05_left.f a0 1).bind fun t101 => ((pyxref05_left.f a0 2).bind fun t102 => ((pyxref05_left.f a0 3).bind fun t103 => ((pyxref05_left.f a0 4).bind fun t104 => (some (Go.bits .xor .u8 (Go.bits .xor .u8 (Go.bits .xor .u8 (Go.bits .xor .u8 (Go.bits .xor .u8 a0 t101) t102) t103) t104) 99)))))) = some r := h
  clear h
  replace H := Option.bind_eq_some_iff.mp H
  obtain ⟨t101, A20, H⟩ := H
  replace H : ((pyxref05_left.f a0 2).bind fun t102 => ((pyxref05_left.f a0 3).bind fun t103 => ((pyxref05_left.f a0 4).bind fun t104 => (some (Go.bits .xor .u8 (Go.bits .xor .u8 (Go.bits .xor .u8 (Go.bits .xor .u8 (Go.bits .xor .u8 a0 t101) t102) t103) t104) 99))))) = some r := H
  have A2 := Aside0.mk A20
  clear A20
  replace H := Option.bind_eq_some_iff.mp H
  obtain ⟨t102, A30, H⟩ := H
  replace H : ((pyxref05_left.f a0 3).bind fun t103 => ((pyxref05_left.f a0 4).bind fun t104 => (some (Go.bits .xor .u8 (Go.bits .xor .u8 (Go.bits .xor .u8 (Go.bits .xor .u8 (Go.bits .xor .u8 a0 t101) t102) t103) t104) 99)))) = some r := H
  have A3 := Aside0.mk A30
  clear A30
  replace H := Option.bind_eq_some_iff.mp H
  obtain ⟨t103, A40, H⟩ := H
  replace H : ((pyxref05_left.f a0 4).bind fun t104 => (some (Go.bits .xor .u8 (Go.bits .xor .u8 (Go.bits .xor .u8 (Go.bits .xor .u8 (Go.bits .xor .u8 a0 t101) t102) t103) t104) 99))) = some r := H
  have A4 := Aside0.mk A40
  clear A40
  replace H := Option.bind_eq_some_iff.mp H
  obtain ⟨t104, A50, H⟩ := H
  replace H : (some (Go.bits .xor .u8 (Go.bits .xor .u8 (Go.bits .xor .u8 (Go.bits .xor .u8 (Go.bits .xor .u8 a0 t101) t102) t103) t104) 99)) = some r := H
  have A5 := Aside0.mk A50
  clear A50
  obtain rfl := Option.some.inj H
  go_enter Try.func75, Try.ntmps75
  go_wp2_with (first | ((with_reducible refine gate_callee (f := 90) rfl ?_); refine goesL_ (some 5) rfl rfl Try.func90 (by kernel_rfl) rfl #[.int .u8 a0, .int .u8 1] rfl (by (try simp only [List.map_toArray, List.map_cons, List.map_nil]); first | rfl) ?_; (with_reducible refine (pyxref05_left.calls a0 1 t101 _ A2.out).mono ?_); rintro e w' ⟨rfl, ⟨nd, rfl⟩⟩; refine ⟨_, rfl, ?_⟩) | ((with_reducible refine gate_callee (f := 90) rfl ?_); refine goesL_ (some 8) rfl rfl Try.func90 (by kernel_rfl) rfl #[.int .u8 a0, .int .u8 2] rfl (by (try simp only [List.map_toArray, List.map_cons, List.map_nil]); first | rfl) ?_; (with_reducible refine (pyxref05_left.calls a0 2 t102 _ A3.out).mono ?_); rintro e w' ⟨rfl, ⟨nd, rfl⟩⟩; refine ⟨_, rfl, ?_⟩) | ((with_reducible refine gate_callee (f := 90) rfl ?_); refine goesL_ (some 11) rfl rfl Try.func90 (by kernel_rfl) rfl #[.int .u8 a0, .int .u8 3] rfl (by (try simp only [List.map_toArray, List.map_cons, List.map_nil]); first | rfl) ?_; (with_reducible refine (pyxref05_left.calls a0 3 t103 _ A4.out).mono ?_); rintro e w' ⟨rfl, ⟨nd, rfl⟩⟩; refine ⟨_, rfl, ?_⟩) | ((with_reducible refine gate_callee (f := 90) rfl ?_); refine goesL_ (some 14) rfl rfl Try.func90 (by kernel_rfl) rfl #[.int .u8 a0, .int .u8 4] rfl (by (try simp only [List.map_toArray, List.map_cons, List.map_nil]); first | rfl) ?_; (with_reducible refine (pyxref05_left.calls a0 4 t104 _ A5.out).mono ?_); rintro e w' ⟨rfl, ⟨nd, rfl⟩⟩; refine ⟨_, rfl, ?_⟩))
  go_ret
  exact ⟨by first | rfl, by repeat (first | exact Drawn0.refl _ | apply Drawn0.step)⟩
/-! ### pyxref05_Mul: function 76 -/
def pyxref05_Mul.l0 : Nat → Int → Int → Int → Int → Option (Int)
  | 0, _, _, _, _ => none
  | k + 1, x5, x6, x7, x8 => if x8 < 8 then (if (Int.tmod x7 2) = 1 then (if (wrap64 (2 * x6)) > 255 then (pyxref05_Mul.l0 k (Go.bits .xor .i64 x5 x6) (Go.bits .xor .i64 (wrap64 (2 * x6)) 283) (wrap64 (Int.tdiv x7 2)) (wrap64 (x8 + 1))) else (pyxref05_Mul.l0 k (Go.bits .xor .i64 x5 x6) (wrap64 (2 * x6)) (wrap64 (Int.tdiv x7 2)) (wrap64 (x8 + 1)))) else (if (wrap64 (2 * x6)) > 255 then (pyxref05_Mul.l0 k x5 (Go.bits .xor .i64 (wrap64 (2 * x6)) 283) (wrap64 (Int.tdiv x7 2)) (wrap64 (x8 + 1))) else (pyxref05_Mul.l0 k x5 (wrap64 (2 * x6)) (wrap64 (Int.tdiv x7 2)) (wrap64 (x8 + 1))))) else (some ((x5) % 256))
def pyxref05_Mul.f (k : Nat) (a0 : Int) (a1 : Int) : Option (Int) := pyxref05_Mul.l0 k 0 (wrap64 (a0)) (wrap64 (a1)) 0
theorem pyxref05_Mul.mono_l : ∀ k, (∀ y0 y1 y2 y3, LeO (pyxref05_Mul.l0 k y0 y1 y2 y3) (pyxref05_Mul.l0 (k + 1) y0 y1 y2 y3))
  | 0 => fun _ _ _ _ r h => by simp [pyxref05_Mul.l0] at h
  | k + 1 => by
    have ih0 := pyxref05_Mul.mono_l k
    · intro y0 y1 y2 y3
      unfold pyxref05_Mul.l0
      repeat' first
      | (with_reducible exact ih0 _ _ _ _)
      | (with_reducible exact LeO.refl _)
      | (with_reducible refine LeO.ite ?_ ?_)
theorem pyxref05_Mul.mono : ∀ a0 a1 k, LeO (pyxref05_Mul.f k a0 a1) (pyxref05_Mul.f (k + 1) a0 a1) := by
  intro a0 a1 k
  have ih0 := pyxref05_Mul.mono_l k
  unfold pyxref05_Mul.f
  repeat' first
      | (with_reducible exact ih0 _ _ _ _)
set_option maxHeartbeats 8000000 in
set_option maxRecDepth 100000 in
theorem pyxref05_Mul.calls (k : Nat) (a0 : Int) (a1 : Int) (r : Int) (w : World) (h : pyxref05_Mul.f k a0 a1 = some r) :
    Calls Try.prog 76 #[.int .u8 a0, .int .u8 a1] w fun e w' => e = .returned (.int .u8 r) ∧ Drawn0 w w' := by
  have H : (pyxref05_Mul.l0 k 0 (wrap64 (a0)) (wrap64 (a1)) 0) = some r := h
  clear h
  have H' := Aside0.mk H
  clear H
  go_enter Try.func76, Try.ntmps76
  go_wp2
  go_loopg [5, 6, 7, 8] k (fun kq v5 v6 v7 v8 w' => ∃ (x5_1 : Int) (x6_1 : Int) (x7_1 : Int) (x8_1 : Int), v5 = .int .i64 x5_1 ∧ v6 = .int .i64 x6_1 ∧ v7 = .int .i64 x7_1 ∧ v8 = .int .i64 x8_1 ∧ Aside0 (pyxref05_Mul.l0 kq x5_1 x6_1 x7_1 x8_1 = some r) ∧ Aside0 (kq ≤ k) ∧ Drawn0 w w')
  case atStart => exact ⟨(0), (wrap64 (a0)), (wrap64 (a1)), (0), (by first | rfl), (by first | rfl), (by first | rfl), (by first | rfl), H', ⟨Nat.le_refl _⟩, by repeat (exact Drawn0.refl _)⟩
  clear H'
  skip
  obtain ⟨x5_1, x6_1, x7_1, x8_1, rfl, rfl, rfl, rfl, HA, HK1, ⟨m1, rfl⟩⟩ := hrel
  cases gk with
  | zero => exact absurd HA.out (by simp [pyxref05_Mul.l0])
  | succ k1 =>
    have H := HA.out
    clear HA
    simp only [pyxref05_Mul.l0] at H
    by_cases c3 : x8_1 < 8
    rotate_left
    · rw [if_neg c3] at H
      have c3b0 : decide (x8_1 < 8) = false := decide_eq_false c3
      clear c3
      obtain rfl := Option.some.inj H
      go_wp2
      go_ret
      exact ⟨by first | rfl, by repeat (first | exact Drawn0.refl _ | apply Drawn0.step)⟩
    rw [if_pos c3] at H
    have c3b0 : decide (x8_1 < 8) = true := decide_eq_true c3
    clear c3
    by_cases c4 : (Int.tmod x7_1 2) = 1
    rotate_left
    · rw [if_neg c4] at H
      have c4b0 : ((Int.tmod x7_1 2) == 1) = false := beq_eq_false_iff_ne.mpr c4
      have c4b1 : ((Int.tmod x7_1 2) != 1) = true := bne_iff_ne.mpr c4
      by_cases c6 : (wrap64 (2 * x6_1)) > 255
      rotate_left
      · rw [if_neg c6] at H
        have c6b0 : decide (255 < (wrap64 (2 * x6_1))) = false := decide_eq_false c6
        clear c6
        have H' := Aside0.mk H
        clear H
        go_wp2
        go_roundg k1
        case measure => have := HK1.out; omega
        case rel => exact ⟨(x5_1), (wrap64 (2 * x6_1)), (wrap64 (Int.tdiv x7_1 2)), (wrap64 (x8_1 + 1)), (by first | rfl), (by first | rfl), (by first | rfl), (by first | rfl), H', ⟨by have := HK1.out; omega⟩, by repeat (first | exact Drawn0.refl _ | apply Drawn0.step)⟩
      rw [if_pos c6] at H
      have c6b0 : decide (255 < (wrap64 (2 * x6_1))) = true := decide_eq_true c6
      clear c6
      have H' := Aside0.mk H
      clear H
      go_wp2
      go_roundg k1
      case measure => have := HK1.out; omega
      case rel => exact ⟨(x5_1), (Go.bits .xor .i64 (wrap64 (2 * x6_1)) 283), (wrap64 (Int.tdiv x7_1 2)), (wrap64 (x8_1 + 1)), (by first | rfl), (by first | rfl), (by first | rfl), (by first | rfl), H', ⟨by have := HK1.out; omega⟩, by repeat (first | exact Drawn0.refl _ | apply Drawn0.step)⟩
    rw [if_pos c4] at H
    have c4b0 : ((Int.tmod x7_1 2) == 1) = true := beq_iff_eq.mpr c4
    have c4b1 : ((Int.tmod x7_1 2) != 1) = false := bne_eq_false_iff_eq.mpr c4
    clear c4
    by_cases c5 : (wrap64 (2 * x6_1)) > 255
    rotate_left
    · rw [if_neg c5] at H
      have c5b0 : decide (255 < (wrap64 (2 * x6_1))) = false := decide_eq_false c5
      clear c5
      have H' := Aside0.mk H
      clear H
      go_wp2
      go_roundg k1
      case measure => have := HK1.out; omega
      case rel => exact ⟨(Go.bits .xor .i64 x5_1 x6_1), (wrap64 (2 * x6_1)), (wrap64 (Int.tdiv x7_1 2)), (wrap64 (x8_1 + 1)), (by first | rfl), (by first | rfl), (by first | rfl), (by first | rfl), H', ⟨by have := HK1.out; omega⟩, by repeat (first | exact Drawn0.refl _ | apply Drawn0.step)⟩
    rw [if_pos c5] at H
    have c5b0 : decide (255 < (wrap64 (2 * x6_1))) = true := decide_eq_true c5
    clear c5
    have H' := Aside0.mk H
    clear H
    go_wp2
    go_roundg k1
    case measure => have := HK1.out; omega
    case rel => exact ⟨(Go.bits .xor .i64 x5_1 x6_1), (Go.bits .xor .i64 (wrap64 (2 * x6_1)) 283), (wrap64 (Int.tdiv x7_1 2)), (wrap64 (x8_1 + 1)), (by first | rfl), (by first | rfl), (by first | rfl), (by first | rfl), H', ⟨by have := HK1.out; omega⟩, by repeat (first | exact Drawn0.refl _ | apply Drawn0.step)⟩
/-! ### pyxref05_boxes: function 52 -/
mutual
def pyxref05_boxes.l0 : Nat → List Int → List Int → Int → Option (List Int)
  | 0, _, _, _ => none
  | k + 1, x1, x2, x3 => if x3 < 255 then (if 0 ≤ (wrap64 (x3 - 1)) then (if (wrap64 (x3 - 1)) < (x2.length : Int) then ((pyxref05_Mul.f k (rd x2 (wrap64 (x3 - 1))) 3).bind fun t114 => (if x2.length < 140737488355328 then (pyxref05_boxes.l0 k x1 (x2 ++ [t114]) (wrap64 (x3 + 1))) else (none))) else (none)) else (none)) else (pyxref05_boxes.l1 k x1 x2 0)
def pyxref05_boxes.l1 : Nat → List Int → List Int → Int → Option (List Int)
  | 0, _, _, _ => none
  | k + 1, x1, x2, x4 => if x4 < 255 then (if 0 ≤ x4 then (if x4 < (x2.length : Int) then (if 0 ≤ (Int.tmod (wrap64 (255 - x4)) 255) then (if (Int.tmod (wrap64 (255 - x4)) 255) < (x2.length : Int) then ((pyxref05_turned.f (rd x2 (Int.tmod (wrap64 (255 - x4)) 255))).bind fun t120 => (if 0 ≤ (wrap64 (rd x2 x4)) then (if (wrap64 (rd x2 x4)) < (x1.length : Int) then (pyxref05_boxes.l1 k (x1.set ((wrap64 (rd x2 x4)) : Int).toNat t120) x2 (wrap64 (x4 + 1))) else (none)) else (none))) else (none)) else (none)) else (none)) else (none)) else (some x1)
end
def pyxref05_boxes.f (k : Nat)  : Option (List Int) := if 256 ≤ 281474976710656 then ((some (List.replicate 256 0 : List Int)).bind fun y105 => ((pyxref05_turned.f 0).bind fun t108 => (if 0 < (y105.length : Int) then (pyxref05_boxes.l0 k (y105.set (0 : Int).toNat t108) (([1] : List Int)) 1) else (none)))) else (none)
theorem pyxref05_boxes.mono_l : ∀ k, (∀ y0 y1 y2, LeO (pyxref05_boxes.l0 k y0 y1 y2) (pyxref05_boxes.l0 (k + 1) y0 y1 y2)) ∧ (∀ y0 y1 y2, LeO (pyxref05_boxes.l1 k y0 y1 y2) (pyxref05_boxes.l1 (k + 1) y0 y1 y2))
  | 0 => ⟨fun _ _ _ r h => by simp [pyxref05_boxes.l0] at h, fun _ _ _ r h => by simp [pyxref05_boxes.l1] at h⟩
  | k + 1 => by
    obtain ⟨ih0, ih1⟩ := pyxref05_boxes.mono_l k
    refine ⟨?_, ?_⟩
    · intro y0 y1 y2
      unfold pyxref05_boxes.l0
      repeat' first
      | (with_reducible exact ih0 _ _ _)
      | (with_reducible exact ih1 _ _ _)
      | (with_reducible exact pyxref05_Mul.mono _ _ _)
      | (with_reducible exact LeO.refl _)
      | (with_reducible refine LeO.ite ?_ ?_)
      | (with_reducible refine LeO.bind ?_ (fun _ => ?_))
    · intro y0 y1 y2
      unfold pyxref05_boxes.l1
      repeat' first
      | (with_reducible exact ih1 _ _ _)
      | (with_reducible exact LeO.refl _)
      | (with_reducible refine LeO.ite ?_ ?_)
      | (with_reducible refine LeO.bind ?_ (fun _ => ?_))
theorem pyxref05_boxes.mono : ∀ k, LeO (pyxref05_boxes.f k ) (pyxref05_boxes.f (k + 1) ) := by
  intro  k
  obtain ⟨ih0, ih1⟩ := pyxref05_boxes.mono_l k
  unfold pyxref05_boxes.f
  repeat' first
      | (with_reducible exact ih0 _ _ _)
      | (with_reducible exact LeO.refl _)
      | (with_reducible refine LeO.ite ?_ ?_)
      | (with_reducible refine LeO.bind ?_ (fun _ => ?_))
def pyxref05_boxes.T11 : Bool × List (List Nat × List Nat) := (true, [([], []), ([], []), ([], []), ([1, 2], [1, 2]), ([3], [3]), ([4], [4]), ([], []), ([], []), ([7], [7]), ([8], [8]), ([6, 9], [6, 9]), ([10], [10]), ([11], [11]), ([0, 5, 0, 1, 2, 3, 4, 5, 6, 7, 8, 9, 10, 11, 12], [0, 5]), ([13, 12, 12, 0, 1, 2, 3, 4, 5, 6, 7, 8, 9, 10, 11, 12], [12, 13])])
def pyxref05_boxes.B11 : List Nat := [0, 0, 0, 6, 14, 30, 0, 0, 128, 384, 960, 1984, 4032, 8191, 16383]
theorem pyxref05_boxes.tab11 : rtab .any (opsOf Try.f52 11) = pyxref05_boxes.T11 := by kernel_rfl
theorem pyxref05_boxes.bits11 : waitsOk pyxref05_boxes.T11.2 pyxref05_boxes.B11 = true := by kernel_rfl
set_option maxHeartbeats 8000000 in
set_option maxRecDepth 100000 in
theorem pyxref05_boxes.calls (k : Nat)  (r : List Int) (w : World) (h : pyxref05_boxes.f k  = some r) :
    Calls Try.prog 52 #[] w fun e w' => ∃ v0_ : Value, e = .returned (v0_) ∧ Kd.R (Kd.int .u8) 5 w' w.heap.size (fun _ => True) v0_ r ∧ Below w.heap.size w w' := by
  have HB := Aside0.mk (Below.refl w.heap.size w)
  have H : (if 256 ≤ 281474976710656 then ((some (List.replicate 256 0 : List Int)).bind fun y105 => ((pyxref05_turned.f 0).bind fun t108 => (if 0 < (y105.length : Int) then (pyxref05_boxes.l0 k (y105.set (0 : Int).toNat t108) (([1] : List Int)) 1) else (none)))) else (none)) = some r := h
  clear h
  by_cases c1 : 256 ≤ 281474976710656
  rotate_left
  · rw [if_neg c1] at H
    exact absurd H (by simp)
  rw [if_pos c1] at H
  have c1b0 := eq_true c1
  have c1b1 : decide (256 ≤ 281474976710656) = true := decide_eq_true c1
  clear c1
  obtain ⟨y105, hy105⟩ : ∃ y_ : List Int, y_ = (List.replicate 256 0) := ⟨_, rfl⟩
  replace H : ((pyxref05_turned.f 0).bind fun t108 => (if 0 < (y105.length : Int) then (pyxref05_boxes.l0 k (y105.set (0 : Int).toNat t108) (([1] : List Int)) 1) else (none))) = some r := by first | (have H2_ := (Option.bind_some _ _).symm.trans H; rw [hy105]; with_reducible exact H2_)
  have Ny105 := Aside0.mk hy105
  clear hy105
  replace H := Option.bind_eq_some_iff.mp H
  obtain ⟨t108, A20, H⟩ := H
  replace H : (if 0 < (y105.length : Int) then (pyxref05_boxes.l0 k (y105.set (0 : Int).toNat t108) (([1] : List Int)) 1) else (none)) = some r := H
  have A2 := Aside0.mk A20
  clear A20
  by_cases c3 : 0 < (y105.length : Int)
  rotate_left
  · rw [if_neg c3] at H
    exact absurd H (by simp)
  rw [if_pos c3] at H
  have c3b0 : decide (0 < (y105.length : Int)) = true := decide_eq_true c3
  have c3b1 : decide (0 < y105.length) = true := decide_eq_true (by omega)
  clear c3
  obtain ⟨y109, hy109⟩ : ∃ y_ : List Int, y_ = (y105.set (0 : Int).toNat t108) := ⟨_, rfl⟩
  replace H : (pyxref05_boxes.l0 k y109 (([1] : List Int)) 1) = some r := by first | (rw [hy109]; with_reducible exact H)
  have Ny109 := Aside0.mk hy109
  clear hy109
  obtain ⟨y110, hy110⟩ : ∃ y_ : List Int, y_ = (([1] : List Int)) := ⟨_, rfl⟩
  replace H : (pyxref05_boxes.l0 k y109 y110 1) = some r := by first | (rw [hy110]; with_reducible exact H)
  have Ny110 := Aside0.mk hy110
  clear hy110
  have H' := Aside0.mk H
  clear H
  go_enter Try.func52, Try.ntmps52
  go_wp2_with (first | ((with_reducible refine gate_dst (N := 5) rfl ?_); refine Kd.R_make (Kd.int .u8) _ 5 rfl (N := 5) rfl 22 _ _ rfl 256 rfl rfl Try.underlying22 (.int .u8 0) 1 info5 rfl (by decide) (by omega) 0 (ok := fun _ => True) (okp := fun _ => True) rfl (fun _ hk => hk) trivial (by omega) (by omega) (Below.refl _ _) (Nat.le_refl _) ?_; intro v106 w5 ho6 hb hg_ hnew_; clear hg_ hnew_; ((simp only [Int.reduceToNat] at ho6; rw [← Ny105.out] at ho6)); have n0_ := Aside0.mk (Kd.R_lower ho6 (below_size (by repeat ((with_reducible first | exact HB.out))))); have n1_ := Aside0.mk (below_step (by repeat ((with_reducible first | exact HB.out))) hb); clear HB; have HO107 := n0_; have HB := n1_; clear n0_ n1_; clear hb ho6) | ((with_reducible refine gate_callee (f := 75) rfl ?_); refine goesL_ (some 7) rfl rfl Try.func75 (by kernel_rfl) rfl #[.int .u8 0] rfl (by (try simp only [List.map_toArray, List.map_cons, List.map_nil]); first | rfl) ?_; (with_reducible refine (pyxref05_turned.calls 0 t108 _ A2.out).mono ?_); rintro e w' ⟨rfl, ⟨nd, rfl⟩⟩; refine ⟨_, rfl, ?_⟩; (try (rw [drewN_self w5]; generalize hq_ : World.drewN w5 _ = w5; have n0_ : Aside0 (Kd.R (Kd.int .u8) 5 w5 w.heap.size (fun _ => True) v106 y105) := ⟨by rw [← hq_]; exact (by (with_reducible repeat (apply Kd.R_drewN)); exact HO107.out)⟩; have n1_ : Aside0 (Below w.heap.size w w5) := ⟨by rw [← hq_]; exact (by repeat ((with_reducible first | exact HB.out | apply pw_below_drewN)))⟩; clear HO107 HB hq_; have HO107 := n0_; have HB := n1_; clear n0_ n1_)); have p4 : 0 ≤ (0 : Int) := (by omega); have q4 : (0 : Int) < ((y105.length : Int) : Int) := of_decide_eq_true (by first | (with_reducible assumption)); have qi4 : (0 < y105.length) = True := eq_true (by omega); obtain ⟨go4, co4, eo4, gb4, gl4, cl4, HG4⟩ := Kd.R_form HO107.out (by omega); (cases eo4); have GB4 := Aside0.mk gb4; have GG4 := Aside0.mk HG4; clear gb4 gl4 HG4; obtain ⟨hx4_0, hf4_0⟩ := Kd.R_celln 0 HO107.out (0 : Int) p4 q4; (try rw [show ((0 : Int)).toNat = 0 from rfl] at hx4_0); (try rw [show ((0 : Int)).toNat = 0 from rfl] at hf4_0); replace p4 := eq_true p4; replace q4 := eq_true q4; obtain ⟨hy7_, hz7_⟩ := Kd.R_celln 0 HO107.out (0 : Int) (by omega) (of_decide_eq_true (by first | (with_reducible assumption))); (try rw [show ((0 : Int)).toNat = 0 from rfl] at hy7_); (try rw [show ((0 : Int)).toNat = 0 from rfl] at hz7_); have HP7 := Kd.R_putg HO107.out (0 : Int) t108) | ((with_reducible refine gate_store (t := 5) (p := 8) rfl ?_); refine store_event (t := 5) (p := 8) (v := ?vo_w8) (w1 := (w5.setCell ⟨go4, (0 : Int).toNat, none⟩ (.int .u8 t108))) ?hg ?ho ?hn ?hr ?_; (case ho => rfl); (case hg => rfl); (case hn => rfl); (case hr => first | (go_simp; done)); intro w8 hw; have hg : w5.grownBy w8 (some go4) := (by rw [hw]; exact HP7.2); have hp_ : Kd.R (Kd.int .u8) 5 w8 w.heap.size (fun _ => True) (.slice (some ⟨go4, 0, none⟩) y105.length co4) y109 := (by rw [hw, Ny109.out]; exact HP7.1); clear HP7; have n0_ := Aside0.mk (hp_); have n1_ := Aside0.mk ((by rw [hw]; exact below_set (HB.out) GB4.out : Below w.heap.size w w8)); clear HO107; clear HB; have HO107 := n0_; have HB := n1_; clear n0_ n1_; clear hg hw hp_) | ((with_reducible refine gate_dst (N := 9) rfl ?_); refine Kd.R_lit (Kd.int .u8) _ 5 ?hg (N := 9) ?hd (xs := ([1] : List Int)) (inner := [.int .u8 1]) (ok := fun _ => True) (okp := fun _ => True) ?hr ?hp (fun _ hk => hk) trivial (Below.refl _ _) (Nat.le_refl _) (by simp) ?_; (case hd => rfl); (case hg => rfl); (case hr => first | (go_simp; done)); (case hp => exact (Reps.one (show Kd.M (Kd.int .u8) _ _ _ 1 [.int .u8 1] from rfl) (Reps.none _ _))); intro v111 w9 ho10 hb hg_ hnew_; clear hg_ hnew_; (rw [← Ny110.out] at ho10); have n0_ := Aside0.mk (Kd.R_elder' (by (with_reducible repeat (fail)); exact HO107.out) (Kd.R_base ho10) hb); have n1_ := Aside0.mk (Kd.R_lower (Kd.R_new' ho10 (Kd.R_lt (by (with_reducible repeat (fail)); exact HO107.out))) (below_size (by repeat ((with_reducible first | exact HB.out))))); have n2_ := Aside0.mk (below_step (by repeat ((with_reducible first | exact HB.out))) hb); clear HO107; clear HB; have HO107 := n0_; have HO112 := n1_; have HB := n2_; clear n0_ n1_ n2_; clear hb ho10))
  go_loopg [2, 3] k (fun kq v2 v3 w' => ∃ (x2_1 : List Int) (x3_1 : Int), v3 = .int .i64 x3_1 ∧ Aside0 (pyxref05_boxes.l0 kq y109 x2_1 x3_1 = some r) ∧ Aside0 (kq ≤ k) ∧ Aside0 (Kd.R (Kd.int .u8) 5 w' w.heap.size (fun k_ => some k_ ≠ (v2 : Value).ownBlock) (.slice (some ⟨go4, 0, none⟩) y105.length co4) y109) ∧ Aside0 (Kd.R (Kd.int .u8) 5 w' w.heap.size (fun k_ => some k_ ≠ ((.slice (some ⟨go4, 0, none⟩) y105.length co4) : Value).ownBlock) v2 x2_1) ∧ Aside0 (Below w.heap.size w w'))
  case atStart => exact ⟨(y110), (1), (by first | rfl), H', ⟨Nat.le_refl _⟩, ⟨by (with_reducible repeat (fail)); exact Kd.R_mono HO107.out (fun _ hk => hk.2)⟩, ⟨by (with_reducible repeat (fail)); exact Kd.R_mono HO112.out (fun _ hk => hk.2)⟩, ⟨by repeat ((with_reducible first | exact HB.out))⟩⟩
  clear H'
  skip
  try clear c1b0
  try clear c1b1
  skip
  skip
  try clear c3b0
  try clear c3b1
  try clear p4
  try clear q4
  skip
  try clear qi4
  skip
  skip
  skip
  try clear hx4_0
  skip
  skip
  obtain ⟨x2_1, x3_1, rfl, HA, HK1, HO_1, HO_2, HB⟩ := hrel
  have hl1_1 := (Kd.R_reads' HO_1.out).1
  rw [hl1_1] at HO_1
  (try simp only [hl1_1])
  (try simp only [hl1_1] at HO_2)
  cases gk with
  | zero => exact absurd HA.out (by simp [pyxref05_boxes.l0])
  | succ k1 =>
    have H := HA.out
    clear HA
    simp only [pyxref05_boxes.l0] at H
    by_cases c11 : x3_1 < 255
    · rw [if_pos c11] at H
      have c11b0 : decide (x3_1 < 255) = true := decide_eq_true c11
      clear c11
      obtain ⟨ji12, hji12⟩ : ∃ j_ : Int, (wrap64 (x3_1 - 1)) = j_ := ⟨_, rfl⟩
      replace H : (if 0 ≤ (ji12) then (if (ji12) < (x2_1.length : Int) then ((pyxref05_Mul.f k1 (rd x2_1 (ji12)) 3).bind fun t114 => (if x2_1.length < 140737488355328 then (pyxref05_boxes.l0 k1 y109 (x2_1 ++ [t114]) (wrap64 (x3_1 + 1))) else (none))) else (none)) else (none)) = some r := by first | (rw [hji12] at H; exact H)
      have hji12w : (IntKind.i64.wrap (x3_1 - 1)) = ji12 := (i64_w _).trans hji12
      by_cases c13 : 0 ≤ (ji12)
      rotate_left
      · rw [if_neg c13] at H
        exact absurd H (by simp)
      rw [if_pos c13] at H
      have c13b0 : decide (0 ≤ (ji12)) = true := decide_eq_true c13
      clear c13
      by_cases c14 : (ji12) < (x2_1.length : Int)
      rotate_left
      · rw [if_neg c14] at H
        exact absurd H (by simp)
      rw [if_pos c14] at H
      have c14b0 : decide ((ji12) < (x2_1.length : Int)) = true := decide_eq_true c14
      clear c14
      replace H := Option.bind_eq_some_iff.mp H
      obtain ⟨t114, A150, H⟩ := H
      replace H : (if x2_1.length < 140737488355328 then (pyxref05_boxes.l0 k1 y109 (x2_1 ++ [t114]) (wrap64 (x3_1 + 1))) else (none)) = some r := H
      have A15 := Aside0.mk A150
      clear A150
      by_cases c16 : x2_1.length < 140737488355328
      rotate_left
      · rw [if_neg c16] at H
        exact absurd H (by simp)
      rw [if_pos c16] at H
      have LMc16 := Aside0.mk c16
      clear c16
      obtain ⟨y115, hy115⟩ : ∃ y_ : List Int, y_ = (x2_1 ++ [t114]) := ⟨_, rfl⟩
      replace H : (pyxref05_boxes.l0 k1 y109 y115 (wrap64 (x3_1 + 1))) = some r := by first | (rw [hy115]; with_reducible exact H)
      have Ny115 := Aside0.mk hy115
      clear hy115
      have H' := Aside0.mk H
      clear H
      obtain ⟨Ao17, co17, eo17⟩ := Kd.R_slice HO_2.out
      subst eo17
      have p113 : 0 ≤ ((ji12) : Int) := of_decide_eq_true (by first | (with_reducible assumption))
      have q113 : (ji12) < (x2_1.length : Int) := of_decide_eq_true (by first | (with_reducible assumption))
      obtain ⟨ad113, e113, hx113_0⟩ := Kd.at_int (Kd.R_reads' HO_2.out).2.2 (ji12) p113 q113
      cases e113
      replace p113 := eq_true p113
      replace q113 := eq_true q113
      go_wp2_with (first | ((with_reducible refine gate_callee (f := 76) rfl ?_); refine goesL_ (some 20) rfl rfl Try.func76 (by kernel_rfl) rfl #[.int .u8 (rd x2_1 (ji12)), .int .u8 3] rfl (by (try simp only [List.map_toArray, List.map_cons, List.map_nil]); first | rfl) ?_; (with_reducible refine (pyxref05_Mul.calls k1 (rd x2_1 (ji12)) 3 t114 _ A15.out).mono ?_); rintro e w' ⟨rfl, ⟨nd, rfl⟩⟩; refine ⟨_, rfl, ?_⟩) | ((with_reducible refine gate_builtin (b := .append) (xs := #[.tmp 14, .tmp 21]) rfl ?_); at_builtin; refine Kd.R_append (Kd.int .u8) (w0 := w) w.heap.size rfl (.tmp 14) (.tmp 21) 22 5 (.int .u8 0) 1 rfl Try.underlying22 info5 rfl (by decide) (by omega) (.slice (some ad113) x2_1.length co17) x2_1 t114 [.int .u8 t114] (fun k_ => some k_ ≠ (.slice (some ⟨go4, 0, none⟩) y109.length co4 : Value).ownBlock) (fun _ => False) rfl rfl ?aP (fun _ hk => hk.elim) ?aF ?aO ?aB ?aS ?aL ?_; (case aP => exact rfl); (case aB => exact (by repeat ((with_reducible first | exact HB.out | apply pw_below_drewN)))); (case aF => exact (fun k_ hk => Kd.fresh' (Kd.R_lt (by (with_reducible repeat (apply Kd.R_drewN)); exact HO_1.out)) k_ hk)); (case aO => exact (by (with_reducible repeat (apply Kd.R_drewN)); exact HO_2.out)); (case aS => exact (below_size (by repeat ((with_reducible first | exact HB.out | apply pw_below_drewN))))); (case aL => have := LMc16.out; omega); intro v116 w18 ho hb hg hat; rw [← Ny115.out] at ho; have n0_ := Aside0.mk (Kd.R_after (ok := (fun _ => True)) (by (with_reducible repeat (apply Kd.R_drewN)); exact Kd.R_mono HO_1.out (fun _ hk => ⟨trivial, hk⟩)) hg hat); have n1_ := Aside0.mk (hb); have n2_ := Aside0.mk (ho); clear HO_1; clear HB; clear HO_2; have HO_1 := n0_; have HB := n1_; have HO117 := n2_; clear n0_ n1_ n2_; clear ho hb hg hat))
      (try simp only [← hl1_1])
      go_roundg k1
      case measure => have := HK1.out; omega
      case rel => exact ⟨(y115), (wrap64 (x3_1 + 1)), (by first | rfl), H', ⟨by have := HK1.out; omega⟩, ⟨by (try simp only [hl1_1]); (with_reducible repeat (fail)); exact Kd.R_mono HO_1.out (fun _ hk => hk.2)⟩, ⟨by (try simp only [hl1_1]); (with_reducible repeat (fail)); exact HO117.out⟩, ⟨by repeat ((with_reducible first | exact HB.out))⟩⟩
    rw [if_neg c11] at H
    have c11b0 : decide (x3_1 < 255) = false := decide_eq_false c11
    clear c11
    have H' := Aside0.mk H
    clear H
    go_wp2
    go_loopg [4] k1 (fun kq v4 w' => ∃ (x1_2 : List Int) (x4_2 : Int), v4 = .int .i64 x4_2 ∧ Aside0 (pyxref05_boxes.l1 kq x1_2 x2_1 x4_2 = some r) ∧ Aside0 (kq ≤ k1) ∧ Aside0 (Kd.R (Kd.int .u8) 5 w' w.heap.size (fun k_ => some k_ ≠ (u2 : Value).ownBlock) (.slice (some ⟨go4, 0, none⟩) y109.length co4) x1_2) ∧ Aside0 (Kd.R (Kd.int .u8) 5 w' w.heap.size (fun k_ => some k_ ≠ ((.slice (some ⟨go4, 0, none⟩) y109.length co4) : Value).ownBlock) u2 x2_1) ∧ Aside0 (Below w.heap.size w w'))
    case atStart => exact ⟨(y109), (0), (by first | rfl), H', ⟨Nat.le_refl _⟩, ⟨by (with_reducible repeat (fail)); exact HO_1.out⟩, ⟨by (with_reducible repeat (fail)); exact HO_2.out⟩, ⟨by repeat ((with_reducible first | exact HB.out))⟩⟩
    clear H'
    skip
    skip
    skip
    skip
    skip
    skip
    skip
    skip
    skip
    skip
    skip
    skip
    skip
    skip
    skip
    skip
    skip
    skip
    skip
    try clear c11b0
    skip
    skip
    skip
    skip
    skip
    skip
    skip
    skip
    skip
    skip
    skip
    skip
    skip
    skip
    skip
    obtain ⟨x1_2, x4_2, rfl, HA, HK2, HO_1, HO_2, HB⟩ := hrel
    have hl1_2 := (Kd.R_reads' HO_1.out).1
    rw [hl1_2] at HO_1
    (try simp only [hl1_2])
    (try simp only [hl1_2] at HO_2)
    cases gk with
    | zero => exact absurd HA.out (by simp [pyxref05_boxes.l1])
    | succ k2 =>
      have H := HA.out
      clear HA
      simp only [pyxref05_boxes.l1] at H
      by_cases c19 : x4_2 < 255
      rotate_left
      · rw [if_neg c19] at H
        have c19b0 : decide (x4_2 < 255) = false := decide_eq_false c19
        clear c19
        obtain rfl := Option.some.inj H
        go_wp2
        go_ret
        exact ⟨_, by first | rfl, by (with_reducible repeat (fail)); exact Kd.R_mono HO_1.out (fun _ hk => trivial), by repeat ((with_reducible first | exact HB.out))⟩
      rw [if_pos c19] at H
      have c19b0 : decide (x4_2 < 255) = true := decide_eq_true c19
      clear c19
      by_cases c20 : 0 ≤ x4_2
      rotate_left
      · rw [if_neg c20] at H
        exact absurd H (by simp)
      rw [if_pos c20] at H
      have c20b0 : decide (0 ≤ x4_2) = true := decide_eq_true c20
      clear c20
      by_cases c21 : x4_2 < (x2_1.length : Int)
      rotate_left
      · rw [if_neg c21] at H
        exact absurd H (by simp)
      rw [if_pos c21] at H
      have c21b0 : decide (x4_2 < (x2_1.length : Int)) = true := decide_eq_true c21
      clear c21
      obtain ⟨ji22, hji22⟩ : ∃ j_ : Int, (Int.tmod (wrap64 (255 - x4_2)) 255) = j_ := ⟨_, rfl⟩
      replace H : (if 0 ≤ (ji22) then (if (ji22) < (x2_1.length : Int) then ((pyxref05_turned.f (rd x2_1 (ji22))).bind fun t120 => (if 0 ≤ (wrap64 (rd x2_1 x4_2)) then (if (wrap64 (rd x2_1 x4_2)) < (x1_2.length : Int) then (pyxref05_boxes.l1 k2 (x1_2.set ((wrap64 (rd x2_1 x4_2)) : Int).toNat t120) x2_1 (wrap64 (x4_2 + 1))) else (none)) else (none))) else (none)) else (none)) = some r := by first | (rw [hji22] at H; exact H)
      by_cases c23 : 0 ≤ (ji22)
      rotate_left
      · rw [if_neg c23] at H
        exact absurd H (by simp)
      rw [if_pos c23] at H
      have c23b0 : decide (0 ≤ (ji22)) = true := decide_eq_true c23
      clear c23
      by_cases c24 : (ji22) < (x2_1.length : Int)
      rotate_left
      · rw [if_neg c24] at H
        exact absurd H (by simp)
      rw [if_pos c24] at H
      have c24b0 : decide ((ji22) < (x2_1.length : Int)) = true := decide_eq_true c24
      clear c24
      replace H := Option.bind_eq_some_iff.mp H
      obtain ⟨t120, A250, H⟩ := H
      replace H : (if 0 ≤ (wrap64 (rd x2_1 x4_2)) then (if (wrap64 (rd x2_1 x4_2)) < (x1_2.length : Int) then (pyxref05_boxes.l1 k2 (x1_2.set ((wrap64 (rd x2_1 x4_2)) : Int).toNat t120) x2_1 (wrap64 (x4_2 + 1))) else (none)) else (none)) = some r := H
      have A25 := Aside0.mk A250
      clear A250
      obtain ⟨ji26, hji26⟩ : ∃ j_ : Int, (wrap64 (rd x2_1 x4_2)) = j_ := ⟨_, rfl⟩
      replace H : (if 0 ≤ (ji26) then (if (ji26) < (x1_2.length : Int) then (pyxref05_boxes.l1 k2 (x1_2.set ((ji26) : Int).toNat t120) x2_1 (wrap64 (x4_2 + 1))) else (none)) else (none)) = some r := by first | (rw [hji26] at H; exact H)
      (skip)
      have hji26w : (IntKind.i64.wrap (rd x2_1 x4_2)) = ji26 := (i64_w _).trans hji26
      by_cases c27 : 0 ≤ (ji26)
      rotate_left
      · rw [if_neg c27] at H
        exact absurd H (by simp)
      rw [if_pos c27] at H
      have c27b0 : decide (0 ≤ (ji26)) = true := decide_eq_true c27
      clear c27
      by_cases c28 : (ji26) < (x1_2.length : Int)
      rotate_left
      · rw [if_neg c28] at H
        exact absurd H (by simp)
      rw [if_pos c28] at H
      have c28b0 : decide ((ji26) < (x1_2.length : Int)) = true := decide_eq_true c28
      clear c28
      obtain ⟨y121, hy121⟩ : ∃ y_ : List Int, y_ = (x1_2.set ((ji26) : Int).toNat t120) := ⟨_, rfl⟩
      replace H : (pyxref05_boxes.l1 k2 y121 x2_1 (wrap64 (x4_2 + 1))) = some r := by first | (rw [hy121]; with_reducible exact H)
      have Ny121 := Aside0.mk hy121
      clear hy121
      have H' := Aside0.mk H
      clear H
      try go_wp2
      have n0_ := Aside0.mk (Kd.R_drew HO_1.out)
      have n1_ := Aside0.mk (Kd.R_drew HO_2.out)
      have n2_ := Aside0.mk (below_drew1 HB.out)
      clear HO_1
      clear HO_2
      clear HB
      have HO_1 := n0_
      have HO_2 := n1_
      have HB := n2_
      clear n0_ n1_ n2_
      obtain ⟨Ao31, co31, eo31⟩ := Kd.R_slice HO_2.out
      (subst eo31)
      have p118 : 0 ≤ (x4_2 : Int) := of_decide_eq_true (by first | (with_reducible assumption))
      have q118 : x4_2 < (x2_1.length : Int) := of_decide_eq_true (by first | (with_reducible assumption))
      obtain ⟨ad118, e118, hx118_0⟩ := Kd.at_int (Kd.R_reads' HO_2.out).2.2 x4_2 p118 q118
      cases e118
      replace p118 := eq_true p118
      replace q118 := eq_true q118
      have p119 : 0 ≤ ((ji22) : Int) := of_decide_eq_true (by first | (with_reducible assumption))
      have q119 : (ji22) < (x2_1.length : Int) := of_decide_eq_true (by first | (with_reducible assumption))
      obtain ⟨ad119, e119, hx119_0⟩ := Kd.at_int (Kd.R_reads' HO_2.out).2.2 (ji22) p119 q119
      obtain rfl : ad118 = ad119 := (by injection e119)
      replace p119 := eq_true p119
      replace q119 := eq_true q119
      refine start_ (n := 15) (S := fun w' => w'.cell? (ad118.add (x4_2).toNat) = some (.int .u8 (rd x2_1 x4_2)) ∧ w'.cell? (ad118.add ((ji22)).toNat) = some (.int .u8 (rd x2_1 (ji22)))) (ds := [14]) #[false, false, false, false, false, false, false, false, false, false, false, false, false, false, false] (by kernel_rfl) rfl rfl ⟨hx118_0, hx119_0⟩ (fun hHeld => ?_); refine with_tabW pyxref05_boxes.tab11 pyxref05_boxes.bits11 (fun HT_ HW_ => ?_)
      generalize wr.drew = w30 at HO_1 HO_2 HB hx118_0 hx119_0 hHeld ⊢
      refine pure_ (i := 0) (N := some 27) (v := ?_) (a' := ?_) #[true, false, false, false, false, false, false, false, false, false, false, false, false, false, false] rfl rfl (any_of HT_.out (by kernel_rfl)) (fun _ _ _ h => h) (Or.inl ⟨by rfl, ?_⟩) ?_ ?_
      rotate_left
      · intro w'
        go_simp
        with_reducible rfl
      rotate_left
      · simp only [Act.put, List.setIfInBounds_toArray, List.set_cons_zero, List.set_cons_succ, i64_w, i32_w]
        rfl
      refine pure_ (i := 1) (N := some 28) (v := ?_) (a' := ?_) #[true, true, false, false, false, false, false, false, false, false, false, false, false, false, false] rfl rfl (any_of HT_.out (by kernel_rfl)) (fun _ _ _ h => h) (Or.inl ⟨by rfl, ?_⟩) ?_ ?_
      rotate_left
      · intro w'
        go_simp
        with_reducible rfl
      rotate_left
      · simp only [Act.put, List.setIfInBounds_toArray, List.set_cons_zero, List.set_cons_succ, i64_w, i32_w]
        rfl
      refine pure_ (i := 2) (N := some 29) (v := ?_) (a' := ?_) #[true, true, true, false, false, false, false, false, false, false, false, false, false, false, false] rfl rfl (any_of HT_.out (by kernel_rfl)) (fun _ _ _ h => h) (Or.inl ⟨by rfl, ?_⟩) ?_ ?_
      rotate_left
      · intro w'
        go_simp
        with_reducible rfl
      rotate_left
      · simp only [Act.put, List.setIfInBounds_toArray, List.set_cons_zero, List.set_cons_succ, i64_w, i32_w]
        rfl
      refine pure_ (i := 3) (N := some 30) (v := ?_) (a' := ?_) #[true, true, true, true, false, false, false, false, false, false, false, false, false, false, false] rfl rfl (any_of HT_.out (by kernel_rfl)) (fun _ _ _ h => h) (Or.inl ⟨by rfl, ?_⟩) ?_ ?_
      rotate_left
      · intro w'
        go_simp
        with_reducible rfl
      rotate_left
      · simp only [Act.put, List.setIfInBounds_toArray, List.set_cons_zero, List.set_cons_succ, i64_w, i32_w]
        rfl
      refine pure_ (i := 6) (N := some 33) (v := ?_) (a' := ?_) #[true, true, true, true, false, false, true, false, false, false, false, false, false, false, false] rfl rfl (any_of HT_.out (by kernel_rfl)) (fun _ _ _ h => h) (Or.inl ⟨by rfl, ?_⟩) ?_ ?_
      rotate_left
      · intro w'
        go_simp
        with_reducible rfl
      rotate_left
      · simp only [Act.put, List.setIfInBounds_toArray, List.set_cons_zero, List.set_cons_succ, i64_w, i32_w]
        rfl
      refine pure_ (i := 7) (N := some 34) (v := ?_) (a' := ?_) #[true, true, true, true, false, false, true, true, false, false, false, false, false, false, false] rfl rfl (any_of HT_.out (by kernel_rfl)) (fun _ _ _ h => h) (Or.inl ⟨by rfl, ?_⟩) ?_ ?_
      rotate_left
      · intro w'
        go_simp
        with_reducible rfl
      rotate_left
      · simp only [Act.put, List.setIfInBounds_toArray, List.set_cons_zero, List.set_cons_succ, i64_w, i32_w]
        rfl
      refine pure_ (i := 8) (N := some 35) (v := ?_) (a' := ?_) #[true, true, true, true, false, false, true, true, true, false, false, false, false, false, false] rfl rfl (any_of HT_.out (by kernel_rfl)) (fun _ _ _ h => h) (Or.inl ⟨by rfl, ?_⟩) ?_ ?_
      rotate_left
      · intro w'
        go_simp
        with_reducible rfl
      rotate_left
      · simp only [Act.put, List.setIfInBounds_toArray, List.set_cons_zero, List.set_cons_succ, i64_w, i32_w]
        rfl
      refine pure_ (i := 9) (N := some 36) (v := ?_) (a' := ?_) #[true, true, true, true, false, false, true, true, true, true, false, false, false, false, false] rfl rfl (any_of HT_.out (by kernel_rfl)) (fun _ _ _ h => h) (Or.inl ⟨by rfl, ?_⟩) ?_ ?_
      rotate_left
      · intro w'
        go_simp
        with_reducible rfl
      rotate_left
      · simp only [Act.put, List.setIfInBounds_toArray, List.set_cons_zero, List.set_cons_succ, i64_w, i32_w]
        rfl
      refine pure_ (i := 10) (N := some 37) (v := ?_) (a' := ?_) #[true, true, true, true, false, false, true, true, true, true, true, false, false, false, false] rfl rfl (any_of HT_.out (by kernel_rfl)) (fun _ _ _ h => h) (Or.inl ⟨by rfl, ?_⟩) ?_ ?_
      rotate_left
      · intro w'
        go_simp
        with_reducible rfl
      rotate_left
      · simp only [Act.put, List.setIfInBounds_toArray, List.set_cons_zero, List.set_cons_succ, i64_w, i32_w]
        rfl
      refine take_ (i := 4) (N := some 31) (v := ?_) (a' := ?_) #[true, true, true, true, true, false, true, true, true, true, true, false, false, false, false] rfl rfl (take_ofW HT_.out HW_.out (by kernel_rfl)) (fun _ _ _ h => h) (Or.inl ⟨by rfl, ?_⟩) hHeld ?_ ?_
      rotate_left
      · rintro w' ⟨s0, s1⟩
        go_simp
        with_reducible rfl
      rotate_left
      · simp only [Act.put, List.setIfInBounds_toArray, List.set_cons_zero, List.set_cons_succ, i64_w, i32_w]
        rfl
      refine pure_ (i := 5) (N := some 32) (v := ?_) (a' := ?_) #[true, true, true, true, true, true, true, true, true, true, true, false, false, false, false] rfl rfl (any_of HT_.out (by kernel_rfl)) (fun _ _ _ h => h) (Or.inl ⟨by rfl, ?_⟩) ?_ ?_
      rotate_left
      · intro w'
        go_simp
        with_reducible rfl
      rotate_left
      · simp only [Act.put, List.setIfInBounds_toArray, List.set_cons_zero, List.set_cons_succ, i64_w, i32_w]
        rfl
      refine take_ (i := 11) (N := some 38) (v := ?_) (a' := ?_) #[true, true, true, true, true, true, true, true, true, true, true, true, false, false, false] rfl rfl (take_ofW HT_.out HW_.out (by kernel_rfl)) (fun _ _ _ h => h) (Or.inl ⟨by rfl, ?_⟩) hHeld ?_ ?_
      rotate_left
      · rintro w' ⟨s0, s1⟩
        go_simp
        with_reducible rfl
      rotate_left
      · simp only [Act.put, List.setIfInBounds_toArray, List.set_cons_zero, List.set_cons_succ, i64_w, i32_w]
        rfl
      refine one_ (i := 12) (N := some 39) #[true, true, true, true, true, true, true, true, true, true, true, true, true, false, false] rfl rfl (one_of HT_.out (by kernel_rfl)) (by decide) (fun K hK => ?_)
      refine goes_ Try.func75 (by kernel_rfl) rfl #[.int .u8 (rd x2_1 (ji22))] (by rfl) rfl rfl (by (try simp only [List.map_toArray, List.map_cons, List.map_nil]); first | rfl) ?_
      with_reducible refine (pyxref05_turned.calls (rd x2_1 (ji22)) t120 _ A25.out).mono ?_
      rintro e w' ⟨rfl, ⟨nd, rfl⟩⟩
      refine ⟨_, rfl, ?_⟩
      have p29 : 0 ≤ ((ji26) : Int) := of_decide_eq_true (by first | (with_reducible assumption))
      have q29 : ((ji26) : Int) < ((x1_2.length : Int) : Int) := of_decide_eq_true (by first | (with_reducible assumption))
      obtain ⟨hx29_0, hf29_0⟩ := Kd.R_celln 0 HO_1.out ((ji26) : Int) p29 q29
      replace p29 := eq_true p29
      replace q29 := eq_true q29
      have HP32 := Kd.R_putn HO_1.out ((ji26) : Int) t120
      rw [← Ny121.out] at HP32
      have HQ32 := Aside0.mk HP32
      clear HP32
      refine hK.out _ _ ⟨hHeld.1, hHeld.2⟩ (fun hHeld => ?_)
      clear hK K
      refine norm_ (a' := ?_) ?_ ?_
      rotate_left
      · show Act.put _ (some 39) _ = _
        simp only [Act.put, List.setIfInBounds_toArray, List.set_cons_zero, List.set_cons_succ, i64_w, i32_w]
        rfl
      refine pure_ (i := 13) (N := some 40) (v := ?_) (a' := ?_) #[true, true, true, true, true, true, true, true, true, true, true, true, true, true, false] rfl rfl (any_of HT_.out (by kernel_rfl)) (fun _ _ _ h => h) (Or.inl ⟨by rfl, ?_⟩) ?_ ?_
      rotate_left
      · intro w'
        go_simp
        with_reducible rfl
      rotate_left
      · simp only [Act.put, List.setIfInBounds_toArray, List.set_cons_zero, List.set_cons_succ, i64_w, i32_w]
        rfl
      refine last_ (i := 14) (N := none) #[true, true, true, true, true, true, true, true, true, true, true, true, true, true, true] rfl rfl (one_of HT_.out (by kernel_rfl)) (by decide) (fun K hK => ?_)
      refine skip_ (w1 := ?_) (by rfl) rfl ?_ ?_
      rotate_left
      · go_simp
        rfl
      refine hK.out _ _ ?_
      clear hK K
      refine done_ (done_of HT_.out (by kernel_rfl)) ?_
      try go_wp2
      (try simp only [← hl1_2])
      go_roundg k2
      case measure => have := HK1.out; have := HK2.out; omega
      case rel => exact ⟨(y121), (wrap64 (x4_2 + 1)), (by first | rfl), H', ⟨by have := HK1.out; have := HK2.out; omega⟩, ⟨by (try simp only [hl1_2]); (with_reducible repeat (fail)); exact HQ32.out⟩, ⟨by (try simp only [hl1_2]); (with_reducible repeat (fail)); exact Kd.R_mono (Kd.R_far (p := ⟨go4, ((ji26) : Int).toNat, none⟩) (Kd.R_mono HO_2.out (fun k_ hk => (⟨hk, fun e_ => hk (by rw [e_]; rfl)⟩ : _ ∧ k_ ≠ go4))) (fun _ hk => hk.2) (.int .u8 t120)) (fun _ hk => hk.1)⟩, ⟨by repeat ((with_reducible first | exact HB.out | apply pw_below_drewN | refine below_set ?_ GB4.out))⟩⟩
end Go.Proofs.Ytifpdpfjhjoieaa.C

/-! C2 -/
namespace Go.Proofs.Ytifpdpfjhjoieaa.C
open Go.Proofs.Ytifpdpfjhjoieaa.P
open Go.RowKit Go.Proofs.YtifpdpfjhjoieaaW.PrintWords Go.Proofs.YtifpdpfjhjoieaaW.PrintLast Go.Proofs.YtifpdpfjhjoieaaW.PrintMore
attribute [local go_sem] max2_int min2_int max_two min_two max_three min_three max_four min_four   -- for this text's walks alone
set_option linter.unusedVariables false
set_option linter.unusedSimpArgs false
/-! ### pyxref05_keys: function 53 -/
mutual
def pyxref05_keys.l0 : Nat → List Int → List Int → Int → Int → Option (List Int)
  | 0, _, _, _, _ => none
  | k + 1, x1, x5, x6, x7 => if x7 < 44 then (pyxref05_keys.l1 k x1 x5 x6 x7 0) else (some x5)
def pyxref05_keys.l1 : Nat → List Int → List Int → Int → Int → Int → Option (List Int)
  | 0, _, _, _, _, _ => none
  | k + 1, x1, x5, x6, x7, x8 => if x8 < 4 then (if 0 ≤ (wrap64 ((wrap64 ((wrap64 (4 * x7)) - 4)) + x8)) then (if (wrap64 ((wrap64 ((wrap64 (4 * x7)) - 4)) + x8)) < (x5.length : Int) then (if (Int.tmod x7 4) = 0 then (if 0 ≤ (wrap64 ((wrap64 ((wrap64 (4 * x7)) - 4)) + (Int.tmod (wrap64 (x8 + 1)) 4))) then (if (wrap64 ((wrap64 ((wrap64 (4 * x7)) - 4)) + (Int.tmod (wrap64 (x8 + 1)) 4))) < (x5.length : Int) then (if 0 ≤ (wrap64 (rd x5 (wrap64 ((wrap64 ((wrap64 (4 * x7)) - 4)) + (Int.tmod (wrap64 (x8 + 1)) 4))))) then (if (wrap64 (rd x5 (wrap64 ((wrap64 ((wrap64 (4 * x7)) - 4)) + (Int.tmod (wrap64 (x8 + 1)) 4))))) < (x1.length : Int) then (if x8 = 0 then (if 0 ≤ (wrap64 ((wrap64 ((wrap64 (4 * x7)) - 16)) + x8)) then (if (wrap64 ((wrap64 ((wrap64 (4 * x7)) - 16)) + x8)) < (x5.length : Int) then (if x5.length < 140737488355328 then (pyxref05_keys.l1 k x1 (x5 ++ [Go.bits .xor .u8 (rd x5 (wrap64 ((wrap64 ((wrap64 (4 * x7)) - 16)) + x8))) (Go.bits .xor .u8 (rd x1 (wrap64 (rd x5 (wrap64 ((wrap64 ((wrap64 (4 * x7)) - 4)) + (Int.tmod (wrap64 (x8 + 1)) 4)))))) x6)]) x6 x7 (wrap64 (x8 + 1))) else (none)) else (none)) else (none)) else (if 0 ≤ (wrap64 ((wrap64 ((wrap64 (4 * x7)) - 16)) + x8)) then (if (wrap64 ((wrap64 ((wrap64 (4 * x7)) - 16)) + x8)) < (x5.length : Int) then (if x5.length < 140737488355328 then (pyxref05_keys.l1 k x1 (x5 ++ [Go.bits .xor .u8 (rd x5 (wrap64 ((wrap64 ((wrap64 (4 * x7)) - 16)) + x8))) (rd x1 (wrap64 (rd x5 (wrap64 ((wrap64 ((wrap64 (4 * x7)) - 4)) + (Int.tmod (wrap64 (x8 + 1)) 4))))))]) x6 x7 (wrap64 (x8 + 1))) else (none)) else (none)) else (none))) else (none)) else (none)) else (none)) else (none)) else (if 0 ≤ (wrap64 ((wrap64 ((wrap64 (4 * x7)) - 16)) + x8)) then (if (wrap64 ((wrap64 ((wrap64 (4 * x7)) - 16)) + x8)) < (x5.length : Int) then (if x5.length < 140737488355328 then (pyxref05_keys.l1 k x1 (x5 ++ [Go.bits .xor .u8 (rd x5 (wrap64 ((wrap64 ((wrap64 (4 * x7)) - 16)) + x8))) (rd x5 (wrap64 ((wrap64 ((wrap64 (4 * x7)) - 4)) + x8)))]) x6 x7 (wrap64 (x8 + 1))) else (none)) else (none)) else (none))) else (none)) else (none)) else (if (Int.tmod x7 4) = 0 then ((pyxref05_Mul.f k x6 2).bind fun t128 => (pyxref05_keys.l0 k x1 x5 t128 (wrap64 (x7 + 1)))) else (pyxref05_keys.l0 k x1 x5 x6 (wrap64 (x7 + 1))))
end
def pyxref05_keys.f (k : Nat) (l0 : List Int) (l1 : List Int) : Option (List Int) := (some (([] : List Int) : List Int)).bind fun y122 => (if y122.length + l0.length < 140737488355328 then (pyxref05_keys.l0 k l1 (y122 ++ l0) 1 4) else (none))
set_option maxHeartbeats 8000000 in
set_option maxRecDepth 100000 in
theorem pyxref05_keys.calls (k : Nat) (A0 : Option Addr) (c0 : Nat) (l0 : List Int) (A1 : Option Addr) (c1 : Nat) (l1 : List Int) (r : List Int) (w : World) (hr0 : Kd.C (Kd.int .u8) w A0 l0.length l0) (hc0 : l0.length ≤ c0) (hr1 : Kd.C (Kd.int .u8) w A1 l1.length l1) (hc1 : l1.length ≤ c1) (h : pyxref05_keys.f k l0 l1 = some r) :
    Calls Try.prog 53 #[.slice A0 l0.length c0, .slice A1 l1.length c1] w fun e w' => ∃ v0_ : Value, e = .returned (v0_) ∧ Kd.R (Kd.int .u8) 5 w' w.heap.size (fun _ => True) v0_ r ∧ Below w.heap.size w w' := by
  have HR0 := Aside0.mk hr0
  have HC0 := Aside0.mk hc0
  clear hr0 hc0
  have HR1 := Aside0.mk hr1
  have HC1 := Aside0.mk hc1
  clear hr1 hc1
  have HB := Aside0.mk (Below.refl w.heap.size w)
  have H : ((some (([] : List Int) : List Int)).bind fun y122 => (if y122.length + l0.length < 140737488355328 then (pyxref05_keys.l0 k l1 (y122 ++ l0) 1 4) else (none))) = some r := h
  clear h
  obtain ⟨y122, hy122⟩ : ∃ y_ : List Int, y_ = (([] : List Int)) := ⟨_, rfl⟩
  replace H : (if y122.length + l0.length < 140737488355328 then (pyxref05_keys.l0 k l1 (y122 ++ l0) 1 4) else (none)) = some r := by first | (have H2_ := (Option.bind_some _ _).symm.trans H; rw [hy122]; with_reducible exact H2_)
  have Ny122 := Aside0.mk hy122
  clear hy122
  by_cases c3 : y122.length + l0.length < 140737488355328
  rotate_left
  · rw [if_neg c3] at H
    exact absurd H (by simp)
  rw [if_pos c3] at H
  have LMc3 := Aside0.mk c3
  clear c3
  obtain ⟨y125, hy125⟩ : ∃ y_ : List Int, y_ = (y122 ++ l0) := ⟨_, rfl⟩
  replace H : (pyxref05_keys.l0 k l1 y125 1 4) = some r := by first | (rw [hy125]; with_reducible exact H)
  have Ny125 := Aside0.mk hy125
  clear hy125
  have H' := Aside0.mk H
  clear H
  go_enter Try.func53, Try.ntmps53
  go_wp2_with (first | ((with_reducible refine gate_dst (N := 10) rfl ?_); refine Kd.R_lit (Kd.int .u8) _ 5 ?hg (N := 10) ?hd (xs := ([] : List Int)) (inner := []) (ok := fun _ => True) (okp := fun _ => True) ?hr ?hp (fun _ hk => hk) trivial (Below.refl _ _) (Nat.le_refl _) (by simp) ?_; (case hd => rfl); (case hg => rfl); (case hr => first | (go_simp; done)); (case hp => exact (Reps.none _ _)); intro v123 w4 ho5 hb hg_ hnew_; clear hg_ hnew_; (rw [← Ny122.out] at ho5); have n0_ := Aside0.mk (Kd.R_lower ho5 (below_size (by repeat ((with_reducible first | exact HB.out))))); have n1_ := Aside0.mk (below_step (by repeat ((with_reducible first | exact HB.out))) hb); clear HB; have HO124 := n0_; have HB := n1_; clear n0_ n1_; clear hb ho5) | ((with_reducible refine gate_builtin (b := .append) (xs := #[.tmp 10, .tmp 11]) rfl ?_); at_builtin; refine Kd.R_append_rows (Kd.int .u8) (w0 := w) w.heap.size rfl (.tmp 10) (.tmp 11) 22 5 (.int .u8 0) 1 rfl Try.underlying22 info5 rfl (by decide) (by omega) v123 y122 l0 _ _ _ (fun _ => True) (fun _ => False) rfl rfl ?aO ?aR (fun _ _ h => h) (fun _ h => h.elim) ?aF ?aB ?aS ?aL ?_; (case aR => repeat (exact (Kd.C_below HR0.out HB.out))); (case aB => exact (by repeat ((with_reducible first | exact HB.out)))); (case aF => exact (fun _ _ => trivial)); (case aO => exact (by (with_reducible repeat (fail)); exact HO124.out)); (case aS => exact (below_size (by repeat ((with_reducible first | exact HB.out))))); (case aL => have := LMc3.out; omega); intro v126 w6 ho hb hg hat; rw [← Ny125.out] at ho; have n0_ := Aside0.mk (hb); have n1_ := Aside0.mk (ho); clear HB; clear HO124; have HB := n0_; have HO127 := n1_; clear n0_ n1_; clear ho hb hg hat))
  go_loopg [5, 6, 7] k (fun kq v5 v6 v7 w' => ∃ (x5_1 : List Int) (x6_1 : Int) (x7_1 : Int), v6 = .int .u8 x6_1 ∧ v7 = .int .i64 x7_1 ∧ Aside0 (pyxref05_keys.l0 kq l1 x5_1 x6_1 x7_1 = some r) ∧ Aside0 (kq ≤ k) ∧ Aside0 (Kd.R (Kd.int .u8) 5 w' w.heap.size (fun _ => True) v5 x5_1) ∧ Aside0 (Below w.heap.size w w'))
  case atStart => exact ⟨(y125), (1), (4), (by first | rfl), (by first | rfl), H', ⟨Nat.le_refl _⟩, ⟨by (with_reducible repeat (fail)); exact HO127.out⟩, ⟨by repeat ((with_reducible first | exact HB.out))⟩⟩
  clear H'
  skip
  skip
  skip
  skip
  obtain ⟨x5_1, x6_1, x7_1, rfl, rfl, HA, HK1, HO_5, HB⟩ := hrel
  cases gk with
  | zero => exact absurd HA.out (by simp [pyxref05_keys.l0])
  | succ k1 =>
    have H := HA.out
    clear HA
    simp only [pyxref05_keys.l0] at H
    by_cases c7 : x7_1 < 44
    rotate_left
    · rw [if_neg c7] at H
      have c7b0 : decide (x7_1 < 44) = false := decide_eq_false c7
      clear c7
      obtain rfl := Option.some.inj H
      go_wp2
      go_ret
      exact ⟨_, by first | rfl, by (with_reducible repeat (fail)); exact HO_5.out, by repeat ((with_reducible first | exact HB.out))⟩
    rw [if_pos c7] at H
    have c7b0 : decide (x7_1 < 44) = true := decide_eq_true c7
    clear c7
    have H' := Aside0.mk H
    clear H
    go_wp2
    go_loopg [5, 8] k1 (fun kq v5 v8 w' => ∃ (x5_2 : List Int) (x8_2 : Int), v8 = .int .i64 x8_2 ∧ Aside0 (pyxref05_keys.l1 kq l1 x5_2 x6_1 x7_1 x8_2 = some r) ∧ Aside0 (kq ≤ k1) ∧ Aside0 (Kd.R (Kd.int .u8) 5 w' w.heap.size (fun _ => True) v5 x5_2) ∧ Aside0 (Below w.heap.size w w'))
    case atStart => exact ⟨(x5_1), (0), (by first | rfl), H', ⟨Nat.le_refl _⟩, ⟨by (with_reducible repeat (fail)); exact HO_5.out⟩, ⟨by repeat ((with_reducible first | exact HB.out))⟩⟩
    clear H'
    skip
    skip
    skip
    skip
    skip
    try clear c7b0
    skip
    obtain ⟨x5_2, x8_2, rfl, HA, HK2, HO_5, HB⟩ := hrel
    cases gk with
    | zero => exact absurd HA.out (by simp [pyxref05_keys.l1])
    | succ k2 =>
      have H := HA.out
      clear HA
      simp only [pyxref05_keys.l1] at H
      by_cases c8 : x8_2 < 4
      rotate_left
      · rw [if_neg c8] at H
        have c8b0 : decide (x8_2 < 4) = false := decide_eq_false c8
        clear c8
        by_cases c38 : (Int.tmod x7_1 4) = 0
        rotate_left
        · rw [if_neg c38] at H
          have c38b0 : ((Int.tmod x7_1 4) == 0) = false := beq_eq_false_iff_ne.mpr c38
          have c38b1 : ((Int.tmod x7_1 4) != 0) = true := bne_iff_ne.mpr c38
          have H' := Aside0.mk H
          clear H
          go_wp2
          go_roundg k2
          case measure => have := HK1.out; have := HK2.out; omega
          case rel => exact ⟨(x5_2), (x6_1), (wrap64 (x7_1 + 1)), (by first | rfl), (by first | rfl), H', ⟨by have := HK1.out; have := HK2.out; omega⟩, ⟨by (with_reducible repeat (fail)); exact HO_5.out⟩, ⟨by repeat ((with_reducible first | exact HB.out))⟩⟩
        rw [if_pos c38] at H
        have c38b0 : ((Int.tmod x7_1 4) == 0) = true := beq_iff_eq.mpr c38
        have c38b1 : ((Int.tmod x7_1 4) != 0) = false := bne_eq_false_iff_eq.mpr c38
        clear c38
        replace H := Option.bind_eq_some_iff.mp H
        obtain ⟨t128, A390, H⟩ := H
        replace H : (pyxref05_keys.l0 k2 l1 x5_2 t128 (wrap64 (x7_1 + 1))) = some r := H
        have A39 := Aside0.mk A390
        clear A390
        have H' := Aside0.mk H
        clear H
        go_wp2_with (first | ((with_reducible refine gate_callee (f := 76) rfl ?_); refine goesL_ (some 73) rfl rfl Try.func76 (by kernel_rfl) rfl #[.int .u8 x6_1, .int .u8 2] rfl (by (try simp only [List.map_toArray, List.map_cons, List.map_nil]); first | rfl) ?_; (with_reducible refine (pyxref05_Mul.calls k2 x6_1 2 t128 _ A39.out).mono ?_); rintro e w' ⟨rfl, ⟨nd, rfl⟩⟩; refine ⟨_, rfl, ?_⟩))
        go_roundg k2
        case measure => have := HK1.out; have := HK2.out; omega
        case rel => exact ⟨(x5_2), (t128), (wrap64 (x7_1 + 1)), (by first | rfl), (by first | rfl), H', ⟨by have := HK1.out; have := HK2.out; omega⟩, ⟨by (with_reducible repeat (apply Kd.R_drewN)); exact HO_5.out⟩, ⟨by repeat ((with_reducible first | exact HB.out | apply pw_below_drewN))⟩⟩
      rw [if_pos c8] at H
      have c8b0 : decide (x8_2 < 4) = true := decide_eq_true c8
      clear c8
      obtain ⟨ji9, hji9⟩ : ∃ j_ : Int, (wrap64 ((wrap64 ((wrap64 (4 * x7_1)) - 4)) + x8_2)) = j_ := ⟨_, rfl⟩
      replace H : (if 0 ≤ (ji9) then (if (ji9) < (x5_2.length : Int) then (if (Int.tmod x7_1 4) = 0 then (if 0 ≤ (wrap64 ((wrap64 ((wrap64 (4 * x7_1)) - 4)) + (Int.tmod (wrap64 (x8_2 + 1)) 4))) then (if (wrap64 ((wrap64 ((wrap64 (4 * x7_1)) - 4)) + (Int.tmod (wrap64 (x8_2 + 1)) 4))) < (x5_2.length : Int) then (if 0 ≤ (wrap64 (rd x5_2 (wrap64 ((wrap64 ((wrap64 (4 * x7_1)) - 4)) + (Int.tmod (wrap64 (x8_2 + 1)) 4))))) then (if (wrap64 (rd x5_2 (wrap64 ((wrap64 ((wrap64 (4 * x7_1)) - 4)) + (Int.tmod (wrap64 (x8_2 + 1)) 4))))) < (l1.length : Int) then (if x8_2 = 0 then (if 0 ≤ (wrap64 ((wrap64 ((wrap64 (4 * x7_1)) - 16)) + x8_2)) then (if (wrap64 ((wrap64 ((wrap64 (4 * x7_1)) - 16)) + x8_2)) < (x5_2.length : Int) then (if x5_2.length < 140737488355328 then (pyxref05_keys.l1 k2 l1 (x5_2 ++ [Go.bits .xor .u8 (rd x5_2 (wrap64 ((wrap64 ((wrap64 (4 * x7_1)) - 16)) + x8_2))) (Go.bits .xor .u8 (rd l1 (wrap64 (rd x5_2 (wrap64 ((wrap64 ((wrap64 (4 * x7_1)) - 4)) + (Int.tmod (wrap64 (x8_2 + 1)) 4)))))) x6_1)]) x6_1 x7_1 (wrap64 (x8_2 + 1))) else (none)) else (none)) else (none)) else (if 0 ≤ (wrap64 ((wrap64 ((wrap64 (4 * x7_1)) - 16)) + x8_2)) then (if (wrap64 ((wrap64 ((wrap64 (4 * x7_1)) - 16)) + x8_2)) < (x5_2.length : Int) then (if x5_2.length < 140737488355328 then (pyxref05_keys.l1 k2 l1 (x5_2 ++ [Go.bits .xor .u8 (rd x5_2 (wrap64 ((wrap64 ((wrap64 (4 * x7_1)) - 16)) + x8_2))) (rd l1 (wrap64 (rd x5_2 (wrap64 ((wrap64 ((wrap64 (4 * x7_1)) - 4)) + (Int.tmod (wrap64 (x8_2 + 1)) 4))))))]) x6_1 x7_1 (wrap64 (x8_2 + 1))) else (none)) else (none)) else (none))) else (none)) else (none)) else (none)) else (none)) else (if 0 ≤ (wrap64 ((wrap64 ((wrap64 (4 * x7_1)) - 16)) + x8_2)) then (if (wrap64 ((wrap64 ((wrap64 (4 * x7_1)) - 16)) + x8_2)) < (x5_2.length : Int) then (if x5_2.length < 140737488355328 then (pyxref05_keys.l1 k2 l1 (x5_2 ++ [Go.bits .xor .u8 (rd x5_2 (wrap64 ((wrap64 ((wrap64 (4 * x7_1)) - 16)) + x8_2))) (rd x5_2 (ji9))]) x6_1 x7_1 (wrap64 (x8_2 + 1))) else (none)) else (none)) else (none))) else (none)) else (none)) = some r := by first | (rw [hji9] at H; exact H)
      have hji9w : (IntKind.i64.wrap ((wrap64 ((wrap64 (4 * x7_1)) - 4)) + x8_2)) = ji9 := (i64_w _).trans hji9
      by_cases c10 : 0 ≤ (ji9)
      rotate_left
      · rw [if_neg c10] at H
        exact absurd H (by simp)
      rw [if_pos c10] at H
      have c10b0 : decide (0 ≤ (ji9)) = true := decide_eq_true c10
      clear c10
      by_cases c11 : (ji9) < (x5_2.length : Int)
      rotate_left
      · rw [if_neg c11] at H
        exact absurd H (by simp)
      rw [if_pos c11] at H
      have c11b0 : decide ((ji9) < (x5_2.length : Int)) = true := decide_eq_true c11
      clear c11
      by_cases c12 : (Int.tmod x7_1 4) = 0
      rotate_left
      · rw [if_neg c12] at H
        have c12b0 : ((Int.tmod x7_1 4) == 0) = false := beq_eq_false_iff_ne.mpr c12
        have c12b1 : ((Int.tmod x7_1 4) != 0) = true := bne_iff_ne.mpr c12
        obtain ⟨ji32, hji32⟩ : ∃ j_ : Int, (wrap64 ((wrap64 ((wrap64 (4 * x7_1)) - 16)) + x8_2)) = j_ := ⟨_, rfl⟩
        replace H : (if 0 ≤ (ji32) then (if (ji32) < (x5_2.length : Int) then (if x5_2.length < 140737488355328 then (pyxref05_keys.l1 k2 l1 (x5_2 ++ [Go.bits .xor .u8 (rd x5_2 (ji32)) (rd x5_2 (ji9))]) x6_1 x7_1 (wrap64 (x8_2 + 1))) else (none)) else (none)) else (none)) = some r := by first | (rw [hji32] at H; exact H)
        have hji32w : (IntKind.i64.wrap ((wrap64 ((wrap64 (4 * x7_1)) - 16)) + x8_2)) = ji32 := (i64_w _).trans hji32
        by_cases c33 : 0 ≤ (ji32)
        rotate_left
        · rw [if_neg c33] at H
          exact absurd H (by simp)
        rw [if_pos c33] at H
        have c33b0 : decide (0 ≤ (ji32)) = true := decide_eq_true c33
        clear c33
        by_cases c34 : (ji32) < (x5_2.length : Int)
        rotate_left
        · rw [if_neg c34] at H
          exact absurd H (by simp)
        rw [if_pos c34] at H
        have c34b0 : decide ((ji32) < (x5_2.length : Int)) = true := decide_eq_true c34
        clear c34
        by_cases c35 : x5_2.length < 140737488355328
        rotate_left
        · rw [if_neg c35] at H
          exact absurd H (by simp)
        rw [if_pos c35] at H
        have LMc35 := Aside0.mk c35
        clear c35
        obtain ⟨y141, hy141⟩ : ∃ y_ : List Int, y_ = (x5_2 ++ [Go.bits .xor .u8 (rd x5_2 (ji32)) (rd x5_2 (ji9))]) := ⟨_, rfl⟩
        replace H : (pyxref05_keys.l1 k2 l1 y141 x6_1 x7_1 (wrap64 (x8_2 + 1))) = some r := by first | (rw [hy141]; with_reducible exact H)
        have Ny141 := Aside0.mk hy141
        clear hy141
        have H' := Aside0.mk H
        clear H
        obtain ⟨Ao36, co36, eo36⟩ := Kd.R_slice HO_5.out
        subst eo36
        have p129 : 0 ≤ ((ji9) : Int) := of_decide_eq_true (by first | (with_reducible assumption))
        have q129 : (ji9) < (x5_2.length : Int) := of_decide_eq_true (by first | (with_reducible assumption))
        obtain ⟨ad129, e129, hx129_0⟩ := Kd.at_int (Kd.R_reads' HO_5.out).2.2 (ji9) p129 q129
        cases e129
        replace p129 := eq_true p129
        replace q129 := eq_true q129
        have p140 : 0 ≤ ((ji32) : Int) := of_decide_eq_true (by first | (with_reducible assumption))
        have q140 : (ji32) < (x5_2.length : Int) := of_decide_eq_true (by first | (with_reducible assumption))
        obtain ⟨ad140, e140, hx140_0⟩ := Kd.at_int (Kd.R_reads' HO_5.out).2.2 (ji32) p140 q140
        obtain rfl : ad129 = ad140 := (by injection e140)
        replace p140 := eq_true p140
        replace q140 := eq_true q140
        go_wp2_with (first | ((with_reducible refine gate_builtin (b := .append) (xs := #[.tmp 56, .tmp 67]) rfl ?_); at_builtin; refine Kd.R_append (Kd.int .u8) (w0 := w) w.heap.size rfl (.tmp 56) (.tmp 67) 22 5 (.int .u8 0) 1 rfl Try.underlying22 info5 rfl (by decide) (by omega) (.slice (some ad129) x5_2.length co36) x5_2 (Go.bits .xor .u8 (rd x5_2 (ji32)) (rd x5_2 (ji9))) [.int .u8 (Go.bits .xor .u8 (rd x5_2 (ji32)) (rd x5_2 (ji9)))] (fun _ => True) (fun _ => False) rfl rfl ?aP (fun _ hk => hk.elim) ?aF ?aO ?aB ?aS ?aL ?_; (case aP => exact rfl); (case aB => exact (by repeat ((with_reducible first | exact HB.out)))); (case aF => exact (fun _ _ => trivial)); (case aO => exact (by (with_reducible repeat (fail)); exact HO_5.out)); (case aS => exact (below_size (by repeat ((with_reducible first | exact HB.out))))); (case aL => have := LMc35.out; omega); intro v142 w37 ho hb hg hat; rw [← Ny141.out] at ho; have n0_ := Aside0.mk (hb); have n1_ := Aside0.mk (ho); clear HB; clear HO_5; have HB := n0_; have HO143 := n1_; clear n0_ n1_; clear ho hb hg hat))
        go_roundg k2
        case measure => have := HK1.out; have := HK2.out; omega
        case rel => exact ⟨(y141), (wrap64 (x8_2 + 1)), (by first | rfl), H', ⟨by have := HK1.out; have := HK2.out; omega⟩, ⟨by (with_reducible repeat (fail)); exact HO143.out⟩, ⟨by repeat ((with_reducible first | exact HB.out))⟩⟩
      rw [if_pos c12] at H
      have c12b0 : ((Int.tmod x7_1 4) == 0) = true := beq_iff_eq.mpr c12
      have c12b1 : ((Int.tmod x7_1 4) != 0) = false := bne_eq_false_iff_eq.mpr c12
      clear c12
      obtain ⟨ji13, hji13⟩ : ∃ j_ : Int, (wrap64 ((wrap64 ((wrap64 (4 * x7_1)) - 4)) + (Int.tmod (wrap64 (x8_2 + 1)) 4))) = j_ := ⟨_, rfl⟩
      replace H : (if 0 ≤ (ji13) then (if (ji13) < (x5_2.length : Int) then (if 0 ≤ (wrap64 (rd x5_2 (ji13))) then (if (wrap64 (rd x5_2 (ji13))) < (l1.length : Int) then (if x8_2 = 0 then (if 0 ≤ (wrap64 ((wrap64 ((wrap64 (4 * x7_1)) - 16)) + x8_2)) then (if (wrap64 ((wrap64 ((wrap64 (4 * x7_1)) - 16)) + x8_2)) < (x5_2.length : Int) then (if x5_2.length < 140737488355328 then (pyxref05_keys.l1 k2 l1 (x5_2 ++ [Go.bits .xor .u8 (rd x5_2 (wrap64 ((wrap64 ((wrap64 (4 * x7_1)) - 16)) + x8_2))) (Go.bits .xor .u8 (rd l1 (wrap64 (rd x5_2 (ji13)))) x6_1)]) x6_1 x7_1 (wrap64 (x8_2 + 1))) else (none)) else (none)) else (none)) else (if 0 ≤ (wrap64 ((wrap64 ((wrap64 (4 * x7_1)) - 16)) + x8_2)) then (if (wrap64 ((wrap64 ((wrap64 (4 * x7_1)) - 16)) + x8_2)) < (x5_2.length : Int) then (if x5_2.length < 140737488355328 then (pyxref05_keys.l1 k2 l1 (x5_2 ++ [Go.bits .xor .u8 (rd x5_2 (wrap64 ((wrap64 ((wrap64 (4 * x7_1)) - 16)) + x8_2))) (rd l1 (wrap64 (rd x5_2 (ji13))))]) x6_1 x7_1 (wrap64 (x8_2 + 1))) else (none)) else (none)) else (none))) else (none)) else (none)) else (none)) else (none)) = some r := by first | (rw [hji13] at H; exact H)
      have hji13w : (IntKind.i64.wrap ((wrap64 ((wrap64 (4 * x7_1)) - 4)) + (Int.tmod (wrap64 (x8_2 + 1)) 4))) = ji13 := (i64_w _).trans hji13
      by_cases c14 : 0 ≤ (ji13)
      rotate_left
      · rw [if_neg c14] at H
        exact absurd H (by simp)
      rw [if_pos c14] at H
      have c14b0 : decide (0 ≤ (ji13)) = true := decide_eq_true c14
      clear c14
      by_cases c15 : (ji13) < (x5_2.length : Int)
      rotate_left
      · rw [if_neg c15] at H
        exact absurd H (by simp)
      rw [if_pos c15] at H
      have c15b0 : decide ((ji13) < (x5_2.length : Int)) = true := decide_eq_true c15
      clear c15
      obtain ⟨ji16, hji16⟩ : ∃ j_ : Int, (wrap64 (rd x5_2 (ji13))) = j_ := ⟨_, rfl⟩
      replace H : (if 0 ≤ (ji16) then (if (ji16) < (l1.length : Int) then (if x8_2 = 0 then (if 0 ≤ (wrap64 ((wrap64 ((wrap64 (4 * x7_1)) - 16)) + x8_2)) then (if (wrap64 ((wrap64 ((wrap64 (4 * x7_1)) - 16)) + x8_2)) < (x5_2.length : Int) then (if x5_2.length < 140737488355328 then (pyxref05_keys.l1 k2 l1 (x5_2 ++ [Go.bits .xor .u8 (rd x5_2 (wrap64 ((wrap64 ((wrap64 (4 * x7_1)) - 16)) + x8_2))) (Go.bits .xor .u8 (rd l1 (ji16)) x6_1)]) x6_1 x7_1 (wrap64 (x8_2 + 1))) else (none)) else (none)) else (none)) else (if 0 ≤ (wrap64 ((wrap64 ((wrap64 (4 * x7_1)) - 16)) + x8_2)) then (if (wrap64 ((wrap64 ((wrap64 (4 * x7_1)) - 16)) + x8_2)) < (x5_2.length : Int) then (if x5_2.length < 140737488355328 then (pyxref05_keys.l1 k2 l1 (x5_2 ++ [Go.bits .xor .u8 (rd x5_2 (wrap64 ((wrap64 ((wrap64 (4 * x7_1)) - 16)) + x8_2))) (rd l1 (ji16))]) x6_1 x7_1 (wrap64 (x8_2 + 1))) else (none)) else (none)) else (none))) else (none)) else (none)) = some r := by first | (rw [hji16] at H; exact H)
      have hji16w : (IntKind.i64.wrap (rd x5_2 (ji13))) = ji16 := (i64_w _).trans hji16
      by_cases c17 : 0 ≤ (ji16)
      rotate_left
      · rw [if_neg c17] at H
        exact absurd H (by simp)
      rw [if_pos c17] at H
      have c17b0 : decide (0 ≤ (ji16)) = true := decide_eq_true c17
      clear c17
      by_cases c18 : (ji16) < (l1.length : Int)
      rotate_left
      · rw [if_neg c18] at H
        exact absurd H (by simp)
      rw [if_pos c18] at H
      have c18b0 : decide ((ji16) < (l1.length : Int)) = true := decide_eq_true c18
      clear c18
      by_cases c19 : x8_2 = 0
      rotate_left
      · rw [if_neg c19] at H
        have c19b0 : (x8_2 == 0) = false := beq_eq_false_iff_ne.mpr c19
        have c19b1 : (x8_2 != 0) = true := bne_iff_ne.mpr c19
        obtain ⟨ji26, hji26⟩ : ∃ j_ : Int, (wrap64 ((wrap64 ((wrap64 (4 * x7_1)) - 16)) + x8_2)) = j_ := ⟨_, rfl⟩
        replace H : (if 0 ≤ (ji26) then (if (ji26) < (x5_2.length : Int) then (if x5_2.length < 140737488355328 then (pyxref05_keys.l1 k2 l1 (x5_2 ++ [Go.bits .xor .u8 (rd x5_2 (ji26)) (rd l1 (ji16))]) x6_1 x7_1 (wrap64 (x8_2 + 1))) else (none)) else (none)) else (none)) = some r := by first | (rw [hji26] at H; exact H)
        have hji26w : (IntKind.i64.wrap ((wrap64 ((wrap64 (4 * x7_1)) - 16)) + x8_2)) = ji26 := (i64_w _).trans hji26
        by_cases c27 : 0 ≤ (ji26)
        rotate_left
        · rw [if_neg c27] at H
          exact absurd H (by simp)
        rw [if_pos c27] at H
        have c27b0 : decide (0 ≤ (ji26)) = true := decide_eq_true c27
        clear c27
        by_cases c28 : (ji26) < (x5_2.length : Int)
        rotate_left
        · rw [if_neg c28] at H
          exact absurd H (by simp)
        rw [if_pos c28] at H
        have c28b0 : decide ((ji26) < (x5_2.length : Int)) = true := decide_eq_true c28
        clear c28
        by_cases c29 : x5_2.length < 140737488355328
        rotate_left
        · rw [if_neg c29] at H
          exact absurd H (by simp)
        rw [if_pos c29] at H
        have LMc29 := Aside0.mk c29
        clear c29
        obtain ⟨y137, hy137⟩ : ∃ y_ : List Int, y_ = (x5_2 ++ [Go.bits .xor .u8 (rd x5_2 (ji26)) (rd l1 (ji16))]) := ⟨_, rfl⟩
        replace H : (pyxref05_keys.l1 k2 l1 y137 x6_1 x7_1 (wrap64 (x8_2 + 1))) = some r := by first | (rw [hy137]; with_reducible exact H)
        have Ny137 := Aside0.mk hy137
        clear hy137
        have H' := Aside0.mk H
        clear H
        obtain ⟨Ao30, co30, eo30⟩ := Kd.R_slice HO_5.out
        subst eo30
        have p129 : 0 ≤ ((ji9) : Int) := of_decide_eq_true (by first | (with_reducible assumption))
        have q129 : (ji9) < (x5_2.length : Int) := of_decide_eq_true (by first | (with_reducible assumption))
        obtain ⟨ad129, e129, hx129_0⟩ := Kd.at_int (Kd.R_reads' HO_5.out).2.2 (ji9) p129 q129
        cases e129
        replace p129 := eq_true p129
        replace q129 := eq_true q129
        have p130 : 0 ≤ ((ji13) : Int) := of_decide_eq_true (by first | (with_reducible assumption))
        have q130 : (ji13) < (x5_2.length : Int) := of_decide_eq_true (by first | (with_reducible assumption))
        obtain ⟨ad130, e130, hx130_0⟩ := Kd.at_int (Kd.R_reads' HO_5.out).2.2 (ji13) p130 q130
        obtain rfl : ad129 = ad130 := (by injection e130)
        replace p130 := eq_true p130
        replace q130 := eq_true q130
        have p131 : 0 ≤ ((ji16) : Int) := of_decide_eq_true (by first | (with_reducible assumption))
        have q131 : (ji16) < (l1.length : Int) := of_decide_eq_true (by first | (with_reducible assumption))
        obtain ⟨ad131, e131, hx131_0⟩ := Kd.at_int HR1.out (ji16) p131 q131
        cases e131
        replace hx131_0 := (HB.out.cell (World.block_lt_of_cell? w _ hx131_0)).trans hx131_0
        replace p131 := eq_true p131
        replace q131 := eq_true q131
        have p136 : 0 ≤ ((ji26) : Int) := of_decide_eq_true (by first | (with_reducible assumption))
        have q136 : (ji26) < (x5_2.length : Int) := of_decide_eq_true (by first | (with_reducible assumption))
        obtain ⟨ad136, e136, hx136_0⟩ := Kd.at_int (Kd.R_reads' HO_5.out).2.2 (ji26) p136 q136
        obtain rfl : ad129 = ad136 := (by injection e136)
        replace p136 := eq_true p136
        replace q136 := eq_true q136
        go_wp2_with (first | ((with_reducible refine gate_builtin (b := .append) (xs := #[.tmp 56, .tmp 67]) rfl ?_); at_builtin; refine Kd.R_append (Kd.int .u8) (w0 := w) w.heap.size rfl (.tmp 56) (.tmp 67) 22 5 (.int .u8 0) 1 rfl Try.underlying22 info5 rfl (by decide) (by omega) (.slice (some ad129) x5_2.length co30) x5_2 (Go.bits .xor .u8 (rd x5_2 (ji26)) (rd l1 (ji16))) [.int .u8 (Go.bits .xor .u8 (rd x5_2 (ji26)) (rd l1 (ji16)))] (fun _ => True) (fun _ => False) rfl rfl ?aP (fun _ hk => hk.elim) ?aF ?aO ?aB ?aS ?aL ?_; (case aP => exact rfl); (case aB => exact (by repeat ((with_reducible first | exact HB.out)))); (case aF => exact (fun _ _ => trivial)); (case aO => exact (by (with_reducible repeat (fail)); exact HO_5.out)); (case aS => exact (below_size (by repeat ((with_reducible first | exact HB.out))))); (case aL => have := LMc29.out; omega); intro v138 w31 ho hb hg hat; rw [← Ny137.out] at ho; have n0_ := Aside0.mk (hb); have n1_ := Aside0.mk (ho); clear HB; clear HO_5; have HB := n0_; have HO139 := n1_; clear n0_ n1_; clear ho hb hg hat))
        go_roundg k2
        case measure => have := HK1.out; have := HK2.out; omega
        case rel => exact ⟨(y137), (wrap64 (x8_2 + 1)), (by first | rfl), H', ⟨by have := HK1.out; have := HK2.out; omega⟩, ⟨by (with_reducible repeat (fail)); exact HO139.out⟩, ⟨by repeat ((with_reducible first | exact HB.out))⟩⟩
      rw [if_pos c19] at H
      have c19b0 : (x8_2 == 0) = true := beq_iff_eq.mpr c19
      have c19b1 : (x8_2 != 0) = false := bne_eq_false_iff_eq.mpr c19
      clear c19
      obtain ⟨ji20, hji20⟩ : ∃ j_ : Int, (wrap64 ((wrap64 ((wrap64 (4 * x7_1)) - 16)) + x8_2)) = j_ := ⟨_, rfl⟩
      replace H : (if 0 ≤ (ji20) then (if (ji20) < (x5_2.length : Int) then (if x5_2.length < 140737488355328 then (pyxref05_keys.l1 k2 l1 (x5_2 ++ [Go.bits .xor .u8 (rd x5_2 (ji20)) (Go.bits .xor .u8 (rd l1 (ji16)) x6_1)]) x6_1 x7_1 (wrap64 (x8_2 + 1))) else (none)) else (none)) else (none)) = some r := by first | (rw [hji20] at H; exact H)
      have hji20w : (IntKind.i64.wrap ((wrap64 ((wrap64 (4 * x7_1)) - 16)) + x8_2)) = ji20 := (i64_w _).trans hji20
      by_cases c21 : 0 ≤ (ji20)
      rotate_left
      · rw [if_neg c21] at H
        exact absurd H (by simp)
      rw [if_pos c21] at H
      have c21b0 : decide (0 ≤ (ji20)) = true := decide_eq_true c21
      clear c21
      by_cases c22 : (ji20) < (x5_2.length : Int)
      rotate_left
      · rw [if_neg c22] at H
        exact absurd H (by simp)
      rw [if_pos c22] at H
      have c22b0 : decide ((ji20) < (x5_2.length : Int)) = true := decide_eq_true c22
      clear c22
      by_cases c23 : x5_2.length < 140737488355328
      rotate_left
      · rw [if_neg c23] at H
        exact absurd H (by simp)
      rw [if_pos c23] at H
      have LMc23 := Aside0.mk c23
      clear c23
      obtain ⟨y133, hy133⟩ : ∃ y_ : List Int, y_ = (x5_2 ++ [Go.bits .xor .u8 (rd x5_2 (ji20)) (Go.bits .xor .u8 (rd l1 (ji16)) x6_1)]) := ⟨_, rfl⟩
      replace H : (pyxref05_keys.l1 k2 l1 y133 x6_1 x7_1 (wrap64 (x8_2 + 1))) = some r := by first | (rw [hy133]; with_reducible exact H)
      have Ny133 := Aside0.mk hy133
      clear hy133
      have H' := Aside0.mk H
      clear H
      obtain ⟨Ao24, co24, eo24⟩ := Kd.R_slice HO_5.out
      subst eo24
      have p129 : 0 ≤ ((ji9) : Int) := of_decide_eq_true (by first | (with_reducible assumption))
      have q129 : (ji9) < (x5_2.length : Int) := of_decide_eq_true (by first | (with_reducible assumption))
      obtain ⟨ad129, e129, hx129_0⟩ := Kd.at_int (Kd.R_reads' HO_5.out).2.2 (ji9) p129 q129
      cases e129
      replace p129 := eq_true p129
      replace q129 := eq_true q129
      have p130 : 0 ≤ ((ji13) : Int) := of_decide_eq_true (by first | (with_reducible assumption))
      have q130 : (ji13) < (x5_2.length : Int) := of_decide_eq_true (by first | (with_reducible assumption))
      obtain ⟨ad130, e130, hx130_0⟩ := Kd.at_int (Kd.R_reads' HO_5.out).2.2 (ji13) p130 q130
      obtain rfl : ad129 = ad130 := (by injection e130)
      replace p130 := eq_true p130
      replace q130 := eq_true q130
      have p131 : 0 ≤ ((ji16) : Int) := of_decide_eq_true (by first | (with_reducible assumption))
      have q131 : (ji16) < (l1.length : Int) := of_decide_eq_true (by first | (with_reducible assumption))
      obtain ⟨ad131, e131, hx131_0⟩ := Kd.at_int HR1.out (ji16) p131 q131
      cases e131
      replace hx131_0 := (HB.out.cell (World.block_lt_of_cell? w _ hx131_0)).trans hx131_0
      replace p131 := eq_true p131
      replace q131 := eq_true q131
      have p132 : 0 ≤ ((ji20) : Int) := of_decide_eq_true (by first | (with_reducible assumption))
      have q132 : (ji20) < (x5_2.length : Int) := of_decide_eq_true (by first | (with_reducible assumption))
      obtain ⟨ad132, e132, hx132_0⟩ := Kd.at_int (Kd.R_reads' HO_5.out).2.2 (ji20) p132 q132
      obtain rfl : ad129 = ad132 := (by injection e132)
      replace p132 := eq_true p132
      replace q132 := eq_true q132
      go_wp2_with (first | ((with_reducible refine gate_builtin (b := .append) (xs := #[.tmp 56, .tmp 67]) rfl ?_); at_builtin; refine Kd.R_append (Kd.int .u8) (w0 := w) w.heap.size rfl (.tmp 56) (.tmp 67) 22 5 (.int .u8 0) 1 rfl Try.underlying22 info5 rfl (by decide) (by omega) (.slice (some ad129) x5_2.length co24) x5_2 (Go.bits .xor .u8 (rd x5_2 (ji20)) (Go.bits .xor .u8 (rd l1 (ji16)) x6_1)) [.int .u8 (Go.bits .xor .u8 (rd x5_2 (ji20)) (Go.bits .xor .u8 (rd l1 (ji16)) x6_1))] (fun _ => True) (fun _ => False) rfl rfl ?aP (fun _ hk => hk.elim) ?aF ?aO ?aB ?aS ?aL ?_; (case aP => exact rfl); (case aB => exact (by repeat ((with_reducible first | exact HB.out)))); (case aF => exact (fun _ _ => trivial)); (case aO => exact (by (with_reducible repeat (fail)); exact HO_5.out)); (case aS => exact (below_size (by repeat ((with_reducible first | exact HB.out))))); (case aL => have := LMc23.out; omega); intro v134 w25 ho hb hg hat; rw [← Ny133.out] at ho; have n0_ := Aside0.mk (hb); have n1_ := Aside0.mk (ho); clear HB; clear HO_5; have HB := n0_; have HO135 := n1_; clear n0_ n1_; clear ho hb hg hat))
      go_roundg k2
      case measure => have := HK1.out; have := HK2.out; omega
      case rel => exact ⟨(y133), (wrap64 (x8_2 + 1)), (by first | rfl), H', ⟨by have := HK1.out; have := HK2.out; omega⟩, ⟨by (with_reducible repeat (fail)); exact HO135.out⟩, ⟨by repeat ((with_reducible first | exact HB.out))⟩⟩
-- NOT PRINTED: function 77 (pyxref01_power)
end Go.Proofs.Ytifpdpfjhjoieaa.C

/-! AesQ -/
namespace Go.Proofs.Ytifpdpfjhjoieaa
set_option linter.unusedVariables false
set_option linter.unusedSimpArgs false
open Go.RowKit Go.Proofs.YtifpdpfjhjoieaaW.PrintWords Go.Proofs.YtifpdpfjhjoieaaW.PrintLast
theorem EvS.fuel {α : Type} {g : Nat → Option α} {r : α} (hm : ∀ k, LeO (g k) (g (k + 1))) (k0 : Nat) (h : g k0 = some r) : EvS g r :=
  ⟨k0, fun k hk => by
    induction k with
    | zero => rw [← Nat.le_zero.1 hk]; exact h
    | succ k ih =>
      rcases Nat.lt_or_ge k k0 with hlt | hge
      · rw [show k + 1 = k0 from by omega]; exact h
      · exact hm k r (ih hge)⟩
theorem EvS.bind_ {α β : Type} {f : Nat → Option α} {a : α} (hf : EvS f a) {g : Nat → α → Option β} {r : β} (hg : EvS (fun k => g k a) r) : EvS (fun k => (f k).bind (g k)) r := by
  obtain ⟨k1, h1⟩ := hf
  obtain ⟨k2, h2⟩ := hg
  exact ⟨max k1 k2, fun k hk => by show (f k).bind (g k) = some r; rw [h1 k (by omega), Option.bind_some]; exact h2 k (by omega)⟩
theorem rmul2 (a : Int) (h0 : 0 ≤ a) (h1 : a < 256) : EvS (fun k => C.pyxref05_Mul.f k a 2) (m2 a) :=
  EvS.fuel (fun k => C.pyxref05_Mul.mono a 2 k) 10 (eq_of_beq (byte_all (fun a => C.pyxref05_Mul.f 10 a 2 == some (m2 a)) (by decide +kernel) a h0 h1))
theorem rmul3 (a : Int) (h0 : 0 ≤ a) (h1 : a < 256) : EvS (fun k => C.pyxref05_Mul.f k a 3) (m3 a) :=
  EvS.fuel (fun k => C.pyxref05_Mul.mono a 3 k) 10 (eq_of_beq (byte_all (fun a => C.pyxref05_Mul.f 10 a 3 == some (m3 a)) (by decide +kernel) a h0 h1))
theorem rboxes : EvS (fun k => C.pyxref05_boxes.f k) boxT := EvS.fuel (fun k => C.pyxref05_boxes.mono k) 600 (by decide +kernel)
end Go.Proofs.Ytifpdpfjhjoieaa

/-! AesR -/
namespace Go.Proofs.Ytifpdpfjhjoieaa
set_option linter.unusedVariables false
set_option linter.unusedSimpArgs false
open Go.RowKit Go.Proofs.YtifpdpfjhjoieaaW.PrintWords Go.Proofs.YtifpdpfjhjoieaaW.PrintLast
/-- The first so many of a row's values. -/
def upTo (f : Nat → Int) (n : Nat) : List Int := (List.range n).map f
theorem upTo_length (f : Nat → Int) (n : Nat) : (upTo f n).length = n := by simp [upTo]
theorem upTo_succ (f : Nat → Int) (n : Nat) : upTo f n ++ [f n] = upTo f (n + 1) := by simp [upTo, List.range_succ]
theorem rd_upTo (f : Nat → Int) (n i : Nat) (h : i < n) : rd (upTo f n) (i : Int) = f i := by
  unfold rd upTo
  rw [Int.toNat_natCast, List.getD_eq_getElem?_getD, List.getElem?_map, List.getElem?_range h]
  rfl
theorem rd_box (x : Int) (h0 : 0 ≤ x) (h1 : x < 256) : rd boxT x = bx x := rfl
theorem keyF_wf (key : List Int) (h : byteOk key = true) (m : Nat) : 0 ≤ keyF key m ∧ keyF key m < 256 := byte_getD _ (byteOk_keyT key h _) _
theorem keyF_box (key : List Int) (i k : Nat) (h0 : i % 4 = 0) (h4 : 4 ≤ i) (hk : k < 4) : keyF key (4 * i + k) = xr (keyF key (4 * i - 16 + k)) (if k = 0 then xr (bx (keyF key (4 * i - 4 + (k + 1) % 4))) (rconT (i / 4 - 1)) else bx (keyF key (4 * i - 4 + (k + 1) % 4))) := by
  obtain ⟨n, rfl⟩ : ∃ n, i = 4 * (n + 1) := ⟨i / 4 - 1, by omega⟩
  rw [show 4 * (4 * (n + 1)) + k = 16 * (n + 1) + k from by omega, keyF_next _ _ _ (by omega), show 4 * (4 * (n + 1)) - 16 + k = 16 * n + k from by omega, show 4 * (4 * (n + 1)) - 4 + (k + 1) % 4 = 16 * n + (12 + (k + 1) % 4) from by omega,
    keyF_at _ _ _ (by omega), keyF_at _ _ _ (by omega), show 4 * (n + 1) / 4 - 1 = n from by omega]
  match k, hk with
  | 0, _ => rw [xr_comm]; rfl
  | 1, _ => rw [xr_comm]; rfl
  | 2, _ => rw [xr_comm]; rfl
  | 3, _ => rw [xr_comm]; rfl
theorem keyF_plain (key : List Int) (i k : Nat) (h0 : i % 4 ≠ 0) (h4 : 4 ≤ i) (hk : k < 4) : keyF key (4 * i + k) = xr (keyF key (4 * i - 16 + k)) (keyF key (4 * i - 4 + k)) := by
  obtain ⟨n, j, rfl, hj⟩ : ∃ n j, i = 4 * (n + 1) + (j + 1) ∧ j < 3 := ⟨i / 4 - 1, i % 4 - 1, by omega, by omega⟩
  rw [show 4 * (4 * (n + 1) + (j + 1)) + k = 16 * (n + 1) + ((4 * j + k) + 4) from by omega, keyF_next _ _ _ (by omega), show 4 * (4 * (n + 1) + (j + 1)) - 16 + k = 16 * n + ((4 * j + k) + 4) from by omega,
    show 4 * (4 * (n + 1) + (j + 1)) - 4 + k = 16 * (n + 1) + (4 * j + k) from by omega, keyF_at _ _ _ (by omega), keyF_next _ _ _ (by omega), xr_comm]
  rfl
theorem wd1 (i k : Nat) (hi : 4 ≤ i) (h : i < 44) (hk : k < 4) : wrap64 ((wrap64 ((wrap64 (4 * (i : Int))) - 4)) + (k : Int)) = ((4 * i - 4 + k : Nat) : Int) := by unfold wrap64; omega
theorem wd2 (i k : Nat) (hi : 4 ≤ i) (h : i < 44) (hk : k < 4) : wrap64 ((wrap64 ((wrap64 (4 * (i : Int))) - 16)) + (k : Int)) = ((4 * i - 16 + k : Nat) : Int) := by unfold wrap64; omega
theorem wd4 (k : Nat) (hk : k < 1000000) : wrap64 ((k : Int) + 1) = ((k + 1 : Nat) : Int) := by unfold wrap64; omega
theorem tmod4 (i : Nat) : Int.tmod (i : Int) 4 = ((i % 4 : Nat) : Int) := rfl
theorem wrap_byte (x : Int) (h0 : 0 ≤ x) (h1 : x < 256) : wrap64 x = x := by unfold wrap64; omega
theorem xr_bits (a b : Int) : Go.bits .xor .u8 a b = xr a b := rfl
theorem rcon_zero : rconT ((4 - 1) / 4) = 1 := rfl
theorem rconT_succ (n : Nat) : rconT (n + 1) = m2 (rconT n) := rfl
theorem rcon_next (i : Nat) (h0 : i % 4 = 0) (hi : 4 ≤ i) : m2 (rconT ((i - 1) / 4)) = rconT ((i + 1 - 1) / 4) := by rw [show (i + 1 - 1) / 4 = (i - 1) / 4 + 1 from by omega, rconT_succ]
theorem rcon_same (i : Nat) (h0 : i % 4 ≠ 0) : rconT ((i - 1) / 4) = rconT ((i + 1 - 1) / 4) := by rw [show (i + 1 - 1) / 4 = (i - 1) / 4 from by omega]
section
attribute [local irreducible] rconT m2 xr bx keyF
variable (key : List Int) (hkey : byteOk key = true)
include hkey
theorem rkeys_l1 (i : Nat) (hi : 4 ≤ i) (h : i < 44) (r : List Int) (H : EvS (fun k => C.pyxref05_keys.l0 k boxT (upTo (keyF key) (4 * (i + 1))) (rconT ((i + 1 - 1) / 4)) ((i + 1 : Nat) : Int)) r) :
    ∀ (d j : Nat), j + d = 4 → EvS (fun k => C.pyxref05_keys.l1 k boxT (upTo (keyF key) (4 * i + j)) (rconT ((i - 1) / 4)) (i : Int) (j : Int)) r
  | 0, j, hj => by
    obtain rfl : j = 4 := by omega
    by_cases h0 : i % 4 = 0
    · refine EvS.step (h := fun k => (C.pyxref05_Mul.f k (rconT ((i - 1) / 4)) 2).bind fun t128 => (C.pyxref05_keys.l0 k boxT (upTo (keyF key) (4 * i + 4)) t128 (wrap64 ((i : Int) + 1)))) (fun k => ?_) ?_
      · rw [C.pyxref05_keys.l1, if_neg (by omega), tmod4, if_pos (by omega)]
      · obtain ⟨r0, r1⟩ := rconT_wf ((i - 1) / 4)
        refine EvS.bind_ (rmul2 _ r0 r1) ?_
        rw [wd4 i (by omega), show 4 * i + 4 = 4 * (i + 1) from by omega, rcon_next i h0 hi]
        exact H
    · refine EvS.step (h := fun k => C.pyxref05_keys.l0 k boxT (upTo (keyF key) (4 * i + 4)) (rconT ((i - 1) / 4)) (wrap64 ((i : Int) + 1))) (fun k => ?_) ?_
      · rw [C.pyxref05_keys.l1, if_neg (by omega), tmod4, if_neg (by omega)]
      · rw [wd4 i (by omega), show 4 * i + 4 = 4 * (i + 1) from by omega, rcon_same i h0]
        exact H
  | d + 1, j, hj => by
    refine EvS.step (h := fun k => C.pyxref05_keys.l1 k boxT (upTo (keyF key) (4 * i + (j + 1))) (rconT ((i - 1) / 4)) (i : Int) ((j + 1 : Nat) : Int)) (fun k => ?_) (rkeys_l1 i hi h r H d (j + 1) (by omega))
    rw [C.pyxref05_keys.l1, if_pos (by omega), wd1 i j hi h (by omega), wd2 i j hi h (by omega), wd4 j (by omega), upTo_length, if_pos (by omega), if_pos (by omega), tmod4]
    by_cases h0 : i % 4 = 0
    · have g1 : (0 : Int) ≤ ((4 * i - 4 + (j + 1) % 4 : Nat) : Int) := by omega
      have g2 : ((4 * i - 4 + (j + 1) % 4 : Nat) : Int) < ((4 * i + j : Nat) : Int) := by omega
      have g3 : (0 : Int) ≤ ((4 * i - 16 + j : Nat) : Int) := by omega
      have g4 : ((4 * i - 16 + j : Nat) : Int) < ((4 * i + j : Nat) : Int) := by omega
      have g5 : 4 * i + j < 140737488355328 := by omega
      have g6 : ((i % 4 : Nat) : Int) = 0 := by omega
      have hrc : i / 4 - 1 = (i - 1) / 4 := by omega
      have g7 : 4 * i - 4 + (j + 1) % 4 < 4 * i + j := by omega
      have g8 : 4 * i - 16 + j < 4 * i + j := by omega
      have g9 : j < 4 := by omega
      have g10 : (j + 1) % 4 < 4 := by omega
      obtain ⟨b0, b1⟩ := keyF_wf key hkey (4 * i - 4 + (j + 1) % 4)
      have hb := keyF_box key i j h0 hi g9
      rw [hrc] at hb
      have hw : wrap64 ((wrap64 ((wrap64 (4 * (i : Int))) - 4)) + Int.tmod (((j + 1 : Nat) : Int)) 4) = ((4 * i - 4 + (j + 1) % 4 : Nat) : Int) := wd1 i ((j + 1) % 4) hi h g10
      rw [if_pos g6, hw, if_pos g1, if_pos g2, rd_upTo _ _ _ g7, wrap_byte _ b0 b1, boxT_length, if_pos b0, if_pos (show keyF key (4 * i - 4 + (j + 1) % 4) < ((256 : Nat) : Int) from b1)]
      by_cases j0 : j = 0
      · subst j0
        rw [if_pos rfl] at hb
        rw [if_pos (show ((0 : Nat) : Int) = 0 from rfl), if_pos g3, if_pos g4, if_pos g5, rd_upTo _ _ _ g8, rd_box _ b0 b1, xr_bits, xr_bits, ← hb, upTo_succ]
      · rw [if_neg j0] at hb
        have j1 : ¬ ((j : Int) = 0) := fun e => j0 (Int.ofNat.inj e)
        rw [if_neg j1, if_pos g3, if_pos g4, if_pos g5, rd_upTo _ _ _ g8, rd_box _ b0 b1, xr_bits, ← hb, upTo_succ]
        rfl
    · have hb := keyF_plain key i j h0 hi (by omega)
      rw [if_neg (by omega), if_pos (by omega), if_pos (by omega), if_pos (by omega), rd_upTo _ _ _ (by omega), rd_upTo _ _ _ (by omega), xr_bits, ← hb, upTo_succ]
      rfl
theorem rkeys_l0 : ∀ (d i : Nat), 4 ≤ i → i + d = 44 → EvS (fun k => C.pyxref05_keys.l0 k boxT (upTo (keyF key) (4 * i)) (rconT ((i - 1) / 4)) (i : Int)) (keysV key)
  | 0, i, _, h => EvS.now fun k => by
    obtain rfl : i = 44 := by omega
    rw [C.pyxref05_keys.l0, if_neg (by omega)]
    rfl
  | d + 1, i, hi, h => by
    refine EvS.step (h := fun k => C.pyxref05_keys.l1 k boxT (upTo (keyF key) (4 * i + 0)) (rconT ((i - 1) / 4)) (i : Int) ((0 : Nat) : Int)) (fun k => ?_) (rkeys_l1 key hkey i hi (by omega) _ (rkeys_l0 d (i + 1) (by omega) (by omega)) 4 0 (by omega))
    rw [C.pyxref05_keys.l0, if_pos (by omega)]
    rfl
theorem rkeys (h16 : key.length = 16) : EvS (fun k => C.pyxref05_keys.f k key boxT) (keysV key) := by
  have h0 : upTo (keyF key) (4 * 4) = key := by
    apply List.ext_getElem?
    intro i
    unfold upTo
    rw [List.getElem?_map]
    by_cases hi : i < 16
    · rw [List.getElem?_range hi, List.getElem?_eq_getElem (by omega)]
      simp only [Option.map_some]
      have := keyF_at key 0 i hi
      rw [Nat.mul_zero, Nat.zero_add] at this
      rw [this]
      simp [keyT, h16, hi]
    · rw [List.getElem?_eq_none (by simp; omega), List.getElem?_eq_none (by omega)]
      rfl
  have h1 := rkeys_l0 key hkey 40 4 (by omega) (by omega)
  rw [h0] at h1
  refine EvS.congr (fun k => ?_) h1
  unfold C.pyxref05_keys.f
  rw [Option.bind_some, List.nil_append, if_pos (by simp; omega), show rconT ((4 - 1) / 4) = 1 from rcon_zero]
  rfl
end
end Go.Proofs.Ytifpdpfjhjoieaa
