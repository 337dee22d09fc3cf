/-
  pyxref02.Pad tells the plain pad; pyxref02.Start tells the words at first.
-/
import Derived.Test.YtamaokokbajlgaaRefStep
namespace Go.Proofs.Ytamaokokbajlgaa
open Go.RowKit Go.Proofs.YtamaokokbajlgaaW.PrintWords Go.Proofs.YtamaokokbajlgaaW.PrintLast Go.Proofs.YtamaokokbajlgaaW.PrintMore

theorem refPad_tail (n : Nat) (hn : n ≤ 1125899906842624) : ∀ (j : Nat) (y : List Int), j ≤ 8 → y.length ≤ 100 - j → L.pyxref02_Pad.l1 (j + 1) y (wrap64 (8 * (n : Int))) (8 * (j : Int) - 8) = some (y ++ ofB (beTail (n * 8) j))
  | 0, y, _, _ => by
    rw [L.pyxref02_Pad.l1, if_neg (by omega)]
    simp [beTail, ofB]
  | j + 1, y, hj, hy => by
    rw [L.pyxref02_Pad.l1]
    have e : 8 * ((j + 1 : Nat) : Int) - 8 = ((8 * j : Nat) : Int) := by omega
    have hw : IntKind.u64.wrap ((8 * j : Nat) : Int) = ((8 * j : Nat) : Int) := by rw [IntKind.wrap_u64]; omega
    have hs := shr_at n hn (8 * j) (by omega)
    rw [Int.mul_comm] at hs
    rw [e, if_pos (by omega), hw, if_pos (by omega), if_pos (by omega), hs, show wrap64 (((8 * j : Nat) : Int) - 8) = 8 * (j : Int) - 8 by unfold wrap64; omega]
    have ih := refPad_tail n hn j (y ++ [((n * 8 / 2 ^ (8 * j) % 256 : Nat) : Int)]) (by omega) (by simp; omega)
    rw [ih, List.append_assoc]
    rfl
theorem refPad_mid (n : Nat) (hn : n ≤ 1125899906842624) : ∀ (d j : Nat), j + 1 + d = Sha.padLen n → L.pyxref02_Pad.l0 (d + 10) n (ofB (128 :: List.replicate j 0)) = some (ofB (Sha.pad n))
  | 0, j, hj => by
    have hp := Sha.padLen_le n
    rw [L.pyxref02_Pad.l0, ofB_length, List.length_cons, List.length_replicate,
      show wrap64 (wrap64 ((n : Int) + ((j + 1 : Nat) : Int)) + 8) = ((n + Sha.padLen n + 8 : Nat) : Int) by unfold wrap64; omega, Int.tmod_eq_emod_of_nonneg (by omega), if_pos (by omega)]
    have h := refPad_tail n hn 8 (ofB (128 :: List.replicate j 0)) (by omega) (by rw [ofB_length]; simp; omega)
    rw [show (8 * ((8 : Nat) : Int) - 8) = 56 by omega] at h
    rw [h, beTail_eight, ← ofB_append]
    rw [show j = Sha.padLen n - 1 by omega]
    rfl
  | d + 1, j, hj => by
    have hp := Sha.padLen_le n
    rw [L.pyxref02_Pad.l0, ofB_length, List.length_cons, List.length_replicate,
      show wrap64 (wrap64 ((n : Int) + ((j + 1 : Nat) : Int)) + 8) = ((n + j + 1 + 8 : Nat) : Int) by unfold wrap64; omega, Int.tmod_eq_emod_of_nonneg (by omega), if_neg (by omega), if_pos (by omega)]
    have e : ofB (128 :: List.replicate j 0) ++ [0] = ofB (128 :: List.replicate (j + 1) 0) := by
      rw [show ([0] : List Int) = ofB [0] from rfl, ← ofB_append, List.cons_append, ← List.replicate_succ']
    rw [e]
    exact refPad_mid n hn d (j + 1) (by omega)
theorem refPad_eq (n : Nat) (hn : n ≤ 1125899906842624) : L.pyxref02_Pad.f 80 n = some (ofB (Sha.pad n)) := by
  have hp := Sha.padLen_le n
  have h := refPad_mid n hn (Sha.padLen n - 1) 0 (by omega)
  unfold L.pyxref02_Pad.f
  rw [if_neg (by omega), decide_eq_false (by omega), L.pyxref02_Pad.j0, if_neg (by simp)]
  have hle : ∀ m k r, L.pyxref02_Pad.l0 k n (ofB [128]) = some r → L.pyxref02_Pad.l0 (k + m) n (ofB [128]) = some r := by
    intro m
    induction m with
    | zero => exact fun k r h => h
    | succ m ih => exact fun k r h => (L.pyxref02_Pad.mono_l (k + m)).2.1 _ _ r (ih k r h)
  have := hle (70 - Sha.padLen n) _ _ h
  rw [show Sha.padLen n - 1 + 10 + (70 - Sha.padLen n) = 79 by omega] at this
  exact this

set_option maxRecDepth 100000 in
theorem refStart_calls (w : World) : Calls Try.prog 27 #[] w fun e w' => e = .returned (.agg (wordsV Sha.hTab)) ∧ Below w.heap.size w w' := by
  go_enter Try.func27, Try.ntmps27
  have br := Blk.new w 31 (wordsV z8)
  go_wp2_with (refine wpList_store_row rfl 31 (.tmp 0) (.tmp 1) rfl w.heap.size _ rfl rfl 31 _ br infoStart rfl (by simp [Value.oneCell']) ?_)
  rw [zero8, show (#[Value.int IntKind.u32 1779033703, Value.int IntKind.u32 3144134277, Value.int IntKind.u32 1013904242, Value.int IntKind.u32 2773480762, Value.int IntKind.u32 1359893119, Value.int IntKind.u32 2600822924, Value.int IntKind.u32 528734635, Value.int IntKind.u32 1541459225] : Array Value) = wordsV Sha.hTab from rfl]
  exact bodyPost_ret (results_cell_row rfl _ _ w.heap.size 31 (wordsV Sha.hTab) (0, 0) _ rfl (setRow_heap _ w.heap.size _ _ _ _ br) Try.underlying31 rfl infoStart) rfl ⟨rfl, ((Below.refl _ w).alloc (Nat.le_refl _) _).trans (Iter.below_setRow _ (Nat.le_refl _))⟩
end Go.Proofs.Ytamaokokbajlgaa
