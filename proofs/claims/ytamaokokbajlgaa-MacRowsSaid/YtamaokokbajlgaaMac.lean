/-
  Walks: mac.Key, slices.Grow (of nil), slices.Concat, mac.Sum.
-/
import Derived.Test.YtamaokokbajlgaaRefSum
import Derived.Lib.AppendZeros
namespace Go.Proofs.Ytamaokokbajlgaa
set_option linter.unusedVariables false
set_option linter.unusedSimpArgs false
open Go.RowKit Go.Proofs.Ytamaokokbajlgaa.L Go.Proofs.YtamaokokbajlgaaW.PrintWords Go.Proofs.YtamaokokbajlgaaW.PrintLast Go.Proofs.YtamaokokbajlgaaW.PrintMore

theorem info_u8 : (Try.prog.info? 5).map (·.size) = some 1 := by kernel_rfl
theorem grown_none_below {w w' : World} (h : w.grownBy w' none) : Below w.heap.size w w' := ⟨h.os, h.tape, h.output, h.size, fun i hi => h.block i hi (by simp)⟩
/-- A key, or its digest. -/
def ownKey (l : List Int) : List Int := if 64 < l.length then ofB (Sha.sum (toB l)) else l
def macKey (l : List Int) : List Int := ownKey l ++ List.replicate (64 - (ownKey l).length) 0
theorem ownKey_length (l : List Int) : (ownKey l).length ≤ 64 := by
  unfold ownKey
  split
  · rw [ofB_length, Sha.sum_length]
    omega
  · omega
theorem macKey_length (l : List Int) : (macKey l).length = 64 := by
  have := ownKey_length l
  unfold macKey
  rw [List.length_append, List.length_replicate]
  omega
theorem byteOk_replicate (n : Nat) (x : Int) (h0 : 0 ≤ x) (h1 : x < 256) : byteOk (List.replicate n x) = true := by
  rw [byteOk_iff]
  intro y hy
  have := List.eq_of_mem_replicate hy
  omega
theorem byteOk_ownKey (l : List Int) (h : byteOk l = true) : byteOk (ownKey l) = true := by
  unfold ownKey
  split
  · exact byteOk_sum _
  · exact h
theorem byteOk_macKey (l : List Int) (h : byteOk l = true) : byteOk (macKey l) = true := (byteOk_append _ _).2 ⟨byteOk_ownKey l h, byteOk_replicate _ _ (by omega) (by omega)⟩
theorem keyTail (k : List Int) (h : k.length ≤ 64) : k.take (min k.length (List.replicate (64 : Int).toNat (0 : Int)).length) ++ (List.replicate (64 : Int).toNat (0 : Int)).drop (min k.length (List.replicate (64 : Int).toNat (0 : Int)).length) = k ++ List.replicate (64 - k.length) 0 := by
  have e : (List.replicate (64 : Int).toNat (0 : Int)).length = 64 := by simp
  rw [e, Nat.min_eq_left h, List.take_of_length_le (Nat.le_refl _), List.drop_replicate]
  rfl

namespace P
def mac_Key.f (l : List Int) : Option (List Int) := if byteOk l = true ∧ l.length ≤ 900000 then some (macKey l) else none
set_option maxRecDepth 100000 in
set_option maxHeartbeats 2000000 in
theorem mac_Key.calls (A0 : Option Addr) (c0 : Nat) (l0 : List Int) (r : List Int) (w : World) (hr0 : Kd.C (Kd.int .u8) w A0 l0.length l0) (hc0 : l0.length ≤ c0) (h : mac_Key.f l0 = some r) :
    Calls Try.prog 31 #[.slice A0 l0.length c0] w fun e w' => ∃ v0_ : Value, e = .returned (v0_) ∧ Kd.R (Kd.int .u8) 5 w' w.heap.size (fun _ => True) v0_ r ∧ Below w.heap.size w w' := by
  unfold mac_Key.f at h
  split at h
  case isFalse => cases h
  case isTrue hok =>
  injection h with h
  by_cases hlt : 64 < l0.length
  · have hd : decide (64 < (l0.length : Int)) = true := by rw [decide_eq_true_eq]; omega
    have hs : sha_Sum.f l0 = some (ofB (Sha.sum (toB l0))) := by unfold sha_Sum.f; rw [if_pos ⟨hok.1, by omega⟩]
    have hk : ownKey l0 = ofB (Sha.sum (toB l0)) := by unfold ownKey; rw [if_pos hlt]
    unfold macKey at h
    rw [hk] at h
    have Hh := Lib.hid h
    clear h hk
    have hlen : (ofB (Sha.sum (toB l0))).length = 32 := by rw [ofB_length, Sha.sum_length]
    generalize ofB (Sha.sum (toB l0)) = y at *
    have Hlen := Lib.hid hlen
    have Hs := Lib.hid hs
    clear hs hlen
    go_enter Try.func31, Try.ntmps31
    go_wp2_with (first
      | (go_at_call 17; (with_reducible refine (sha_Sum.calls A0 c0 l0 y w hr0 hc0 Hs.out).mono ?_); rintro e W1 ⟨v1, rfl, hR1, hb1⟩; obtain ⟨A1, c1, rfl, hl1, hC1⟩ := Kd.R_reads hR1; clear hR1)
      | ((with_reducible refine gate_dst (N := 9) rfl ?_); refine Kd.R_make (Kd.int .u8) (w0 := w) w.heap.size 5 rfl (N := 9) rfl 22 _ _ rfl 64 rfl rfl Try.underlying22 (.int .u8 0) 1 info5 rfl (by decide) (by omega) (0 : Int) (ok := fun _ => True) (okp := fun _ => False) ?zK (fun _ h => h.elim) trivial (by omega) (by decide) ?zB ?zS ?_; (case zK => exact (by rfl)); (case zB => exact hb1); (case zS => exact hb1.size); intro v2 W2 hR2 hb2 hg2 hat2)
      | ((with_reducible refine gate_builtin (b := .copy) (xs := #[.tmp 10, .tmp 11]) rfl ?_); refine Kd.R_copy (0 : Int) (w0 := w) w.heap.size rfl (.tmp 10) (.tmp 11) 22 22 5 rfl Try.underlying22 info_u8 v2 _ y _ _ _ (fun _ => True) rfl rfl hR2 ?zC hb2 hb2.size ?_; (case zC => exact Kd.C_below hC1 (grown_none_below hg2)); intro W3 hR3 hb3 hg3))
    go_ret
    refine ⟨v2, rfl, ?_, hb3⟩
    rw [← Hh.out, ← keyTail y (by have := Hlen.out; omega)]
    exact hR3
  · have hd : decide (64 < (l0.length : Int)) = false := by rw [decide_eq_false_iff_not]; omega
    have hk : ownKey l0 = l0 := by unfold ownKey; rw [if_neg hlt]
    unfold macKey at h
    rw [hk] at h
    have Hh := Lib.hid h
    clear h hk
    go_enter Try.func31, Try.ntmps31
    go_wp2_with (first
      | ((with_reducible refine gate_dst (N := 9) rfl ?_); refine Kd.R_make (Kd.int .u8) (w0 := w) w.heap.size 5 rfl (N := 9) rfl 22 _ _ rfl 64 rfl rfl Try.underlying22 (.int .u8 0) 1 info5 rfl (by decide) (by omega) (0 : Int) (ok := fun _ => True) (okp := fun _ => False) ?zK (fun _ h => h.elim) trivial (by omega) (by decide) ?zB ?zS ?_; (case zK => exact (by rfl)); (case zB => exact Below.refl _ _); (case zS => exact Nat.le_refl _); intro v2 W2 hR2 hb2 hg2 hat2)
      | ((with_reducible refine gate_builtin (b := .copy) (xs := #[.tmp 10, .tmp 11]) rfl ?_); refine Kd.R_copy (0 : Int) (w0 := w) w.heap.size rfl (.tmp 10) (.tmp 11) 22 22 5 rfl Try.underlying22 info_u8 v2 _ l0 _ _ _ (fun _ => True) rfl rfl hR2 ?zC hb2 hb2.size ?_; (case zC => exact Kd.C_below hr0 (grown_none_below hg2)); intro W3 hR3 hb3 hg3))
    go_ret
    refine ⟨v2, rfl, ?_, hb3⟩
    rw [← Hh.out, ← keyTail l0 (by omega)]
    exact hR3
end P

/-! slices.Grow, of nil. -/
set_option maxRecDepth 100000 in
theorem grow_nil (n : Nat) (w : World) (h1 : 1 ≤ n) (hn : n ≤ 100000000) :
    Calls Try.prog 62 #[.slice none 0 0, .int .i64 n] w fun e w' => ∃ v, e = .returned v ∧ Kd.R (Kd.int .u8) 5 w' w.heap.size (fun _ => True) v [] ∧ Below w.heap.size w w' := by
  obtain ⟨i0, hi, hz0, hz1, hz2⟩ := info_parts info5
  have hrun := fun ty => Lib.run_append_nil_zeros (P := Try.prog) w 22 3 ty 5 i0 (.int .u8 0) .i64 .i64 Try.underlying22 Try.underlying3 hi hz0 n (by omega) (by omega) (by omega) (by rw [hz2]; omega)
  have Hrun := Lib.hid hrun
  have Hi := Lib.hid (And.intro hi (And.intro hz0 (And.intro hz1 hz2)))
  clear hrun hi hz0 hz1 hz2
  have d1 : decide ((n : Int) < 0) = false := by rw [decide_eq_false_iff_not]; omega
  have d2 : decide ((0 : Int) < (n : Int)) = true := by rw [decide_eq_true_eq]; omega
  have hc1 := grownCap_ge w n 0 5
  have hc2 := grownCap_le_maxLen w n 0 5 (by unfold maxLen; omega)
  generalize grownCap w n 0 5 = G at *
  go_enter Try.func62, Try.ntmps62
  go_wp2_with (at_builtin; refine Lib.wpList_append_run _ rfl _ _ _ _ rfl _ _ rfl rfl _ _ (Hrun.out _) ?_)
  go_ret
  have hb : Below w.heap.size w ((w.alloc (Obj.cells (Builtin.zeroCells #[Value.int IntKind.u8 0] n ++ Builtin.zeroCells #[Value.int IntKind.u8 0] (G - n)) 5)).drew) := ((Below.refl _ w).alloc (Nat.le_refl _) _).drew
  refine ⟨_, rfl, Kd.R_drew (Kd.R_of_own (enc := Value.int .u8) (h1 := fun _ => rfl) (xs := []) (World.ownsRow_made (base := w.heap.size) (e := 5) (size := 1) w _ G (Nat.le_refl _) hc2 ?_) (fun _ _ => trivial)), hb⟩
  simp [Builtin.zeroCells]
  omega

set_option maxRecDepth 100000 in
theorem grow_any (n : Nat) (w : World) (hn : n ≤ 100000000) :
    Calls Try.prog 62 #[.slice none 0 0, .int .i64 n] w fun e w' => ∃ v, e = .returned v ∧ Kd.R (Kd.int .u8) 5 w' w.heap.size (fun _ => True) v [] ∧ Below w.heap.size w w' := by
  rcases Nat.eq_zero_or_pos n with rfl | h1
  · go_enter Try.func62, Try.ntmps62
    go_wp2
    go_ret
    exact ⟨_, rfl, Kd.R_nil _ _ _ _ _, Below.refl _ _⟩
  · exact grow_nil n w h1 hn

/-! slices.Concat. -/
def rowAt (xs : List (List Int)) (i : Nat) : List Int := xs.getD i []
theorem at_rows {w : World} {A : Option Addr} {n : Nat} {xs : List (List Int)} (h : Kd.C (Kd.slice 5 (Kd.int .u8)) w A n xs) (i : Nat) (h1 : i < n) : ∃ ad A0 c0, A = some ad ∧ w.cell? (ad.add i) = some (.slice A0 (rowAt xs i).length c0) ∧ (rowAt xs i).length ≤ c0 ∧ (Kd.int .u8).C w A0 (rowAt xs i).length (rowAt xs i) := by
  obtain ⟨ad, c, e, _, hK, hc0⟩ := Kd.C_get h ([] : List Int) (i : Int) (by omega) (by omega)
  rw [Int.toNat_natCast] at hK hc0
  have hc : ∀ j u, c[j]? = some u → w.cell? (ad.add (i * 1 + j)) = some u := hc0
  obtain ⟨A0, c0, rfl, l0, g0⟩ := hK
  exact ⟨ad, A0, c0, e, by have hq := hc 0 _ rfl; rwa [Nat.mul_one, Nat.add_zero] at hq, l0, g0⟩
theorem flat_take (l : List (List Int)) (i : Nat) (h : i < l.length) : (l.take (i + 1)).flatten = (l.take i).flatten ++ rowAt l i := by
  rw [List.take_succ_eq_append_getElem h, List.flatten_append]
  simp [rowAt, List.getD_eq_getElem?_getD, List.getElem?_eq_getElem h]
theorem flat_le (l : List (List Int)) (i : Nat) : (l.take i).flatten.length ≤ l.flatten.length := by
  have e : l.flatten = (l.take i).flatten ++ (l.drop i).flatten := by rw [← List.flatten_append, List.take_append_drop]
  rw [e, List.length_append]
  omega

namespace P
def slices_Concat.f (l : List (List Int)) : Option (List Int) := if l.flatten.length ≤ 100000000 then some l.flatten else none
set_option maxRecDepth 100000 in
set_option maxHeartbeats 2000000 in
theorem slices_Concat.calls (A0 : Option Addr) (c0 : Nat) (l0 : List (List Int)) (r : List Int) (w : World) (hr0 : Kd.C (Kd.slice 5 (Kd.int .u8)) w A0 l0.length l0) (hc0 : l0.length ≤ c0) (h : slices_Concat.f l0 = some r) :
    Calls Try.prog 58 #[.slice A0 l0.length c0] w fun e w' => ∃ v0_ : Value, e = .returned (v0_) ∧ Kd.R (Kd.int .u8) 5 w' w.heap.size (fun _ => True) v0_ r ∧ Below w.heap.size w w' := by
  unfold slices_Concat.f at h
  split at h
  case isFalse => cases h
  case isTrue hok =>
  injection h with h
  subst h
  have hn : l0.length ≤ 9223372036854775807 := hr0.2.1
  obtain ⟨N, hN⟩ : ∃ N, l0.length = N := ⟨_, rfl⟩
  rw [hN] at hr0 hn ⊢
  have HN := Lib.hid hN
  clear hN hc0
  have hz : (l0.take 0).flatten = [] := rfl
  go_enter Try.func58, Try.ntmps58
  go_wp2_with fail
  go_loop [3, 11] (fun s i => ∃ k : Nat, k ≤ N ∧ i = .int .i64 k ∧ s = .int .i64 ((l0.take k).flatten.length : Nat)) (fun _ i => N - (intOf i).toNat)
  case atStart => exact ⟨0, Nat.zero_le _, rfl, rfl⟩
  case round =>
    obtain ⟨k, hk, rfl, rfl⟩ := hrel
    by_cases hlt : k < N
    · obtain ⟨ad, A1, c1, rfl, hcell, hl1, hC1⟩ := at_rows hr0 k hlt
      have hsn := flat_take l0 k (by have := HN.out; omega)
      have hle := flat_le l0 (k + 1)
      have hlen : (l0.take (k + 1)).flatten.length = (l0.take k).flatten.length + (rowAt l0 k).length := by rw [hsn, List.length_append]
      generalize (l0.take k).flatten.length = S at *
      have ew : IntKind.i64.wrap ((S : Int) + ((rowAt l0 k).length : Int)) = (((l0.take (k + 1)).flatten.length : Nat) : Int) := by rw [IntKind.wrap_i64]; omega
      obtain ⟨S1, hS1⟩ : ∃ x, (l0.take (k + 1)).flatten.length = x := ⟨_, rfl⟩
      rw [hS1] at hle hlen ew
      have HS1 := Lib.hid hS1
      clear hS1
      have d0 : decide ((S1 : Int) < 0) = false := by rw [decide_eq_false_iff_not]; omega
      clear hsn
      have Hl := Lib.hid hlen
      clear hlen
      have i0 : (0 : Int) ≤ (k : Int) := by omega
      have i1 : (k : Int) < (N : Int) := by omega
      go_wp2
      go_round
      case rel => exact ⟨k + 1, by omega, by go_num, by rw [HS1.out]⟩
      case measure => simp [intOf]; omega
    · obtain rfl : k = N := by omega
      have e0 : l0.take k = l0 := List.take_of_length_le (by have := HN.out; omega)
      rw [e0]
      have d1 : decide ((k : Int) < (k : Int)) = false := by simp
      have d2 : decide (k < k) = false := by simp
      obtain ⟨T, hT⟩ : ∃ T, l0.flatten.length = T := ⟨_, rfl⟩
      rw [hT] at hok ⊢
      have HT := Lib.hid hT
      clear hT
      go_wp2_with (go_at_call 62; (with_reducible refine (grow_any T _ hok).mono ?_); rintro e W1 ⟨v1, rfl, hR1, hb1⟩)
      have hR1 : Aside0 (Kd.R (Kd.int .u8) 5 W1 w.heap.size (fun _ => True) v1 (l0.take 0).flatten) := ⟨hR1⟩
      clear hz d1 d2 e0
      go_loopw [6, 27] (fun v i wr => ∃ j : Nat, j ≤ k ∧ i = .int .i64 j ∧ Aside0 (Kd.R (Kd.int .u8) 5 wr w.heap.size (fun _ => True) v (l0.take j).flatten) ∧ Below w.heap.size w wr) (fun _ i _ => k - (intOf i).toNat)
      case atStart => exact ⟨0, Nat.zero_le _, rfl, hR1, hb1⟩
      case round =>
        clear hR1 hb1
        obtain ⟨j, hj, rfl, hR, hbl⟩ := hrel
        by_cases hlt : j < k
        · obtain ⟨ad, A1, c1, rfl, hcell0, hl1, hC1⟩ := at_rows hr0 j hlt
          have hcell := (hbl.cell (World.block_lt_of_cell? w _ hcell0)).trans hcell0
          have hC2 := Kd.C_below hC1 hbl
          have hsn := flat_take l0 j (by have := HN.out; omega)
          have hle := flat_le l0 (j + 1)
          rw [HT.out] at hle
          have hlen : (l0.take (j + 1)).flatten.length = (l0.take j).flatten.length + (rowAt l0 j).length := by rw [hsn, List.length_append]
          have Hsn := Lib.hid hsn
          have Hl := Lib.hid (And.intro hlen hle)
          have Hbl := Lib.hid hbl
          clear hlen hle hsn hcell0 hbl hC1
          have i0 : (0 : Int) ≤ (j : Int) := by omega
          have i1 : (j : Int) < (k : Int) := by omega
          go_wp2_with (first | ((with_reducible refine gate_builtin (b := .append) (xs := #[.tmp 31, .tmp 32]) rfl ?_); at_builtin; refine Kd.R_append_rows (Kd.int .u8) (w0 := w) w.heap.size rfl (.tmp 31) (.tmp 32) 22 5 (.int .u8 0) 1 rfl Try.underlying22 info5 rfl (by decide) (by omega) u6 (l0.take j).flatten (rowAt l0 j) _ _ _ (fun _ => True) (fun _ => False) rfl rfl ?aO ?aR (fun _ _ h => h) (fun _ h => h.elim) ?aF ?aB ?aS ?aL ?_; (case aR => exact hC2); (case aB => exact Hbl.out); (case aF => exact (fun _ _ => trivial)); (case aO => exact hR.out); (case aS => exact Hbl.out.size); (case aL => (have h1 := Hl.out.1; have h2 := Hl.out.2; omega)); intro v7 W7 ho7 hb7 hg7 hat7))
          have hnext : Aside0 (Kd.R (Kd.int .u8) 5 W7 w.heap.size (fun _ => True) v7 (l0.take (j + 1)).flatten) := ⟨by rw [Hsn.out]; exact ho7⟩
          clear ho7 hg7 hat7 Hbl hR hcell hC2
          go_wp2
          exact ⟨⟨j + 1, by omega, by go_num, hnext, hb7⟩, by simp [intOf]; omega⟩
        · obtain rfl : j = k := by omega
          have e0 : l0.take j = l0 := List.take_of_length_le (by have := HN.out; omega)
          rw [e0] at hR
          have d1 : decide ((j : Int) < (j : Int)) = false := by simp
          have d2 : decide (j < j) = false := by simp
          clear e0
          go_wp2
          go_ret
          exact ⟨_, rfl, hR.out, hbl⟩
end P

/-! slices.Clone, of a row that isn't nil. -/
set_option maxRecDepth 100000 in
theorem clone_calls (ad : Addr) (c : Nat) (l : List Int) (w : World) (hC : Kd.C (Kd.int .u8) w (some ad) l.length l) (hl : l.length ≤ 100000000) :
    Calls Try.prog 48 #[.slice (some ad) l.length c] w fun e w' => ∃ v, e = .returned v ∧ Kd.R (Kd.int .u8) 5 w' w.heap.size (fun _ => True) v l ∧ Below w.heap.size w w' := by
  have hq := fun w' => Lib.run_eql_slice_nil (P := Try.prog) w' 22 5 (some ad) l.length c 0 0 Try.underlying22
  have Hb0 := (Below.refl w.heap.size w).alloc (Nat.le_refl _) (Obj.cells #[] 5)
  have HC := Lib.hid (Kd.C_alloc hC (Obj.cells #[] 5))
  obtain ⟨n, hn⟩ : ∃ n, l.length = n := ⟨_, rfl⟩
  rw [hn] at hq HC hl ⊢
  clear hC hn
  go_enter Try.func48, Try.ntmps48
  go_wp2_with (first | ((with_reducible refine gate_builtin (b := .append) (xs := #[.tmp 5, .tmp 6]) rfl ?_); at_builtin; refine Kd.R_append_rows (Kd.int .u8) (w0 := w) w.heap.size rfl (.tmp 5) (.tmp 6) 22 5 (.int .u8 0) 1 rfl Try.underlying22 info5 rfl (by decide) (by omega) (.slice (some ⟨w.heap.size, 0, none⟩) 0 0) [] l _ _ _ (fun _ => True) (fun _ => False) rfl rfl ?aO ?aR (fun _ _ h => h) (fun _ h => h.elim) ?aF ?aB ?aS ?aL ?_; (case aR => exact HC.out); (case aB => exact Hb0); (case aF => exact (fun _ _ => trivial)); (case aO => exact Kd.R_of_own (own_lit w w.heap.size 5 .u8 [] (Nat.le_refl _) (by simp)) (fun _ _ => trivial)); (case aS => exact Hb0.size); (case aL => (simp; omega)); intro v7 W7 ho7 hb7 hg7 hat7))
  go_ret
  exact ⟨v7, rfl, by rw [List.nil_append] at ho7; exact ho7, hb7⟩

/-! mac.Sum's closure: the key's block, each byte's bits turned. -/
def xorB (l : List Int) (y : Int) : List Int := l.map fun x => Go.bits .xor .u8 x y
def xorTo (l : List Int) (y : Int) (i : Nat) : List Int := xorB (l.take i) y ++ l.drop i
theorem xorB_length (l : List Int) (y : Int) : (xorB l y).length = l.length := by simp [xorB]
theorem xorTo_length (l : List Int) (y : Int) (i : Nat) : (xorTo l y i).length = l.length := by simp [xorTo, xorB]; omega
theorem xorTo_at (l : List Int) (y : Int) (i : Nat) (h : i < l.length) : rd (xorTo l y i) (i : Int) = l.getD i 0 := by
  unfold rd xorTo
  rw [Int.toNat_natCast, List.getD_eq_getElem?_getD, List.getD_eq_getElem?_getD, List.getElem?_append_right (by simp [xorB]; omega), List.getElem?_drop]
  congr 2
  simp [xorB]
  omega
theorem xorTo_succ (l : List Int) (y : Int) (i : Nat) (h : i < l.length) : (xorTo l y i).set i (Go.bits .xor .u8 (l.getD i 0) y) = xorTo l y (i + 1) := by
  apply List.ext_getElem?
  intro j
  have hl : (xorB (l.take i) y).length = i := by simp [xorB]; omega
  have hl1 : (xorB (l.take (i + 1)) y).length = i + 1 := by simp [xorB]; omega
  rw [List.getElem?_set, xorTo_length]
  unfold xorTo
  by_cases e : i = j
  · subst e
    rw [if_pos rfl, if_pos h, List.getElem?_append_left (by omega)]
    simp [xorB, List.getElem?_take, h, List.getD_eq_getElem?_getD]
  · rw [if_neg e]
    rcases Nat.lt_or_ge j i with hj | hj
    · rw [List.getElem?_append_left (by omega), List.getElem?_append_left (by omega)]
      simp [xorB, List.getElem?_take, hj, show j < i + 1 by omega]
    · rw [List.getElem?_append_right (by omega), List.getElem?_append_right (by omega), hl, hl1, List.getElem?_drop, List.getElem?_drop]
      congr 1
      omega
set_option maxRecDepth 100000 in
set_option maxHeartbeats 1000000 in
theorem with_calls (y : Int) (ad : Addr) (c g : Nat) (l : List Int) (w : World) (hcell : w.cell? ⟨g, 0, none⟩ = some (.slice (some ad) 64 c)) (hC : Kd.C (Kd.int .u8) w (some ad) 64 l) (hl : l.length = 64) :
    Calls Try.prog 47 #[.int .u8 y, .pointer (some ⟨g, 0, none⟩)] w fun e w' => ∃ v, e = .returned v ∧ Kd.R (Kd.int .u8) 5 w' w.heap.size (fun _ => True) v (xorB l y) ∧ Below w.heap.size w w' := by
  have hcl := fun w => clone_calls ad c l w
  rw [hl] at hcl
  have Hcl := Lib.hid hcl
  have HL := Lib.hid hl
  clear hcl hl
  go_enter Try.func47, Try.ntmps47
  go_wp2_with (go_at_call 48; (with_reducible refine (Hcl.out w hC (by omega)).mono ?_); rintro e W1 ⟨v1, rfl, hR1, hb1⟩; obtain ⟨gv, cap, rfl, hgv, -⟩ := Kd.R_form hR1 (by have := HL.out; omega); rw [HL.out])
  have ho : W1.ownsRow w.heap.size 5 1 (.slice (some ⟨gv, 0, none⟩) 64 cap) 64 (nums .u8 (xorTo l y 0)) := by
    have h := Kd.own_of_R hR1
    rw [HL.out] at h
    exact h
  clear hR1 hcell hC
  go_loopw [5, 10] (fun _ i wr => ∃ k : Nat, k ≤ 64 ∧ i = .int .i64 k ∧ Aside0 (wr.ownsRow w.heap.size 5 1 (.slice (some ⟨gv, 0, none⟩) 64 cap) 64 (nums .u8 (xorTo l y k))) ∧ Below w.heap.size w wr) (fun _ i _ => 64 - (intOf i).toNat)
  case atStart => exact ⟨0, Nat.zero_le _, rfl, ⟨ho⟩, hb1⟩
  case round =>
    clear ho hb1
    obtain ⟨k, hk, rfl, ho, hbl⟩ := hrel
    by_cases hlt : k < 64
    · obtain ⟨hc, hf⟩ := own_at ho.out (k : Int) (by omega) (by omega)
      rw [xorTo_at l y k (by have := HL.out; omega), Int.toNat_natCast] at hc
      rw [Int.toNat_natCast] at hf
      have hs := own_store ho.out (k : Int) (Go.bits .xor .u8 (l.getD k 0) y)
      rw [Int.toNat_natCast, xorTo_succ l y k (by have := HL.out; omega)] at hs
      have hb2 : Below w.heap.size w (wr.setCell ⟨gv, k, none⟩ (.int .u8 (Go.bits .xor .u8 (l.getD k 0) y))) := hbl.setCell hgv _
      have HS := Lib.hid (And.intro hs.1 hb2)
      clear hs hb2 hbl ho
      have i0 : (0 : Int) ≤ (k : Int) := by omega
      have i1 : (k : Int) < 64 := by omega
      have d1 : decide ((k : Int) < 64) = true := by rw [decide_eq_true_eq]; omega
      go_wp2
      exact ⟨⟨k + 1, by omega, by go_num, ⟨HS.out.1⟩, HS.out.2⟩, by simp [intOf]; omega⟩
    · obtain rfl : k = 64 := by omega
      have d1 : decide (((64 : Nat) : Int) < 64) = false := by decide
      have e0 : xorTo l y 64 = xorB l y := by
        unfold xorTo
        rw [List.take_of_length_le (by have := HL.out; omega), List.drop_eq_nil_of_le (by have := HL.out; omega), List.append_nil]
      have hlx : (xorB l y).length = 64 := by rw [xorB_length]; exact HL.out
      have hfin : Aside0 (Kd.R (Kd.int .u8) 5 wr w.heap.size (fun _ => True) (.slice (some ⟨gv, 0, none⟩) 64 cap) (xorB l y)) := by
        rw [e0] at ho
        exact ⟨Kd.R_of_own (enc := Value.int .u8) (h1 := fun _ => rfl) (by rw [hlx]; exact ho.out) (fun _ _ => trivial)⟩
      clear e0 hlx ho
      go_wp2
      go_ret
      exact ⟨_, rfl, hfin.out, hbl⟩

/-! mac.joined and mac.Sum. -/
def dig (l : List Int) : List Int := ofB (Sha.sum (toB l))
def macSum (k b : List Int) : List Int := dig (xorB (macKey k) 92 ++ dig (xorB (macKey k) 54 ++ b))
theorem dig_length (l : List Int) : (dig l).length = 32 := by unfold dig; rw [ofB_length, Sha.sum_length]
theorem byteOk_dig (l : List Int) : byteOk (dig l) = true := byteOk_sum _
theorem macSum_length (k b : List Int) : (macSum k b).length = 32 := dig_length _
theorem byteOk_macSum (k b : List Int) : byteOk (macSum k b) = true := byteOk_dig _
theorem byteOk_xorB (l : List Int) (y : Int) (h : byteOk l = true) (h0 : 0 ≤ y) (h1 : y < 256) : byteOk (xorB l y) = true := by
  rw [byteOk_iff] at h ⊢
  intro z hz
  unfold xorB at hz
  obtain ⟨x, hx, rfl⟩ := List.mem_map.1 hz
  obtain ⟨a0, a1⟩ := h x hx
  obtain ⟨n, rfl⟩ := Int.eq_ofNat_of_zero_le a0
  obtain ⟨m, rfl⟩ := Int.eq_ofNat_of_zero_le h0
  rw [u8_xor_nat n m (by omega) (by omega)]
  have : n ^^^ m < 2 ^ 8 := Nat.xor_lt_two_pow (by omega) (by omega)
  omega
/-- Two rows, laid as one row of rows. -/
theorem c_two (W : World) (T : Nat) (A B : Option Addr) (c d : Nat) (x y : List Int) (hx : Kd.C (Kd.int .u8) W A x.length x) (hcx : x.length ≤ c) (hy : Kd.C (Kd.int .u8) W B y.length y) (hcy : y.length ≤ d) :
    Kd.C (Kd.slice 5 (Kd.int .u8)) (W.alloc (.cells #[.slice A x.length c, .slice B y.length d] T)) (some ⟨W.heap.size, 0, none⟩) 2 [x, y] := by
  refine ⟨rfl, by omega, fun _ => ⟨_, rfl, fun j p hj => ?_⟩⟩
  have hcell : ∀ j, (W.alloc (.cells #[.slice A x.length c, .slice B y.length d] T)).cell? ((⟨W.heap.size, 0, none⟩ : Addr).add j) = (#[Value.slice A x.length c, .slice B y.length d] : Array Value)[j]? := fun j => by
    rw [add_plain]
    exact cell_of_row _ _ _ _ _ _ (heap_alloc_new W _)
  rcases j with _ | _ | j
  · injection hj with hj
    subst hj
    refine ⟨[.slice A x.length c], rfl, ⟨A, c, rfl, hcx, Kd.C_alloc hx _⟩, fun i u hu => ?_⟩
    rcases i with _ | i
    · exact (hcell 0).trans hu
    · cases hu
  · injection hj with hj
    subst hj
    refine ⟨[.slice B y.length d], rfl, ⟨B, d, rfl, hcy, Kd.C_alloc hy _⟩, fun i u hu => ?_⟩
    rcases i with _ | i
    · exact (hcell 1).trans hu
    · cases hu
  · cases hj
theorem joined_calls (A0 : Option Addr) (c0 : Nat) (l0 : List (List Int)) (w : World) (hr0 : Kd.C (Kd.slice 5 (Kd.int .u8)) w A0 l0.length l0) (hc0 : l0.length ≤ c0) (h : l0.flatten.length ≤ 100000000) :
    Calls Try.prog 49 #[.slice A0 l0.length c0] w fun e w' => ∃ v0_ : Value, e = .returned (v0_) ∧ Kd.R (Kd.int .u8) 5 w' w.heap.size (fun _ => True) v0_ l0.flatten ∧ Below w.heap.size w w' := by
  have hc := P.slices_Concat.calls A0 c0 l0 l0.flatten w hr0 hc0 (by unfold P.slices_Concat.f; rw [if_pos h])
  have Hc := Lib.hid hc
  clear hc
  go_enter Try.func49, Try.ntmps49
  go_wp2_with (go_at_call 58; (with_reducible refine Hc.out.mono ?_); rintro e W1 ⟨v1, rfl, hR1, hb1⟩)
  go_ret
  exact ⟨v1, rfl, hR1, hb1⟩

namespace P
def mac_Sum.f (k b : List Int) : Option (List Int) := if byteOk k = true ∧ byteOk b = true ∧ k.length ≤ 900000 ∧ b.length ≤ 800000 then some (macSum k b) else none
set_option maxRecDepth 100000 in
set_option maxHeartbeats 2000000 in
theorem mac_Sum.calls (A0 : Option Addr) (c0 : Nat) (l0 : List Int) (A1 : Option Addr) (c1 : Nat) (l1 : List Int) (r : List Int) (w : World) (hr0 : Kd.C (Kd.int .u8) w A0 l0.length l0) (hc0 : l0.length ≤ c0) (hr1 : Kd.C (Kd.int .u8) w A1 l1.length l1) (hc1 : l1.length ≤ c1) (h : mac_Sum.f l0 l1 = some r) :
    Calls Try.prog 32 #[.slice A0 l0.length c0, .slice A1 l1.length c1] w fun e w' => ∃ v0_ : Value, e = .returned (v0_) ∧ Kd.R (Kd.int .u8) 5 w' w.heap.size (fun _ => True) v0_ r ∧ Below w.heap.size w w' := by
  unfold mac_Sum.f at h
  split at h
  case isFalse => cases h
  case isTrue hok =>
  injection h with h
  obtain ⟨o0, o1, n0, n1⟩ := hok
  have hk : mac_Key.f l0 = some (macKey l0) := by unfold mac_Key.f; rw [if_pos ⟨o0, n0⟩]
  have hkl := macKey_length l0
  have ok := byteOk_macKey l0 o0
  unfold macSum at h
  generalize macKey l0 = k at *
  have Hk := Lib.hid hk
  have Hh := Lib.hid h
  have HL := Lib.hid hkl
  have Hc := Lib.hid (mac_Key.calls A0 c0 l0 k w hr0 hc0 hk)
  clear hk h hkl
  go_enter Try.func32, Try.ntmps32
  go_wp2_with fail
  refine Hc.out.mono ?_
  rintro e W1 ⟨v1, rfl, hR1, hb1⟩
  obtain ⟨gv, cap, rfl, hgv, hgl, -⟩ := Kd.R_form hR1 (by have := HL.out; omega)
  obtain ⟨-, hcap, hCk⟩ := Kd.R_reads' hR1
  rw [HL.out] at hcap hCk ⊢
  clear hR1
  have hcell0 : (W1.alloc (Obj.cells #[Value.slice (some { block := gv, off := 0 }) 64 cap] 22)).cell? ⟨W1.heap.size, 0, none⟩ = some (.slice (some ⟨gv, 0, none⟩) 64 cap) := cell_of_row _ _ _ _ _ _ (heap_alloc_new W1 _)
  have hC0 := Kd.C_alloc hCk (Obj.cells #[Value.slice (some { block := gv, off := 0 }) 64 cap] 22)
  have hb0 := hb1.alloc hb1.size (Obj.cells #[Value.slice (some { block := gv, off := 0 }) 64 cap] 22)
  have Hcell := Lib.hid (And.intro hcell0 (And.intro hC0 hb0))
  have Hk2 := Lib.hid (And.intro ok (And.intro o0 (And.intro o1 (And.intro n0 n1))))
  clear hcell0 hC0 hb0 hCk hb1 ok o0 o1 n0 n1
  go_wp2_with fail
  refine (with_calls 92 ⟨gv, 0, none⟩ cap W1.heap.size k _ Hcell.out.1 Hcell.out.2.1 HL.out).mono ?_
  rintro e W3 ⟨v3, rfl, hR3, hb3⟩
  obtain ⟨A3, c3, rfl, hl3, hC3⟩ := Kd.R_reads hR3
  have Hcell3 := Lib.hid (And.intro (pw_cell_below hb3 Hcell.out.1) (And.intro (Kd.C_below Hcell.out.2.1 hb3) (Hcell.out.2.2.trans (hb3.mono Hcell.out.2.2.size))))
  clear hR3 hb3 Hcell
  go_wp2_with fail
  refine (with_calls 54 ⟨gv, 0, none⟩ cap W1.heap.size k _ Hcell3.out.1 Hcell3.out.2.1 HL.out).mono ?_
  rintro e W4 ⟨v4, rfl, hR4, hb4⟩
  obtain ⟨A4, c4, rfl, hl4, hC4⟩ := Kd.R_reads hR4
  have hx3 := Kd.C_below hC3 hb4
  have hb5 := Hcell3.out.2.2.trans (hb4.mono Hcell3.out.2.2.size)
  have hy1 := Kd.C_below hr1 hb5
  clear hR4 hb4 Hcell3 hC3
  have hL54 := xorB_length k 54
  have hL92 := xorB_length k 92
  have q54 := byteOk_xorB k 54 Hk2.out.1 (by omega) (by omega)
  have q92 := byteOk_xorB k 92 Hk2.out.1 (by omega) (by omega)
  generalize xorB k 54 = k54 at *
  generalize xorB k 92 = k92 at *
  have hc2 := c_two W4 22 A4 A1 c4 c1 k54 l1 hC4 hl4 hy1 hc1
  have e5 : [k54, l1].flatten = k54 ++ l1 := by simp
  have n5 : (k54 ++ l1).length = 64 + l1.length := by rw [List.length_append, hL54, HL.out]
  have hj := joined_calls (some ⟨W4.heap.size, 0, none⟩) 2 [k54, l1] _ hc2 (Nat.le_refl _) (by rw [e5, n5]; have := Hk2.out.2.2.2.2; omega)
  rw [e5] at hj
  have Hj := Lib.hid hj
  have H5 := Lib.hid (And.intro n5 (And.intro hL54 (And.intro hL92 (And.intro q54 q92))))
  have hb6 := hb5.alloc hb5.size (Obj.cells #[.slice A4 k54.length c4, .slice A1 l1.length c1] 22)
  have Hb6 := Lib.hid (And.intro hb6 (Kd.C_alloc hx3 (Obj.cells #[.slice A4 k54.length c4, .slice A1 l1.length c1] 22)))
  clear hj hc2 e5 n5 hL54 hL92 q54 q92 hb6 hx3 hb5 hy1 hC4
  go_wp2_with fail
  refine Hj.out.mono ?_
  rintro e W7 ⟨v7, rfl, hR7, hb7⟩
  obtain ⟨A7, c7, rfl, hl7, hC7⟩ := Kd.R_reads hR7
  have Hb7 := Lib.hid (And.intro (Hb6.out.1.trans (hb7.mono Hb6.out.1.size)) (Kd.C_below Hb6.out.2 hb7))
  clear hR7 hb7 Hb6 Hj
  have hs1 : sha_Sum.f (k54 ++ l1) = some (dig (k54 ++ l1)) := by
    unfold sha_Sum.f
    rw [if_pos ⟨(byteOk_append _ _).2 ⟨H5.out.2.2.2.1, Hk2.out.2.2.1⟩, by have := H5.out.1; have := Hk2.out.2.2.2.2; omega⟩]
    rfl
  have Hs1 := Lib.hid hs1
  clear hs1
  generalize k54 ++ l1 = m1 at *
  go_wp2_with fail
  refine (sha_Sum.calls A7 c7 m1 _ _ hC7 hl7 Hs1.out).mono ?_
  rintro e W8 ⟨v8, rfl, hR8, hb8⟩
  have hd8 := dig_length m1
  have od8 := byteOk_dig m1
  generalize dig m1 = d1 at *
  obtain ⟨A8, c8, rfl, hl8, hC8⟩ := Kd.R_reads hR8
  have hx8 := Kd.C_below Hb7.out.2 hb8
  have hb9 := Hb7.out.1.trans (hb8.mono Hb7.out.1.size)
  clear hR8 hb8 Hb7
  have hc9 := c_two W8 22 A3 A8 c3 c8 k92 d1 hx8 hl3 hC8 hl8
  have e9 : [k92, d1].flatten = k92 ++ d1 := by simp
  have n9 : (k92 ++ d1).length = 96 := by rw [List.length_append, H5.out.2.2.1, HL.out, hd8]
  have hj := joined_calls (some ⟨W8.heap.size, 0, none⟩) 2 [k92, d1] _ hc9 (Nat.le_refl _) (by rw [e9, n9]; omega)
  rw [e9] at hj
  have Hj := Lib.hid hj
  have hs2 : sha_Sum.f (k92 ++ d1) = some (dig (k92 ++ d1)) := by
    unfold sha_Sum.f
    rw [if_pos ⟨(byteOk_append _ _).2 ⟨H5.out.2.2.2.2, od8⟩, by omega⟩]
    rfl
  have Hs2 := Lib.hid hs2
  have hb10 := hb9.alloc hb9.size (Obj.cells #[.slice A3 k92.length c3, .slice A8 d1.length c8] 22)
  have Hb10 := Lib.hid hb10
  clear hj hc9 e9 n9 hs2 hx8 hb9 hb10 hC8 hd8 od8
  go_wp2_with fail
  refine Hj.out.mono ?_
  rintro e W11 ⟨v11, rfl, hR11, hb11⟩
  obtain ⟨A11, c11, rfl, hl11, hC11⟩ := Kd.R_reads hR11
  have Hb11 := Lib.hid (Hb10.out.trans (hb11.mono Hb10.out.size))
  clear hR11 hb11 Hb10 Hj
  generalize k92 ++ d1 = m2 at *
  go_wp2_with fail
  refine (sha_Sum.calls A11 c11 m2 _ _ hC11 hl11 Hs2.out).mono ?_
  rintro e W12 ⟨v12, rfl, hR12, hb12⟩
  have hfin : Aside0 (Kd.R (Kd.int .u8) 5 W12 w.heap.size (fun _ => True) v12 r) := ⟨by
    rw [← Hh.out]
    exact Kd.R_lower hR12 Hb11.out.size⟩
  have Hb12 := Hb11.out.trans (hb12.mono Hb11.out.size)
  clear hR12 hb12 Hb11
  go_wp2
  go_ret
  exact ⟨_, rfl, hfin.out, Hb12⟩
end P
end Go.Proofs.Ytamaokokbajlgaa
