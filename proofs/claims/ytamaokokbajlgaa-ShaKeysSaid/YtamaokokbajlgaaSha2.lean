/-
  Walks: sha.Key, sha.Block, and layer 2's examples (pyxlaw02.shown).
-/
import Derived.Test.YtamaokokbajlgaaShaSum
import Derived.Test.YtamaokokbajlgaaText
import Derived.Lib.SlBytesConst
namespace Go.Proofs.Ytamaokokbajlgaa
set_option linter.unusedVariables false
set_option linter.unusedSimpArgs false
open Go.RowKit Go.Proofs.Ytamaokokbajlgaa.L Go.Proofs.YtamaokokbajlgaaW.PrintWords Go.Proofs.YtamaokokbajlgaaW.PrintLast Go.Proofs.YtamaokokbajlgaaW.PrintMore

theorem index_w64 (l : List Nat) (t : Nat) (ht : t < 64) (hl : l.length = 64) (W : World) : (Instr.index 55 (.agg (wordsV l)) (.int .i64 (t : Int))).run Try.prog W = .ok (.int .u32 (l.getD t 0)) W := by
  have hv := wordsV_at l t (by omega)
  unfold Instr.index
  simp [go_sem, part, hv, Try.isAgg28, Try.sizeOf28, ht]

theorem c_marked (W : World) (e : Nat) (fr : Nat × Nat) (xs : List Int) (hm : xs.length ≤ 9223372036854775807) : Kd.C (Kd.int .u8) (W.alloc (.cells (nums .u8 xs).toArray e fr)) (some ⟨W.heap.size, 0, none⟩) xs.length xs := by
  refine Kd.C_of_reads (enc := Value.int .u8) (d := 0) (h1 := fun _ => rfl) ⟨rfl, hm, fun _ => ⟨_, rfl, fun j hj => ?_⟩⟩
  have e1 : (⟨W.heap.size, 0, none⟩ : Addr).add j = ⟨W.heap.size, j, none⟩ := by unfold Addr.add; split <;> simp_all
  rw [e1, cell_of_row _ _ _ _ _ _ (heap_alloc_new W _)]
  simp [nums, hj]
namespace P
def pyxref01_Text.f (l : List Int) : Option ByteArray := if byteOk l = true ∧ l.length ≤ 1000000 then some (strB (hexB (toB l))) else none
theorem pyxref01_Text.calls (A0 : Option Addr) (c0 : Nat) (l0 : List Int) (r : ByteArray) (w : World) (hr0 : Kd.C (Kd.int .u8) w A0 l0.length l0) (hc0 : l0.length ≤ c0) (h : pyxref01_Text.f l0 = some r) :
    Calls Try.prog 39 #[.slice A0 l0.length c0] w fun e w' => e = .returned (.string r) ∧ Drawn0 w w' := by
  unfold pyxref01_Text.f at h
  split at h
  case isFalse => cases h
  case isTrue hok =>
  injection h with h
  have hl0 : l0 = ofB (toB l0) := (ofB_toB l0 hok.1).symm
  have hbs := bs_of_ok l0 hok.1
  have hA := bytesAt_of_C (b := toB l0) (by rw [← hl0]; exact hr0)
  have hlen : (toB l0).length = l0.length := by simp [toB]
  have := text_calls A0 c0 (toB l0) w (fun i hi => by obtain ⟨ad, e, _, hc⟩ := hA i hi; exact ⟨ad, e, hc⟩) hbs (by omega)
  rw [hlen] at this
  refine this.mono fun e w' ⟨he, hd⟩ => ⟨by rw [he, h], ⟨hd⟩⟩
end P
theorem shown_text0 : P.pyxref01_Text.f (ofB (Sha.sum [])) = some ⟨#[101, 51, 98, 48, 99, 52, 52, 50, 57, 56, 102, 99, 49, 99, 49, 52, 57, 97, 102, 98, 102, 52, 99, 56, 57, 57, 54, 102, 98, 57, 50, 52, 50, 55, 97, 101, 52, 49, 101, 52, 54, 52, 57, 98, 57, 51, 52, 99, 97, 52, 57, 53, 57, 57, 49, 98, 55, 56, 53, 50, 98, 56, 53, 53]⟩ := by
  rw [Sha.sum_nil]
  decide +kernel
theorem shown_text1 : P.pyxref01_Text.f (ofB (Sha.sum [97, 98, 99])) = some ⟨#[98, 97, 55, 56, 49, 54, 98, 102, 56, 102, 48, 49, 99, 102, 101, 97, 52, 49, 52, 49, 52, 48, 100, 101, 53, 100, 97, 101, 50, 50, 50, 51, 98, 48, 48, 51, 54, 49, 97, 51, 57, 54, 49, 55, 55, 97, 57, 99, 98, 52, 49, 48, 102, 102, 54, 49, 102, 50, 48, 48, 49, 53, 97, 100]⟩ := by
  rw [Sha.sum_abc]
  decide +kernel
theorem shown_pads : (Sha.pad 0).length = 64 ∧ (Sha.pad 55).length = 9 ∧ (Sha.pad 56).length = 72 := by decide +kernel

namespace P
def sha_Key.f (i : Int) : Option Int := some (if i < 0 then 0 else if 63 < i then 0 else ((Sha.kTab.getD i.toNat 0 : Nat) : Int))
set_option maxHeartbeats 1000000 in
theorem sha_Key.calls (a0 : Int) (r : Int) (w : World) (h : sha_Key.f a0 = some r) :
    Calls Try.prog 20 #[.int .i64 a0] w fun e w' => e = .returned (.int .u32 r) ∧ Below w.heap.size w w' := by
  unfold sha_Key.f at h
  injection h with h
  by_cases h0 : a0 < 0
  · rw [if_pos h0] at h
    subst h
    have hd : decide (a0 < 0) = true := by simp [h0]
    go_enter Try.func20, Try.ntmps20
    go_wp2
    go_ret
    exact ⟨rfl, Below.refl _ _⟩
  · rw [if_neg h0] at h
    have hd : decide (a0 < 0) = false := by simp; omega
    by_cases h1 : 63 < a0
    · rw [if_pos h1] at h
      subst h
      have hd1 : decide (64 ≤ a0) = true := by simp; omega
      go_enter Try.func20, Try.ntmps20
      go_wp2
      go_ret
      exact ⟨rfl, Below.refl _ _⟩
    · rw [if_neg h1] at h
      obtain ⟨n, rfl⟩ := Int.eq_ofNat_of_zero_le (show 0 ≤ a0 by omega)
      have hn : n < 64 := by omega
      rw [Int.toNat_natCast] at h
      have hix := fun W => index_w64 Sha.kTab n hn kTab_len W
      rw [h] at hix
      have hd1 : decide ((64 : Int) ≤ (n : Int)) = false := by simp; omega
      clear h
      go_enter Try.func20, Try.ntmps20
      go_wp2_with (go_at_call 40; refine (keys_calls _).mono ?_; rintro e W1 ⟨rfl, hb1⟩)
      go_ret
      exact ⟨rfl, hb1⟩

def pyxlaw02_shown.f : Option Bool := some true
set_option maxRecDepth 100000 in
set_option maxHeartbeats 4000000 in
theorem pyxlaw02_shown.calls (r : Bool) (w : World) (h : pyxlaw02_shown.f = some r) :
    Calls Try.prog 15 #[] w fun e w' => e = .returned (.bool r) ∧ Below w.heap.size w w' := by
  injection h with h
  subst h
  have kc := fun (w : World) (C : Array Value) (n c : Nat) => Lib.run_convert_bytes_const (P := Try.prog) w 22 5 C n c Try.underlying22 Try.underlying5
  have kc := Lib.hid kc
  go_enter Try.func15, Try.ntmps15
  go_wp2_with fail
  refine (Start_calls _).mono ?_
  rintro e W1 ⟨rfl, hb1⟩
  go_wp2_with (first
    | (refine wpList_store_row rfl 31 (.tmp 1) (.tmp 2) rfl W1.heap.size _ rfl rfl 31 _ (heap_alloc_new _ _) (by rw [wordsV_size, hTab_len]; exact infoStart) (by rw [wordsV_size, hTab_len]; rfl) (by simp [wordsV, Value.oneCell']) ?_))
  rw [zero8]
  have bh := (Blk.new W1 31 (wordsV z8)).setRow_ (wordsV Sha.hTab)
  have hb2 := (hb1.alloc hb1.size (.cells (wordsV z8) 31)).trans (Iter.below_setRow (B := w.heap.size) (g := W1.heap.size) (wordsV Sha.hTab) hb1.size)
  have hgl := bh.lt
  generalize (W1.alloc (.cells (wordsV z8) 31)).setRow W1.heap.size (wordsV Sha.hTab) = W2 at bh hb2 hgl ⊢
  generalize W1.heap.size = gh at *
  clear hb1
  refine (sha_Sum.calls none 0 [] (ofB (Sha.sum [])) W2 (Kd.C_nil _ _) (Nat.le_refl _) rfl).mono ?_
  rintro e W3 ⟨v3, rfl, hR3, hb3⟩
  obtain ⟨A3, c3, rfl, hl3, hC3⟩ := Kd.R_reads hR3
  have bh3 := bh.below hb3 hgl
  have hb4 := hb2.trans (hb3.mono hb2.size)
  clear hb3 bh hb2 hR3
  go_wp2_with fail
  refine (pyxref01_Text.calls A3 c3 _ _ _ hC3 hl3 shown_text0).mono ?_
  rintro e w' ⟨rfl, ⟨nd, rfl⟩⟩
  have bh4 : Blk (W3.drewN nd) _ _ _ := bh3
  have hb5 := pw_below_drewN hb4 nd
  clear bh3 hb4 hC3 hl3
  generalize W3.drewN nd = W4 at bh4 hb5 ⊢
  have kc := kc.out
  go_wp2_with fail
  have kc := Lib.hid kc
  refine (sha_Sum.calls (some ⟨W4.heap.size, 0, none⟩) 3 [97, 98, 99] (ofB (Sha.sum [97, 98, 99])) _ (c_marked W4 5 (3, 4) [97, 98, 99] (by decide)) (by decide) rfl).mono ?_
  rintro e W5 ⟨v5, rfl, hR5, hb6⟩
  obtain ⟨A5, c5, rfl, hl5, hC5⟩ := Kd.R_reads hR5
  have bh5 : Blk W5 gh _ _ := (bh4.alloc _).below hb6 (by simp; have := bh4.lt; omega)
  have hb7 := (hb5.alloc hb5.size (Obj.cells #[Value.int IntKind.u8 97, Value.int IntKind.u8 98, Value.int IntKind.u8 99] 5 (3, 4))).trans (hb6.mono (by simp; have := hb5.size; omega))
  clear hb6 bh4 hb5 hR5
  go_wp2_with fail
  refine (pyxref01_Text.calls A5 c5 _ _ _ hC5 hl5 shown_text1).mono ?_
  rintro e w' ⟨rfl, ⟨nd5, rfl⟩⟩
  have bh6 : Blk (W5.drewN nd5) _ _ _ := bh5
  have hb8 := pw_below_drewN hb7 nd5
  clear bh5 hb7 hC5 hl5
  generalize W5.drewN nd5 = W6 at bh6 hb8 ⊢
  obtain ⟨l0, l1, l2⟩ := shown_pads
  go_wp2_with fail
  refine (L.sha_Pad.calls 10 0 _ W6 (pad_eq 0 (by decide))).mono ?_
  rintro e W7 ⟨v7, rfl, hR7, hb9⟩
  obtain ⟨A7, c7, rfl, _, _⟩ := Kd.R_reads hR7
  rw [ofB_length, l0]
  have bh7 := bh6.below hb9 bh6.lt
  have hb10 := hb8.trans (hb9.mono hb8.size)
  clear bh6 hb8 hb9 hR7
  go_wp2_with fail
  refine (L.sha_Pad.calls 10 55 _ W7 (pad_eq 55 (by decide))).mono ?_
  rintro e W8 ⟨v8, rfl, hR8, hb11⟩
  obtain ⟨A8, c8, rfl, _, _⟩ := Kd.R_reads hR8
  rw [ofB_length, l1]
  have bh8 := bh7.below hb11 bh7.lt
  have hb12 := hb10.trans (hb11.mono hb10.size)
  clear bh7 hb10 hb11 hR8
  go_wp2_with fail
  refine (L.sha_Pad.calls 10 56 _ W8 (pad_eq 56 (by decide))).mono ?_
  rintro e W9 ⟨v9, rfl, hR9, hb13⟩
  obtain ⟨A9, c9, rfl, _, _⟩ := Kd.R_reads hR9
  rw [ofB_length, l2]
  have bh9 := bh8.below hb13 bh8.lt
  have hb14 := hb12.trans (hb13.mono hb12.size)
  clear bh8 hb12 hb13 hR9
  have g0 : W9.cell? ⟨gh, 0, none⟩ = some (.int .u32 1779033703) := bh9.cell 0
  go_wp2_with fail
  refine (sha_Key.calls 63 3329325298 W9 (by decide +kernel)).mono ?_
  rintro e W10 ⟨rfl, hb15⟩
  have hb16 := hb14.trans (hb15.mono hb14.size)
  clear g0 bh9 hb14 hb15
  go_wp2
  go_ret
  exact ⟨rfl, hb16⟩
end P
end Go.Proofs.Ytamaokokbajlgaa
