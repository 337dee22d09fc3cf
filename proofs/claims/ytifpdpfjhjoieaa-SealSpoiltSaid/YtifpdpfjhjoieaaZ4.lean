/-
  The lower layers, walked and in closed forms, part 4: KdfRefLabel, AesSpec, AesB, AesC, AesA, AesE, AesF, AesL, C0, C1, C2, AesQ, AesR, C3, C4, AesG, AesS, AesD, AesH, AesT, SealA, H0.
-/
import Derived.Test.YtifpdpfjhjoieaaZ0
import Derived.Test.YtifpdpfjhjoieaaZ1
import Derived.Test.YtifpdpfjhjoieaaZ3
import Derived.Test.YtifpdpfjhjoieaaProg
import Derived.Test.YtifpdpfjhjoieaaVWords
import Derived.Test.YtifpdpfjhjoieaaVLast
import Derived.Test.YtifpdpfjhjoieaaVMore
import Derived.Test.YtifpdpfjhjoieaaVRepsOne
import Derived.Laws.BitsAllLaws
import Derived.Deep.RegionHeld3
import Derived.Deep.DrawnRows
import Derived.Deep.MidRow
import Derived.Laws.CopyOwn
import Derived.StillTailTactics
import Derived.Below
import Derived.Deep.Draws
import Derived.Deep.AppendLies
import Derived.Maps.AppendAt
import Derived.OwnWalk
import Derived.Laws.BytesArg
import Derived.Laws.MakeOwn
import Derived.Laws.OwnMore
import Derived.Deep.OwnRows
import Derived.Tactics
import Derived.Lib.ConvBytes
import Derived.Laws.Slices
import Derived.WalkKit
import Derived.KernelRfl
import Derived.RowKit3
import Derived.Deep.LoopGhost
import Derived.Deep.QuietTactic
import Derived.BigQuiet
import Derived.WideLaws
import Derived.Deep.DeepCutAuto
import Derived.Deep.CutBlock
import Derived.Laws.Rows
import Derived.Lib.AppendStr
import Derived.ArgAppend
import Derived.Laws.IdiomCopy
import Derived.OrdersHeld
import Derived.Laws.BitsLemmas
import Derived.RowKit
/-! KdfRefLabel -/
namespace Go.Proofs.Ytifpdpfjhjoieaa
set_option linter.unusedVariables false
set_option linter.unusedSimpArgs false
open Go.RowKit Go.Proofs.YtifpdpfjhjoieaaW.PrintWords Go.Proofs.YtifpdpfjhjoieaaW.PrintLast Go.Proofs.YtifpdpfjhjoieaaW.PrintMore Iter
namespace P
def pyxref04_Label.f (secret : List Int) (label : ByteArray) (context : List Int) (n : Int) : Option (List Int × Int) := kdf_Label.f secret label context n
set_option maxRecDepth 100000 in
set_option maxHeartbeats 2000000 in
theorem pyxref04_Label.calls (A0 : Option Addr) (c0 : Nat) (l0 : List Int) (a1 : ByteArray) (A2 : Option Addr) (c2 : Nat) (l2 : List Int) (a3 : Int) (r1 : List Int) (r2 : Int) (w : World) (hr0 : Kd.C (Kd.int .u8) w A0 l0.length l0) (hc0 : l0.length ≤ c0) (hr2 : Kd.C (Kd.int .u8) w A2 l2.length l2) (hc2 : l2.length ≤ c2) (h : pyxref04_Label.f l0 a1 l2 a3 = some (r1, r2)) :
    Calls Try.prog 41 #[.slice A0 l0.length c0, .string a1, .slice A2 l2.length c2, .int .i64 a3] w fun e w' => ∃ v0_ : Value, e = .returned (.tuple #[v0_, .int .i64 r2]) ∧ Kd.R (Kd.int .u8) 5 w' w.heap.size (fun _ => True) v0_ r1 ∧ Below w.heap.size w w' := by
  unfold pyxref04_Label.f kdf_Label.f at h
  by_cases h0 : a3 < 0
  · rw [if_pos h0] at h
    injection h with h
    injection h with h1 h2
    subst h1 h2
    have d0 : decide (a3 < 0) = true := by simp [h0]
    go_enter Try.func41, Try.ntmps41
    go_wp2
    go_ret2
    exact ⟨_, rfl, Kd.R_nil _ _ _ _ _, Below.refl _ _⟩
  rw [if_neg h0] at h
  have d0 : decide (a3 < 0) = false := by simp; omega
  by_cases h1 : 8160 < a3
  · rw [if_pos h1] at h
    injection h with h
    injection h with h1' h2
    subst h1' h2
    have d1 : decide (8160 < a3) = true := by simp [h1]
    go_enter Try.func41, Try.ntmps41
    go_wp2
    go_ret2
    exact ⟨_, rfl, Kd.R_nil _ _ _ _ _, Below.refl _ _⟩
  rw [if_neg h1] at h
  have d1 : decide (8160 < a3) = false := by simp; omega
  split at h
  case isFalse => cases h
  case isTrue hok =>
  injection h with h
  injection h with h1' h2
  subst h1' h2
  obtain ⟨n, rfl⟩ := Int.eq_ofNat_of_zero_le (show 0 ≤ a3 by omega)
  rw [Int.toNat_natCast]
  obtain ⟨o1, o2, o3, o4, o5⟩ := hok
  obtain ⟨t, ht⟩ : ∃ t : ByteArray, t = mlsS ++ a1 := ⟨_, rfl⟩
  have htb : bytesOf t = mls ++ bytesOf a1 := by rw [ht, bytesOf_append, mls_bytes]
  have htl : (bytesOf t).length = a1.size + 8 := by rw [htb, List.length_append, bytesOf_length]; exact Nat.add_comm _ _
  have hts : t.size = a1.size + 8 := by rw [← bytesOf_length, htl]
  have hrow1 : P.pyxref01_Row.f (bytesOf t) = some (rowB (bytesOf t), 0) := congrArg some (rowOf_small (bytesOf t) (by omega))
  have hrow2 : P.pyxref01_Row.f l2 = some (rowB l2, 0) := congrArg some (rowOf_small l2 (by omega))
  have hnum : P.pyxref01_Num.f (n : Int) 2 = some (numB n 2, 0) := by
    unfold P.pyxref01_Num.f
    exact congrArg some (numOf_small n 2 (by omega) (by omega) (by omega))
  have hl1 : (numB n 2).length = 2 := numB_length _ _
  have kb : ∀ W : World, (convert 9 22 (.string ({ data := #[77, 76, 83, 32, 49, 46, 48, 32] } ++ a1))).run Try.prog W = .ok (.slice (some ⟨W.heap.size, 0, none⟩) t.size (grownCap W t.size 0 5)) (Lib.bytesWorld W 5 t) := fun W => by
    rw [ht]
    exact print_bytes (P := Try.prog) 9 22 5 Try.underlying9 Try.underlying22 Try.underlying5 (mlsS ++ a1) W
  have hexp : P.pyxref04_Expand.f l0 (labelRow a1 l2 n) (n : Int) = some (labelOf l0 a1 l2 n, 0) := by
    have b1 := byteOk_labelRow a1 l2 n o2
    have b2 := labelRow_length a1 l2 n
    unfold P.pyxref04_Expand.f P.kdf_Expand.f
    rw [if_neg (by omega), if_neg (by omega), if_pos ⟨o1, b1, o3, by omega⟩]
    rfl
  have HLR := Lib.hid hexp
  clear hexp
  have hrw : labelRow a1 l2 n = numB n 2 ++ rowB (bytesOf t) ++ rowB l2 := by rw [htb]; rfl
  have hl3 := rowB_length (bytesOf t)
  rw [htl] at hl3
  have hl4 := rowB_length l2
  have HN := Lib.hid hnum
  have H1 := Lib.hid (And.intro hrow1 (And.intro hrow2 (And.intro hrw (And.intro htb (And.intro htl hts)))))
  have KB := Lib.hid kb
  have Hr := Lib.hid (And.intro hr0 hr2)
  clear hnum hrow1 hrow2 ht htb htl hts kb hr0 hr2 o1 o2 hrw
  go_enter Try.func41, Try.ntmps41
  go_wp2_with fail
  refine (P.pyxref01_Num.calls (n : Int) 2 (numB n 2) 0 _ HN.out).mono ?_
  rintro e W1 ⟨v1, rfl, hR1, hb1⟩
  have hkb := KB.out W1
  have hcp := grownCap_ge W1 t.size 0 5
  have hC2 := bytes_C W1 t (by have := H1.out.2.2.2.2.2; omega)
  have hb2 := bytes_below hb1 hb1.size 5 t
  have hs2 := Lib.bytesWorld_size W1 5 t
  have hR2 : Kd.R (Kd.int .u8) 5 (Lib.bytesWorld W1 5 t) w.heap.size (fun b => b < W1.heap.size) v1 (numB n 2) :=
    Kd.R_mono (Kd.R_move (Kd.R_bound hR1) (fun k hk => Lib.bytesWorld_at_old W1 5 t k hk.2.2.1)) (fun k hk => hk.2.2.1)
  rw [H1.out.2.2.2.2.2] at hkb hcp
  generalize grownCap W1 (a1.size + 8) 0 5 = cp at *
  generalize Lib.bytesWorld W1 5 t = W2 at *
  have HS2 := Lib.hid hs2
  have H2 := Lib.hid (And.intro hC2 (And.intro hb2 hR2))
  have hlen := H1.out.2.2.2.2.1
  have HL := Lib.hid hlen
  clear hs2 hb1 hR1 hlen hC2 hb2 hR2
  have hcp' : (bytesOf t).length ≤ cp := by rw [HL.out]; exact hcp
  go_wp2_with fail
  rw [← HL.out]
  refine (P.pyxref01_Row.calls _ cp (bytesOf t) (rowB (bytesOf t)) 0 _ H2.out.1 hcp' H1.out.1).mono ?_
  rintro e W3 ⟨v3, rfl, hR3, hb3⟩
  have hr3 := Kd.R_below H2.out.2.2 hb3
  have hk3 := H2.out.2.1.trans (hb3.mono H2.out.2.1.size)
  have hs3 := hb3.size
  have H3 := Lib.hid (And.intro hr3 (And.intro hR3 hk3))
  clear hr3 hR3 hk3 hb3
  go_wp2_with fail
  refine (P.pyxref01_Row.calls A2 c2 l2 (rowB l2) 0 _ (Kd.C_below Hr.out.2 H3.out.2.2) hc2 H1.out.2.1).mono ?_
  rintro e W4 ⟨v4, rfl, hR4, hb4⟩
  have hr4 := Kd.R_below H3.out.1 hb4
  have hq4 := Kd.R_below H3.out.2.1 hb4
  have hk4 := H3.out.2.2.trans (hb4.mono H3.out.2.2.size)
  have hs4 := hb4.size
  have hv1 : Kd.R (Kd.int .u8) 5 W4 w.heap.size (fun b => b < W1.heap.size ∨ W4.heap.size ≤ b) v1 (numB n 2) := Kd.R_mono hr4 (fun b hb => Or.inl hb)
  have hR4b := Kd.R_bound hR4
  obtain ⟨A3, c3, rfl, hl5, hC3⟩ := Kd.R_reads hq4
  obtain ⟨A4, c4, rfl, hl6, -⟩ := Kd.R_reads hR4
  have ho4 : ∀ b, (Value.slice A4 (rowB l2).length c4).ownBlock = some b → W3.heap.size ≤ b ∧ b < W4.heap.size := fun b hb => by have := hR4b.1 b hb; omega
  have HV := Lib.hid (And.intro hv1 (And.intro hR4 (And.intro ho4 (And.intro hk4 hC3))))
  clear hr4 hq4 hk4 hR4 hR4b ho4 hv1 H3 H2 hC3
  go_wp2_with (first
    | ((with_reducible refine gate_builtin (b := .append) (xs := #[.tmp 40, .tmp 41]) rfl ?_); at_builtin; refine Kd.R_append_rows (Kd.int .u8) (w0 := w) w.heap.size rfl (.tmp 40) (.tmp 41) 22 5 (.int .u8 0) 1 rfl Try.underlying22 B.info5 rfl (by decide) (by omega) v1 (numB n 2) (rowB (bytesOf t)) _ _ _ (fun b => b < W1.heap.size ∨ W4.heap.size ≤ b) (fun _ => False) rfl rfl HV.out.1 HV.out.2.2.2.2 (fun _ _ h => h) (fun _ h => h.elim) (by intro b hb; exact Or.inr hb) HV.out.2.2.2.1 HV.out.2.2.2.1.size (by omega) ?_; intro v5 W5 hv5 hb5 hgr5 hat5; (have hR5 := Kd.R_grown2 HV.out.2.1 rfl hgr5 (fun k hk e => by have h1 := HV.out.1.1 k hk; have h2 := HV.out.2.2.1 k e.symm; have := HS2.out; omega)); (have hC5 := (Kd.R_reads' hR5).2.2); (have hb4s := hgr5.size); clear hR5 hgr5 hat5; (have hl7 : (numB n 2 ++ rowB (bytesOf t)).length = 2 + (rowB (bytesOf t)).length := by rw [List.length_append, hl1]))
    | ((with_reducible refine gate_builtin (b := .append) (xs := #[.tmp 42, .tmp 43]) rfl ?_); at_builtin; refine Kd.R_append_rows (Kd.int .u8) (w0 := w) w.heap.size rfl (.tmp 42) (.tmp 43) 22 5 (.int .u8 0) 1 rfl Try.underlying22 B.info5 rfl (by decide) (by omega) v5 (numB n 2 ++ rowB (bytesOf t)) (rowB l2) _ _ _ (fun b => b < W1.heap.size ∨ W4.heap.size ≤ b) (fun _ => False) rfl rfl hv5 hC5 (fun _ _ h => h) (fun _ h => h.elim) (by intro b hb; exact Or.inr (Nat.le_trans hb4s hb)) hb5 hb5.size (by omega) ?_; intro v6 W6 hv6 hb6 hgr6 hat6; clear hgr6 hat6; rw [← H1.out.2.2.1] at hv6; obtain ⟨A6, c6, rfl, hl8, hC6⟩ := Kd.R_reads hv6; clear hv5 hb5 hC5))
  have HB6 := Lib.hid (And.intro hb6 (Kd.C_below Hr.out.1 hb6))
  clear hb6 hv6
  refine (P.pyxref04_Expand.calls A0 c0 l0 A6 c6 (labelRow a1 l2 n) (n : Int) (labelOf l0 a1 l2 n) 0 _ HB6.out.2 hc0 hC6 hl8 HLR.out).mono ?_
  rintro e W7 ⟨v7, rfl, hR7, hb7⟩
  go_wp2
  go_ret2
  exact ⟨_, rfl, Kd.R_lower hR7 HB6.out.1.size, HB6.out.1.trans (hb7.mono HB6.out.1.size)⟩
end P
theorem labelOf_length (secret : List Int) (label : ByteArray) (context : List Int) (n : Nat) : (labelOf secret label context n).length = n := expandOf_length _ _ _
theorem byteOk_labelOf (secret : List Int) (label : ByteArray) (context : List Int) (n : Nat) : byteOk (labelOf secret label context n) = true := byteOk_expandOf _ _ _
theorem label_some (secret : List Int) (label : ByteArray) (context : List Int) (n : Nat) (hn : n ≤ 8160) (o1 : byteOk secret = true) (o2 : byteOk context = true) (l1 : secret.length ≤ 900000) (l2 : label.size ≤ 100000) (l3 : context.length ≤ 100000) :
    P.kdf_Label.f secret label context (n : Int) = some (labelOf secret label context n, 0) := by
  unfold P.kdf_Label.f
  rw [if_neg (by omega), if_neg (by omega), if_pos ⟨o1, o2, l1, l2, l3⟩, Int.toNat_natCast]
end Go.Proofs.Ytifpdpfjhjoieaa

/-! AesSpec -/
namespace Go.Proofs.Ytifpdpfjhjoieaa
set_option linter.unusedVariables false
open Go.RowKit
/-- The exclusive or of two bytes. -/
def xr (a b : Int) : Int := Go.bits .xor .u8 a b
theorem xr_def (a b : Int) : xr a b = IntKind.u8.wrap ((BitVec.ofInt 8 a ^^^ BitVec.ofInt 8 b).toNat : Int) := rfl
theorem xr_val (a b : Int) : xr a b = ((BitVec.ofInt 8 a ^^^ BitVec.ofInt 8 b).toNat : Int) := by
  rw [xr_def, IntKind.wrap_u8']
  have := (BitVec.ofInt 8 a ^^^ BitVec.ofInt 8 b).isLt
  omega
theorem xr_ge (a b : Int) : 0 ≤ xr a b := by rw [xr_val]; omega
theorem xr_lt (a b : Int) : xr a b < 256 := by
  rw [xr_val]
  have := (BitVec.ofInt 8 a ^^^ BitVec.ofInt 8 b).isLt
  omega
theorem xr_comm (a b : Int) : xr a b = xr b a := by rw [xr_val, xr_val, BitVec.xor_comm]
theorem ofInt_xr (a b : Int) : BitVec.ofInt 8 (xr a b) = BitVec.ofInt 8 a ^^^ BitVec.ofInt 8 b := by
  rw [xr_val, BitVec.ofInt_natCast, BitVec.ofNat_toNat, BitVec.setWidth_eq]
theorem xr_self (a b : Int) (h0 : 0 ≤ b) (h1 : b < 256) : xr a (xr a b) = b := by
  rw [xr_val, ofInt_xr, ← BitVec.xor_assoc, BitVec.xor_self, BitVec.zero_xor]
  obtain ⟨n, rfl⟩ := Int.eq_ofNat_of_zero_le h0
  rw [BitVec.ofInt_natCast, BitVec.toNat_ofNat]
  omega
/-- The box. -/
def boxT : List Int := [99, 124, 119, 123, 242, 107, 111, 197, 48, 1, 103, 43, 254, 215, 171, 118, 202, 130, 201, 125, 250, 89, 71, 240, 173, 212, 162, 175, 156, 164, 114, 192, 183, 253, 147, 38, 54, 63, 247, 204, 52, 165, 229, 241, 113, 216, 49, 21, 4, 199, 35, 195, 24, 150, 5, 154, 7, 18, 128, 226, 235, 39, 178, 117, 9, 131, 44, 26, 27, 110, 90, 160, 82, 59, 214, 179, 41, 227, 47, 132, 83, 209, 0, 237, 32, 252, 177, 91, 106, 203, 190, 57, 74, 76, 88, 207, 208, 239, 170, 251, 67, 77, 51, 133, 69, 249, 2, 127, 80, 60, 159, 168, 81, 163, 64, 143, 146, 157, 56, 245, 188, 182, 218, 33, 16, 255, 243, 210, 205, 12, 19, 236, 95, 151, 68, 23, 196, 167, 126, 61, 100, 93, 25, 115, 96, 129, 79, 220, 34, 42, 144, 136, 70, 238, 184, 20, 222, 94, 11, 219, 224, 50, 58, 10, 73, 6, 36, 92, 194, 211, 172, 98, 145, 149, 228, 121, 231, 200, 55, 109, 141, 213, 78, 169, 108, 86, 244, 234, 101, 122, 174, 8, 186, 120, 37, 46, 28, 166, 180, 198, 232, 221, 116, 31, 75, 189, 139, 138, 112, 62, 181, 102, 72, 3, 246, 14, 97, 53, 87, 185, 134, 193, 29, 158, 225, 248, 152, 17, 105, 217, 142, 148, 155, 30, 135, 233, 206, 85, 40, 223, 140, 161, 137, 13, 191, 230, 66, 104, 65, 153, 45, 15, 176, 84, 187, 22]
theorem boxT_length : boxT.length = 256 := by decide +kernel
def bx (x : Int) : Int := boxT.getD x.toNat 0
theorem boxT_all : boxT.all (fun x => decide (0 ≤ x) && decide (x < 256)) = true := by decide +kernel
theorem bx_wf (x : Int) : 0 ≤ bx x ∧ bx x < 256 := by
  unfold bx
  rw [List.getD_eq_getElem?_getD]
  cases h : boxT[x.toNat]? with
  | none => exact ⟨Int.le_refl 0, by decide⟩
  | some y =>
    have := List.all_eq_true.1 boxT_all y (List.mem_of_getElem? h)
    simp only [Bool.and_eq_true, decide_eq_true_eq] at this
    exact this
/-- Twice, and three times, a byte. -/
def m2 (a : Int) : Int := xr ((2 * a) % 256) (if a < 128 then 0 else 27)
def m3 (a : Int) : Int := xr (m2 a) a
/-- A row of 16 bytes, each made by its place. -/
def row16 (f : Nat → Int) : List Int := (List.range 16).map f
theorem row16_length (f : Nat → Int) : (row16 f).length = 16 := by simp [row16]
theorem row16_at (f : Nat → Int) (i : Nat) (h : i < 16) : (row16 f).getD i 0 = f i := by
  unfold row16
  rw [List.getD_eq_getElem?_getD, List.getElem?_map, List.getElem?_range h]
  rfl
def withK (s k : List Int) : List Int := row16 fun i => xr (s.getD i 0) (k.getD i 0)
def shiftedS (s : List Int) : List Int := row16 fun i => bx (s.getD ((i + 4 * (i % 4)) % 16) 0)
def mixedS (s : List Int) : List Int := row16 fun i => xr (xr (xr (m2 (s.getD (i / 4 * 4 + i % 4) 0)) (m3 (s.getD (i / 4 * 4 + (i + 1) % 4) 0))) (s.getD (i / 4 * 4 + (i + 2) % 4) 0)) (s.getD (i / 4 * 4 + (i + 3) % 4) 0)
/-- The first word behind a key, ahead of the exclusive ors. -/
def keyW (k : List Int) (r : Int) (j : Nat) : Int := if j = 0 then xr (bx (k.getD 13 0)) r else bx (k.getD (12 + (j + 1) % 4) 0)
/-- A byte of the next key. -/
def keyB (k : List Int) (r : Int) : Nat → Int
  | 0 => xr (keyW k r 0) (k.getD 0 0)
  | 1 => xr (keyW k r 1) (k.getD 1 0)
  | 2 => xr (keyW k r 2) (k.getD 2 0)
  | 3 => xr (keyW k r 3) (k.getD 3 0)
  | i + 4 => xr (keyB k r i) (k.getD (i + 4) 0)
def rconT : Nat → Int
  | 0 => 1
  | n + 1 => m2 (rconT n)
def keyT (key : List Int) : Nat → List Int
  | 0 => key
  | n + 1 => row16 (keyB (keyT key n) (rconT n))
/-- A block behind so many rounds. -/
def lockT (key s : List Int) : Nat → List Int
  | 0 => withK s key
  | n + 1 => withK (if n + 1 < 10 then mixedS (shiftedS (lockT key s n)) else shiftedS (lockT key s n)) (keyT key (n + 1))
def streamOf (key nonce b : List Int) : List Int := (List.range b.length).map fun i => xr (b.getD i 0) ((lockT key (nonce ++ numB (i / 16 + 1) 4) 10).getD (i % 16) 0)
theorem streamOf_length (key nonce b : List Int) : (streamOf key nonce b).length = b.length := by simp [streamOf]
theorem streamOf_at (key nonce b : List Int) (i : Nat) (hi : i < b.length) : (streamOf key nonce b)[i]? = some (xr (b.getD i 0) ((lockT key (nonce ++ numB (i / 16 + 1) 4) 10).getD (i % 16) 0)) := by
  unfold streamOf
  rw [List.getElem?_map, List.getElem?_range hi]
  rfl
theorem streamOf_back (key nonce b : List Int) (h : ∀ x ∈ b, 0 ≤ x ∧ x < 256) : streamOf key nonce (streamOf key nonce b) = b := by
  apply List.ext_getElem?
  intro i
  rcases Nat.lt_or_ge i b.length with hi | hi
  · obtain ⟨h0, h1⟩ := h b[i] (List.getElem_mem hi)
    have hb : b.getD i 0 = b[i] := by
      rw [List.getD_eq_getElem?_getD, List.getElem?_eq_getElem hi]
      rfl
    have e1 : (streamOf key nonce b).getD i 0 = xr b[i] ((lockT key (nonce ++ numB (i / 16 + 1) 4) 10).getD (i % 16) 0) := by
      rw [List.getD_eq_getElem?_getD, streamOf_at _ _ _ _ hi, hb]
      rfl
    rw [streamOf_at _ _ _ _ (by rw [streamOf_length]; exact hi), e1, List.getElem?_eq_getElem hi, xr_comm b[i], xr_comm, xr_self _ _ h0 h1]
  · rw [List.getElem?_eq_none (by rw [streamOf_length, streamOf_length]; exact hi), List.getElem?_eq_none hi]
theorem byteOk_streamOf (key nonce b : List Int) : byteOk (streamOf key nonce b) = true := by
  unfold byteOk streamOf
  rw [List.all_eq_true]
  intro x hx
  obtain ⟨i, -, rfl⟩ := List.mem_map.1 hx
  have h0 := xr_ge (b.getD i 0) ((lockT key (nonce ++ numB (i / 16 + 1) 4) 10).getD (i % 16) 0)
  have h1 := xr_lt (b.getD i 0) ((lockT key (nonce ++ numB (i / 16 + 1) 4) 10).getD (i % 16) 0)
  simp only [Bool.and_eq_true, decide_eq_true_eq]
  exact ⟨h0, h1⟩
/-- The rounds' keys' bytes, one behind the other. -/
def keyF (key : List Int) (m : Nat) : Int := (keyT key (m / 16)).getD (m % 16) 0
def keysV (key : List Int) : List Int := (List.range 176).map (keyF key)
theorem keysV_length (key : List Int) : (keysV key).length = 176 := by simp [keysV]
theorem keyT_length (key : List Int) (h : key.length = 16) (n : Nat) : (keyT key n).length = 16 := by
  cases n with
  | zero => exact h
  | succ n => exact row16_length _
theorem keyF_at (key : List Int) (n t : Nat) (h : t < 16) : keyF key (16 * n + t) = (keyT key n).getD t 0 := by
  unfold keyF
  rw [show (16 * n + t) / 16 = n from by omega, show (16 * n + t) % 16 = t from by omega]
theorem keyF_next (key : List Int) (n t : Nat) (h : t < 16) : keyF key (16 * (n + 1) + t) = keyB (keyT key n) (rconT n) t := by
  rw [keyF_at _ _ _ h]
  exact row16_at _ _ h
/-- The word at work, behind so many bytes of a key. -/
def wordT (k : List Int) (r : Int) : Nat → List Int
  | 0 => [keyW k r 0, keyW k r 1, keyW k r 2, keyW k r 3]
  | t + 1 => (wordT k r t).set (t % 4) (xr ((wordT k r t).getD (t % 4) 0) (k.getD t 0))
theorem wordT_length (k : List Int) (r : Int) (t : Nat) : (wordT k r t).length = 4 := by
  induction t with
  | zero => rfl
  | succ t ih => rw [wordT, List.length_set, ih]
theorem wordT_at (k : List Int) (r : Int) (t : Nat) : ∀ j, j < 4 → (wordT k r t).getD j 0 = if t ≤ j then keyW k r j else keyB k r ((t - 1 - j) / 4 * 4 + j) := by
  have hb : ∀ j, j < 4 → keyB k r j = xr (keyW k r j) (k.getD j 0) := by
    intro j hj
    match j, hj with
    | 0, _ => rfl
    | 1, _ => rfl
    | 2, _ => rfl
    | 3, _ => rfl
  have h4 : ∀ i, keyB k r (i + 4) = xr (keyB k r i) (k.getD (i + 4) 0) := fun i => rfl
  induction t with
  | zero =>
    intro j hj
    rw [if_pos (by omega)]
    match j, hj with
    | 0, _ => rfl
    | 1, _ => rfl
    | 2, _ => rfl
    | 3, _ => rfl
  | succ t ih =>
    intro j hj
    rw [wordT, List.getD_eq_getElem?_getD, List.getElem?_set, wordT_length]
    by_cases e : t % 4 = j
    · rw [if_pos e, if_pos (by omega), e, if_neg (by omega), ih j hj]
      show xr _ _ = _
      by_cases ht : t ≤ j
      · rw [if_pos ht, show (t + 1 - 1 - j) / 4 * 4 + j = j from by omega, hb j hj, show t = j from by omega]
      · rw [if_neg ht, show (t + 1 - 1 - j) / 4 * 4 + j = (t - 4) + 4 from by omega, h4, show (t - 1 - j) / 4 * 4 + j = t - 4 from by omega, show t - 4 + 4 = t from by omega]
    · rw [if_neg e, ← List.getD_eq_getElem?_getD, ih j hj]
      by_cases ht : t ≤ j
      · rw [if_pos ht, if_pos (by omega)]
      · rw [if_neg ht, if_neg (by omega), show (t + 1 - 1 - j) / 4 = (t - 1 - j) / 4 from by omega]
theorem wordT_key (k : List Int) (r : Int) (t : Nat) : xr ((wordT k r t).getD (t % 4) 0) (k.getD t 0) = keyB k r t := by
  have h := wordT_at k r (t + 1) (t % 4) (by omega)
  rw [wordT, List.getD_eq_getElem?_getD, List.getElem?_set, wordT_length, if_pos rfl, if_pos (by omega), if_neg (by omega), show (t + 1 - 1 - t % 4) / 4 * 4 + t % 4 = t from by omega] at h
  exact h
theorem keyB_wf (k : List Int) (r : Int) (i : Nat) : 0 ≤ keyB k r i ∧ keyB k r i < 256 := by
  match i with
  | 0 => exact ⟨xr_ge _ _, xr_lt _ _⟩
  | 1 => exact ⟨xr_ge _ _, xr_lt _ _⟩
  | 2 => exact ⟨xr_ge _ _, xr_lt _ _⟩
  | 3 => exact ⟨xr_ge _ _, xr_lt _ _⟩
  | i + 4 => exact ⟨xr_ge _ _, xr_lt _ _⟩
theorem m2_wf (a : Int) : 0 ≤ m2 a ∧ m2 a < 256 := ⟨xr_ge _ _, xr_lt _ _⟩
theorem rconT_wf (n : Nat) : 0 ≤ rconT n ∧ rconT n < 256 := by
  cases n with
  | zero => decide
  | succ n => exact m2_wf _
end Go.Proofs.Ytifpdpfjhjoieaa

/-! AesB -/
namespace Go.Proofs.Ytifpdpfjhjoieaa
set_option linter.unusedVariables false
set_option linter.unusedSimpArgs false
open Go.RowKit Go.Shelf Iter
attribute [local go_sem] Oper.semAt_some
/-- Bytes in an array. -/
def byV (l : List Int) : Array Value := (l.map fun (x : Int) => Value.int .u8 x).toArray
theorem byV_size (l : List Int) : (byV l).size = l.length := by simp [byV]
theorem byV_at (l : List Int) (i : Nat) (h : i < l.length) : (byV l)[i]? = some (.int .u8 (l.getD i 0)) := by simp [byV, h]
theorem byV_set (l : List Int) (i : Nat) (x : Int) : (byV l).setIfInBounds i (.int .u8 x) = byV (l.set i x) := by simp [byV, List.map_set]
/-- A row, the first k of its places by f, the others by g. -/
def rowTo (n : Nat) (f g : Nat → Int) (k : Nat) : List Int := (List.range n).map fun i => if i < k then f i else g i
theorem rowTo_length (n : Nat) (f g : Nat → Int) (k : Nat) : (rowTo n f g k).length = n := by simp [rowTo]
theorem rowTo_at (n : Nat) (f g : Nat → Int) (k i : Nat) (h : i < n) : (rowTo n f g k).getD i 0 = if i < k then f i else g i := by
  unfold rowTo
  rw [List.getD_eq_getElem?_getD, List.getElem?_map, List.getElem?_range h]
  rfl
theorem rowTo_set (n : Nat) (f g : Nat → Int) (k : Nat) : (rowTo n f g k).set k (f k) = rowTo n f g (k + 1) := by
  apply List.ext_getElem?
  intro i
  rw [List.getElem?_set, rowTo_length]
  by_cases hi : i < n
  · by_cases h : k = i
    · subst h
      rw [if_pos rfl, if_pos hi]
      unfold rowTo
      rw [List.getElem?_map, List.getElem?_range hi]
      simp
    · rw [if_neg h]
      unfold rowTo
      rw [List.getElem?_map, List.getElem?_map, List.getElem?_range hi]
      simp only [Option.map_some]
      congr 1
      by_cases h' : i < k
      · rw [if_pos h', if_pos (by omega)]
      · rw [if_neg h', if_neg (by omega)]
  · rw [List.getElem?_eq_none (by rw [rowTo_length]; omega), List.getElem?_eq_none (by rw [rowTo_length]; omega)]
    by_cases h : k = i
    · rw [if_pos h, if_neg (by omega)]
    · rw [if_neg h]
theorem rowTo_zero (l : List Int) (f : Nat → Int) : rowTo l.length f (fun i => l.getD i 0) 0 = l := by
  apply List.ext_getElem?
  intro i
  unfold rowTo
  rw [List.getElem?_map]
  by_cases hi : i < l.length
  · rw [List.getElem?_range hi, List.getElem?_eq_getElem hi]
    simp [hi]
  · rw [List.getElem?_eq_none (by simp; omega), List.getElem?_eq_none (by omega)]
    rfl
theorem rowTo_full (f g : Nat → Int) : rowTo 16 f g 16 = row16 f := by
  unfold rowTo row16
  apply List.map_congr_left
  intro i hi
  rw [if_pos (List.mem_range.1 hi)]
def z16 : List Int := List.replicate 16 0
theorem zero16 : #[Value.int IntKind.u8 0, Value.int IntKind.u8 0, Value.int IntKind.u8 0, Value.int IntKind.u8 0, Value.int IntKind.u8 0, Value.int IntKind.u8 0, Value.int IntKind.u8 0, Value.int IntKind.u8 0, Value.int IntKind.u8 0, Value.int IntKind.u8 0, Value.int IntKind.u8 0, Value.int IntKind.u8 0, Value.int IntKind.u8 0, Value.int IntKind.u8 0, Value.int IntKind.u8 0, Value.int IntKind.u8 0] = byV z16 := rfl
theorem infoState : (Try.prog.info? 103).map (·.size) = some 16 := by kernel_rfl
set_option maxRecDepth 100000 in
set_option maxHeartbeats 2000000 in
theorem aesWith_calls (s k : List Int) (w : World) (hs : s.length = 16) (hk : k.length = 16) :
    Calls Try.prog 84 #[.agg (byV s), .agg (byV k)] w fun e w' => e = .returned (.agg (byV (withK s k))) ∧ Below w.heap.size w w' := by
  go_enter Try.func84, Try.ntmps84
  go_wp2_with fail
  rw [zero16]
  have bs := ((Blk.new w 103 (byV s)).alloc (.cells (byV k) 103)).alloc (.cells (byV z16) 103)
  have bk := (Blk.new (w.alloc (.cells (byV s) 103)) 103 (byV k)).alloc (.cells (byV z16) 103)
  have br := Blk.new ((w.alloc (.cells (byV s) 103)).alloc (.cells (byV k) 103)) 103 (byV z16)
  have hbl : Below w.heap.size w (((w.alloc (.cells (byV s) 103)).alloc (.cells (byV k) 103)).alloc (.cells (byV z16) 103)) := (((Below.refl _ w).alloc (Nat.le_refl _) _).alloc (by simp) _).alloc (by simp; omega) _
  simp only [World.size_alloc] at bs bk br
  have h0 : (rowTo 16 (fun i => xr (s.getD i 0) (k.getD i 0)) (fun i => s.getD i 0) 0) = s := by
    have := rowTo_zero s fun i => xr (s.getD i 0) (k.getD i 0)
    rw [hs] at this
    exact this
  generalize (((w.alloc (.cells (byV s) 103)).alloc (.cells (byV k) 103)).alloc (.cells (byV z16) 103)) = W0 at bs bk br hbl ⊢
  go_loopw [6] (fun i wr => ∃ t : Nat, t ≤ 16 ∧ i = .int .i64 t ∧ Blk wr w.heap.size 103 (byV (rowTo 16 (fun i => xr (s.getD i 0) (k.getD i 0)) (fun i => s.getD i 0) t)) ∧ Blk wr (w.heap.size + 1) 103 (byV k) ∧ Blk wr (w.heap.size + 2) 103 (byV z16) ∧ Below w.heap.size w wr) (fun i _ => 16 - (intOf i).toNat)
  case atStart => exact ⟨0, by omega, rfl, by rw [h0]; exact bs, bk, br, hbl⟩
  case round =>
    clear bs bk br hbl
    obtain ⟨j, hj, rfl, bs, bk, br, hbl⟩ := hrel
    by_cases h16 : j < 16
    · have vx : (byV (rowTo 16 (fun i => xr (s.getD i 0) (k.getD i 0)) (fun i => s.getD i 0) j))[j]? = some (.int .u8 (s.getD j 0)) := by
        rw [byV_at _ _ (by rw [rowTo_length]; exact h16), rowTo_at _ _ _ _ _ h16, if_neg (by omega)]
      have vy : (byV k)[j]? = some (.int .u8 (k.getD j 0)) := byV_at _ _ (by omega)
      have gx : wr.cell? ⟨w.heap.size, j, none⟩ = some (.int .u8 (s.getD j 0)) := (bs.cell j).trans vx
      have gy : wr.cell? ⟨w.heap.size + 1, j, none⟩ = some (.int .u8 (k.getD j 0)) := (bk.cell j).trans vy
      have fx := bs.frozen j
      have j0 : (0 : Int) ≤ (j : Int) := by omega
      have j1 : (j : Int) < 16 := by omega
      have hset := bs.set_ j (.int .u8 (xr (s.getD j 0) (k.getD j 0)))
      rw [byV_set, rowTo_set 16 (fun i => xr (s.getD i 0) (k.getD i 0))] at hset
      have hv2 := bk.far (p := ⟨w.heap.size, j, none⟩) (by simp) (.int .u8 (xr (s.getD j 0) (k.getD j 0)))
      have hr2 := br.far (p := ⟨w.heap.size, j, none⟩) (by simp) (.int .u8 (xr (s.getD j 0) (k.getD j 0)))
      have hb2 := hbl.setCell (p := ⟨w.heap.size, j, none⟩) (by simp) (.int .u8 (xr (s.getD j 0) (k.getD j 0)))
      have HF := Lib.hid (And.intro hset (And.intro hv2 (And.intro hr2 hb2)))
      clear hset hv2 hr2 hb2 bs bk br hbl vx vy h0 hs hk
      unfold xr at HF
      generalize s.getD j 0 = x at gx HF
      generalize k.getD j 0 = y at gy HF
      go_wp2_with fail
      go_region
      go_wp2
      exact ⟨⟨j + 1, by omega, by go_num, HF.out.1, HF.out.2.1, HF.out.2.2.1, HF.out.2.2.2.drew⟩, by simp [intOf]; omega⟩
    · obtain rfl : j = 16 := by omega
      have hdj : decide (((16 : Nat) : Int) < 16) = false := by decide
      rw [rowTo_full] at bs
      go_wp2_with (first
        | (refine wpList_load_row rfl 103 (.tmp 2) rfl w.heap.size rfl 103 _ (0, 0) _ bs Try.underlying103 rfl (by rw [byV_size, row16_length]; exact infoState) ?_)
        | (refine wpList_store_row rfl 103 (.tmp 4) (.tmp 18) rfl (w.heap.size + 2) _ rfl rfl 103 _ br (by rw [byV_size, row16_length]; exact infoState) (by rw [byV_size, byV_size, row16_length]; rfl) (by simp [byV, Value.oneCell']) ?_))
      exact bodyPost_ret (results_cell_row rfl _ _ (w.heap.size + 2) 103 (byV (withK s k)) (0, 0) _ rfl (setRow_heap wr (w.heap.size + 2) _ _ _ _ br) Try.underlying103 rfl (by rw [byV_size, withK, row16_length]; exact infoState)) rfl ⟨rfl, hbl.trans (Iter.below_setRow _ (by omega))⟩
end Go.Proofs.Ytifpdpfjhjoieaa

/-! AesC -/
namespace Go.Proofs.Ytifpdpfjhjoieaa
set_option linter.unusedVariables false
set_option linter.unusedSimpArgs false
open Go.RowKit Go.Shelf Iter
attribute [local go_sem] Oper.semAt_some
theorem byte_getD (l : List Int) (h : byteOk l = true) (i : Nat) : 0 ≤ l.getD i 0 ∧ l.getD i 0 < 256 := by
  rw [List.getD_eq_getElem?_getD]
  cases hi : l[i]? with
  | none => exact ⟨Int.le_refl 0, by decide⟩
  | some x =>
    have := List.all_eq_true.1 h x (List.mem_of_getElem? hi)
    simp only [Bool.and_eq_true, decide_eq_true_eq] at this
    exact this
theorem byteOk_row16 (f : Nat → Int) (h : ∀ i, 0 ≤ f i ∧ f i < 256) : byteOk (row16 f) = true := by
  unfold byteOk row16
  rw [List.all_eq_true]
  intro x hx
  obtain ⟨i, -, rfl⟩ := List.mem_map.1 hx
  simp only [Bool.and_eq_true, decide_eq_true_eq]
  exact h i
theorem byteOk_withK (s k : List Int) : byteOk (withK s k) = true := byteOk_row16 _ fun i => ⟨xr_ge _ _, xr_lt _ _⟩
theorem byteOk_shiftedS (s : List Int) : byteOk (shiftedS s) = true := byteOk_row16 _ fun i => bx_wf _
theorem box_at (x : Int) (h0 : 0 ≤ x) (h1 : x < 256) : (byV boxT)[x.toNat]? = some (.int .u8 (bx x)) := byV_at _ _ (by rw [boxT_length]; omega)
theorem z16_row (f : Nat → Int) : rowTo 16 f (fun _ => 0) 0 = z16 := rfl
set_option maxRecDepth 100000 in
set_option maxHeartbeats 400000 in
theorem shifted_calls (s : List Int) (gk : Nat) (w : World) (hs : s.length = 16) (ho : byteOk s = true) (hk : Blk w gk 123 (byV boxT)) :
    Calls Try.prog 85 #[.agg (byV s), .pointer (some ⟨gk, 0, none⟩)] w fun e w' => e = .returned (.agg (byV (shiftedS s))) ∧ Below w.heap.size w w' := by
  have hgk := hk.lt
  go_enter Try.func85, Try.ntmps85
  go_wp2_with fail
  rw [zero16]
  have bs := ((Blk.new w 103 (byV s)).alloc (.cells (byV z16) 103)).alloc (.cells (byV z16) 103)
  have br := (Blk.new (w.alloc (.cells (byV s) 103)) 103 (byV z16)).alloc (.cells (byV z16) 103)
  have bo := Blk.new ((w.alloc (.cells (byV s) 103)).alloc (.cells (byV z16) 103)) 103 (byV z16)
  have hbl : Below w.heap.size w (((w.alloc (.cells (byV s) 103)).alloc (.cells (byV z16) 103)).alloc (.cells (byV z16) 103)) := (((Below.refl _ w).alloc (Nat.le_refl _) _).alloc (by simp) _).alloc (by simp; omega) _
  simp only [World.size_alloc] at bs br bo
  have bk := hk.below hbl hgk
  generalize (((w.alloc (.cells (byV s) 103)).alloc (.cells (byV z16) 103)).alloc (.cells (byV z16) 103)) = W0 at bs br bo hbl bk ⊢
  go_loopw [7] (fun i wr => ∃ t : Nat, t ≤ 16 ∧ i = .int .i64 t ∧ Blk wr w.heap.size 103 (byV s) ∧ Blk wr (w.heap.size + 1) 103 (byV z16) ∧ Blk wr (w.heap.size + 2) 103 (byV (rowTo 16 (fun i => bx (s.getD ((i + 4 * (i % 4)) % 16) 0)) (fun _ => 0) t)) ∧ Blk wr gk 123 (byV boxT) ∧ Below w.heap.size w wr) (fun i _ => 16 - (intOf i).toNat)
  case atStart => exact ⟨0, by omega, rfl, bs, br, by rw [z16_row]; exact bo, bk, hbl⟩
  case round =>
    clear bs br bo bk hbl hk
    obtain ⟨j, hj, rfl, bs, br, bo, bk, hbl⟩ := hrel
    by_cases h16 : j < 16
    · obtain ⟨p, hp⟩ : ∃ p, (j + 4 * (j % 4)) % 16 = p := ⟨_, rfl⟩
      have hp16 : p < 16 := by omega
      obtain ⟨q, hq⟩ : ∃ q, j % 4 = q := ⟨_, rfl⟩
      have vx : (byV s)[p]? = some (.int .u8 (s.getD p 0)) := byV_at _ _ (by omega)
      obtain ⟨x0, x1⟩ := byte_getD s ho p
      have hset := bo.set_ j (.int .u8 (bx (s.getD p 0)))
      rw [byV_set] at hset
      have hn := rowTo_set 16 (fun i => bx (s.getD ((i + 4 * (i % 4)) % 16) 0)) (fun _ => 0) j
      rw [hp] at hn
      rw [hn] at hset
      clear hn
      have gx : wr.cell? ⟨w.heap.size, p, none⟩ = some (.int .u8 (s.getD p 0)) := (bs.cell p).trans vx
      have gb : wr.cell? ⟨gk, (s.getD p 0).toNat, none⟩ = some (.int .u8 (bx (s.getD p 0))) := (bk.cell _).trans (box_at _ x0 x1)
      generalize s.getD p 0 = x at *
      generalize bx x = y at *
      have fx : wr.frozen? ⟨w.heap.size + 1 + 1, j, none⟩ = false := bo.frozen j
      have go1 : wr.cell? ⟨w.heap.size + 1 + 1, j, none⟩ = some (.int .u8 0) := by
        refine (bo.cell j).trans ?_
        rw [byV_at _ _ (by rw [rowTo_length]; exact h16), rowTo_at _ _ _ _ _ h16, if_neg (by omega)]
      have hv2 := bs.far (p := ⟨w.heap.size + 2, j, none⟩) (by simp) (.int .u8 y)
      have hr2 := br.far (p := ⟨w.heap.size + 2, j, none⟩) (by simp) (.int .u8 y)
      have hk2 := bk.far (p := ⟨w.heap.size + 2, j, none⟩) (by simp; omega) (.int .u8 y)
      have hb2 := hbl.setCell (p := ⟨w.heap.size + 2, j, none⟩) (by simp) (.int .u8 y)
      have HF := Lib.hid (And.intro hv2 (And.intro hr2 (And.intro hset (And.intro hk2 hb2))))
      clear hset hv2 hr2 hk2 hb2 bs br bo bk hbl vx
      have j0 : (0 : Int) ≤ (j : Int) := by omega
      have j1 : (j : Int) < 16 := by omega
      have q0 : Int.tmod (j : Int) 4 = (q : Int) := by rw [← hq]; rfl
      have q1 : IntKind.i64.wrap (4 * (q : Int)) = 4 * (q : Int) := by rw [IntKind.wrap_i64]; omega
      have q1' : wrap64 (4 * (q : Int)) = 4 * (q : Int) := by unfold wrap64; omega
      obtain ⟨m, hm⟩ : ∃ m, j + 4 * q = m := ⟨_, rfl⟩
      have q2 : IntKind.i64.wrap ((j : Int) + 4 * (q : Int)) = (m : Int) := by rw [IntKind.wrap_i64]; omega
      have q2' : wrap64 ((j : Int) + 4 * (q : Int)) = (m : Int) := by unfold wrap64; omega
      have q3 : Int.tmod (m : Int) 16 = (p : Int) := by rw [← hp, ← hm, ← hq]; rfl
      have p0 : (0 : Int) ≤ (p : Int) := by omega
      have p1 : (p : Int) < 16 := by omega
      clear hp hq hm hj
      go_wp2_with fail
      go_region
      clear q0 q1 q1' q2 q2' q3
      go_wp2
      exact ⟨⟨j + 1, by omega, by go_num, HF.out.1, HF.out.2.1, HF.out.2.2.1, HF.out.2.2.2.1, HF.out.2.2.2.2.drew⟩, by simp [intOf]; omega⟩
    · obtain rfl : j = 16 := by omega
      have hdj : decide (((16 : Nat) : Int) < 16) = false := by decide
      rw [rowTo_full] at bo
      go_wp2_with (first
        | (refine wpList_load_row rfl 103 (.tmp 5) rfl (w.heap.size + 2) rfl 103 _ (0, 0) _ bo Try.underlying103 rfl (by rw [byV_size, row16_length]; exact infoState) ?_)
        | (refine wpList_store_row rfl 103 (.tmp 4) (.tmp 25) rfl (w.heap.size + 1) _ rfl rfl 103 _ br (by rw [byV_size, row16_length]; exact infoState) (by rw [byV_size, byV_size, row16_length]; rfl) (by simp [byV, Value.oneCell']) ?_))
      exact bodyPost_ret (results_cell_row rfl _ _ (w.heap.size + 1) 103 (byV (shiftedS s)) (0, 0) _ rfl (setRow_heap wr (w.heap.size + 1) _ _ _ _ br) Try.underlying103 rfl (by rw [byV_size, shiftedS, row16_length]; exact infoState)) rfl ⟨rfl, hbl.trans (Iter.below_setRow _ (by omega))⟩
end Go.Proofs.Ytifpdpfjhjoieaa

/-! AesA -/
namespace Go.Proofs.Ytifpdpfjhjoieaa
set_option linter.unusedVariables false
set_option linter.unusedSimpArgs false
open Go.RowKit Go.Proofs.YtifpdpfjhjoieaaW.PrintWords Go.Proofs.YtifpdpfjhjoieaaW.PrintLast
theorem byte_all (p : Int → Bool) (h : ((List.range 256).all fun n => p (n : Int)) = true) (a : Int) (h0 : 0 ≤ a) (h1 : a < 256) : p a = true := by
  obtain ⟨n, rfl⟩ := Int.eq_ofNat_of_zero_le h0
  exact List.all_eq_true.1 h n (List.mem_range.2 (by omega))
theorem aes_mul2 (a : Int) (h0 : 0 ≤ a) (h1 : a < 256) : A.aes_Mul.f 10 a 2 = some (m2 a) :=
  eq_of_beq (byte_all (fun a => A.aes_Mul.f 10 a 2 == some (m2 a)) (by decide +kernel) a h0 h1)
theorem aes_mul3 (a : Int) (h0 : 0 ≤ a) (h1 : a < 256) : A.aes_Mul.f 10 a 3 = some (m3 a) :=
  eq_of_beq (byte_all (fun a => A.aes_Mul.f 10 a 3 == some (m3 a)) (by decide +kernel) a h0 h1)
theorem aes_box (a : Int) (h0 : 0 ≤ a) (h1 : a < 256) : A.aes_Box.f 40 a = some (bx a) :=
  eq_of_beq (byte_all (fun a => A.aes_Box.f 40 a == some (bx a)) (by decide +kernel) a h0 h1)
end Go.Proofs.Ytifpdpfjhjoieaa

/-! AesE -/
namespace Go.Proofs.Ytifpdpfjhjoieaa
set_option linter.unusedVariables false
set_option linter.unusedSimpArgs false
open Go.RowKit Go.Shelf Iter
attribute [local go_sem] Oper.semAt_some
theorem w64_add (a b c : Nat) (h : a + b = c) (hc : c < 1000000) : wrap64 ((a : Int) + (b : Int)) = (c : Int) := by unfold wrap64; omega
theorem i64_add (a b c : Nat) (h : a + b = c) (hc : c < 1000000) : IntKind.i64.wrap ((a : Int) + (b : Int)) = (c : Int) := by rw [IntKind.wrap_i64]; omega
set_option maxRecDepth 100000 in
set_option maxHeartbeats 400000 in
theorem mixAt_calls (n : Nat) (m : Int) (hm : m = (n : Int)) (hn : n < 4) (gs gc gi c i p : Nat) (s : List Int) (w : World) (hs : s.length = 16) (hi : i < 16) (hc : c + 3 < 16) (hp : c + (i + n) % 4 = p)
    (bs : Blk w gs 103 (byV s)) (hci : w.cell? ⟨gi, 0, none⟩ = some (.int .i64 (i : Int))) (hcc : w.cell? ⟨gc, 0, none⟩ = some (.int .i64 (c : Int))) :
    Calls Try.prog 98 #[.int .i64 m, .pointer (some ⟨gs, 0, none⟩), .pointer (some ⟨gc, 0, none⟩), .pointer (some ⟨gi, 0, none⟩)] w fun e w' => e = .returned (.int .u8 (s.getD p 0)) ∧ w = w' := by
  subst m
  have hp16 : p < 16 := by omega
  have gx : w.cell? ⟨gs, p, none⟩ = some (.int .u8 (s.getD p 0)) := (bs.cell p).trans (byV_at _ _ (by omega))
  generalize s.getD p 0 = x at gx ⊢
  obtain ⟨q, hq⟩ : ∃ q, i + n = q := ⟨_, rfl⟩
  obtain ⟨r, hr⟩ : ∃ r, q % 4 = r := ⟨_, rfl⟩
  have e1 : q < 1000000 := by omega
  have e2 : c + r = p := by omega
  have e3 : p < 1000000 := by omega
  have p0 : (0 : Int) ≤ (p : Int) := by omega
  have p1 : (p : Int) < 16 := by omega
  have q1 := w64_add i n q hq e1
  have q1' := i64_add i n q hq e1
  have q3 := w64_add c r p e2 e3
  have q3' := i64_add c r p e2 e3
  have q2 : Int.tmod (q : Int) 4 = (r : Int) := by rw [← hr]; rfl
  clear hq hr hp hi hc hn bs hs hp16 e1 e2 e3
  go_enter Try.func98, Try.ntmps98
  go_wp2
  go_ret
  exact ⟨rfl, rfl⟩
theorem w64_mul4 (a b : Nat) (h : a * 4 = b) (hc : b < 1000000) : wrap64 ((a : Int) * 4) = (b : Int) := by unfold wrap64; omega
theorem i64_mul4 (a b : Nat) (h : a * 4 = b) (hc : b < 1000000) : IntKind.i64.wrap ((a : Int) * 4) = (b : Int) := by rw [IntKind.wrap_i64]; omega
theorem tdiv4 (a b : Nat) (h : a / 4 = b) : Int.tdiv (a : Int) 4 = (b : Int) := by rw [← h]; rfl
theorem cell_heap {W V : World} (h : W.heap = V.heap) (a : Addr) : W.cell? a = V.cell? a := by unfold World.cell?; rw [h]
def mixF (s : List Int) (i : Nat) : Int := xr (xr (xr (m2 (s.getD (i / 4 * 4 + i % 4) 0)) (m3 (s.getD (i / 4 * 4 + (i + 1) % 4) 0))) (s.getD (i / 4 * 4 + (i + 2) % 4) 0)) (s.getD (i / 4 * 4 + (i + 3) % 4) 0)
set_option maxRecDepth 100000 in
set_option maxHeartbeats 400000 in
theorem aesMixed_calls (s : List Int) (w : World) (hs : s.length = 16) (ho : byteOk s = true) :
    Calls Try.prog 86 #[.agg (byV s)] w fun e w' => e = .returned (.agg (byV (mixedS s))) ∧ Below w.heap.size w w' := by
  go_enter Try.func86, Try.ntmps86
  have b0 := Blk.new w 103 (byV s)
  have hs := Lib.hid hs
  have ih := Lib.hid (show (Try.prog.info? 103).map (·.size) = some (byV s).size by rw [byV_size, hs.out]; exact infoState)
  have ih2 := Lib.hid (show (byV z16).size = (byV s).size by rw [byV_size, byV_size, hs.out]; rfl)
  have ih3 := Lib.hid (show (byV s).all (·.oneCell') = true by simp [byV, Value.oneCell'])
  have b3 := Blk.new ((w.alloc (.cells (byV s) 103)).alloc (.cells (byV z16) 103)) 103 (byV z16)
  simp only [World.size_alloc] at b3
  have B3 := Lib.hid b3
  clear b3
  go_wp2_with (first
    | (refine wpList_load_row rfl 103 (.tmp 1) rfl w.heap.size rfl 103 _ (0, 0) _ (b0.alloc _) Try.underlying103 rfl ih.out ?_)
    | (refine wpList_store_row rfl 103 (.tmp 3) (.tmp 7) rfl (w.heap.size + 1 + 1) _ rfl rfl 103 (byV z16) B3.out ih.out ih2.out ih3.out ?_))
  have bs : Blk (((w.alloc (.cells (byV s) 103)).alloc (.cells (byV z16) 103)).alloc (.cells (byV z16) 103)) w.heap.size 103 (byV s) := ((Blk.new w 103 (byV s)).alloc (.cells (byV z16) 103)).alloc (.cells (byV z16) 103)
  have br := (Blk.new (w.alloc (.cells (byV s) 103)) 103 (byV z16)).alloc (.cells (byV z16) 103)
  have hbl : Below w.heap.size w (((w.alloc (.cells (byV s) 103)).alloc (.cells (byV z16) 103)).alloc (.cells (byV z16) 103)) := (((Below.refl _ w).alloc (Nat.le_refl _) _).alloc (by simp) _).alloc (by simp; omega) _
  simp only [World.size_alloc] at br
  have bs := bs.farRow (g' := w.heap.size + 1 + 1) (by omega) (byV s)
  have br := br.farRow (g' := w.heap.size + 1 + 1) (by omega) (byV s)
  have bo := Blk.setRow_ B3.out (byV s)
  have hbl := hbl.trans (Iter.below_setRow (g := w.heap.size + 1 + 1) (byV s) (by omega))
  rw [zero16]
  generalize ((((w.alloc (.cells (byV s) 103)).alloc (.cells (byV z16) 103)).alloc (.cells (byV z16) 103)).setRow (w.heap.size + 1 + 1) (byV s)) = W0 at bs br bo hbl ⊢
  clear b0 B3 ih2 ih3
  have h0 : (rowTo 16 (mixF s) (fun i => s.getD i 0) 0) = s := by
    have := rowTo_zero s (mixF s)
    rw [hs.out] at this
    exact this
  have r0 := Lib.hid h0
  clear h0
  go_loopw [8] (fun i wr => ∃ t : Nat, t ≤ 16 ∧ i = .int .i64 t ∧ Blk wr w.heap.size 103 (byV s) ∧ Blk wr (w.heap.size + 1) 103 (byV z16) ∧ Blk wr (w.heap.size + 1 + 1) 103 (byV (rowTo 16 (mixF s) (fun i => s.getD i 0) t)) ∧ Below w.heap.size w wr) (fun i _ => 16 - (intOf i).toNat)
  case atStart => exact ⟨0, by omega, rfl, bs, br, by rw [r0.out]; exact bo, hbl⟩
  case round =>
    clear bs br bo hbl r0
    obtain ⟨j, hj, rfl, bs, br, bo, hbl⟩ := hrel
    by_cases h16 : j < 16
    · obtain ⟨d, hd⟩ : ∃ d, j / 4 = d := ⟨_, rfl⟩
      obtain ⟨c, hc⟩ : ∃ c, d * 4 = c := ⟨_, rfl⟩
      have HB := Lib.hid (And.intro bs (And.intro br (And.intro bo hbl)))
      clear bs br bo hbl
      have j0 : (0 : Int) ≤ (j : Int) := by omega
      have j1 : (j : Int) < 16 := by omega
      have d0 := tdiv4 j d hd
      have d1 := w64_mul4 d c hc (by omega)
      have d2 := i64_mul4 d c hc (by omega)
      go_wp2_with fail
      have HW := Lib.hid (show wr.heap.size < ((wr.alloc (Obj.cells #[Value.int IntKind.i64 (j : Int)] 3)).alloc (Obj.cells #[Value.int IntKind.i64 (c : Int)] 3)).heap.size by simp; omega)
      have bi := (Blk.new wr 3 #[Value.int IntKind.i64 (j : Int)]).alloc (Obj.cells #[Value.int IntKind.i64 (c : Int)] 3)
      have bc := Blk.new (wr.alloc (Obj.cells #[Value.int IntKind.i64 (j : Int)] 3)) 3 #[Value.int IntKind.i64 (c : Int)]
      simp only [World.size_alloc] at bc
      have bs1 := (HB.out.1.alloc (Obj.cells #[Value.int IntKind.i64 (j : Int)] 3)).alloc (Obj.cells #[Value.int IntKind.i64 (c : Int)] 3)
      have br1 := (HB.out.2.1.alloc (Obj.cells #[Value.int IntKind.i64 (j : Int)] 3)).alloc (Obj.cells #[Value.int IntKind.i64 (c : Int)] 3)
      have bo1 := (HB.out.2.2.1.alloc (Obj.cells #[Value.int IntKind.i64 (j : Int)] 3)).alloc (Obj.cells #[Value.int IntKind.i64 (c : Int)] 3)
      have hb1 := (HB.out.2.2.2.alloc HB.out.2.2.2.size (Obj.cells #[Value.int IntKind.i64 (j : Int)] 3)).alloc (by have := HB.out.2.2.2.size; simp; omega) (Obj.cells #[Value.int IntKind.i64 (c : Int)] 3)
      generalize ((wr.alloc (Obj.cells #[Value.int IntKind.i64 (j : Int)] 3)).alloc (Obj.cells #[Value.int IntKind.i64 (c : Int)] 3)) = W1 at *
      have gi : W1.cell? ⟨wr.heap.size, 0, none⟩ = some (.int .i64 (j : Int)) := bi.cell 0
      have gc : W1.cell? ⟨wr.heap.size + 1, 0, none⟩ = some (.int .i64 (c : Int)) := bc.cell 0
      have go1 : W1.cell? ⟨w.heap.size + 1 + 1, j, none⟩ = some (.int .u8 (s.getD j 0)) := by
        refine (bo1.cell j).trans ?_
        rw [byV_at _ _ (by rw [rowTo_length]; exact h16), rowTo_at _ _ _ _ _ h16, if_neg (by omega)]
      have ne1 : (⟨w.heap.size + 1 + 1, j, none⟩ : Addr) ≠ ⟨wr.heap.size, 0, none⟩ := by
        have := HB.out.2.2.1.lt
        intro h
        injection h with h1
        omega
      have fo1 : W1.frozen? ⟨w.heap.size + 1 + 1, j, none⟩ = false := bo1.frozen j
      obtain ⟨p0, hp0⟩ : ∃ p, c + (j + 0) % 4 = p := ⟨_, rfl⟩
      obtain ⟨p1, hp1⟩ : ∃ p, c + (j + 1) % 4 = p := ⟨_, rfl⟩
      obtain ⟨p2, hp2⟩ : ∃ p, c + (j + 2) % 4 = p := ⟨_, rfl⟩
      obtain ⟨p3, hp3⟩ : ∃ p, c + (j + 3) % 4 = p := ⟨_, rfl⟩
      have hc3 : c + 3 < 16 := by omega
      have a0 : ∀ W : World, W.heap = W1.heap → Calls Try.prog 98 #[.int .i64 0, .pointer (some ⟨w.heap.size, 0, none⟩), .pointer (some ⟨wr.heap.size + 1, 0, none⟩), .pointer (some ⟨wr.heap.size, 0, none⟩)] W fun e w' => e = .returned (.int .u8 (s.getD p0 0)) ∧ W = w' := fun W hW => mixAt_calls 0 0 rfl (by omega) w.heap.size (wr.heap.size + 1) wr.heap.size c j p0 s W hs.out h16 hc3 hp0 (by unfold Blk; rw [hW]; exact bs1) (by rw [cell_heap hW]; exact gi) (by rw [cell_heap hW]; exact gc)
      have a1 : ∀ W : World, W.heap = W1.heap → Calls Try.prog 98 #[.int .i64 1, .pointer (some ⟨w.heap.size, 0, none⟩), .pointer (some ⟨wr.heap.size + 1, 0, none⟩), .pointer (some ⟨wr.heap.size, 0, none⟩)] W fun e w' => e = .returned (.int .u8 (s.getD p1 0)) ∧ W = w' := fun W hW => mixAt_calls 1 1 rfl (by omega) w.heap.size (wr.heap.size + 1) wr.heap.size c j p1 s W hs.out h16 hc3 hp1 (by unfold Blk; rw [hW]; exact bs1) (by rw [cell_heap hW]; exact gi) (by rw [cell_heap hW]; exact gc)
      have a2 : ∀ W : World, W.heap = W1.heap → Calls Try.prog 98 #[.int .i64 2, .pointer (some ⟨w.heap.size, 0, none⟩), .pointer (some ⟨wr.heap.size + 1, 0, none⟩), .pointer (some ⟨wr.heap.size, 0, none⟩)] W fun e w' => e = .returned (.int .u8 (s.getD p2 0)) ∧ W = w' := fun W hW => mixAt_calls 2 2 rfl (by omega) w.heap.size (wr.heap.size + 1) wr.heap.size c j p2 s W hs.out h16 hc3 hp2 (by unfold Blk; rw [hW]; exact bs1) (by rw [cell_heap hW]; exact gi) (by rw [cell_heap hW]; exact gc)
      have a3 : ∀ W : World, W.heap = W1.heap → Calls Try.prog 98 #[.int .i64 3, .pointer (some ⟨w.heap.size, 0, none⟩), .pointer (some ⟨wr.heap.size + 1, 0, none⟩), .pointer (some ⟨wr.heap.size, 0, none⟩)] W fun e w' => e = .returned (.int .u8 (s.getD p3 0)) ∧ W = w' := fun W hW => mixAt_calls 3 3 rfl (by omega) w.heap.size (wr.heap.size + 1) wr.heap.size c j p3 s W hs.out h16 hc3 hp3 (by unfold Blk; rw [hW]; exact bs1) (by rw [cell_heap hW]; exact gi) (by rw [cell_heap hW]; exact gc)
      have x0 := aes_mul2 _ (byte_getD s ho p0).1 (byte_getD s ho p0).2
      have x1 := aes_mul3 _ (byte_getD s ho p1).1 (byte_getD s ho p1).2
      have hset := bo1.set_ j (.int .u8 (xr (xr (xr (m2 (s.getD p0 0)) (m3 (s.getD p1 0))) (s.getD p2 0)) (s.getD p3 0)))
      rw [byV_set] at hset
      have hn := rowTo_set 16 (mixF s) (fun i => s.getD i 0) j
      rw [show mixF s j = xr (xr (xr (m2 (s.getD p0 0)) (m3 (s.getD p1 0))) (s.getD p2 0)) (s.getD p3 0) from by unfold mixF; rw [hd, hc, hp1, hp2, hp3, ← hp0]; rfl] at hn
      rw [hn] at hset
      clear hn
      have hs2 := bs1.far (p := ⟨w.heap.size + 2, j, none⟩) (by simp) (.int .u8 (xr (xr (xr (m2 (s.getD p0 0)) (m3 (s.getD p1 0))) (s.getD p2 0)) (s.getD p3 0)))
      have hr2 := br1.far (p := ⟨w.heap.size + 2, j, none⟩) (by simp) (.int .u8 (xr (xr (xr (m2 (s.getD p0 0)) (m3 (s.getD p1 0))) (s.getD p2 0)) (s.getD p3 0)))
      have hb2 := fun n => (Go.Proofs.YtifpdpfjhjoieaaW.PrintWords.pw_below_drewN hb1 n).setCell (p := ⟨w.heap.size + 2, j, none⟩) (by simp) (.int .u8 (xr (xr (xr (m2 (s.getD p0 0)) (m3 (s.getD p1 0))) (s.getD p2 0)) (s.getD p3 0)))
      have HF := Lib.hid (And.intro hs2 (And.intro hr2 (And.intro hset hb2)))
      have HA := Lib.hid (And.intro a0 (And.intro a1 (And.intro a2 a3)))
      have HX := Lib.hid (And.intro x0 x1)
      clear hset hs2 hr2 hb2 a0 a1 a2 a3 x0 x1 hp0 hp1 hp2 hp3 hc3 hd hc d0 d1 d2 bi bc br1 bo1 hb1 HB HW bs1
      generalize s.getD p0 0 = y0 at *
      generalize s.getD p1 0 = y1 at *
      generalize s.getD p2 0 = y2 at *
      generalize s.getD p3 0 = y3 at *
      generalize m2 y0 = z0 at *
      generalize m3 y1 = z1 at *
      unfold xr at HF
      go_region_held3 (fun w' => w'.cell? ⟨wr.heap.size, 0, none⟩ = some (.int .i64 (j : Int))) (first | go_keep | (rw [World.cell?_setCell_other _ _ _ _ ne1]; exact gi))
        (first
          | (go_at_call 98; first
            | ((with_reducible refine (HA.out.1 _ ?hw0).mono ?_); (case hw0 => rfl); rintro e w' ⟨rfl, rfl⟩)
            | ((with_reducible refine (HA.out.2.1 _ ?hw1).mono ?_); (case hw1 => rfl); rintro e w' ⟨rfl, rfl⟩)
            | ((with_reducible refine (HA.out.2.2.1 _ ?hw2).mono ?_); (case hw2 => rfl); rintro e w' ⟨rfl, rfl⟩)
            | ((with_reducible refine (HA.out.2.2.2 _ ?hw3).mono ?_); (case hw3 => rfl); rintro e w' ⟨rfl, rfl⟩))
          | (go_at_call 83; first
            | ((with_reducible refine (A.aes_Mul.calls 10 _ _ _ _ HX.out.1).mono ?_); rintro e w' ⟨rfl, hd⟩; obtain ⟨n1, rfl⟩ := hd.out)
            | ((with_reducible refine (A.aes_Mul.calls 10 _ _ _ _ HX.out.2).mono ?_); rintro e w' ⟨rfl, hd⟩; obtain ⟨n2, rfl⟩ := hd.out)))
      go_wp2
      exact ⟨⟨j + 1, by omega, by go_num, HF.out.1, HF.out.2.1, HF.out.2.2.1, HF.out.2.2.2 _⟩, by simp [intOf]; omega⟩
    · obtain rfl : j = 16 := by omega
      have hdj : decide (((16 : Nat) : Int) < 16) = false := by decide
      rw [rowTo_full] at bo
      go_wp2_with (first
        | (refine wpList_load_row rfl 103 (.tmp 3) rfl (w.heap.size + 1 + 1) rfl 103 _ (0, 0) _ bo Try.underlying103 rfl (by rw [byV_size, row16_length]; exact infoState) ?_)
        | (refine wpList_store_row rfl 103 (.tmp 2) (.tmp 31) rfl (w.heap.size + 1) _ rfl rfl 103 _ br (by rw [byV_size, row16_length]; exact infoState) (by rw [byV_size, byV_size, row16_length]; rfl) (by simp [byV, Value.oneCell']) ?_))
      exact bodyPost_ret (results_cell_row rfl _ _ (w.heap.size + 1) 103 (byV (mixedS s)) (0, 0) _ rfl (setRow_heap wr (w.heap.size + 1) _ _ _ _ br) Try.underlying103 rfl (by rw [byV_size, mixedS, row16_length]; exact infoState)) rfl ⟨rfl, hbl.trans (Iter.below_setRow _ (by omega))⟩
end Go.Proofs.Ytifpdpfjhjoieaa

/-! AesF -/
namespace Go.Proofs.Ytifpdpfjhjoieaa
set_option linter.unusedVariables false
set_option linter.unusedSimpArgs false
open Go.RowKit Go.Shelf Iter Go.Proofs.YtifpdpfjhjoieaaW.PrintWords
attribute [local go_sem] Oper.semAt_some
theorem byte_cell {w : World} {Ak : Option Addr} {n : Nat} (l : List Int) (hn : 0 < n) (hk : Kd.C (Kd.int .u8) w Ak n l) : ∃ ak, Ak = some ak ∧ ∀ t, t < n → w.cell? (ak.add t) = some (.int .u8 (l.getD t 0)) := by
  obtain ⟨h1, _, h3⟩ := Kd.reads_of_C (enc := Value.int .u8) (d := (0 : Int)) (h1 := fun _ => rfl) hk
  obtain ⟨ak, e, hc⟩ := h3 (by omega)
  exact ⟨ak, e, fun t ht => hc t ht⟩
def z176 : List Int := List.replicate 176 0
set_option maxRecDepth 100000 in
theorem zero176 : Try.zeroCells104 = byV z176 := by kernel_rfl
theorem infoKeys : (Try.prog.info? 104).map (·.size) = some 176 := by kernel_rfl
theorem info_u8s : (Try.prog.info? 5).map (·.size) = some 1 := by kernel_rfl
/-- Cells of bytes. -/
def valsB (l : List Int) : List Value := l.map fun (x : Int) => Value.int .u8 x
theorem byV_vals (l : List Int) : byV l = (valsB l).toArray := rfl
theorem valsB_length (l : List Int) : (valsB l).length = l.length := by simp [valsB]
theorem valsB_one (l : List Int) : ∀ v ∈ valsB l, v.oneCell' = true := by
  intro v hv
  obtain ⟨x, -, rfl⟩ := List.mem_map.1 hv
  rfl
theorem valsB_at (l : List Int) (j : Nat) (v : Value) (h : (valsB l)[j]? = some v) : j < l.length ∧ v = .int .u8 (l.getD j 0) := by
  unfold valsB at h
  rw [List.getElem?_map] at h
  obtain ⟨x, hx, rfl⟩ := Option.map_eq_some_iff.1 h
  have := (List.getElem?_eq_some_iff.1 hx)
  refine ⟨this.1, ?_⟩
  rw [List.getD_eq_getElem?_getD, hx]
  rfl
theorem splice_valsB (z k : List Int) (off : Nat) : splice (valsB z) off (valsB k) = valsB (z.take off ++ (k ++ z.drop (off + k.length))) := by
  unfold splice valsB
  rw [List.length_map, List.map_append, List.map_append, List.map_take, List.map_drop]
theorem keys_first (key : List Int) (h : key.length = 16) : z176.take 0 ++ (key ++ z176.drop (0 + key.length)) = rowTo 176 (keyF key) (fun _ => 0) (16 * 1) := by
  rw [List.take_zero, List.nil_append]
  apply List.ext_getElem?
  intro i
  unfold rowTo z176
  rw [List.getElem?_map, List.getElem?_append, h]
  by_cases h1 : i < 16
  · rw [if_pos h1, List.getElem?_range (by omega), List.getElem?_eq_getElem (by omega)]
    simp only [Option.map_some]
    rw [if_pos (by omega)]
    have := keyF_at key 0 i h1
    rw [Nat.mul_zero, Nat.zero_add] at this
    rw [this]
    simp [keyT, h, h1]
  · rw [if_neg h1]
    by_cases h2 : i < 176
    · rw [List.getElem?_range h2]
      simp only [Option.map_some]
      rw [if_neg (by omega), List.getElem?_drop, List.getElem?_replicate, if_pos (by omega)]
    · rw [List.getElem?_eq_none (by simp; omega), List.getElem?_eq_none (by simp; omega)]
      rfl
theorem keys_last (key : List Int) : rowTo 176 (keyF key) (fun _ => 0) (16 * 11) = keysV key := by
  unfold rowTo keysV
  apply List.map_congr_left
  intro i hi
  rw [if_pos (List.mem_range.1 hi)]
theorem byteOk_keyT (key : List Int) (h : byteOk key = true) (n : Nat) : byteOk (keyT key n) = true := by
  cases n with
  | zero => exact h
  | succ n => exact byteOk_row16 _ fun i => keyB_wf _ _ _
theorem range_of {w : World} {g : Nat} {t : TypeId} {l : List Int} (h : Blk w g t (byV l)) (o : Nat) (k : List Int) (hl : o + k.length ≤ l.length) (hk : ∀ j, j < k.length → l.getD (o + j) 0 = k.getD j 0) : w.rangeAt g o (valsB k) := by
  intro j v hj
  obtain ⟨hj', rfl⟩ := valsB_at k j v hj
  rw [h.cell, byV_at _ _ (by omega), hk j hj']
theorem keys_range {w : World} {g : Nat} {ty : TypeId} (key : List Int) (h16 : key.length = 16) (n t : Nat) (hn : n ≤ 11) (ht : t + 1 = n) (h : Blk w g ty (byV (rowTo 176 (keyF key) (fun _ => 0) (16 * n)))) : w.rangeAt g (t * 16) (valsB (keyT key t)) := by
  have hl := keyT_length key h16 t
  refine range_of h _ _ (by rw [rowTo_length, hl]; omega) fun j hj => ?_
  rw [hl] at hj
  rw [rowTo_at _ _ _ _ _ (by omega), if_pos (by omega), Nat.mul_comm t 16, keyF_at _ _ _ hj]
set_option maxRecDepth 100000 in
set_option maxHeartbeats 400000 in
theorem aesKeys_calls (A0 : Option Addr) (c0 : Nat) (key : List Int) (gk : Nat) (w : World) (hkey : key.length = 16) (ho : byteOk key = true) (hr0 : Kd.C (Kd.int .u8) w A0 16 key) (hc0 : 16 ≤ c0) (hk : Blk w gk 123 (byV boxT)) :
    Calls Try.prog 66 #[.slice A0 16 c0, .pointer (some ⟨gk, 0, none⟩)] w fun e w' => e = .returned (.agg (byV (keysV key))) ∧ Below w.heap.size w w' := by
  have hgk := hk.lt
  obtain ⟨ak, rfl, hcell⟩ := byte_cell key (by omega) hr0
  have hcur : ((w.alloc (Obj.cells Try.zeroCells104 104)).alloc (Obj.cells Try.zeroCells104 104)).heap[w.heap.size + 1]? = some (.cells (valsB z176).toArray 104 (0, 0)) := by
    rw [zero176, byV_vals]
    have := heap_alloc_new (w.alloc (Obj.cells (valsB z176).toArray 104)) (Obj.cells (valsB z176).toArray 104)
    rwa [World.size_alloc] at this
  have hsrc : ∀ j v, (valsB key)[j]? = some v → ((w.alloc (Obj.cells Try.zeroCells104 104)).alloc (Obj.cells Try.zeroCells104 104)).cell? (ak.add j) = some v := by
    intro j v hj
    obtain ⟨hj, rfl⟩ := valsB_at key j v hj
    have hc := hcell j (by omega)
    have hlt := World.block_lt_of_cell? w _ hc
    rw [World.cell?_alloc_lt _ _ _ (by simp; omega), World.cell?_alloc_lt _ _ _ hlt]
    exact hc
  have hb0 : Below (w.heap.size + 1) (w.alloc (Obj.cells Try.zeroCells104 104)) ((w.alloc (Obj.cells Try.zeroCells104 104)).alloc (Obj.cells Try.zeroCells104 104)) := (Below.refl _ _).alloc (by simp) _
  have hn : (valsB key).length = Nat.min 16 16 := by rw [valsB_length, hkey]; rfl
  have hfit : 0 + (valsB key).length ≤ (valsB z176).length := by rw [valsB_length, valsB_length, hkey]; decide
  have HC := Lib.hid (And.intro hcur (And.intro hsrc (And.intro hb0 (And.intro hn hfit))))
  clear hcur hsrc hb0 hn hfit hcell
  have HK := Lib.hid (And.intro hkey (And.intro hk hr0))
  clear hkey hk hr0
  go_enter Try.func66, Try.ntmps66
  go_wp2_with (with_reducible refine wpList_copy_splice rfl (.tmp 12) (.tmp 13) 22 22 rfl 5 Try.underlying22 info_u8s (some ⟨w.heap.size + 1, 0, none⟩) (some ak) 16 16 16 c0 rfl rfl (w.heap.size + 1) 0 (valsB z176) 104 HC.out.1 (valsB key) HC.out.2.2.2.1 (fun _ => ⟨rfl, ak, rfl, HC.out.2.1⟩) HC.out.2.2.2.2 (valsB_one key) (w.heap.size + 1) (w.alloc (Obj.cells Try.zeroCells104 104)) HC.out.2.2.1 (Nat.le_refl _) ?_; intro W1 hg1 hb1)
  have bo : Blk W1 (w.heap.size + 1) 104 (byV (rowTo 176 (keyF key) (fun _ => 0) (16 * (0 + 1)))) := by
    have h1 := hg1.out
    rw [splice_valsB, keys_first key HK.out.1] at h1
    exact h1
  have br : Blk W1 w.heap.size 104 (byV z176) := by
    have h1 := Blk.new w 104 Try.zeroCells104
    rw [zero176] at h1 hb1
    exact h1.below hb1 (by omega)
  have hbl : Below w.heap.size w W1 := ((Below.refl _ w).alloc (Nat.le_refl _) _).trans (hb1.mono (by omega))
  have bk : Blk W1 gk 123 (byV boxT) := HK.out.2.1.below hbl hgk
  clear hg1 hb1 HC
  have ho := Lib.hid ho
  go_loopw [6, 7] (fun vr vn wr => ∃ t : Nat, t ≤ 10 ∧ vn = .int .i64 ((t + 1 : Nat) : Int) ∧ vr = .int .u8 (rconT t) ∧ Blk wr w.heap.size 104 (byV z176) ∧ Blk wr (w.heap.size + 1) 104 (byV (rowTo 176 (keyF key) (fun _ => 0) (16 * (t + 1)))) ∧ Blk wr gk 123 (byV boxT) ∧ Below w.heap.size w wr) (fun _ vn _ => 11 - (intOf vn).toNat)
  case atStart => exact ⟨0, by omega, rfl, rfl, br, bo, bk, hbl⟩
  case round =>
    clear br bo bk hbl
    obtain ⟨t, ht, rfl, rfl, br, bo, bk, hbl⟩ := hrel
    obtain ⟨n, hn⟩ : ∃ n, t + 1 = n := ⟨_, rfl⟩
    rw [hn] at bo ⊢
    by_cases h10 : n ≤ 10
    · have HB := Lib.hid (And.intro br (And.intro bo (And.intro bk hbl)))
      clear br bo bk hbl
      have n1 : (1 : Int) ≤ (n : Int) := by omega
      have n2 : (n : Int) ≤ 10 := by omega
      have n3 : (n : Int) - 1 = (t : Int) := by omega
      have n4 : IntKind.i64.wrap ((n : Int) - 1) = (t : Int) := by rw [n3, IntKind.wrap_i64]; omega
      have n5 : (0 : Int) ≤ (t : Int) := by omega
      have n6 : (t : Int) < 11 := by omega
      have hn := Lib.hid hn
      have hr := Lib.hid (keys_range key HK.out.1 n t (by omega) hn.out HB.out.2.1)
      have hl := keyT_length key HK.out.1 t
      have hi := Lib.hid (show (Try.prog.info? 103).map (·.size) = some (valsB (keyT key t)).length by rw [valsB_length, hl]; exact infoState)
      have hi1 := Lib.hid (show (Try.prog.info? 103).map (·.size) = some (valsB (keyT key t)).toArray.size by rw [← byV_vals, byV_size, hl]; exact infoState)
      have hi2 := Lib.hid (show (byV z16).size = (valsB (keyT key t)).toArray.size by rw [← byV_vals, byV_size, byV_size, hl]; rfl)
      have hi3 := Lib.hid (show (valsB (keyT key t)).toArray.all (·.oneCell') = true by simp [valsB, Value.oneCell'])
      have hl := Lib.hid hl
      go_wp2_with (first
        | (refine wpList_load_mid rfl 103 (.tmp 21) rfl (w.heap.size + 1) (t * 16) rfl (valsB (keyT key t)) _ hr.out Try.underlying103 rfl hi.out ?_)
        | (refine wpList_store_row rfl 103 (.tmp 8) (.tmp 22) rfl wr.heap.size _ rfl rfl 103 (byV z16) (Blk.new wr 103 (byV z16)) hi1.out hi2.out hi3.out ?_))
      rw [zero16]
      have ba := (Blk.new wr 103 (byV z16)).setRow_ (byV (keyT key t))
      have br := (HB.out.1.alloc (Obj.cells (byV z16) 103)).farRow (g' := wr.heap.size) (Nat.ne_of_lt HB.out.1.lt) (byV (keyT key t))
      have bo := (HB.out.2.1.alloc (Obj.cells (byV z16) 103)).farRow (g' := wr.heap.size) (Nat.ne_of_lt HB.out.2.1.lt) (byV (keyT key t))
      have bk := (HB.out.2.2.1.alloc (Obj.cells (byV z16) 103)).farRow (g' := wr.heap.size) (Nat.ne_of_lt HB.out.2.2.1.lt) (byV (keyT key t))
      have hbl := (HB.out.2.2.2.alloc HB.out.2.2.2.size (Obj.cells (byV z16) 103)).trans (Iter.below_setRow (g := wr.heap.size) (byV (keyT key t)) HB.out.2.2.2.size)
      have hsz := Lib.hid (show ((wr.alloc (Obj.cells (byV z16) 103)).setRow wr.heap.size (byV (keyT key t))).heap.size = wr.heap.size + 1 by rw [size_setRow, World.size_alloc])
      rw [← byV_vals]
      have hgo := Lib.hid (show w.heap.size + 1 < wr.heap.size from HB.out.2.1.lt)
      generalize ((wr.alloc (Obj.cells (byV z16) 103)).setRow wr.heap.size (byV (keyT key t))) = W2 at *
      have cell_a : ∀ i, i < 16 → W2.cell? ⟨wr.heap.size, i, none⟩ = some (.int .u8 ((keyT key t).getD i 0)) := fun i h => (ba.cell i).trans (byV_at _ _ (by rw [hl.out]; exact h))
      have kb : byteOk (keyT key t) = true := byteOk_keyT key ho.out t
      have c12 := cell_a 12 (by omega)
      have c13 := cell_a 13 (by omega)
      have c14 := cell_a 14 (by omega)
      have c15 := cell_a 15 (by omega)
      obtain ⟨b12, b12'⟩ := byte_getD _ kb 12
      obtain ⟨b13, b13'⟩ := byte_getD _ kb 13
      obtain ⟨b14, b14'⟩ := byte_getD _ kb 14
      obtain ⟨b15, b15'⟩ := byte_getD _ kb 15
      have d12 := (bk.cell _).trans (box_at _ b12 b12')
      have d13 := (bk.cell _).trans (box_at _ b13 b13')
      have d14 := (bk.cell _).trans (box_at _ b14 b14')
      have d15 := (bk.cell _).trans (box_at _ b15 b15')
      have e0 : keyW (keyT key t) (rconT t) 0 = xr (bx ((keyT key t).getD 13 0)) (rconT t) := rfl
      have e1 : keyW (keyT key t) (rconT t) 1 = bx ((keyT key t).getD 14 0) := rfl
      have e2 : keyW (keyT key t) (rconT t) 2 = bx ((keyT key t).getD 15 0) := rfl
      have e3 : keyW (keyT key t) (rconT t) 3 = bx ((keyT key t).getD 12 0) := rfl
      obtain ⟨r0, r1⟩ := rconT_wf t
      generalize hrr : rconT t = rr at *
      generalize hK : keyT key t = K at *
      generalize K.getD 12 0 = x12 at *
      generalize K.getD 13 0 = x13 at *
      generalize K.getD 14 0 = x14 at *
      generalize K.getD 15 0 = x15 at *
      generalize bx x12 = y12 at *
      generalize bx x13 = y13 at *
      generalize bx x14 = y14 at *
      generalize bx x15 = y15 at *
      have HB2 := Lib.hid (And.intro ba (And.intro br (And.intro bo (And.intro bk hbl))))
      have HE := Lib.hid (And.intro e0 (And.intro e1 (And.intro e2 e3)))
      have HR := Lib.hid (And.intro hrr hK)
      have := World.new_ne W2 _ c12
      have := World.new_ne W2 _ c13
      have := World.new_ne W2 _ c14
      have := World.new_ne W2 _ c15
      have := World.new_ne W2 _ d12
      have := World.new_ne W2 _ d13
      have := World.new_ne W2 _ d14
      have := World.new_ne W2 _ d15
      clear ba br bo bk hbl cell_a kb e0 e1 e2 e3 hrr hK hr hi hi1 hi2 hi3 HB
      go_region_held3 (fun w' => w'.cell? ⟨wr.heap.size, 12, none⟩ = some (.int .u8 x12) ∧ w'.cell? ⟨wr.heap.size, 13, none⟩ = some (.int .u8 x13) ∧ w'.cell? ⟨wr.heap.size, 14, none⟩ = some (.int .u8 x14) ∧ w'.cell? ⟨wr.heap.size, 15, none⟩ = some (.int .u8 x15) ∧ w'.cell? ⟨gk, x12.toNat, none⟩ = some (.int .u8 y12) ∧ w'.cell? ⟨gk, x13.toNat, none⟩ = some (.int .u8 y13) ∧ w'.cell? ⟨gk, x14.toNat, none⟩ = some (.int .u8 y14) ∧ w'.cell? ⟨gk, x15.toNat, none⟩ = some (.int .u8 y15)) (go_keep) (fail)
      have hw0 : #[Value.int IntKind.u8 (Go.bits BinOp.xor IntKind.u8 y13 rr), Value.int IntKind.u8 y14, Value.int IntKind.u8 y15, Value.int IntKind.u8 y12] = byV (wordT K rr 0) := by
        obtain ⟨e0, e1, e2, e3⟩ := HE.out
        show _ = byV [keyW K rr 0, keyW K rr 1, keyW K rr 2, keyW K rr 3]
        rw [e0, e1, e2, e3]
        rfl
      rw [hw0]
      have HB3 : Hid (Blk (W2.alloc (Obj.cells (byV (wordT K rr 0)) 124)).drew wr.heap.size 103 (byV K) ∧ Blk (W2.alloc (Obj.cells (byV (wordT K rr 0)) 124)).drew W2.heap.size 124 (byV (wordT K rr 0)) ∧ Blk (W2.alloc (Obj.cells (byV (wordT K rr 0)) 124)).drew w.heap.size 104 (byV z176) ∧ Blk (W2.alloc (Obj.cells (byV (wordT K rr 0)) 124)).drew (w.heap.size + 1) 104 (byV (rowTo 176 (keyF key) (fun _ => 0) (16 * n + 0))) ∧ Blk (W2.alloc (Obj.cells (byV (wordT K rr 0)) 124)).drew gk 123 (byV boxT) ∧ Below w.heap.size w (W2.alloc (Obj.cells (byV (wordT K rr 0)) 124)).drew) :=
        Lib.hid ⟨HB2.out.1.alloc _, Blk.new W2 _ _, HB2.out.2.1.alloc _, HB2.out.2.2.1.alloc _, HB2.out.2.2.2.1.alloc _, (HB2.out.2.2.2.2.alloc HB2.out.2.2.2.2.size _).drew⟩
      clear HB2 HE hw0
      generalize (W2.alloc (Obj.cells (byV (wordT K rr 0)) 124)).drew = W3 at *
      have hs2 := hsz.out
      have hg2 := hgo.out
      clear hsz hgo
      generalize wr.heap.size = ga at *
      generalize W2.heap.size = gw at *
      have hgs := Lib.hid (And.intro hs2 hg2)
      clear hs2 hg2 b12 b12' b13 b13' b14 b14' b15 b15'
      clear c12 c13 c14 c15 d12 d13 d14 d15
      go_wp2_with fail
      go_loopw [50] (fun i wv => ∃ s : Nat, s ≤ 16 ∧ i = .int .i64 s ∧ Blk wv ga 103 (byV K) ∧ Blk wv gw 124 (byV (wordT K rr s)) ∧ Blk wv w.heap.size 104 (byV z176) ∧ Blk wv (w.heap.size + 1) 104 (byV (rowTo 176 (keyF key) (fun _ => 0) (16 * n + s))) ∧ Blk wv gk 123 (byV boxT) ∧ Below w.heap.size w wv) (fun i _ => 16 - (intOf i).toNat)
      case atStart => exact ⟨0, by omega, rfl, HB3.out⟩
      case round =>
        clear HB3
        obtain ⟨s, hs, rfl, ba, bw, br, bo, bk, hbl⟩ := hrel
        by_cases h16 : s < 16
        · obtain ⟨q, hq⟩ : ∃ q, s % 4 = q := ⟨_, rfl⟩
          have q4 : q < 4 := by omega
          have vx : (byV (wordT K rr s))[q]? = some (.int .u8 ((wordT K rr s).getD q 0)) := byV_at _ _ (by rw [wordT_length]; exact q4)
          have gx : wr.cell? ⟨gw, q, none⟩ = some (.int .u8 ((wordT K rr s).getD q 0)) := (bw.cell q).trans vx
          have gy : wr.cell? ⟨ga, s, none⟩ = some (.int .u8 (K.getD s 0)) := (ba.cell s).trans (byV_at _ _ (by have := hl.out; omega))
          have fx := bw.frozen q
          have q0 : (0 : Int) ≤ (q : Int) := by omega
          have q1 : (q : Int) < 4 := by omega
          have s0 : (0 : Int) ≤ (s : Int) := by omega
          have s1 : (s : Int) < 16 := by omega
          have hset := bw.set_ q (.int .u8 (xr ((wordT K rr s).getD q 0) (K.getD s 0)))
          rw [byV_set] at hset
          have hw1 : (wordT K rr s).set q (xr ((wordT K rr s).getD q 0) (K.getD s 0)) = wordT K rr (s + 1) := by rw [← hq]; rfl
          rw [hw1] at hset
          have hgs' := hgs.out
          have ba2 := ba.far (p := ⟨gw, q, none⟩) (by simp; omega) (.int .u8 (xr ((wordT K rr s).getD q 0) (K.getD s 0)))
          have br2 := br.far (p := ⟨gw, q, none⟩) (by simp; omega) (.int .u8 (xr ((wordT K rr s).getD q 0) (K.getD s 0)))
          have bo2 := bo.far (p := ⟨gw, q, none⟩) (by simp; omega) (.int .u8 (xr ((wordT K rr s).getD q 0) (K.getD s 0)))
          have hgk2 := Lib.hid hgk
          have bk2 := bk.far (p := ⟨gw, q, none⟩) (by simp; omega) (.int .u8 (xr ((wordT K rr s).getD q 0) (K.getD s 0)))
          have hb2 := hbl.setCell (p := ⟨gw, q, none⟩) (by simp; omega) (.int .u8 (xr ((wordT K rr s).getD q 0) (K.getD s 0)))
          have hkb := wordT_key K rr s
          rw [hq] at hkb
          have HF := Lib.hid (And.intro ba2 (And.intro hset (And.intro br2 (And.intro bo2 (And.intro bk2 hb2)))))
          have HQ := Lib.hid (And.intro hq hkb)
          clear hset ba2 br2 bo2 bk2 hb2 ba bw br bo bk hbl vx hw1 hgs' hkb
          have q2 : Int.tmod (s : Int) 4 = (q : Int) := by rw [← hq]; rfl
          clear hq
          generalize (wordT K rr s).getD q 0 = x at *
          generalize K.getD s 0 = y at *
          go_wp2_with fail
          go_region
          clear gx gy fx
          obtain ⟨W4, hW4⟩ : ∃ W4, (wr.setCell ⟨gw, q, none⟩ (Value.int IntKind.u8 (Go.bits BinOp.xor IntKind.u8 x y))).drew = W4 := ⟨_, rfl⟩
          have HG : Hid (Blk W4 ga 103 (byV K) ∧ Blk W4 gw 124 (byV (wordT K rr (s + 1))) ∧ Blk W4 w.heap.size 104 (byV z176) ∧ Blk W4 (w.heap.size + 1) 104 (byV (rowTo 176 (keyF key) (fun _ => 0) (16 * n + s))) ∧ Blk W4 gk 123 (byV boxT) ∧ Below w.heap.size w W4) := by
            rw [← hW4]
            exact Lib.hid ⟨HF.out.1, HF.out.2.1, HF.out.2.2.1, HF.out.2.2.2.1, HF.out.2.2.2.2.1, HF.out.2.2.2.2.2.drew⟩
          rw [hW4]
          clear hW4 HF
          clear wr
          obtain ⟨hq, hkb⟩ := HQ.out
          have hz : (byV (wordT K rr (s + 1)))[q]? = some (.int .u8 (keyB K rr s)) := by
            rw [byV_at _ _ (by rw [wordT_length]; exact q4)]
            have h1 := wordT_at K rr (s + 1) q q4
            rw [if_neg (by omega), show (s + 1 - 1 - q) / 4 * 4 + q = s from by omega] at h1
            rw [h1]
          have gz : W4.cell? ⟨gw, q, none⟩ = some (.int .u8 (keyB K rr s)) := (HG.out.2.1.cell q).trans hz
          obtain ⟨m, hm⟩ : ∃ m, n * 16 + s = m := ⟨_, rfl⟩
          have hn' := hn.out
          have hm176 : m < 176 := by omega
          have go1 : W4.cell? ⟨w.heap.size + 1, n * 16 + s, none⟩ = some (.int .u8 0) := by
            refine (HG.out.2.2.2.1.cell _).trans ?_
            rw [hm, byV_at _ _ (by rw [rowTo_length]; exact hm176), rowTo_at _ _ _ _ _ hm176, if_neg (by omega)]
          have fo1 : W4.frozen? ⟨w.heap.size + 1, n * 16 + s, none⟩ = false := HG.out.2.2.2.1.frozen _
          have hkf : keyF key (16 * n + s) = keyB K rr s := by
            rw [← hn', keyF_next _ _ _ h16, HR.out.1, HR.out.2]
          have hset : Blk (W4.setCell ⟨w.heap.size + 1, n * 16 + s, none⟩ (.int .u8 (keyB K rr s))) (w.heap.size + 1) 104 (byV (rowTo 176 (keyF key) (fun _ => 0) (16 * n + (s + 1)))) := by
            have h1 := HG.out.2.2.2.1.set_ (n * 16 + s) (.int .u8 (keyB K rr s))
            have h2 := rowTo_set 176 (keyF key) (fun _ => 0) (16 * n + s)
            have h3 : 16 * n + s = n * 16 + s := by omega
            rw [hkf, h3] at h2
            rw [byV_set, h3, h2] at h1
            rw [show 16 * n + (s + 1) = n * 16 + s + 1 from by omega]
            exact h1
          have hgs' := hgs.out
          have ba2 := HG.out.1.far (p := ⟨w.heap.size + 1, n * 16 + s, none⟩) (by simp; omega) (.int .u8 (keyB K rr s))
          have bw2 := HG.out.2.1.far (p := ⟨w.heap.size + 1, n * 16 + s, none⟩) (by simp; omega) (.int .u8 (keyB K rr s))
          have br2 := HG.out.2.2.1.far (p := ⟨w.heap.size + 1, n * 16 + s, none⟩) (by simp) (.int .u8 (keyB K rr s))
          have bk2 := HG.out.2.2.2.2.1.far (p := ⟨w.heap.size + 1, n * 16 + s, none⟩) (by simp; have := hgk2.out; omega) (.int .u8 (keyB K rr s))
          have hb2 := HG.out.2.2.2.2.2.setCell (p := ⟨w.heap.size + 1, n * 16 + s, none⟩) (by simp) (.int .u8 (keyB K rr s))
          have HF := Lib.hid (And.intro ba2 (And.intro bw2 (And.intro br2 (And.intro hset (And.intro bk2 hb2)))))
          clear hset ba2 bw2 br2 bk2 hb2 HG hz hq hkb hkf hm hn' hgs' HQ hm176
          generalize keyB K rr s = z at *
          have n7 : (n : Int) < 11 := by omega
          have n8 : (0 : Int) ≤ (n : Int) := by omega
          go_wp2_with fail
          go_region
          go_wp2
          exact ⟨⟨s + 1, by omega, by go_num, HF.out.1, HF.out.2.1, HF.out.2.2.1, HF.out.2.2.2.1, HF.out.2.2.2.2.1, HF.out.2.2.2.2.2.drew⟩, by simp [intOf]; omega⟩
        · obtain rfl : s = 16 := by omega
          have hdj : decide (((16 : Nat) : Int) < 16) = false := by decide
          have HB3 := Lib.hid (And.intro br (And.intro bo (And.intro bk hbl)))
          clear ba bw br bo bk hbl
          have hm := aes_mul2 rr r0 r1
          have hr1 := Lib.hid (show m2 rr = rconT n by rw [← hn.out, rconT, HR.out.1])
          go_wp2_with ((with_reducible refine (A.aes_Mul.calls 10 _ _ _ _ hm).mono ?_); rintro e w' ⟨rfl, hd⟩; obtain ⟨n1, rfl⟩ := hd.out)
          exact ⟨⟨n, by omega, by go_num, by rw [hr1.out], HB3.out.1, by rw [show 16 * (n + 1) = 16 * n + 16 from by omega]; exact HB3.out.2.1, HB3.out.2.2.1, pw_below_drewN HB3.out.2.2.2 _⟩, by simp [intOf]; omega⟩
    · obtain rfl : n = 11 := by omega
      have hdj : decide (((11 : Nat) : Int) ≤ 10) = false := by decide
      rw [keys_last] at bo
      go_wp2_with (first
        | (refine wpList_load_row rfl 104 (.tmp 5) rfl (w.heap.size + 1) rfl 104 _ (0, 0) _ bo Try.underlying104 rfl (by rw [byV_size, keysV_length]; exact infoKeys) ?_)
        | (refine wpList_store_row rfl 104 (.tmp 4) (.tmp 73) rfl w.heap.size _ rfl rfl 104 _ br (by rw [byV_size, keysV_length]; exact infoKeys) (by rw [byV_size, byV_size, keysV_length]; rfl) (by simp [byV, Value.oneCell']) ?_))
      exact bodyPost_ret (results_cell_row rfl _ _ w.heap.size 104 (byV (keysV key)) (0, 0) _ rfl (setRow_heap wr w.heap.size _ _ _ _ br) Try.underlying104 rfl (by rw [byV_size, keysV_length]; exact infoKeys)) rfl ⟨rfl, hbl.trans (Iter.below_setRow _ (Nat.le_refl _))⟩
end Go.Proofs.Ytifpdpfjhjoieaa

/-! C0 -/
namespace Go.Proofs.Ytifpdpfjhjoieaa.C
open Go.Proofs.Ytifpdpfjhjoieaa.P
open Go.RowKit Go.Proofs.YtifpdpfjhjoieaaW.PrintWords Go.Proofs.YtifpdpfjhjoieaaW.PrintLast Go.Proofs.YtifpdpfjhjoieaaW.PrintMore
attribute [local go_sem] max2_int min2_int max_two min_two max_three min_three max_four min_four   -- for this text's walks alone
set_option linter.unusedVariables false
set_option linter.unusedSimpArgs false
def errW : Option Int → Value
  | none => .nilIface
  | some c => .iface 0 (.int .i64 c)
theorem errW_none : errW none = .nilIface := rfl
theorem errW_some (c : Int) : errW (some c) = .iface 0 (.int .i64 c) := rfl
theorem info5 : (Try.prog.info? 5).map (fun i => (i.zero, i.size, i.bytes)) = some (some (.int .u8 0), 1, 1) := by kernel_rfl
-- the values' own types
end Go.Proofs.Ytifpdpfjhjoieaa.C

/-! AesQ -/
namespace Go.Proofs.Ytifpdpfjhjoieaa
set_option linter.unusedVariables false
set_option linter.unusedSimpArgs false
open Go.RowKit Go.Proofs.YtifpdpfjhjoieaaW.PrintWords Go.Proofs.YtifpdpfjhjoieaaW.PrintLast
theorem EvS.fuel {α : Type} {g : Nat → Option α} {r : α} (hm : ∀ k, LeO (g k) (g (k + 1))) (k0 : Nat) (h : g k0 = some r) : EvS g r :=
  ⟨k0, fun k hk => by
    induction k with
    | zero => rw [← Nat.le_zero.1 hk]; exact h
    | succ k ih =>
      rcases Nat.lt_or_ge k k0 with hlt | hge
      · rw [show k + 1 = k0 from by omega]; exact h
      · exact hm k r (ih hge)⟩
end Go.Proofs.Ytifpdpfjhjoieaa

/-! AesR -/
namespace Go.Proofs.Ytifpdpfjhjoieaa
set_option linter.unusedVariables false
set_option linter.unusedSimpArgs false
open Go.RowKit Go.Proofs.YtifpdpfjhjoieaaW.PrintWords Go.Proofs.YtifpdpfjhjoieaaW.PrintLast
theorem wd4 (k : Nat) (hk : k < 1000000) : wrap64 ((k : Int) + 1) = ((k + 1 : Nat) : Int) := by unfold wrap64; omega
theorem xr_bits (a b : Int) : Go.bits .xor .u8 a b = xr a b := rfl
section
attribute [local irreducible] rconT m2 xr bx keyF
variable (key : List Int) (hkey : byteOk key = true)
include hkey
end
end Go.Proofs.Ytifpdpfjhjoieaa

/-! AesG -/
namespace Go.Proofs.Ytifpdpfjhjoieaa
set_option linter.unusedVariables false
set_option linter.unusedSimpArgs false
open Go.RowKit Go.Shelf Iter Go.Proofs.YtifpdpfjhjoieaaW.PrintWords
attribute [local go_sem] Oper.semAt_some
theorem range_keys {w : World} {g : Nat} {ty : TypeId} (key : List Int) (h16 : key.length = 16) (t : Nat) (ht : t ≤ 10) (h : Blk w g ty (byV (keysV key))) : w.rangeAt g (t * 16) (valsB (keyT key t)) := by
  have hl := keyT_length key h16 t
  refine range_of h _ _ (by rw [keysV_length, hl]; omega) fun j hj => ?_
  rw [hl] at hj
  unfold keysV
  rw [List.getD_eq_getElem?_getD, List.getElem?_map, List.getElem?_range (by omega), Nat.mul_comm t 16]
  exact keyF_at _ _ _ hj
theorem range_row {w : World} {g : Nat} {ty : TypeId} (l : List Int) (h : Blk w g ty (byV l)) : w.rangeAt g 0 (valsB l) := range_of h _ _ (by omega) fun j hj => by rw [Nat.zero_add]
theorem info_vals (l : List Int) (h : l.length = 16) : (Try.prog.info? 103).map (·.size) = some (valsB l).length := by rw [valsB_length, h]; exact infoState
theorem info_byV (l : List Int) (h : l.length = 16) : (Try.prog.info? 103).map (·.size) = some (byV l).size := by rw [byV_size, h]; exact infoState
theorem size_byV (l l' : List Int) (h : l.length = 16) (h' : l'.length = 16) : (byV l).size = (byV l').size := by rw [byV_size, byV_size, h, h']
theorem one_byV (l : List Int) : (byV l).all (·.oneCell') = true := by simp [byV, Value.oneCell']
theorem wpStill_load_mid {P : Program} {ops : Array Oper} {w : World} {Q : Act → Prop} {rest : List Oper} {o : Oper} {a : Act} (hgd : o.guard = none) (ty : TypeId) (x : Operand) (ho : o.op = .load ty x)
    (b f : Nat) (hx : a.eval x = .pointer (some ⟨b, f, none⟩)) (cs : List Value) (d : TypeDesc) (hc : w.rangeAt b f cs) (hu : P.underlying ty = some d) (hd : d.isRow = true) (hi : (P.info? ty).map (·.size) = some cs.length)
    (h : wpStill P ops w Q rest (a.put o.dst (.agg cs.toArray))) : wpStill P ops w Q (o :: rest) a := by
  unfold wpStill
  rw [if_pos (by simp [Region.wanted, hgd])]
  unfold Oper.still execOp
  simp only [ho, hx, Instr.loadAt, Instr.sureAddr, Sem.run_bind, Sem.run_pure, Result.andThen_ok, run_loadVar_mid w b f ty cs d hc hu hd hi]
  exact ⟨rfl, h⟩
theorem withK_length (s k : List Int) : (withK s k).length = 16 := row16_length _
theorem shiftedS_length (s : List Int) : (shiftedS s).length = 16 := row16_length _
theorem mixedS_length (s : List Int) : (mixedS s).length = 16 := row16_length _
theorem lockT_length (key s : List Int) (n : Nat) : (lockT key s n).length = 16 := by cases n <;> exact row16_length _
theorem byteOk_lockT (key s : List Int) (n : Nat) : byteOk (lockT key s n) = true := by cases n <;> exact byteOk_withK _ _
/-- What a block's walk knows of the world. -/
def LK (w : World) (gl gk : Nat) (key : List Int) (W : World) (x : List Int) : Prop := Blk W w.heap.size 103 (byV x) ∧ Blk W (w.heap.size + 1) 103 (byV z16) ∧ Blk W gl 104 (byV (keysV key)) ∧ Blk W gk 123 (byV boxT) ∧ Below w.heap.size w W
theorem LK.call {w W W' : World} {gl gk : Nat} {key x : List Int} (h : LK w gl gk key W x) (hb : Below W.heap.size W W') : LK w gl gk key W' x :=
  ⟨h.1.below hb h.1.lt, h.2.1.below hb h.2.1.lt, h.2.2.1.below hb h.2.2.1.lt, h.2.2.2.1.below hb h.2.2.2.1.lt, h.2.2.2.2.trans (hb.mono h.2.2.2.2.size)⟩
theorem LK.set {w W : World} {gl gk : Nat} {key x : List Int} (h : LK w gl gk key W x) (hl : gl < w.heap.size) (hk : gk < w.heap.size) (y : List Int) : LK w gl gk key (W.setRow w.heap.size (byV y)) y :=
  ⟨h.1.setRow_ _, h.2.1.farRow (by omega) _, h.2.2.1.farRow (Nat.ne_of_lt hl) _, h.2.2.2.1.farRow (Nat.ne_of_lt hk) _, h.2.2.2.2.trans (Iter.below_setRow _ (Nat.le_refl _))⟩
theorem LK.drew {w W : World} {gl gk : Nat} {key x : List Int} (h : LK w gl gk key W x) : LK w gl gk key W.drew x := ⟨h.1, h.2.1, h.2.2.1, h.2.2.2.1, h.2.2.2.2.drew⟩
set_option maxRecDepth 100000 in
set_option maxHeartbeats 400000 in
theorem aesLocked_calls (gl gk : Nat) (key s : List Int) (w : World) (hkey : key.length = 16) (hs : s.length = 16) (hl : Blk w gl 104 (byV (keysV key))) (hk : Blk w gk 123 (byV boxT)) :
    Calls Try.prog 67 #[.pointer (some ⟨gl, 0, none⟩), .pointer (some ⟨gk, 0, none⟩), .agg (byV s)] w fun e w' => e = .returned (.agg (byV (lockT key s 10))) ∧ Below w.heap.size w w' := by
  have hgk := Lib.hid hk.lt
  have hgl := Lib.hid hl.lt
  have HK := Lib.hid (And.intro hkey (And.intro hs (And.intro hl hk)))
  clear hkey hs hl hk
  go_enter Try.func67, Try.ntmps67
  go_wp2_with fail
  rw [zero16]
  have bs := (Blk.new w 103 (byV s)).alloc (.cells (byV z16) 103)
  have br := Blk.new (w.alloc (.cells (byV s) 103)) 103 (byV z16)
  have bl := (HK.out.2.2.1.alloc (.cells (byV s) 103)).alloc (.cells (byV z16) 103)
  have bk := (HK.out.2.2.2.alloc (.cells (byV s) 103)).alloc (.cells (byV z16) 103)
  have hbl : Below w.heap.size w ((w.alloc (.cells (byV s) 103)).alloc (.cells (byV z16) 103)) := ((Below.refl _ w).alloc (Nat.le_refl _) _).alloc (by simp) _
  simp only [World.size_alloc] at br
  generalize ((w.alloc (.cells (byV s) 103)).alloc (.cells (byV z16) 103)) = W0 at *
  have run1 := (World.rangeAt_drew W0 _ _ _).2 (range_row s bs)
  have run2 := (World.rangeAt_drew W0 _ _ _).2 (by have := range_keys key HK.out.1 0 (by omega) bl; rw [Nat.zero_mul] at this; exact this)
  have hi1 := info_vals s HK.out.2.1
  have hi2 := info_vals key HK.out.1
  have HB : Hid (LK w gl gk key W0 s) := Lib.hid ⟨bs, br, bl, bk, hbl⟩
  clear bs br bl bk hbl
  go_still_tail 5, (by kernel_rfl)
  refine wpStill_load_mid (by rfl) 103 (.tmp 5) (by rfl) w.heap.size 0 (by rfl) _ _ run1 Try.underlying103 rfl hi1 ?_
  repeat still_step
  refine wpStill_load_mid (by rfl) 103 (.tmp 11) (by rfl) gl 0 (by rfl) _ _ run2 Try.underlying103 rfl hi2 ?_
  repeat still_step
  refine wpStill_nil ?_
  have HB2 := Lib.hid (LK.drew HB.out)
  change wpList _ _ _ _ _ W0.drew
  clear HB run1 run2 hi1 hi2
  generalize W0.drew = W1 at *
  clear W0
  go_wp2_with fail
  refine (aesWith_calls s key _ HK.out.2.1 HK.out.1).mono ?_
  rintro e W2 ⟨rfl, hb2⟩
  have HB3 := Lib.hid (LK.call HB2.out hb2)
  clear HB2 hb2
  clear W1
  go_wp2_with (refine wpList_store_row rfl 103 (.tmp 5) (.tmp 13) rfl w.heap.size _ rfl rfl 103 _ HB3.out.1 (info_byV _ (withK_length s key)) (size_byV _ _ HK.out.2.1 (withK_length s key)) (one_byV _) ?_)
  have HB4 : Hid (LK w gl gk key _ (lockT key s 0)) := Lib.hid (LK.set HB3.out hgl.out hgk.out (withK s key))
  clear HB3
  generalize W2.setRow w.heap.size (byV (withK s key)) = W3 at *
  clear W2
  go_loopw [7] (fun vn wr => ∃ t : Nat, t ≤ 10 ∧ vn = .int .i64 ((t + 1 : Nat) : Int) ∧ Hid (LK w gl gk key wr (lockT key s t))) (fun vn _ => 11 - (intOf vn).toNat)
  case atStart => exact ⟨0, by omega, rfl, HB4⟩
  case round =>
    clear HB4
    obtain ⟨t, ht, rfl, HB⟩ := hrel
    obtain ⟨n, hn⟩ : ∃ n, t + 1 = n := ⟨_, rfl⟩
    rw [hn]
    by_cases h10 : n ≤ 10
    · have n1 : (1 : Int) ≤ (n : Int) := by omega
      have n2 : (n : Int) ≤ 10 := by omega
      have n4 : (0 : Int) ≤ (n : Int) := by omega
      have n5 : (n : Int) < 11 := by omega
      have hn := Lib.hid hn
      have hs0 := lockT_length key s t
      have hs1 := byteOk_lockT key s t
      have H0 := Lib.hid (And.intro hs0 hs1)
      clear hs0 hs1
      by_cases h9 : n < 10
      · have n3 : (n : Int) < 10 := by omega
        go_wp2_with (refine wpList_load_row rfl 103 (.tmp 5) rfl w.heap.size rfl 103 _ (0, 0) _ HB.out.1 Try.underlying103 rfl (info_byV _ H0.out.1) ?_)
        refine (shifted_calls (lockT key s t) gk _ H0.out.1 H0.out.2 HB.out.2.2.2.1).mono ?_
        rintro e W1 ⟨rfl, hb1⟩
        have L1 := Lib.hid (LK.call HB.out hb1)
        have L2 := Lib.hid (LK.set L1.out hgl.out hgk.out (shiftedS (lockT key s t)))
        clear hb1
        go_wp2_with (first | (refine wpList_store_row rfl 103 (.tmp 5) (.tmp 20) rfl w.heap.size _ rfl rfl 103 _ L1.out.1 (info_byV _ (shiftedS_length _)) (size_byV _ _ H0.out.1 (shiftedS_length _)) (one_byV _) ?_) | (refine wpList_load_row rfl 103 (.tmp 5) rfl w.heap.size rfl 103 _ (0, 0) _ L2.out.1 Try.underlying103 rfl (info_byV _ (shiftedS_length _)) ?_))
        refine (aesMixed_calls (shiftedS (lockT key s t)) _ (shiftedS_length _) (byteOk_shiftedS _)).mono ?_
        rintro e W2 ⟨rfl, hb2⟩
        have L3 := Lib.hid (LK.call L2.out hb2)
        have L4 := Lib.hid (LK.set L3.out hgl.out hgk.out (mixedS (shiftedS (lockT key s t))))
        clear hb2 L1 L2
        go_wp2_with (refine wpList_store_row rfl 103 (.tmp 5) (.tmp 24) rfl w.heap.size _ rfl rfl 103 _ L3.out.1 (info_byV _ (mixedS_length _)) (size_byV _ _ (shiftedS_length _) (mixedS_length _)) (one_byV _) ?_)
        clear L3
        generalize W2.setRow w.heap.size (byV (mixedS (shiftedS (lockT key s t)))) = W3 at *
        have run1 := (World.rangeAt_drew W3 _ _ _).2 (range_row _ L4.out.1)
        have run2 := (World.rangeAt_drew W3 _ _ _).2 (range_keys key HK.out.1 n h10 L4.out.2.2.1)
        have hi1 := info_vals (mixedS (shiftedS (lockT key s t))) (mixedS_length _)
        have hk1 := keyT_length key HK.out.1 n
        have hi2 := info_vals (keyT key n) hk1
        have hw := Lib.hid (aesWith_calls (mixedS (shiftedS (lockT key s t))) (keyT key n) W3.drew (mixedS_length _) hk1)
        have hxl := Lib.hid (mixedS_length (shiftedS (lockT key s t)))
        have he : Hid (withK (mixedS (shiftedS (lockT key s t))) (keyT key n) = lockT key s n) := Lib.hid (by rw [← hn.out, lockT, if_pos (by have := hn.out; omega)])
        have L5 := Lib.hid (LK.drew L4.out)
        clear hk1 L4
        have R1 := Lib.hid run1
        have R2 := Lib.hid run2
        have I1 := Lib.hid hi1
        have I2 := Lib.hid hi2
        clear run1 run2 hi1 hi2
        generalize hX : mixedS (shiftedS (lockT key s t)) = X at *
        generalize hKn : keyT key n = Kn at *
        go_still_tail 6, (by kernel_rfl)
        refine wpStill_load_mid (by rfl) 103 (.tmp 5) (by rfl) w.heap.size 0 (by rfl) _ _ R1.out Try.underlying103 rfl I1.out ?_
        repeat still_step
        refine wpStill_load_mid (by rfl) 103 (.tmp 29) (by rfl) gl (n * 16) (by rfl) _ _ R2.out Try.underlying103 rfl I2.out ?_
        repeat still_step
        refine wpStill_nil ?_
        change wpList _ _ _ _ _ W3.drew
        go_wp2_with fail
        refine hw.out.mono ?_
        rintro e W4 ⟨rfl, hb4⟩
        have L6 := Lib.hid (LK.call L5.out hb4)
        have L7 := Lib.hid (LK.set L6.out hgl.out hgk.out (withK X Kn))
        rw [he.out] at L7
        clear hb4 L5 hw R1 R2
        go_wp2_with (refine wpList_store_row rfl 103 (.tmp 5) (.tmp 31) rfl w.heap.size _ rfl rfl 103 _ L6.out.1 (info_byV _ (withK_length _ _)) (size_byV _ _ hxl.out (withK_length _ _)) (one_byV _) ?_)
        exact ⟨⟨n, by omega, by go_num, by rw [he.out]; exact L7⟩, by simp [intOf]; omega⟩
      · have n3 : decide ((n : Int) < 10) = false := by simp; omega
        have h9' := Lib.hid h9
        clear h9
        go_wp2_with (refine wpList_load_row rfl 103 (.tmp 5) rfl w.heap.size rfl 103 _ (0, 0) _ HB.out.1 Try.underlying103 rfl (info_byV _ H0.out.1) ?_)
        refine (shifted_calls (lockT key s t) gk _ H0.out.1 H0.out.2 HB.out.2.2.2.1).mono ?_
        rintro e W1 ⟨rfl, hb1⟩
        have L1 := Lib.hid (LK.call HB.out hb1)
        have L2 := Lib.hid (LK.set L1.out hgl.out hgk.out (shiftedS (lockT key s t)))
        clear hb1
        go_wp2_with (refine wpList_store_row rfl 103 (.tmp 5) (.tmp 20) rfl w.heap.size _ rfl rfl 103 _ L1.out.1 (info_byV _ (shiftedS_length _)) (size_byV _ _ H0.out.1 (shiftedS_length _)) (one_byV _) ?_)
        clear L1
        generalize W1.setRow w.heap.size (byV (shiftedS (lockT key s t))) = W3 at *
        have run1 := (World.rangeAt_drew W3 _ _ _).2 (range_row _ L2.out.1)
        have run2 := (World.rangeAt_drew W3 _ _ _).2 (range_keys key HK.out.1 n h10 L2.out.2.2.1)
        have hi1 := info_vals (shiftedS (lockT key s t)) (shiftedS_length _)
        have hk1 := keyT_length key HK.out.1 n
        have hi2 := info_vals (keyT key n) hk1
        have hw := Lib.hid (aesWith_calls (shiftedS (lockT key s t)) (keyT key n) W3.drew (shiftedS_length _) hk1)
        have hxl := Lib.hid (shiftedS_length (lockT key s t))
        have he : Hid (withK (shiftedS (lockT key s t)) (keyT key n) = lockT key s n) := Lib.hid (by rw [← hn.out, lockT, if_neg (by have := hn.out; have := h9'.out; omega)])
        have L5 := Lib.hid (LK.drew L2.out)
        clear hk1 L2
        have R1 := Lib.hid run1
        have R2 := Lib.hid run2
        have I1 := Lib.hid hi1
        have I2 := Lib.hid hi2
        clear run1 run2 hi1 hi2
        generalize hX : shiftedS (lockT key s t) = X at *
        generalize hKn : keyT key n = Kn at *
        go_still_tail 6, (by kernel_rfl)
        refine wpStill_load_mid (by rfl) 103 (.tmp 5) (by rfl) w.heap.size 0 (by rfl) _ _ R1.out Try.underlying103 rfl I1.out ?_
        repeat still_step
        refine wpStill_load_mid (by rfl) 103 (.tmp 29) (by rfl) gl (n * 16) (by rfl) _ _ R2.out Try.underlying103 rfl I2.out ?_
        repeat still_step
        refine wpStill_nil ?_
        change wpList _ _ _ _ _ W3.drew
        go_wp2_with fail
        refine hw.out.mono ?_
        rintro e W4 ⟨rfl, hb4⟩
        have L6 := Lib.hid (LK.call L5.out hb4)
        have L7 := Lib.hid (LK.set L6.out hgl.out hgk.out (withK X Kn))
        rw [he.out] at L7
        clear hb4 L5 hw R1 R2
        go_wp2_with (refine wpList_store_row rfl 103 (.tmp 5) (.tmp 31) rfl w.heap.size _ rfl rfl 103 _ L6.out.1 (info_byV _ (withK_length _ _)) (size_byV _ _ hxl.out (withK_length _ _)) (one_byV _) ?_)
        exact ⟨⟨n, by omega, by go_num, by rw [he.out]; exact L7⟩, by simp [intOf]; omega⟩
    · obtain rfl : n = 11 := by omega
      obtain rfl : t = 10 := by omega
      have hdj : decide (((11 : Nat) : Int) ≤ 10) = false := by decide
      go_wp2_with (first
        | (refine wpList_load_row rfl 103 (.tmp 5) rfl w.heap.size rfl 103 _ (0, 0) _ HB.out.1 Try.underlying103 rfl (info_byV _ (lockT_length key s 10)) ?_)
        | (refine wpList_store_row rfl 103 (.tmp 6) (.tmp 32) rfl (w.heap.size + 1) _ rfl rfl 103 _ HB.out.2.1 (info_byV _ (lockT_length key s 10)) (size_byV _ _ rfl (lockT_length key s 10)) (one_byV _) ?_))
      exact bodyPost_ret (results_cell_row rfl _ _ (w.heap.size + 1) 103 (byV (lockT key s 10)) (0, 0) _ rfl (setRow_heap wr (w.heap.size + 1) _ _ _ _ HB.out.2.1) Try.underlying103 rfl (info_byV _ (lockT_length key s 10))) rfl ⟨rfl, HB.out.2.2.2.2.trans (Iter.below_setRow _ (by omega))⟩
end Go.Proofs.Ytifpdpfjhjoieaa

/-! AesS -/
namespace Go.Proofs.Ytifpdpfjhjoieaa
set_option linter.unusedVariables false
set_option linter.unusedSimpArgs false
open Go.RowKit Go.Proofs.YtifpdpfjhjoieaaW.PrintWords Go.Proofs.YtifpdpfjhjoieaaW.PrintLast
theorem rd_nat (l : List Int) (i : Nat) : rd l (i : Int) = l.getD i 0 := by unfold rd; rw [Int.toNat_natCast]
section
attribute [local irreducible] rconT m2 m3 xr bx keyF
variable (key : List Int)
end
end Go.Proofs.Ytifpdpfjhjoieaa

/-! AesD -/
namespace Go.Proofs.Ytifpdpfjhjoieaa
set_option linter.unusedVariables false
set_option linter.unusedSimpArgs false
open Go.RowKit Go.Shelf Iter
attribute [local go_sem] Oper.semAt_some
def z256 : List Int := List.replicate 256 0
set_option maxRecDepth 100000 in
theorem zero256 : Try.zeroCells123 = byV z256 := by kernel_rfl
theorem rowBox : rowTo 256 (fun i => bx (i : Int)) (fun _ => 0) 256 = boxT := by decide +kernel
theorem rowBox0 : rowTo 256 (fun i => bx (i : Int)) (fun _ => 0) 0 = z256 := by decide +kernel
set_option maxRecDepth 100000 in
set_option maxHeartbeats 1000000 in
theorem boxes_calls (w : World) :
    Calls Try.prog 65 #[] w fun e w' => e = .returned (.pointer (some ⟨w.heap.size, 0, none⟩)) ∧ Blk w' w.heap.size 123 (byV boxT) ∧ Below w.heap.size w w' := by
  go_enter Try.func65, Try.ntmps65
  go_wp2_with fail
  rw [zero256]
  have bo := Blk.new w 123 (byV z256)
  have hbl : Below w.heap.size w (w.alloc (.cells (byV z256) 123)) := (Below.refl _ w).alloc (Nat.le_refl _) _
  generalize (w.alloc (.cells (byV z256) 123)) = W0 at bo hbl ⊢
  go_loopw [3] (fun i wr => ∃ t : Nat, t ≤ 256 ∧ i = .int .i64 t ∧ Blk wr w.heap.size 123 (byV (rowTo 256 (fun i => bx (i : Int)) (fun _ => 0) t)) ∧ Below w.heap.size w wr) (fun i _ => 256 - (intOf i).toNat)
  case atStart => exact ⟨0, by omega, rfl, by rw [rowBox0]; exact bo, hbl⟩
  case round =>
    clear bo hbl
    obtain ⟨j, hj, rfl, bo, hbl⟩ := hrel
    by_cases h16 : j < 256
    · have j0 : (0 : Int) ≤ (j : Int) := by omega
      have j1 : (j : Int) < 256 := by omega
      have c0 : IntKind.u8.wrap (j : Int) = (j : Int) := by rw [IntKind.wrap_u8']; omega
      go_wp2_with fail
      refine (A.aes_Box.calls 40 _ _ _ (aes_box _ j0 j1)).mono ?_
      rintro e w' ⟨rfl, hd⟩
      obtain ⟨n, rfl⟩ := hd.out
      have bo1 : Blk (wr.drewN n) w.heap.size 123 (byV (rowTo 256 (fun i => bx (i : Int)) (fun _ => 0) j)) := bo
      have hbl1 := Go.Proofs.YtifpdpfjhjoieaaW.PrintWords.pw_below_drewN hbl n
      clear bo hbl
      generalize wr.drewN n = Wd at bo1 hbl1 ⊢
      have fx := bo1.frozen j
      have gx : Wd.cell? ⟨w.heap.size, j, none⟩ = some (.int .u8 0) := by
        refine (bo1.cell j).trans ?_
        rw [byV_at _ _ (by rw [rowTo_length]; exact h16), rowTo_at _ _ _ _ _ h16, if_neg (by omega)]
      have hset := bo1.set_ j (.int .u8 (bx (j : Int)))
      rw [byV_set, rowTo_set 256 (fun i => bx (i : Int)) (fun _ => 0) j] at hset
      have hb2 := hbl1.setCell (p := ⟨w.heap.size, j, none⟩) (Nat.le_refl _) (.int .u8 (bx (j : Int)))
      have HF := Lib.hid (And.intro hset hb2)
      clear hset hb2 bo1 hbl1
      generalize bx (j : Int) = y at HF ⊢
      go_wp2
      exact ⟨⟨j + 1, by omega, by go_num, HF.out.1, HF.out.2⟩, by simp [intOf]; omega⟩
    · obtain rfl : j = 256 := by omega
      have hdj : decide (((256 : Nat) : Int) < 256) = false := by decide
      rw [rowBox] at bo
      go_wp2
      go_ret
      exact ⟨rfl, bo, hbl⟩
end Go.Proofs.Ytifpdpfjhjoieaa

/-! AesH -/
namespace Go.Proofs.Ytifpdpfjhjoieaa
set_option linter.unusedVariables false
set_option linter.unusedSimpArgs false
open Go.RowKit Go.Shelf Iter Go.Proofs.YtifpdpfjhjoieaaW.PrintWords Go.Proofs.YtifpdpfjhjoieaaW.PrintLast
attribute [local go_sem] Oper.semAt_some
theorem madeB_eq (n : Nat) : madeCells (Value.int IntKind.u8 0).cells (n * 1) = byV (List.replicate n 0) := by
  apply Array.ext
  · simp [madeCells, byV]
  · intro i h1 h2
    simp [madeCells, byV, Value.cells, Nat.mod_one]
theorem madeB (L : Nat) (hL : L ≤ 140737488355328) (W : World) : (Instr.makeSlice 22 (.int .i64 (L : Int)) (.int .i64 (L : Int))).run Try.prog W = .ok (.slice (some ⟨W.heap.size, 0, none⟩) L L) (W.alloc (.cells (byV (List.replicate L 0)) 5)) := by
  obtain ⟨i, hi, hz⟩ := Option.map_eq_some_iff.1 (show (Try.prog.info? 5).map (fun i => (i.zero, i.size, i.bytes)) = some (some (.int .u8 0), 1, 1) by kernel_rfl)
  simp only [Prod.mk.injEq] at hz
  obtain ⟨h0, h1, h2⟩ := hz
  have h := run_make (P := Try.prog) (w := W) 22 5 i (.int .u8 0) Try.underlying22 hi h0 .i64 .i64 (L : Int) (L : Int) (by omega) (by omega) (by rw [h2]; omega) (by omega)
  rw [h1, Int.toNat_natCast, madeB_eq] at h
  exact h
theorem own_of_blk {w : World} {base g n : Nat} {e : TypeId} (l : List Int) (h : Blk w g e (byV l)) (hb : base ≤ g) (hn : l.length = n) (hm : n ≤ maxLen) : Kd.R (Kd.int .u8) e w base (fun _ => True) (.slice (some ⟨g, 0, none⟩) n n) l := by
  subst hn
  refine Kd.R_of_own (enc := Value.int .u8) (h1 := fun _ => rfl) ⟨by simp [encs], .inr ⟨g, l.length, byV l, rfl, hb, h, Nat.le_refl _, hm, by simp [byV_size], ?_⟩⟩ (fun _ _ => trivial)
  rw [List.take_of_length_le (by simp [byV])]
  rfl
/-- Bytes laid over others. -/
def over (cur : List Int) (off : Nat) (cs : List Int) : List Int := cur.take off ++ (cs ++ cur.drop (off + cs.length))
theorem over_length (cur cs : List Int) (off : Nat) (h : off + cs.length ≤ cur.length) : (over cur off cs).length = cur.length := by unfold over; simp; omega
theorem over_two (nonce num : List Int) (h1 : nonce.length = 12) (h2 : num.length = 4) : over (over z16 0 nonce) 12 num = nonce ++ num := by
  unfold over
  rw [List.take_zero, List.nil_append, h1, h2, List.take_left' h1]
  rw [List.drop_append, h1, List.drop_eq_nil_of_le (by rw [h1]; decide)]
  show nonce ++ (num ++ ([] ++ _)) = _
  have e : (z16.drop (0 + 12)).drop (12 + 4 - 12) = [] := by decide
  rw [e]
  simp
theorem wpList_copy_bytes {P : Program} {w : World} {ops : Array Oper} {rest : List Oper} {o : Oper} {a : Act} {Q : Exit → Act → World → Prop} (hgd : o.guard = none) (d s : Operand) (dT sT : TypeId)
    (ho : o.op = .call { callee := .builtin .copy, args := #[d, s], argTypes := #[dT, sT] }) (elem : TypeId) (hu : P.underlying dT = some (.slice elem)) (hsz : (P.info? elem).map (·.size) = some 1)
    (g off dLen dCap : Nat) (ad : Addr) (sLen sCap : Nat) (hd : a.eval d = .slice (some ⟨g, off, none⟩) dLen dCap) (hs : a.eval s = .slice (some ad) sLen sCap)
    (cur : List Int) (t : TypeId) (hg : Blk w g t (byV cur)) (cs : List Int) (hn : cs.length = Nat.min sLen dLen)
    (hsrc : ∀ j, j < cs.length → w.cell? (ad.add j) = some (.int .u8 (cs.getD j 0))) (hfit : off + cs.length ≤ cur.length)
    (h : wpList P ops Q rest (a.put o.dst (goInt cs.length)) (w.setRow g (byV (over cur off cs)))) : wpList P ops Q (o :: rest) a w := by
  refine wpList_copy_own hgd d s dT sT ho elem hu hsz g off dLen dCap ad sLen sCap hd hs (byV cur) t hg (valsB cs) (by rw [valsB_length, hn]) (fun j v hj => ?_) (by rw [valsB_length, byV_size]; exact hfit) (valsB_one cs) ?_
  · obtain ⟨hj', rfl⟩ := valsB_at cs j v hj
    exact hsrc j hj'
  · rw [valsB_length]
    have e : ((byV cur).toList.take off ++ (valsB cs ++ (byV cur).toList.drop (off + cs.length))).toArray = byV (over cur off cs) := by
      unfold over byV valsB
      simp
    rw [e]
    exact h
theorem i64_sub (a b c : Nat) (hle : b ≤ a) (h : a - b = c) (hc : a < 1000000) : IntKind.i64.wrap ((a : Int) - (b : Int)) = (c : Int) := by rw [IntKind.wrap_i64]; omega
theorem cell_farRow (W : World) (g : Nat) (cs : Array Value) (k j : Nat) (h : k ≠ g) : (W.setRow g cs).cell? ⟨k, j, none⟩ = W.cell? ⟨k, j, none⟩ := World.cell?_of_block (setRow_other W g k cs h)
/-- What a stream's walk knows of the world. -/
def SB (w : World) (gl gout : Nat) (key out : List Int) (W : World) : Prop := Blk W w.heap.size 123 (byV boxT) ∧ Blk W gl 104 (byV (keysV key)) ∧ Blk W gout 5 (byV out) ∧ Below w.heap.size w W
theorem SB.call {w W W' : World} {gl gout : Nat} {key out : List Int} (h : SB w gl gout key out W) (hb : Below W.heap.size W W') : SB w gl gout key out W' :=
  ⟨h.1.below hb h.1.lt, h.2.1.below hb h.2.1.lt, h.2.2.1.below hb h.2.2.1.lt, h.2.2.2.trans (hb.mono h.2.2.2.size)⟩
theorem SB.alloc {w W : World} {gl gout : Nat} {key out : List Int} (h : SB w gl gout key out W) (o : Obj) : SB w gl gout key out (W.alloc o) := h.call ((Below.refl _ _).alloc (Nat.le_refl _) _)
theorem SB.row {w W : World} {gl gout : Nat} {key out : List Int} (h : SB w gl gout key out W) (g : Nat) (cs : Array Value) (h0 : w.heap.size < g) (h1 : gl ≠ g) (h2 : gout ≠ g) : SB w gl gout key out (W.setRow g cs) :=
  ⟨h.1.farRow (by omega) _, h.2.1.farRow h1 _, h.2.2.1.farRow h2 _, h.2.2.2.trans (Iter.below_setRow _ (by omega))⟩
theorem SB.drew {w W : World} {gl gout : Nat} {key out : List Int} (h : SB w gl gout key out W) : SB w gl gout key out W.drew := ⟨h.1, h.2.1, h.2.2.1, h.2.2.2.drew⟩
theorem SB.set {w W : World} {gl gout : Nat} {key out : List Int} (h : SB w gl gout key out W) (h0 : w.heap.size < gout) (h1 : gl ≠ gout) (i : Nat) (x : Int) : SB w gl gout key (out.set i x) (W.setCell ⟨gout, i, none⟩ (.int .u8 x)) :=
  ⟨h.1.far (by simp; omega) _, h.2.1.far (by simpa using h1) _, by have := h.2.2.1.set_ i (.int .u8 x); rwa [byV_set] at this, h.2.2.2.setCell (by simp; omega) _⟩
def strF (key nonce b : List Int) (i : Nat) : Int := xr (b.getD i 0) ((lockT key (nonce ++ numB (i / 16 + 1) 4) 10).getD (i % 16) 0)
theorem str_full (key nonce b : List Int) (g : Nat → Int) : rowTo b.length (strF key nonce b) g b.length = streamOf key nonce b := by
  unfold rowTo streamOf
  apply List.map_congr_left
  intro i hi
  rw [if_pos (List.mem_range.1 hi)]
  rfl
theorem str_none (n : Nat) (f : Nat → Int) : rowTo n f (fun _ => 0) 0 = List.replicate n 0 := by
  unfold rowTo
  apply List.ext_getElem?
  intro i
  rw [List.getElem?_map, List.getElem?_replicate]
  by_cases h : i < n
  · rw [if_pos h, List.getElem?_range h]
    simp
  · rw [if_neg h, List.getElem?_eq_none (by simp; omega)]
    rfl
theorem bytes_of_R {w : World} {base e : Nat} {v : Value} {l : List Int} (h : Kd.R (Kd.int .u8) e w base (fun _ => True) v l) (hl : 0 < l.length) : ∃ g cap, v = .slice (some ⟨g, 0, none⟩) l.length cap ∧ base ≤ g ∧ l.length ≤ cap ∧ g < w.heap.size ∧ ∀ j, j < l.length → w.cell? ⟨g, j, none⟩ = some (.int .u8 (l.getD j 0)) := by
  have ho := Kd.own_of_R (enc := Value.int .u8) (h1 := fun _ => rfl) h
  obtain ⟨g, cap, cur, rfl, hb, hg, hcap, -, hs, ht⟩ : ∃ g cap cur, v = .slice (some ⟨g, 0, none⟩) l.length cap ∧ base ≤ g ∧ w.heap[g]? = some (.cells cur e (0, 0)) ∧ l.length ≤ cap ∧ cap ≤ maxLen ∧ cur.size = cap * 1 ∧ cur.toList.take (l.length * 1) = encs (Value.int .u8) l := by
    rcases ho.2 with ⟨_, h0⟩ | h
    · omega
    · exact h
  refine ⟨g, cap, rfl, hb, hcap, (Array.getElem?_eq_some_iff.1 hg).1, fun j hj => ?_⟩
  rw [cell_of_row w g j cur e (0, 0) hg, ← Array.getElem?_toList]
  have h1 : (cur.toList.take (l.length * 1))[j]? = cur.toList[j]? := by rw [List.getElem?_take, if_pos (by omega)]
  rw [← h1, ht]
  simp [encs, hj]
namespace P
def aes_Stream.f (key nonce b : List Int) : Option (List Int × Int) :=
  if key.length = 16 then (if nonce.length = 12 then (if byteOk key = true ∧ byteOk nonce = true ∧ byteOk b = true ∧ b.length ≤ 900000 then some (streamOf key nonce b, 0) else none) else some ([], 1)) else some ([], 1)
set_option maxRecDepth 100000 in
set_option maxHeartbeats 4000000 in
theorem aes_Stream.calls (A0 : Option Addr) (c0 : Nat) (l0 : List Int) (A1 : Option Addr) (c1 : Nat) (l1 : List Int) (A2 : Option Addr) (c2 : Nat) (l2 : List Int) (r1 : List Int) (r2 : Int) (w : World) (hr0 : Kd.C (Kd.int .u8) w A0 l0.length l0) (hc0 : l0.length ≤ c0) (hr1 : Kd.C (Kd.int .u8) w A1 l1.length l1) (hc1 : l1.length ≤ c1) (hr2 : Kd.C (Kd.int .u8) w A2 l2.length l2) (hc2 : l2.length ≤ c2) (h : aes_Stream.f l0 l1 l2 = some (r1, r2)) :
    Calls Try.prog 43 #[.slice A0 l0.length c0, .slice A1 l1.length c1, .slice A2 l2.length c2] w fun e w' => ∃ v0_ : Value, e = .returned (.tuple #[v0_, .int .i64 r2]) ∧ Kd.R (Kd.int .u8) 5 w' w.heap.size (fun _ => True) v0_ r1 ∧ Below w.heap.size w w' := by
  unfold aes_Stream.f at h
  by_cases h16 : l0.length = 16
  case neg =>
    rw [if_neg h16] at h
    injection h with h
    injection h with h1 h2
    subst h1 h2
    have d0 : ((l0.length : Int) == 16) = false := by simp; omega
    have d1 : ((l0.length : Int) != 16) = true := by simp; omega
    go_enter Try.func43, Try.ntmps43
    go_wp2
    go_ret2
    exact ⟨_, rfl, Kd.R_nil _ _ _ _ _, Below.refl _ _⟩
  rw [if_pos h16] at h
  by_cases h12 : l1.length = 12
  case neg =>
    rw [if_neg h12] at h
    injection h with h
    injection h with h1 h2
    subst h1 h2
    rw [h16]
    have d0 : ((l1.length : Int) == 12) = false := by simp; omega
    have d1 : ((l1.length : Int) != 12) = true := by simp; omega
    clear h16 hr0
    go_enter Try.func43, Try.ntmps43
    go_wp2
    go_ret2
    exact ⟨_, rfl, Kd.R_nil _ _ _ _ _, Below.refl _ _⟩
  rw [if_pos h12] at h
  split at h
  case isFalse => cases h
  case isTrue hok =>
  injection h with h
  injection h with h1' h2
  subst h1' h2
  obtain ⟨o0, o1, o2, o3⟩ := hok
  rw [h16] at hr0 hc0
  rw [h12] at hr1 hc1
  rw [h16, h12]
  have HK := Lib.hid (And.intro h16 (And.intro h12 (And.intro o0 (And.intro o1 (And.intro o2 (And.intro hr0 (And.intro hr1 hr2)))))))
  clear h16 h12 o0 o1 o2 hr0 hr1 hr2
  obtain ⟨L, hL⟩ : ∃ L, l2.length = L := ⟨_, rfl⟩
  rw [hL] at hc2 o3 ⊢
  have HLL := Lib.hid hL
  clear hL
  have hmk := Lib.hid (madeB L (by omega))
  go_enter Try.func43, Try.ntmps43
  go_wp2_with fail
  refine (boxes_calls w).mono ?_
  rintro e W1 ⟨rfl, hbx, hb1⟩
  have hr0 := Kd.C_below HK.out.2.2.2.2.2.1 hb1
  have H1 := Lib.hid (And.intro hbx (And.intro hb1 hr0))
  clear hbx hb1 hr0
  go_wp2_with fail
  refine (aesKeys_calls A0 c0 l0 w.heap.size W1 HK.out.1 HK.out.2.2.1 H1.out.2.2 hc0 H1.out.1).mono ?_
  rintro e W2 ⟨rfl, hb2⟩
  have H2 := Lib.hid (And.intro (H1.out.1.below hb2 H1.out.1.lt) (And.intro (H1.out.2.1.trans (hb2.mono H1.out.2.1.size)) H1.out.1.lt))
  have hz := Lib.hid (show Try.zeroCells104.size = (byV (keysV l0)).size by rw [zero176, byV_size, byV_size, keysV_length]; rfl)
  have hi := Lib.hid (show (Try.prog.info? 104).map (·.size) = some (byV (keysV l0)).size by rw [byV_size, keysV_length]; exact infoKeys)
  clear hb2 H1
  go_wp2_with (refine wpList_store_row rfl 104 (.tmp 9) (.tmp 27) rfl W2.heap.size _ rfl rfl 104 _ (Blk.new W2 104 Try.zeroCells104) hi.out hz.out (one_byV _) ?_)
  rw [hmk.out]
  go_wp2_with fail
  have hsz : (((W2.alloc (Obj.cells Try.zeroCells104 104)).setRow W2.heap.size (byV (keysV l0)))).heap.size = W2.heap.size + 1 := by rw [size_setRow, World.size_alloc]
  have S0 : SB w W2.heap.size (W2.heap.size + 1) l0 (rowTo L (strF l0 l1 l2) (fun _ => 0) 0) (((W2.alloc (Obj.cells Try.zeroCells104 104)).setRow W2.heap.size (byV (keysV l0))).alloc (Obj.cells (byV (List.replicate L 0)) 5)) := by
    have hlt := H2.out.1.lt
    refine ⟨((H2.out.1.alloc _).farRow (by omega) _).alloc _, ((Blk.new W2 _ _).setRow_ _).alloc _, ?_, ?_⟩
    · rw [str_none]
      have := Blk.new ((W2.alloc (Obj.cells Try.zeroCells104 104)).setRow W2.heap.size (byV (keysV l0))) 5 (byV (List.replicate L 0))
      rwa [hsz] at this
    · have h1 := (H2.out.2.1.alloc H2.out.2.1.size (Obj.cells Try.zeroCells104 104)).trans (Iter.below_setRow (g := W2.heap.size) (byV (keysV l0)) H2.out.2.1.size)
      exact h1.alloc h1.size _
  have hg0 : w.heap.size < W2.heap.size := H2.out.1.lt
  generalize (((W2.alloc (Obj.cells Try.zeroCells104 104)).setRow W2.heap.size (byV (keysV l0))).alloc (Obj.cells (byV (List.replicate L 0)) 5)) = W3 at *
  clear hz hi H2 hsz
  generalize W2.heap.size = gl at *
  clear W1 W2
  have HG := Lib.hid hg0
  clear hg0
  have S0 := Lib.hid S0
  go_loopw [11] (fun vat wr => ∃ t : Nat, 16 * t ≤ L + 15 ∧ vat = .int .i64 ((16 * t : Nat) : Int) ∧ Hid (SB w gl (gl + 1) l0 (rowTo L (strF l0 l1 l2) (fun _ => 0) (min (16 * t) L)) wr)) (fun vat _ => L - (intOf vat).toNat)
  case atStart => exact ⟨0, by omega, rfl, by rw [Nat.mul_zero, Nat.zero_min]; exact S0⟩
  case round =>
    clear S0
    obtain ⟨t, ht, rfl, SX⟩ := hrel
    obtain ⟨a, ha⟩ : ∃ a, 16 * t = a := ⟨_, rfl⟩
    rw [ha] at SX ⊢
    by_cases hlt : a < L
    · have a0 : (0 : Int) ≤ (a : Int) := by omega
      have a1 : (a : Int) ≤ 900000 := by omega
      have a2 : (a : Int) < (L : Int) := by omega
      have t0 : (0 : Int) ≤ (t : Int) := by omega
      have t1 : (t : Int) ≤ 60000 := by omega
      obtain ⟨m, hm⟩ : ∃ m, t + 1 = m := ⟨_, rfl⟩
      obtain ⟨e, he⟩ : ∃ e, min (a + 16) L = e := ⟨_, rfl⟩
      have hmm := Lib.hid (show P.byt_Num.f (m : Int) 4 = some (numB m 4, 0) by unfold P.byt_Num.f; exact congrArg some (numOf_small m 4 (by omega) (by omega) (by omega)))
      have t9 : t < 1000000 := by omega
      have m9 : m < 1000000 := by omega
      have d0 : (a : Int) / 16 = (t : Int) := by omega
      have Ha := Lib.hid ha
      have Hm := Lib.hid hm
      have He := Lib.hid he
      have D1 := Lib.hid (show (t : Int) + 1 = (m : Int) by omega)
      clear ha hm he ht t9 m9
      go_wp2_with fail
      rw [zero16, D1.out]
      clear d0 D1
      refine (P.byt_Num.calls _ _ _ _ _ hmm.out).mono ?_
      rintro e5 W5 ⟨v, rfl, hR, hb5⟩
      obtain ⟨g4, cap4, rfl, hg4, hcap4, hlt4, hc4⟩ := bytes_of_R hR (by rw [numB_length]; decide)
      rw [numB_length] at hcap4 hc4 ⊢
      have S1 := Lib.hid ((SX.out.alloc (Obj.cells (byV z16) 103)).call hb5)
      have B1 := (Blk.new wr 103 (byV z16)).below hb5 (by simp)
      obtain ⟨ak1, rfl, hk1⟩ := byte_cell l1 (by omega) (Kd.C_below HK.out.2.2.2.2.2.2.1 S1.out.2.2.2)
      have hgo := SX.out.2.2.1.lt
      rw [World.size_alloc] at hg4
      have hk1' : ∀ j, j < l1.length → W5.cell? (ak1.add j) = some (.int .u8 (l1.getD j 0)) := fun j hj => hk1 j (by rw [← HK.out.2.1]; exact hj)
      have HC := Lib.hid (And.intro hk1' (And.intro hc4 (And.intro hlt4 (And.intro B1 (And.intro hg4 hgo)))))
      have HL := Lib.hid (show l1.length = Nat.min 12 16 from HK.out.2.1)
      have HF := Lib.hid (show 0 + l1.length ≤ z16.length by rw [HK.out.2.1]; decide)
      clear hk1 hk1' hc4 hlt4 B1 hg4 hgo hb5 hR
      have hgs0 : w.heap.size < wr.heap.size := SX.out.1.lt
      clear SX
      generalize wr.heap.size = gs at *
      have hN := Lib.hid (show (numB m 4).length = Nat.min 4 4 by rw [numB_length]; rfl)
      have hF2 := Lib.hid (show 12 + (numB m 4).length ≤ (over z16 0 l1).length by rw [over_length _ _ _ HF.out, numB_length]; decide)
      have B2 := Blk.setRow_ HC.out.2.2.2.1 (byV (over z16 0 l1))
      have hc2 : ∀ j, j < (numB m 4).length → (W5.setRow gs (byV (over z16 0 l1))).cell? ((⟨g4, 0, none⟩ : Addr).add j) = some (.int .u8 ((numB m 4).getD j 0)) := by
        intro j hj
        have := HC.out.2.2.2.2.1
        rw [Addr.add_mid, Nat.zero_add, cell_farRow _ _ _ _ _ (by omega)]
        exact HC.out.2.1 j (by rw [numB_length] at hj; exact hj)
      have B3 := B2.setRow_ (byV (over (over z16 0 l1) 12 (numB m 4)))
      have S2 := (S1.out.row gs (byV (over z16 0 l1)) hgs0 (by have := HC.out.2.2.2.2.2; omega) (by have := HC.out.2.2.2.2.2; omega)).row gs (byV (over (over z16 0 l1) 12 (numB m 4))) hgs0 (by have := HC.out.2.2.2.2.2; omega) (by have := HC.out.2.2.2.2.2; omega)
      have ho2 := over_two l1 (numB m 4) HK.out.2.1 (numB_length m 4)
      rw [ho2] at B3 S2
      have hl16 : (l1 ++ numB m 4).length = 16 := by rw [List.length_append, HK.out.2.1, numB_length]
      have H3 := Lib.hid (And.intro B2 (And.intro hc2 (And.intro B3 (And.intro S2 (And.intro ho2 hl16)))))
      have HG2 := Lib.hid (And.intro hgs0 HC.out.2.2.2.2.2)
      clear B2 hc2 B3 S2 ho2 hgs0 hl16 S1
      dsimp only
      go_wp2_with (first
        | (with_reducible refine wpList_copy_bytes rfl (.tmp 44) (.tmp 45) 22 22 rfl 5 Try.underlying22 info_u8s gs 0 16 16 ak1 12 c1 rfl rfl z16 103 HC.out.2.2.2.1 l1 HL.out HC.out.1 HF.out ?_)
        | (with_reducible refine wpList_copy_bytes rfl (.tmp 47) (.tmp 48) 22 22 rfl 5 Try.underlying22 info_u8s gs 12 4 4 ⟨g4, 0, none⟩ 4 cap4 rfl rfl (over z16 0 l1) 103 H3.out.1 (numB m 4) hN.out H3.out.2.1 hF2.out ?_; rw [H3.out.2.2.2.2.1])
        | (refine wpList_load_row rfl 103 (.tmp 12) rfl gs rfl 103 _ (0, 0) _ H3.out.2.2.1 Try.underlying103 rfl (info_byV _ H3.out.2.2.2.2.2) ?_))
      refine (aesLocked_calls gl w.heap.size l0 (l1 ++ numB m 4) _ HK.out.1 H3.out.2.2.2.2.2 H3.out.2.2.2.1.2.1 H3.out.2.2.2.1.1).mono ?_
      rintro e6 W6 ⟨rfl, hb6⟩
      have B4 := H3.out.2.2.1.below hb6 H3.out.2.2.1.lt
      have S3 := H3.out.2.2.2.1.call hb6
      have B5 := B4.setRow_ (byV (lockT l0 (l1 ++ numB m 4) 10))
      have S4 := S3.row gs (byV (lockT l0 (l1 ++ numB m 4) 10)) HG2.out.1 (by have := HG2.out.2; omega) (by have := HG2.out.2; omega)
      have H4 := Lib.hid (And.intro B4 (And.intro H3.out.2.2.2.2.2 (And.intro B5 S4)))
      clear B4 S3 B5 S4 hb6 H3 HC HL HF hN hF2 hcap4
      go_wp2_with (refine wpList_store_row rfl 103 (.tmp 12) (.tmp 52) rfl gs _ rfl rfl 103 _ H4.out.1 (info_byV _ (lockT_length _ _ _)) (size_byV _ _ H4.out.2.1 (lockT_length _ _ _)) (one_byV _) ?_)
      have H5 := Lib.hid (And.intro H4.out.2.2.1 H4.out.2.2.2)
      clear H4
      generalize W6.setRow gs (byV (lockT l0 (l1 ++ numB m 4) 10)) = W7 at *
      clear W5 W6
      clear wr
      have hae : a ≤ e := by have := He.out; omega
      have heL : e ≤ L := by have := He.out; omega
      have hea : e ≤ a + 16 := by have := He.out; omega
      have E0 := Lib.hid (show (if (L : Int) < (a : Int) + 16 then (L : Int) else (a : Int) + 16) = (e : Int) by have := He.out; split <;> omega)
      go_loopw [15] (fun vi wr => ∃ i : Nat, a ≤ i ∧ i ≤ e ∧ vi = .int .i64 (i : Int) ∧ Hid (Blk wr gs 103 (byV (lockT l0 (l1 ++ numB m 4) 10)) ∧ SB w gl (gl + 1) l0 (rowTo L (strF l0 l1 l2) (fun _ => 0) i) wr)) (fun vi _ => e - (intOf vi).toNat)
      case atStart => exact ⟨a, Nat.le_refl _, hae, rfl, by rw [Nat.min_eq_left (Nat.le_of_lt hlt)] at H5; exact H5⟩
      case round =>
        clear H5
        obtain ⟨i, hi1, hi2, rfl, H6⟩ := hrel
        by_cases hlt2 : i < e
        · have i0 : (0 : Int) ≤ (i : Int) := by omega
          have i1 : (i : Int) < (e : Int) := by omega
          have i2 : (i : Int) < (L : Int) := by omega
          have eM := E0.out
          obtain ⟨k, hk⟩ : ∃ k, i - a = k := ⟨_, rfl⟩
          have k0 : (0 : Int) ≤ (k : Int) := by omega
          have k1 : (k : Int) < 16 := by omega
          have k2 := i64_sub i a k hi1 hk (by omega)
          obtain ⟨ad2, rfl, hcb⟩ := byte_cell l2 (by have := HLL.out; omega) (Kd.C_below HK.out.2.2.2.2.2.2.2 H6.out.2.2.2.2)
          have gx := hcb i (by have := HLL.out; omega)
          have gy : wr.cell? ⟨gs, k, none⟩ = some (.int .u8 ((lockT l0 (l1 ++ numB m 4) 10).getD k 0)) := (H6.out.1.cell k).trans (byV_at _ _ (by rw [lockT_length]; omega))
          have gz : wr.cell? ⟨gl + 1, i, none⟩ = some (.int .u8 0) := by
            refine (H6.out.2.2.2.1.cell i).trans ?_
            rw [byV_at _ _ (by rw [rowTo_length]; omega), rowTo_at _ _ _ _ _ (by omega), if_neg (by omega)]
          have fz := H6.out.2.2.2.1.frozen i
          have hF : strF l0 l1 l2 i = xr (l2.getD i 0) ((lockT l0 (l1 ++ numB m 4) 10).getD k 0) := by
            have h1 := Ha.out
            have h2 := Hm.out
            unfold strF
            rw [show i / 16 + 1 = m from by omega, show i % 16 = k from by omega]
          have hs1 := H6.out.2.set (by have := HG.out; omega) (by omega) i (strF l0 l1 l2 i)
          rw [rowTo_set, hF] at hs1
          have hs0 := H6.out.1.far (p := ⟨gl + 1, i, none⟩) (by simp; have := HG2.out.2; omega) (.int .u8 (xr (l2.getD i 0) ((lockT l0 (l1 ++ numB m 4) 10).getD k 0)))
          have HQ := Lib.hid (And.intro hs0 hs1)
          have HJ := Lib.hid (And.intro hi1 (And.intro hi2 hlt2))
          clear hs0 hs1 hF hk hcb H6 hi1 hi2 hlt2
          generalize l2.getD i 0 = x at *
          generalize (lockT l0 (l1 ++ numB m 4) 10).getD k 0 = y at *
          unfold xr at HQ
          go_wp2_with fail
          go_region
          clear k2
          go_wp2
          exact ⟨⟨i + 1, by have := HJ.out; omega, by have := HJ.out; omega, by go_num, HQ.out.1, HQ.out.2.drew⟩, by simp [intOf]; have := HJ.out; omega⟩
        · have i0 : (0 : Int) ≤ (i : Int) := by omega
          have i1 : ¬ (i : Int) < (e : Int) := by omega
          have eM := E0.out
          obtain rfl : i = e := by omega
          go_wp2_with fail
          have h1 := Ha.out
          have h2 := He.out
          refine ⟨⟨t + 1, by omega, by rw [show ((16 * (t + 1) : Nat) : Int) = (a : Int) + 16 from by omega], ?_⟩, by simp [intOf]; omega⟩
          have h3 := Lib.hid H6.out.2
          rw [show i = min (16 * (t + 1)) L from by omega] at h3
          exact h3
    · have hat : ¬ (a : Int) < (L : Int) := by omega
      rw [Nat.min_eq_right (by omega)] at SX
      go_wp2
      go_ret2
      refine ⟨_, rfl, own_of_blk (streamOf l0 l1 l2) ?_ (by have := HG.out; omega) (by rw [streamOf_length, HLL.out]) (by unfold maxLen; omega), SX.out.2.2.2⟩
      have h1 := SX.out.2.2.1
      rw [← HLL.out, str_full] at h1
      exact h1
end P
end Go.Proofs.Ytifpdpfjhjoieaa

/-! SealA -/
namespace Go.Proofs.Ytifpdpfjhjoieaa
set_option linter.unusedVariables false
set_option linter.unusedSimpArgs false
open Go.RowKit Go.Shelf Iter Go.Proofs.YtifpdpfjhjoieaaW.PrintWords Go.Proofs.YtifpdpfjhjoieaaW.PrintLast
attribute [local go_sem] Oper.semAt_some
def labLock : ByteArray := ⟨#[108, 111, 99, 107]⟩
def labTag : ByteArray := ⟨#[116, 97, 103]⟩
set_option maxRecDepth 100000 in
set_option maxHeartbeats 1000000 in
theorem half_calls (lab : ByteArray) (n : Nat) (m : Int) (hm : m = (n : Int)) (hn : n ≤ 8160) (hl : lab.size ≤ 100000) (g : Nat) (A0 : Option Addr) (c0 : Nat) (key : List Int) (w : World) (ho : byteOk key = true) (h32 : key.length = 32)
    (hcell : w.cell? ⟨g, 0, none⟩ = some (.slice A0 32 c0)) (hr : Kd.C (Kd.int .u8) w A0 key.length key) (hc : 32 ≤ c0) :
    Calls Try.prog 39 #[.string lab, .int .i64 m, .pointer (some ⟨g, 0, none⟩)] w fun e w' => ∃ v, e = .returned v ∧ Kd.R (Kd.int .u8) 5 w' w.heap.size (fun _ => True) v (labelOf key lab [] n) ∧ Below w.heap.size w w' := by
  have hL := Lib.hid (show P.kdf_Label.f key lab [] m = some (labelOf key lab [] n, 0) by rw [hm]; exact label_some key lab [] n hn ho rfl (by omega) hl (by simp))
  have hr := Lib.hid (And.intro hr (And.intro h32 ho))
  clear hm h32 ho
  go_enter Try.func39, Try.ntmps39
  go_wp2_with fail
  rw [show (32 : Nat) = key.length from hr.out.2.1.symm]
  refine (P.kdf_Label.calls A0 c0 key lab none 0 [] m (labelOf key lab [] n) 0 w hr.out.1 (by rw [hr.out.2.1]; exact hc) (Kd.C_nil _ _) (Nat.le_refl _) hL.out).mono ?_
  rintro e w' ⟨v, rfl, hR, hb⟩
  have HR := Lib.hid (And.intro hR hb)
  clear hR hb
  go_wp2
  go_ret
  exact ⟨_, rfl, HR.out⟩
namespace P
def seal_Halves.f (key : List Int) : Option (List Int × List Int × Int) := if key.length = 32 then (if byteOk key = true then some (labelOf key labLock [] 16, labelOf key labTag [] 32, 0) else none) else some ([], [], 1)
set_option maxRecDepth 100000 in
set_option maxHeartbeats 1000000 in
theorem seal_Halves.calls (A0 : Option Addr) (c0 : Nat) (l0 : List Int) (r1 : List Int) (r2 : List Int) (r3 : Int) (w : World) (hr0 : Kd.C (Kd.int .u8) w A0 l0.length l0) (hc0 : l0.length ≤ c0) (h : seal_Halves.f l0 = some (r1, r2, r3)) :
    Calls Try.prog 14 #[.slice A0 l0.length c0] w fun e w' => ∃ v0_ v1_ : Value, e = .returned (.tuple #[v0_, v1_, .int .i64 r3]) ∧ Kd.R (Kd.int .u8) 5 w' w.heap.size (fun k_ => some k_ ≠ (v1_ : Value).ownBlock) v0_ r1 ∧ Kd.R (Kd.int .u8) 5 w' w.heap.size (fun k_ => some k_ ≠ (v0_ : Value).ownBlock) v1_ r2 ∧ Below w.heap.size w w' := by
  unfold seal_Halves.f at h
  by_cases h32 : l0.length = 32
  case neg =>
    rw [if_neg h32] at h
    injection h with h
    injection h with h1 h2
    injection h2 with h2 h3
    subst h1 h2 h3
    have d0 : ((l0.length : Int) == 32) = false := by simp; omega
    have d1 : ((l0.length : Int) != 32) = true := by simp; omega
    go_enter Try.func14, Try.ntmps14
    go_wp2
    go_ret3
    exact ⟨_, _, rfl, Kd.R_nil _ _ _ _ _, Kd.R_nil _ _ _ _ _, (Below.refl _ _).alloc (Nat.le_refl _) _⟩
  rw [if_pos h32] at h
  split at h
  case isFalse => cases h
  case isTrue ho =>
  injection h with h
  injection h with h1 h2
  injection h2 with h2 h3
  subst h1 h2 h3
  rw [h32] at hc0 ⊢
  have HK := Lib.hid (And.intro h32 (And.intro ho hr0))
  clear h32 ho hr0
  go_enter Try.func14, Try.ntmps14
  go_wp2_with fail
  have b0 := Blk.new w 22 #[.slice A0 32 c0]
  have hb0 : Below w.heap.size w (w.alloc (Obj.cells #[.slice A0 32 c0] 22)) := (Below.refl _ _).alloc (Nat.le_refl _) _
  refine (half_calls labLock 16 16 rfl (by decide) (by decide) w.heap.size A0 c0 l0 _ HK.out.2.1 HK.out.1 (b0.cell 0) (Kd.C_alloc HK.out.2.2 _) hc0).mono ?_
  rintro e W1 ⟨v1, rfl, hR1, hb1⟩
  have H1 := Lib.hid (And.intro (b0.below hb1 b0.lt) (And.intro (Kd.C_below (Kd.C_alloc HK.out.2.2 _) hb1) (And.intro hR1 (hb0.trans (hb1.mono hb0.size)))))
  clear b0 hb0 hR1 hb1
  go_wp2_with fail
  refine (half_calls labTag 32 32 rfl (by decide) (by decide) w.heap.size A0 c0 l0 _ HK.out.2.1 HK.out.1 (H1.out.1.cell 0) H1.out.2.1 hc0).mono ?_
  rintro e W2 ⟨v2, rfl, hR2, hb2⟩
  have hlt := Kd.R_lt H1.out.2.2.1
  have hR1' := Kd.R_elder' H1.out.2.2.1 (v := v2) (fun k hk => own_base (Kd.own_of_R (enc := Value.int .u8) (h1 := fun _ => rfl) hR2) k hk) hb2
  have hR2' := Kd.R_new' hR2 (u := v1) hlt
  have H2 := Lib.hid (And.intro hR1' (And.intro hR2' (And.intro (H1.out.2.2.2.trans (hb2.mono H1.out.2.2.2.size)) H1.out.2.2.2.size)))
  clear hlt hR1' hR2' H1 hR2 hb2
  go_wp2
  go_ret3
  exact ⟨_, _, rfl, Kd.R_mono (Kd.R_lower H2.out.1 (by simp)) (fun _ hk => hk.2), Kd.R_mono (Kd.R_lower H2.out.2.1 H2.out.2.2.2) (fun _ hk => hk.2), H2.out.2.2.1⟩
end P
end Go.Proofs.Ytifpdpfjhjoieaa

/-! H0 -/
namespace Go.Proofs.Ytifpdpfjhjoieaa.H
open Go.Proofs.Ytifpdpfjhjoieaa.P
open Go.RowKit Go.Proofs.YtifpdpfjhjoieaaW.PrintWords Go.Proofs.YtifpdpfjhjoieaaW.PrintLast Go.Proofs.YtifpdpfjhjoieaaW.PrintMore
attribute [local go_sem] max2_int min2_int max_two min_two max_three min_three max_four min_four   -- for this text's walks alone
set_option linter.unusedVariables false
set_option linter.unusedSimpArgs false
def errW : Option Int → Value
  | none => .nilIface
  | some c => .iface 0 (.int .i64 c)
theorem errW_none : errW none = .nilIface := rfl
theorem errW_some (c : Int) : errW (some c) = .iface 0 (.int .i64 c) := rfl
theorem info5 : (Try.prog.info? 5).map (fun i => (i.zero, i.size, i.bytes)) = some (some (.int .u8 0), 1, 1) := by kernel_rfl
-- the values' own types
end Go.Proofs.Ytifpdpfjhjoieaa.H
