/-
 The lower layers, walked and in closed forms, part 4: KdfRefLabel, AesSpec, AesB, AesC, AesA, AesE, AesF, AesL, C0, C1, C2, AesQ.
-/
import Derived.Test.YtifpdpfjhjoieaaX0
import Derived.Test.YtifpdpfjhjoieaaX1
import Derived.Test.YtifpdpfjhjoieaaX3
import Derived.Test.YtifpdpfjhjoieaaProg
import Derived.Test.YtifpdpfjhjoieaaJWords
import Derived.Test.YtifpdpfjhjoieaaJLast
import Derived.Test.YtifpdpfjhjoieaaJMore
import Derived.Test.YtifpdpfjhjoieaaJRepsOne
import Derived.Test.YtifpdpfjhjoieaaJTab
import Derived.Laws.BitsAllLaws
import Derived.Deep.RegionHeld3
import Derived.Deep.DrawnRows
import Derived.Deep.MidRow
import Derived.Laws.CopyOwn
import Derived.StillTailTactics
import Derived.Below
import Derived.Deep.Draws
import Derived.Deep.AppendLies
import Derived.Maps.AppendAt
import Derived.OwnWalk
import Derived.Laws.BytesArg
import Derived.Laws.MakeOwn
import Derived.Laws.OwnMore
import Derived.Deep.OwnRows
import Derived.Tactics
import Derived.Lib.ConvBytes
import Derived.Laws.Slices
import Derived.WalkKit
import Derived.KernelRfl
import Derived.RowKit3
import Derived.Deep.LoopGhost
import Derived.Deep.QuietTactic
import Derived.BigQuiet
import Derived.WideLaws
import Derived.Deep.DeepCutAuto
import Derived.Deep.CutBlock
import Derived.Laws.Rows
import Derived.Lib.AppendStr
import Derived.ArgAppend
import Derived.Laws.IdiomCopy
import Derived.OrdersHeld
import Derived.Laws.BitsLemmas
import Derived.RowKit
/-! KdfRefLabel -/
namespace Go.Proofs.Ytifpdpfjhjoieaa
set_option linter.unusedVariables false
set_option linter.unusedSimpArgs false
open Go.RowKit Go.Proofs.YtifpdpfjhjoieaaW.PrintWords Go.Proofs.YtifpdpfjhjoieaaW.PrintLast Go.Proofs.YtifpdpfjhjoieaaW.PrintMore Iter
namespace P
def pyxref04_Label.f (secret : List Int) (label : ByteArray) (context : List Int) (n : Int) : Option (List Int × Int) := kdf_Label.f secret label context n
set_option maxRecDepth 100000 in
set_option maxHeartbeats 2000000 in
theorem pyxref04_Label.calls (A0 : Option Addr) (c0 : Nat) (l0 : List Int) (a1 : ByteArray) (A2 : Option Addr) (c2 : Nat) (l2 : List Int) (a3 : Int) (r1 : List Int) (r2 : Int) (w : World) (hr0 : Kd.C (Kd.int .u8) w A0 l0.length l0) (hc0 : l0.length ≤ c0) (hr2 : Kd.C (Kd.int .u8) w A2 l2.length l2) (hc2 : l2.length ≤ c2) (h : pyxref04_Label.f l0 a1 l2 a3 = some (r1, r2)) :
  Calls Try.prog 41 #[.slice A0 l0.length c0, .string a1, .slice A2 l2.length c2, .int .i64 a3] w fun e w' => ∃ v0_ : Value, e = .returned (.tuple #[v0_, .int .i64 r2]) ∧ Kd.R (Kd.int .u8) 5 w' w.heap.size (fun _ => True) v0_ r1 ∧ Below w.heap.size w w' := by
 unfold pyxref04_Label.f kdf_Label.f at h
 by_cases h0 : a3 < 0
 ·rw [if_pos h0] at h
  injection h with h
  injection h with h1 h2
  subst h1 h2
  have d0 : decide (a3 < 0) = true := by simp [h0]
  go_enter Try.func41, Try.ntmps41
  go_wp2
  go_ret2
  exact ⟨_, rfl, Kd.R_nil _ _ _ _ _, Below.refl _ _⟩
 rw [if_neg h0] at h
 have d0 : decide (a3 < 0) = false := by simp; omega
 by_cases h1 : 8160 < a3
 ·rw [if_pos h1] at h
  injection h with h
  injection h with h1' h2
  subst h1' h2
  have d1 : decide (8160 < a3) = true := by simp [h1]
  go_enter Try.func41, Try.ntmps41
  go_wp2
  go_ret2
  exact ⟨_, rfl, Kd.R_nil _ _ _ _ _, Below.refl _ _⟩
 rw [if_neg h1] at h
 have d1 : decide (8160 < a3) = false := by simp; omega
 split at h
 case isFalse => cases h
 case isTrue hok =>
 injection h with h
 injection h with h1' h2
 subst h1' h2
 obtain ⟨n, rfl⟩ := Int.eq_ofNat_of_zero_le (show 0 ≤ a3 by omega)
 rw [Int.toNat_natCast]
 obtain ⟨o1, o2, o3, o4, o5⟩ := hok
 obtain ⟨t, ht⟩ : ∃ t : ByteArray, t = mlsS ++ a1 := ⟨_, rfl⟩
 have htb : bytesOf t = mls ++ bytesOf a1 := by rw [ht, bytesOf_append, mls_bytes]
 have htl : (bytesOf t).length = a1.size + 8 := by rw [htb, List.length_append, bytesOf_length]; exact Nat.add_comm _ _
 have hts : t.size = a1.size + 8 := by rw [← bytesOf_length, htl]
 have hrow1 : P.pyxref01_Row.f (bytesOf t) = some (rowB (bytesOf t), 0) := congrArg some (rowOf_small (bytesOf t) (by omega))
 have hrow2 : P.pyxref01_Row.f l2 = some (rowB l2, 0) := congrArg some (rowOf_small l2 (by omega))
 have hnum : P.pyxref01_Num.f (n : Int) 2 = some (numB n 2, 0) := by
  unfold P.pyxref01_Num.f
  exact congrArg some (numOf_small n 2 (by omega) (by omega) (by omega))
 have hl1 : (numB n 2).length = 2 := numB_length _ _
 have kb : ∀ W : World, (convert 9 22 (.string ({ data := #[77, 76, 83, 32, 49, 46, 48, 32] } ++ a1))).run Try.prog W = .ok (.slice (some ⟨W.heap.size, 0, none⟩) t.size (grownCap W t.size 0 5)) (Lib.bytesWorld W 5 t) := fun W => by
  rw [ht]
  exact print_bytes (P := Try.prog) 9 22 5 Try.underlying9 Try.underlying22 Try.underlying5 (mlsS ++ a1) W
 have hexp : P.pyxref04_Expand.f l0 (labelRow a1 l2 n) (n : Int) = some (labelOf l0 a1 l2 n, 0) := by
  have b1 := byteOk_labelRow a1 l2 n o2
  have b2 := labelRow_length a1 l2 n
  unfold P.pyxref04_Expand.f P.kdf_Expand.f
  rw [if_neg (by omega), if_neg (by omega), if_pos ⟨o1, b1, o3, by omega⟩]
  rfl
 have HLR := Lib.hid hexp
 clear hexp
 have hrw : labelRow a1 l2 n = numB n 2 ++ rowB (bytesOf t) ++ rowB l2 := by rw [htb]; rfl
 have hl3 := rowB_length (bytesOf t)
 rw [htl] at hl3
 have hl4 := rowB_length l2
 have HN := Lib.hid hnum
 have H1 := Lib.hid (And.intro hrow1 (And.intro hrow2 (And.intro hrw (And.intro htb (And.intro htl hts)))))
 have KB := Lib.hid kb
 have Hr := Lib.hid (And.intro hr0 hr2)
 clear hnum hrow1 hrow2 ht htb htl hts kb hr0 hr2 o1 o2 hrw
 go_enter Try.func41, Try.ntmps41
 go_wp2_with fail
 refine (P.pyxref01_Num.calls (n : Int) 2 (numB n 2) 0 _ HN.out).mono ?_
 rintro e W1 ⟨v1, rfl, hR1, hb1⟩
 have hkb := KB.out W1
 have hcp := grownCap_ge W1 t.size 0 5
 have hC2 := bytes_C W1 t (by have := H1.out.2.2.2.2.2; omega)
 have hb2 := bytes_below hb1 hb1.size 5 t
 have hs2 := Lib.bytesWorld_size W1 5 t
 have hR2 : Kd.R (Kd.int .u8) 5 (Lib.bytesWorld W1 5 t) w.heap.size (fun b => b < W1.heap.size) v1 (numB n 2) :=
  Kd.R_mono (Kd.R_move (Kd.R_bound hR1) (fun k hk => Lib.bytesWorld_at_old W1 5 t k hk.2.2.1)) (fun k hk => hk.2.2.1)
 rw [H1.out.2.2.2.2.2] at hkb hcp
 generalize grownCap W1 (a1.size + 8) 0 5 = cp at *
 generalize Lib.bytesWorld W1 5 t = W2 at *
 have HS2 := Lib.hid hs2
 have H2 := Lib.hid (And.intro hC2 (And.intro hb2 hR2))
 have hlen := H1.out.2.2.2.2.1
 have HL := Lib.hid hlen
 clear hs2 hb1 hR1 hlen hC2 hb2 hR2
 have hcp' : (bytesOf t).length ≤ cp := by rw [HL.out]; exact hcp
 go_wp2_with fail
 rw [← HL.out]
 refine (P.pyxref01_Row.calls _ cp (bytesOf t) (rowB (bytesOf t)) 0 _ H2.out.1 hcp' H1.out.1).mono ?_
 rintro e W3 ⟨v3, rfl, hR3, hb3⟩
 have hr3 := Kd.R_below H2.out.2.2 hb3
 have hk3 := H2.out.2.1.trans (hb3.mono H2.out.2.1.size)
 have hs3 := hb3.size
 have H3 := Lib.hid (And.intro hr3 (And.intro hR3 hk3))
 clear hr3 hR3 hk3 hb3
 go_wp2_with fail
 refine (P.pyxref01_Row.calls A2 c2 l2 (rowB l2) 0 _ (Kd.C_below Hr.out.2 H3.out.2.2) hc2 H1.out.2.1).mono ?_
 rintro e W4 ⟨v4, rfl, hR4, hb4⟩
 have hr4 := Kd.R_below H3.out.1 hb4
 have hq4 := Kd.R_below H3.out.2.1 hb4
 have hk4 := H3.out.2.2.trans (hb4.mono H3.out.2.2.size)
 have hs4 := hb4.size
 have hv1 : Kd.R (Kd.int .u8) 5 W4 w.heap.size (fun b => b < W1.heap.size ∨ W4.heap.size ≤ b) v1 (numB n 2) := Kd.R_mono hr4 (fun b hb => Or.inl hb)
 have hR4b := Kd.R_bound hR4
 obtain ⟨A3, c3, rfl, hl5, hC3⟩ := Kd.R_reads hq4
 obtain ⟨A4, c4, rfl, hl6, -⟩ := Kd.R_reads hR4
 have ho4 : ∀ b, (Value.slice A4 (rowB l2).length c4).ownBlock = some b → W3.heap.size ≤ b ∧ b < W4.heap.size := fun b hb => by have := hR4b.1 b hb; omega
 have HV := Lib.hid (And.intro hv1 (And.intro hR4 (And.intro ho4 (And.intro hk4 hC3))))
 clear hr4 hq4 hk4 hR4 hR4b ho4 hv1 H3 H2 hC3
 go_wp2_with (first
  | ((with_reducible refine gate_builtin (b := .append) (xs := #[.tmp 40, .tmp 41]) rfl ?_); at_builtin; refine Kd.R_append_rows (Kd.int .u8) (w0 := w) w.heap.size rfl (.tmp 40) (.tmp 41) 22 5 (.int .u8 0) 1 rfl Try.underlying22 B.info5 rfl (by decide) (by omega) v1 (numB n 2) (rowB (bytesOf t)) _ _ _ (fun b => b < W1.heap.size ∨ W4.heap.size ≤ b) (fun _ => False) rfl rfl HV.out.1 HV.out.2.2.2.2 (fun _ _ h => h) (fun _ h => h.elim) (by intro b hb; exact Or.inr hb) HV.out.2.2.2.1 HV.out.2.2.2.1.size (by omega) ?_; intro v5 W5 hv5 hb5 hgr5 hat5; (have hR5 := Kd.R_grown2 HV.out.2.1 rfl hgr5 (fun k hk e => by have h1 := HV.out.1.1 k hk; have h2 := HV.out.2.2.1 k e.symm; have := HS2.out; omega)); (have hC5 := (Kd.R_reads' hR5).2.2); (have hb4s := hgr5.size); clear hR5 hgr5 hat5; (have hl7 : (numB n 2 ++ rowB (bytesOf t)).length = 2 + (rowB (bytesOf t)).length := by rw [List.length_append, hl1]))
  | ((with_reducible refine gate_builtin (b := .append) (xs := #[.tmp 42, .tmp 43]) rfl ?_); at_builtin; refine Kd.R_append_rows (Kd.int .u8) (w0 := w) w.heap.size rfl (.tmp 42) (.tmp 43) 22 5 (.int .u8 0) 1 rfl Try.underlying22 B.info5 rfl (by decide) (by omega) v5 (numB n 2 ++ rowB (bytesOf t)) (rowB l2) _ _ _ (fun b => b < W1.heap.size ∨ W4.heap.size ≤ b) (fun _ => False) rfl rfl hv5 hC5 (fun _ _ h => h) (fun _ h => h.elim) (by intro b hb; exact Or.inr (Nat.le_trans hb4s hb)) hb5 hb5.size (by omega) ?_; intro v6 W6 hv6 hb6 hgr6 hat6; clear hgr6 hat6; rw [← H1.out.2.2.1] at hv6; obtain ⟨A6, c6, rfl, hl8, hC6⟩ := Kd.R_reads hv6; clear hv5 hb5 hC5))
 have HB6 := Lib.hid (And.intro hb6 (Kd.C_below Hr.out.1 hb6))
 clear hb6 hv6
 refine (P.pyxref04_Expand.calls A0 c0 l0 A6 c6 (labelRow a1 l2 n) (n : Int) (labelOf l0 a1 l2 n) 0 _ HB6.out.2 hc0 hC6 hl8 HLR.out).mono ?_
 rintro e W7 ⟨v7, rfl, hR7, hb7⟩
 go_wp2
 go_ret2
 exact ⟨_, rfl, Kd.R_lower hR7 HB6.out.1.size, HB6.out.1.trans (hb7.mono HB6.out.1.size)⟩
end P
theorem labelOf_length (secret : List Int) (label : ByteArray) (context : List Int) (n : Nat) : (labelOf secret label context n).length = n := expandOf_length _ _ _
theorem byteOk_labelOf (secret : List Int) (label : ByteArray) (context : List Int) (n : Nat) : byteOk (labelOf secret label context n) = true := byteOk_expandOf _ _ _
theorem label_some (secret : List Int) (label : ByteArray) (context : List Int) (n : Nat) (hn : n ≤ 8160) (o1 : byteOk secret = true) (o2 : byteOk context = true) (l1 : secret.length ≤ 900000) (l2 : label.size ≤ 100000) (l3 : context.length ≤ 100000) :
  P.kdf_Label.f secret label context (n : Int) = some (labelOf secret label context n, 0) := by
 unfold P.kdf_Label.f
 rw [if_neg (by omega), if_neg (by omega), if_pos ⟨o1, o2, l1, l2, l3⟩, Int.toNat_natCast]
end Go.Proofs.Ytifpdpfjhjoieaa

/-! AesSpec -/
namespace Go.Proofs.Ytifpdpfjhjoieaa
set_option linter.unusedVariables false
open Go.RowKit
/-- The exclusive or of two bytes. -/
def xr (a b : Int) : Int := Go.bits .xor .u8 a b
theorem xr_def (a b : Int) : xr a b = IntKind.u8.wrap ((BitVec.ofInt 8 a ^^^ BitVec.ofInt 8 b).toNat : Int) := rfl
theorem xr_val (a b : Int) : xr a b = ((BitVec.ofInt 8 a ^^^ BitVec.ofInt 8 b).toNat : Int) := by
 rw [xr_def, IntKind.wrap_u8']
 have := (BitVec.ofInt 8 a ^^^ BitVec.ofInt 8 b).isLt
 omega
theorem xr_ge (a b : Int) : 0 ≤ xr a b := by rw [xr_val]; omega
theorem xr_lt (a b : Int) : xr a b < 256 := by
 rw [xr_val]
 have := (BitVec.ofInt 8 a ^^^ BitVec.ofInt 8 b).isLt
 omega
theorem xr_comm (a b : Int) : xr a b = xr b a := by rw [xr_val, xr_val, BitVec.xor_comm]
theorem ofInt_xr (a b : Int) : BitVec.ofInt 8 (xr a b) = BitVec.ofInt 8 a ^^^ BitVec.ofInt 8 b := by
 rw [xr_val, BitVec.ofInt_natCast, BitVec.ofNat_toNat, BitVec.setWidth_eq]
theorem xr_self (a b : Int) (h0 : 0 ≤ b) (h1 : b < 256) : xr a (xr a b) = b := by
 rw [xr_val, ofInt_xr, ← BitVec.xor_assoc, BitVec.xor_self, BitVec.zero_xor]
 obtain ⟨n, rfl⟩ := Int.eq_ofNat_of_zero_le h0
 rw [BitVec.ofInt_natCast, BitVec.toNat_ofNat]
 omega
/-- The box. -/
def boxT : List Int := [99, 124, 119, 123, 242, 107, 111, 197, 48, 1, 103, 43, 254, 215, 171, 118, 202, 130, 201, 125, 250, 89, 71, 240, 173, 212, 162, 175, 156, 164, 114, 192, 183, 253, 147, 38, 54, 63, 247, 204, 52, 165, 229, 241, 113, 216, 49, 21, 4, 199, 35, 195, 24, 150, 5, 154, 7, 18, 128, 226, 235, 39, 178, 117, 9, 131, 44, 26, 27, 110, 90, 160, 82, 59, 214, 179, 41, 227, 47, 132, 83, 209, 0, 237, 32, 252, 177, 91, 106, 203, 190, 57, 74, 76, 88, 207, 208, 239, 170, 251, 67, 77, 51, 133, 69, 249, 2, 127, 80, 60, 159, 168, 81, 163, 64, 143, 146, 157, 56, 245, 188, 182, 218, 33, 16, 255, 243, 210, 205, 12, 19, 236, 95, 151, 68, 23, 196, 167, 126, 61, 100, 93, 25, 115, 96, 129, 79, 220, 34, 42, 144, 136, 70, 238, 184, 20, 222, 94, 11, 219, 224, 50, 58, 10, 73, 6, 36, 92, 194, 211, 172, 98, 145, 149, 228, 121, 231, 200, 55, 109, 141, 213, 78, 169, 108, 86, 244, 234, 101, 122, 174, 8, 186, 120, 37, 46, 28, 166, 180, 198, 232, 221, 116, 31, 75, 189, 139, 138, 112, 62, 181, 102, 72, 3, 246, 14, 97, 53, 87, 185, 134, 193, 29, 158, 225, 248, 152, 17, 105, 217, 142, 148, 155, 30, 135, 233, 206, 85, 40, 223, 140, 161, 137, 13, 191, 230, 66, 104, 65, 153, 45, 15, 176, 84, 187, 22]
theorem boxT_length : boxT.length = 256 := by decide +kernel
def bx (x : Int) : Int := boxT.getD x.toNat 0
theorem boxT_all : boxT.all (fun x => decide (0 ≤ x) && decide (x < 256)) = true := by decide +kernel
theorem bx_wf (x : Int) : 0 ≤ bx x ∧ bx x < 256 := by
 unfold bx
 rw [List.getD_eq_getElem?_getD]
 cases h : boxT[x.toNat]? with
 | none => exact ⟨Int.le_refl 0, by decide⟩
 | some y =>
  have := List.all_eq_true.1 boxT_all y (List.mem_of_getElem? h)
  simp only [Bool.and_eq_true, decide_eq_true_eq] at this
  exact this
/-- Twice, and three times, a byte. -/
def m2 (a : Int) : Int := xr ((2 * a) % 256) (if a < 128 then 0 else 27)
def m3 (a : Int) : Int := xr (m2 a) a
/-- A row of 16 bytes, each made by its place. -/
def row16 (f : Nat → Int) : List Int := (List.range 16).map f
theorem row16_length (f : Nat → Int) : (row16 f).length = 16 := by simp [row16]
theorem row16_at (f : Nat → Int) (i : Nat) (h : i < 16) : (row16 f).getD i 0 = f i := by
 unfold row16
 rw [List.getD_eq_getElem?_getD, List.getElem?_map, List.getElem?_range h]
 rfl
def withK (s k : List Int) : List Int := row16 fun i => xr (s.getD i 0) (k.getD i 0)
def shiftedS (s : List Int) : List Int := row16 fun i => bx (s.getD ((i + 4 * (i % 4)) % 16) 0)
def mixedS (s : List Int) : List Int := row16 fun i => xr (xr (xr (m2 (s.getD (i / 4 * 4 + i % 4) 0)) (m3 (s.getD (i / 4 * 4 + (i + 1) % 4) 0))) (s.getD (i / 4 * 4 + (i + 2) % 4) 0)) (s.getD (i / 4 * 4 + (i + 3) % 4) 0)
/-- The first word behind a key, ahead of the exclusive ors. -/
def keyW (k : List Int) (r : Int) (j : Nat) : Int := if j = 0 then xr (bx (k.getD 13 0)) r else bx (k.getD (12 + (j + 1) % 4) 0)
/-- A byte of the next key. -/
def keyB (k : List Int) (r : Int) : Nat → Int
 | 0 => xr (keyW k r 0) (k.getD 0 0)
 | 1 => xr (keyW k r 1) (k.getD 1 0)
 | 2 => xr (keyW k r 2) (k.getD 2 0)
 | 3 => xr (keyW k r 3) (k.getD 3 0)
 | i + 4 => xr (keyB k r i) (k.getD (i + 4) 0)
def rconT : Nat → Int
 | 0 => 1
 | n + 1 => m2 (rconT n)
def keyT (key : List Int) : Nat → List Int
 | 0 => key
 | n + 1 => row16 (keyB (keyT key n) (rconT n))
/-- A block behind so many rounds. -/
def lockT (key s : List Int) : Nat → List Int
 | 0 => withK s key
 | n + 1 => withK (if n + 1 < 10 then mixedS (shiftedS (lockT key s n)) else shiftedS (lockT key s n)) (keyT key (n + 1))
def streamOf (key nonce b : List Int) : List Int := (List.range b.length).map fun i => xr (b.getD i 0) ((lockT key (nonce ++ numB (i / 16 + 1) 4) 10).getD (i % 16) 0)
theorem streamOf_length (key nonce b : List Int) : (streamOf key nonce b).length = b.length := by simp [streamOf]
theorem streamOf_at (key nonce b : List Int) (i : Nat) (hi : i < b.length) : (streamOf key nonce b)[i]? = some (xr (b.getD i 0) ((lockT key (nonce ++ numB (i / 16 + 1) 4) 10).getD (i % 16) 0)) := by
 unfold streamOf
 rw [List.getElem?_map, List.getElem?_range hi]
 rfl
theorem streamOf_back (key nonce b : List Int) (h : ∀ x ∈ b, 0 ≤ x ∧ x < 256) : streamOf key nonce (streamOf key nonce b) = b := by
 apply List.ext_getElem?
 intro i
 rcases Nat.lt_or_ge i b.length with hi | hi
 ·obtain ⟨h0, h1⟩ := h b[i] (List.getElem_mem hi)
  have hb : b.getD i 0 = b[i] := by
   rw [List.getD_eq_getElem?_getD, List.getElem?_eq_getElem hi]
   rfl
  have e1 : (streamOf key nonce b).getD i 0 = xr b[i] ((lockT key (nonce ++ numB (i / 16 + 1) 4) 10).getD (i % 16) 0) := by
   rw [List.getD_eq_getElem?_getD, streamOf_at _ _ _ _ hi, hb]
   rfl
  rw [streamOf_at _ _ _ _ (by rw [streamOf_length]; exact hi), e1, List.getElem?_eq_getElem hi, xr_comm b[i], xr_comm, xr_self _ _ h0 h1]
 ·rw [List.getElem?_eq_none (by rw [streamOf_length, streamOf_length]; exact hi), List.getElem?_eq_none hi]
theorem byteOk_streamOf (key nonce b : List Int) : byteOk (streamOf key nonce b) = true := by
 unfold byteOk streamOf
 rw [List.all_eq_true]
 intro x hx
 obtain ⟨i, -, rfl⟩ := List.mem_map.1 hx
 have h0 := xr_ge (b.getD i 0) ((lockT key (nonce ++ numB (i / 16 + 1) 4) 10).getD (i % 16) 0)
 have h1 := xr_lt (b.getD i 0) ((lockT key (nonce ++ numB (i / 16 + 1) 4) 10).getD (i % 16) 0)
 simp only [Bool.and_eq_true, decide_eq_true_eq]
 exact ⟨h0, h1⟩
/-- The rounds' keys' bytes, one behind the other. -/
def keyF (key : List Int) (m : Nat) : Int := (keyT key (m / 16)).getD (m % 16) 0
def keysV (key : List Int) : List Int := (List.range 176).map (keyF key)
theorem keysV_length (key : List Int) : (keysV key).length = 176 := by simp [keysV]
theorem keyT_length (key : List Int) (h : key.length = 16) (n : Nat) : (keyT key n).length = 16 := by
 cases n with
 | zero => exact h
 | succ n => exact row16_length _
theorem keyF_at (key : List Int) (n t : Nat) (h : t < 16) : keyF key (16 * n + t) = (keyT key n).getD t 0 := by
 unfold keyF
 rw [show (16 * n + t) / 16 = n from by omega, show (16 * n + t) % 16 = t from by omega]
theorem keyF_next (key : List Int) (n t : Nat) (h : t < 16) : keyF key (16 * (n + 1) + t) = keyB (keyT key n) (rconT n) t := by
 rw [keyF_at _ _ _ h]
 exact row16_at _ _ h
/-- The word at work, behind so many bytes of a key. -/
def wordT (k : List Int) (r : Int) : Nat → List Int
 | 0 => [keyW k r 0, keyW k r 1, keyW k r 2, keyW k r 3]
 | t + 1 => (wordT k r t).set (t % 4) (xr ((wordT k r t).getD (t % 4) 0) (k.getD t 0))
theorem wordT_length (k : List Int) (r : Int) (t : Nat) : (wordT k r t).length = 4 := by
 induction t with
 | zero => rfl
 | succ t ih => rw [wordT, List.length_set, ih]
theorem wordT_at (k : List Int) (r : Int) (t : Nat) : ∀ j, j < 4 → (wordT k r t).getD j 0 = if t ≤ j then keyW k r j else keyB k r ((t - 1 - j) / 4 * 4 + j) := by
 have hb : ∀ j, j < 4 → keyB k r j = xr (keyW k r j) (k.getD j 0) := by
  intro j hj
  match j, hj with
  | 0, _ => rfl
  | 1, _ => rfl
  | 2, _ => rfl
  | 3, _ => rfl
 have h4 : ∀ i, keyB k r (i + 4) = xr (keyB k r i) (k.getD (i + 4) 0) := fun i => rfl
 induction t with
 | zero =>
  intro j hj
  rw [if_pos (by omega)]
  match j, hj with
  | 0, _ => rfl
  | 1, _ => rfl
  | 2, _ => rfl
  | 3, _ => rfl
 | succ t ih =>
  intro j hj
  rw [wordT, List.getD_eq_getElem?_getD, List.getElem?_set, wordT_length]
  by_cases e : t % 4 = j
  ·rw [if_pos e, if_pos (by omega), e, if_neg (by omega), ih j hj]
   show xr _ _ = _
   by_cases ht : t ≤ j
   ·rw [if_pos ht, show (t + 1 - 1 - j) / 4 * 4 + j = j from by omega, hb j hj, show t = j from by omega]
   ·rw [if_neg ht, show (t + 1 - 1 - j) / 4 * 4 + j = (t - 4) + 4 from by omega, h4, show (t - 1 - j) / 4 * 4 + j = t - 4 from by omega, show t - 4 + 4 = t from by omega]
  ·rw [if_neg e, ← List.getD_eq_getElem?_getD, ih j hj]
   by_cases ht : t ≤ j
   ·rw [if_pos ht, if_pos (by omega)]
   ·rw [if_neg ht, if_neg (by omega), show (t + 1 - 1 - j) / 4 = (t - 1 - j) / 4 from by omega]
theorem wordT_key (k : List Int) (r : Int) (t : Nat) : xr ((wordT k r t).getD (t % 4) 0) (k.getD t 0) = keyB k r t := by
 have h := wordT_at k r (t + 1) (t % 4) (by omega)
 rw [wordT, List.getD_eq_getElem?_getD, List.getElem?_set, wordT_length, if_pos rfl, if_pos (by omega), if_neg (by omega), show (t + 1 - 1 - t % 4) / 4 * 4 + t % 4 = t from by omega] at h
 exact h
theorem keyB_wf (k : List Int) (r : Int) (i : Nat) : 0 ≤ keyB k r i ∧ keyB k r i < 256 := by
 match i with
 | 0 => exact ⟨xr_ge _ _, xr_lt _ _⟩
 | 1 => exact ⟨xr_ge _ _, xr_lt _ _⟩
 | 2 => exact ⟨xr_ge _ _, xr_lt _ _⟩
 | 3 => exact ⟨xr_ge _ _, xr_lt _ _⟩
 | i + 4 => exact ⟨xr_ge _ _, xr_lt _ _⟩
theorem m2_wf (a : Int) : 0 ≤ m2 a ∧ m2 a < 256 := ⟨xr_ge _ _, xr_lt _ _⟩
theorem rconT_wf (n : Nat) : 0 ≤ rconT n ∧ rconT n < 256 := by
 cases n with
 | zero => decide
 | succ n => exact m2_wf _
end Go.Proofs.Ytifpdpfjhjoieaa

/-! AesB -/
namespace Go.Proofs.Ytifpdpfjhjoieaa
set_option linter.unusedVariables false
set_option linter.unusedSimpArgs false
open Go.RowKit Go.Shelf Iter
attribute [local go_sem] Oper.semAt_some
/-- Bytes in an array. -/
def byV (l : List Int) : Array Value := (l.map fun (x : Int) => Value.int .u8 x).toArray
theorem byV_size (l : List Int) : (byV l).size = l.length := by simp [byV]
theorem byV_at (l : List Int) (i : Nat) (h : i < l.length) : (byV l)[i]? = some (.int .u8 (l.getD i 0)) := by simp [byV, h]
theorem byV_set (l : List Int) (i : Nat) (x : Int) : (byV l).setIfInBounds i (.int .u8 x) = byV (l.set i x) := by simp [byV, List.map_set]
/-- A row, the first k of its places by f, the others by g. -/
def rowTo (n : Nat) (f g : Nat → Int) (k : Nat) : List Int := (List.range n).map fun i => if i < k then f i else g i
theorem rowTo_length (n : Nat) (f g : Nat → Int) (k : Nat) : (rowTo n f g k).length = n := by simp [rowTo]
theorem rowTo_at (n : Nat) (f g : Nat → Int) (k i : Nat) (h : i < n) : (rowTo n f g k).getD i 0 = if i < k then f i else g i := by
 unfold rowTo
 rw [List.getD_eq_getElem?_getD, List.getElem?_map, List.getElem?_range h]
 rfl
theorem rowTo_set (n : Nat) (f g : Nat → Int) (k : Nat) : (rowTo n f g k).set k (f k) = rowTo n f g (k + 1) := by
 apply List.ext_getElem?
 intro i
 rw [List.getElem?_set, rowTo_length]
 by_cases hi : i < n
 ·by_cases h : k = i
  ·subst h
   rw [if_pos rfl, if_pos hi]
   unfold rowTo
   rw [List.getElem?_map, List.getElem?_range hi]
   simp
  ·rw [if_neg h]
   unfold rowTo
   rw [List.getElem?_map, List.getElem?_map, List.getElem?_range hi]
   simp only [Option.map_some]
   congr 1
   by_cases h' : i < k
   ·rw [if_pos h', if_pos (by omega)]
   ·rw [if_neg h', if_neg (by omega)]
 ·rw [List.getElem?_eq_none (by rw [rowTo_length]; omega), List.getElem?_eq_none (by rw [rowTo_length]; omega)]
  by_cases h : k = i
  ·rw [if_pos h, if_neg (by omega)]
  ·rw [if_neg h]
theorem rowTo_zero (l : List Int) (f : Nat → Int) : rowTo l.length f (fun i => l.getD i 0) 0 = l := by
 apply List.ext_getElem?
 intro i
 unfold rowTo
 rw [List.getElem?_map]
 by_cases hi : i < l.length
 ·rw [List.getElem?_range hi, List.getElem?_eq_getElem hi]
  simp [hi]
 ·rw [List.getElem?_eq_none (by simp; omega), List.getElem?_eq_none (by omega)]
  rfl
theorem rowTo_full (f g : Nat → Int) : rowTo 16 f g 16 = row16 f := by
 unfold rowTo row16
 apply List.map_congr_left
 intro i hi
 rw [if_pos (List.mem_range.1 hi)]
def z16 : List Int := List.replicate 16 0
theorem zero16 : #[Value.int IntKind.u8 0, Value.int IntKind.u8 0, Value.int IntKind.u8 0, Value.int IntKind.u8 0, Value.int IntKind.u8 0, Value.int IntKind.u8 0, Value.int IntKind.u8 0, Value.int IntKind.u8 0, Value.int IntKind.u8 0, Value.int IntKind.u8 0, Value.int IntKind.u8 0, Value.int IntKind.u8 0, Value.int IntKind.u8 0, Value.int IntKind.u8 0, Value.int IntKind.u8 0, Value.int IntKind.u8 0] = byV z16 := rfl
theorem infoState : (Try.prog.info? 103).map (·.size) = some 16 := by kernel_rfl
set_option maxRecDepth 100000 in
set_option maxHeartbeats 2000000 in
theorem aesWith_calls (s k : List Int) (w : World) (hs : s.length = 16) (hk : k.length = 16) :
  Calls Try.prog 84 #[.agg (byV s), .agg (byV k)] w fun e w' => e = .returned (.agg (byV (withK s k))) ∧ Below w.heap.size w w' := by
 go_enter Try.func84, Try.ntmps84
 go_wp2_with fail
 rw [zero16]
 have bs := ((Blk.new w 103 (byV s)).alloc (.cells (byV k) 103)).alloc (.cells (byV z16) 103)
 have bk := (Blk.new (w.alloc (.cells (byV s) 103)) 103 (byV k)).alloc (.cells (byV z16) 103)
 have br := Blk.new ((w.alloc (.cells (byV s) 103)).alloc (.cells (byV k) 103)) 103 (byV z16)
 have hbl : Below w.heap.size w (((w.alloc (.cells (byV s) 103)).alloc (.cells (byV k) 103)).alloc (.cells (byV z16) 103)) := (((Below.refl _ w).alloc (Nat.le_refl _) _).alloc (by simp) _).alloc (by simp; omega) _
 simp only [World.size_alloc] at bs bk br
 have h0 : (rowTo 16 (fun i => xr (s.getD i 0) (k.getD i 0)) (fun i => s.getD i 0) 0) = s := by
  have := rowTo_zero s fun i => xr (s.getD i 0) (k.getD i 0)
  rw [hs] at this
  exact this
 generalize (((w.alloc (.cells (byV s) 103)).alloc (.cells (byV k) 103)).alloc (.cells (byV z16) 103)) = W0 at bs bk br hbl ⊢
 go_loopw [6] (fun i wr => ∃ t : Nat, t ≤ 16 ∧ i = .int .i64 t ∧ Blk wr w.heap.size 103 (byV (rowTo 16 (fun i => xr (s.getD i 0) (k.getD i 0)) (fun i => s.getD i 0) t)) ∧ Blk wr (w.heap.size + 1) 103 (byV k) ∧ Blk wr (w.heap.size + 2) 103 (byV z16) ∧ Below w.heap.size w wr) (fun i _ => 16 - (intOf i).toNat)
 case atStart => exact ⟨0, by omega, rfl, by rw [h0]; exact bs, bk, br, hbl⟩
 case round =>
  clear bs bk br hbl
  obtain ⟨j, hj, rfl, bs, bk, br, hbl⟩ := hrel
  by_cases h16 : j < 16
  ·have vx : (byV (rowTo 16 (fun i => xr (s.getD i 0) (k.getD i 0)) (fun i => s.getD i 0) j))[j]? = some (.int .u8 (s.getD j 0)) := by
    rw [byV_at _ _ (by rw [rowTo_length]; exact h16), rowTo_at _ _ _ _ _ h16, if_neg (by omega)]
   have vy : (byV k)[j]? = some (.int .u8 (k.getD j 0)) := byV_at _ _ (by omega)
   have gx : wr.cell? ⟨w.heap.size, j, none⟩ = some (.int .u8 (s.getD j 0)) := (bs.cell j).trans vx
   have gy : wr.cell? ⟨w.heap.size + 1, j, none⟩ = some (.int .u8 (k.getD j 0)) := (bk.cell j).trans vy
   have fx := bs.frozen j
   have j0 : (0 : Int) ≤ (j : Int) := by omega
   have j1 : (j : Int) < 16 := by omega
   have hset := bs.set_ j (.int .u8 (xr (s.getD j 0) (k.getD j 0)))
   rw [byV_set, rowTo_set 16 (fun i => xr (s.getD i 0) (k.getD i 0))] at hset
   have hv2 := bk.far (p := ⟨w.heap.size, j, none⟩) (by simp) (.int .u8 (xr (s.getD j 0) (k.getD j 0)))
   have hr2 := br.far (p := ⟨w.heap.size, j, none⟩) (by simp) (.int .u8 (xr (s.getD j 0) (k.getD j 0)))
   have hb2 := hbl.setCell (p := ⟨w.heap.size, j, none⟩) (by simp) (.int .u8 (xr (s.getD j 0) (k.getD j 0)))
   have HF := Lib.hid (And.intro hset (And.intro hv2 (And.intro hr2 hb2)))
   clear hset hv2 hr2 hb2 bs bk br hbl vx vy h0 hs hk
   unfold xr at HF
   generalize s.getD j 0 = x at gx HF
   generalize k.getD j 0 = y at gy HF
   go_wp2_with fail
   go_region
   go_wp2
   exact ⟨⟨j + 1, by omega, by go_num, HF.out.1, HF.out.2.1, HF.out.2.2.1, HF.out.2.2.2.drew⟩, by simp [intOf]; omega⟩
  ·obtain rfl : j = 16 := by omega
   have hdj : decide (((16 : Nat) : Int) < 16) = false := by decide
   rw [rowTo_full] at bs
   go_wp2_with (first
    | (refine wpList_load_row rfl 103 (.tmp 2) rfl w.heap.size rfl 103 _ (0, 0) _ bs Try.underlying103 rfl (by rw [byV_size, row16_length]; exact infoState) ?_)
    | (refine wpList_store_row rfl 103 (.tmp 4) (.tmp 18) rfl (w.heap.size + 2) _ rfl rfl 103 _ br (by rw [byV_size, row16_length]; exact infoState) (by rw [byV_size, byV_size, row16_length]; rfl) (by simp [byV, Value.oneCell']) ?_))
   exact bodyPost_ret (results_cell_row rfl _ _ (w.heap.size + 2) 103 (byV (withK s k)) (0, 0) _ rfl (setRow_heap wr (w.heap.size + 2) _ _ _ _ br) Try.underlying103 rfl (by rw [byV_size, withK, row16_length]; exact infoState)) rfl ⟨rfl, hbl.trans (Iter.below_setRow _ (by omega))⟩
end Go.Proofs.Ytifpdpfjhjoieaa

/-! AesC -/
namespace Go.Proofs.Ytifpdpfjhjoieaa
set_option linter.unusedVariables false
set_option linter.unusedSimpArgs false
open Go.RowKit Go.Shelf Iter
attribute [local go_sem] Oper.semAt_some
theorem byte_getD (l : List Int) (h : byteOk l = true) (i : Nat) : 0 ≤ l.getD i 0 ∧ l.getD i 0 < 256 := by
 rw [List.getD_eq_getElem?_getD]
 cases hi : l[i]? with
 | none => exact ⟨Int.le_refl 0, by decide⟩
 | some x =>
  have := List.all_eq_true.1 h x (List.mem_of_getElem? hi)
  simp only [Bool.and_eq_true, decide_eq_true_eq] at this
  exact this
theorem byteOk_row16 (f : Nat → Int) (h : ∀ i, 0 ≤ f i ∧ f i < 256) : byteOk (row16 f) = true := by
 unfold byteOk row16
 rw [List.all_eq_true]
 intro x hx
 obtain ⟨i, -, rfl⟩ := List.mem_map.1 hx
 simp only [Bool.and_eq_true, decide_eq_true_eq]
 exact h i
theorem byteOk_withK (s k : List Int) : byteOk (withK s k) = true := byteOk_row16 _ fun i => ⟨xr_ge _ _, xr_lt _ _⟩
theorem byteOk_shiftedS (s : List Int) : byteOk (shiftedS s) = true := byteOk_row16 _ fun i => bx_wf _
theorem box_at (x : Int) (h0 : 0 ≤ x) (h1 : x < 256) : (byV boxT)[x.toNat]? = some (.int .u8 (bx x)) := byV_at _ _ (by rw [boxT_length]; omega)
theorem z16_row (f : Nat → Int) : rowTo 16 f (fun _ => 0) 0 = z16 := rfl
set_option maxRecDepth 100000 in
set_option maxHeartbeats 400000 in
theorem shifted_calls (s : List Int) (gk : Nat) (w : World) (hs : s.length = 16) (ho : byteOk s = true) (hk : Blk w gk 123 (byV boxT)) :
  Calls Try.prog 85 #[.agg (byV s), .pointer (some ⟨gk, 0, none⟩)] w fun e w' => e = .returned (.agg (byV (shiftedS s))) ∧ Below w.heap.size w w' := by
 have hgk := hk.lt
 go_enter Try.func85, Try.ntmps85
 go_wp2_with fail
 rw [zero16]
 have bs := ((Blk.new w 103 (byV s)).alloc (.cells (byV z16) 103)).alloc (.cells (byV z16) 103)
 have br := (Blk.new (w.alloc (.cells (byV s) 103)) 103 (byV z16)).alloc (.cells (byV z16) 103)
 have bo := Blk.new ((w.alloc (.cells (byV s) 103)).alloc (.cells (byV z16) 103)) 103 (byV z16)
 have hbl : Below w.heap.size w (((w.alloc (.cells (byV s) 103)).alloc (.cells (byV z16) 103)).alloc (.cells (byV z16) 103)) := (((Below.refl _ w).alloc (Nat.le_refl _) _).alloc (by simp) _).alloc (by simp; omega) _
 simp only [World.size_alloc] at bs br bo
 have bk := hk.below hbl hgk
 generalize (((w.alloc (.cells (byV s) 103)).alloc (.cells (byV z16) 103)).alloc (.cells (byV z16) 103)) = W0 at bs br bo hbl bk ⊢
 go_loopw [7] (fun i wr => ∃ t : Nat, t ≤ 16 ∧ i = .int .i64 t ∧ Blk wr w.heap.size 103 (byV s) ∧ Blk wr (w.heap.size + 1) 103 (byV z16) ∧ Blk wr (w.heap.size + 2) 103 (byV (rowTo 16 (fun i => bx (s.getD ((i + 4 * (i % 4)) % 16) 0)) (fun _ => 0) t)) ∧ Blk wr gk 123 (byV boxT) ∧ Below w.heap.size w wr) (fun i _ => 16 - (intOf i).toNat)
 case atStart => exact ⟨0, by omega, rfl, bs, br, by rw [z16_row]; exact bo, bk, hbl⟩
 case round =>
  clear bs br bo bk hbl hk
  obtain ⟨j, hj, rfl, bs, br, bo, bk, hbl⟩ := hrel
  by_cases h16 : j < 16
  ·obtain ⟨p, hp⟩ : ∃ p, (j + 4 * (j % 4)) % 16 = p := ⟨_, rfl⟩
   have hp16 : p < 16 := by omega
   obtain ⟨q, hq⟩ : ∃ q, j % 4 = q := ⟨_, rfl⟩
   have vx : (byV s)[p]? = some (.int .u8 (s.getD p 0)) := byV_at _ _ (by omega)
   obtain ⟨x0, x1⟩ := byte_getD s ho p
   have hset := bo.set_ j (.int .u8 (bx (s.getD p 0)))
   rw [byV_set] at hset
   have hn := rowTo_set 16 (fun i => bx (s.getD ((i + 4 * (i % 4)) % 16) 0)) (fun _ => 0) j
   rw [hp] at hn
   rw [hn] at hset
   clear hn
   have gx : wr.cell? ⟨w.heap.size, p, none⟩ = some (.int .u8 (s.getD p 0)) := (bs.cell p).trans vx
   have gb : wr.cell? ⟨gk, (s.getD p 0).toNat, none⟩ = some (.int .u8 (bx (s.getD p 0))) := (bk.cell _).trans (box_at _ x0 x1)
   generalize s.getD p 0 = x at *
   generalize bx x = y at *
   have fx : wr.frozen? ⟨w.heap.size + 1 + 1, j, none⟩ = false := bo.frozen j
   have go1 : wr.cell? ⟨w.heap.size + 1 + 1, j, none⟩ = some (.int .u8 0) := by
    refine (bo.cell j).trans ?_
    rw [byV_at _ _ (by rw [rowTo_length]; exact h16), rowTo_at _ _ _ _ _ h16, if_neg (by omega)]
   have hv2 := bs.far (p := ⟨w.heap.size + 2, j, none⟩) (by simp) (.int .u8 y)
   have hr2 := br.far (p := ⟨w.heap.size + 2, j, none⟩) (by simp) (.int .u8 y)
   have hk2 := bk.far (p := ⟨w.heap.size + 2, j, none⟩) (by simp; omega) (.int .u8 y)
   have hb2 := hbl.setCell (p := ⟨w.heap.size + 2, j, none⟩) (by simp) (.int .u8 y)
   have HF := Lib.hid (And.intro hv2 (And.intro hr2 (And.intro hset (And.intro hk2 hb2))))
   clear hset hv2 hr2 hk2 hb2 bs br bo bk hbl vx
   have j0 : (0 : Int) ≤ (j : Int) := by omega
   have j1 : (j : Int) < 16 := by omega
   have q0 : Int.tmod (j : Int) 4 = (q : Int) := by rw [← hq]; rfl
   have q1 : IntKind.i64.wrap (4 * (q : Int)) = 4 * (q : Int) := by rw [IntKind.wrap_i64]; omega
   have q1' : wrap64 (4 * (q : Int)) = 4 * (q : Int) := by unfold wrap64; omega
   obtain ⟨m, hm⟩ : ∃ m, j + 4 * q = m := ⟨_, rfl⟩
   have q2 : IntKind.i64.wrap ((j : Int) + 4 * (q : Int)) = (m : Int) := by rw [IntKind.wrap_i64]; omega
   have q2' : wrap64 ((j : Int) + 4 * (q : Int)) = (m : Int) := by unfold wrap64; omega
   have q3 : Int.tmod (m : Int) 16 = (p : Int) := by rw [← hp, ← hm, ← hq]; rfl
   have p0 : (0 : Int) ≤ (p : Int) := by omega
   have p1 : (p : Int) < 16 := by omega
   clear hp hq hm hj
   go_wp2_with fail
   go_region
   clear q0 q1 q1' q2 q2' q3
   go_wp2
   exact ⟨⟨j + 1, by omega, by go_num, HF.out.1, HF.out.2.1, HF.out.2.2.1, HF.out.2.2.2.1, HF.out.2.2.2.2.drew⟩, by simp [intOf]; omega⟩
  ·obtain rfl : j = 16 := by omega
   have hdj : decide (((16 : Nat) : Int) < 16) = false := by decide
   rw [rowTo_full] at bo
   go_wp2_with (first
    | (refine wpList_load_row rfl 103 (.tmp 5) rfl (w.heap.size + 2) rfl 103 _ (0, 0) _ bo Try.underlying103 rfl (by rw [byV_size, row16_length]; exact infoState) ?_)
    | (refine wpList_store_row rfl 103 (.tmp 4) (.tmp 25) rfl (w.heap.size + 1) _ rfl rfl 103 _ br (by rw [byV_size, row16_length]; exact infoState) (by rw [byV_size, byV_size, row16_length]; rfl) (by simp [byV, Value.oneCell']) ?_))
   exact bodyPost_ret (results_cell_row rfl _ _ (w.heap.size + 1) 103 (byV (shiftedS s)) (0, 0) _ rfl (setRow_heap wr (w.heap.size + 1) _ _ _ _ br) Try.underlying103 rfl (by rw [byV_size, shiftedS, row16_length]; exact infoState)) rfl ⟨rfl, hbl.trans (Iter.below_setRow _ (by omega))⟩
end Go.Proofs.Ytifpdpfjhjoieaa

/-! AesA -/
namespace Go.Proofs.Ytifpdpfjhjoieaa
set_option linter.unusedVariables false
set_option linter.unusedSimpArgs false
open Go.RowKit Go.Proofs.YtifpdpfjhjoieaaW.PrintWords Go.Proofs.YtifpdpfjhjoieaaW.PrintLast
theorem byte_all (p : Int → Bool) (h : ((List.range 256).all fun n => p (n : Int)) = true) (a : Int) (h0 : 0 ≤ a) (h1 : a < 256) : p a = true := by
 obtain ⟨n, rfl⟩ := Int.eq_ofNat_of_zero_le h0
 exact List.all_eq_true.1 h n (List.mem_range.2 (by omega))
theorem aes_mul2 (a : Int) (h0 : 0 ≤ a) (h1 : a < 256) : A.aes_Mul.f 10 a 2 = some (m2 a) :=
 eq_of_beq (byte_all (fun a => A.aes_Mul.f 10 a 2 == some (m2 a)) (by decide +kernel) a h0 h1)
theorem aes_mul3 (a : Int) (h0 : 0 ≤ a) (h1 : a < 256) : A.aes_Mul.f 10 a 3 = some (m3 a) :=
 eq_of_beq (byte_all (fun a => A.aes_Mul.f 10 a 3 == some (m3 a)) (by decide +kernel) a h0 h1)
theorem aes_box (a : Int) (h0 : 0 ≤ a) (h1 : a < 256) : A.aes_Box.f 40 a = some (bx a) :=
 eq_of_beq (byte_all (fun a => A.aes_Box.f 40 a == some (bx a)) (by decide +kernel) a h0 h1)
end Go.Proofs.Ytifpdpfjhjoieaa

/-! AesE -/
namespace Go.Proofs.Ytifpdpfjhjoieaa
set_option linter.unusedVariables false
set_option linter.unusedSimpArgs false
open Go.RowKit Go.Shelf Iter
attribute [local go_sem] Oper.semAt_some
theorem w64_add (a b c : Nat) (h : a + b = c) (hc : c < 1000000) : wrap64 ((a : Int) + (b : Int)) = (c : Int) := by unfold wrap64; omega
theorem i64_add (a b c : Nat) (h : a + b = c) (hc : c < 1000000) : IntKind.i64.wrap ((a : Int) + (b : Int)) = (c : Int) := by rw [IntKind.wrap_i64]; omega
set_option maxRecDepth 100000 in
set_option maxHeartbeats 400000 in
theorem mixAt_calls (n : Nat) (m : Int) (hm : m = (n : Int)) (hn : n < 4) (gs gc gi c i p : Nat) (s : List Int) (w : World) (hs : s.length = 16) (hi : i < 16) (hc : c + 3 < 16) (hp : c + (i + n) % 4 = p)
  (bs : Blk w gs 103 (byV s)) (hci : w.cell? ⟨gi, 0, none⟩ = some (.int .i64 (i : Int))) (hcc : w.cell? ⟨gc, 0, none⟩ = some (.int .i64 (c : Int))) :
  Calls Try.prog 98 #[.int .i64 m, .pointer (some ⟨gs, 0, none⟩), .pointer (some ⟨gc, 0, none⟩), .pointer (some ⟨gi, 0, none⟩)] w fun e w' => e = .returned (.int .u8 (s.getD p 0)) ∧ w = w' := by
 subst m
 have hp16 : p < 16 := by omega
 have gx : w.cell? ⟨gs, p, none⟩ = some (.int .u8 (s.getD p 0)) := (bs.cell p).trans (byV_at _ _ (by omega))
 generalize s.getD p 0 = x at gx ⊢
 obtain ⟨q, hq⟩ : ∃ q, i + n = q := ⟨_, rfl⟩
 obtain ⟨r, hr⟩ : ∃ r, q % 4 = r := ⟨_, rfl⟩
 have e1 : q < 1000000 := by omega
 have e2 : c + r = p := by omega
 have e3 : p < 1000000 := by omega
 have p0 : (0 : Int) ≤ (p : Int) := by omega
 have p1 : (p : Int) < 16 := by omega
 have q1 := w64_add i n q hq e1
 have q1' := i64_add i n q hq e1
 have q3 := w64_add c r p e2 e3
 have q3' := i64_add c r p e2 e3
 have q2 : Int.tmod (q : Int) 4 = (r : Int) := by rw [← hr]; rfl
 clear hq hr hp hi hc hn bs hs hp16 e1 e2 e3
 go_enter Try.func98, Try.ntmps98
 go_wp2
 go_ret
 exact ⟨rfl, rfl⟩
theorem w64_mul4 (a b : Nat) (h : a * 4 = b) (hc : b < 1000000) : wrap64 ((a : Int) * 4) = (b : Int) := by unfold wrap64; omega
theorem i64_mul4 (a b : Nat) (h : a * 4 = b) (hc : b < 1000000) : IntKind.i64.wrap ((a : Int) * 4) = (b : Int) := by rw [IntKind.wrap_i64]; omega
theorem tdiv4 (a b : Nat) (h : a / 4 = b) : Int.tdiv (a : Int) 4 = (b : Int) := by rw [← h]; rfl
theorem cell_heap {W V : World} (h : W.heap = V.heap) (a : Addr) : W.cell? a = V.cell? a := by unfold World.cell?; rw [h]
def mixF (s : List Int) (i : Nat) : Int := xr (xr (xr (m2 (s.getD (i / 4 * 4 + i % 4) 0)) (m3 (s.getD (i / 4 * 4 + (i + 1) % 4) 0))) (s.getD (i / 4 * 4 + (i + 2) % 4) 0)) (s.getD (i / 4 * 4 + (i + 3) % 4) 0)
set_option maxRecDepth 100000 in
set_option maxHeartbeats 400000 in
theorem aesMixed_calls (s : List Int) (w : World) (hs : s.length = 16) (ho : byteOk s = true) :
  Calls Try.prog 86 #[.agg (byV s)] w fun e w' => e = .returned (.agg (byV (mixedS s))) ∧ Below w.heap.size w w' := by
 go_enter Try.func86, Try.ntmps86
 have b0 := Blk.new w 103 (byV s)
 have hs := Lib.hid hs
 have ih := Lib.hid (show (Try.prog.info? 103).map (·.size) = some (byV s).size by rw [byV_size, hs.out]; exact infoState)
 have ih2 := Lib.hid (show (byV z16).size = (byV s).size by rw [byV_size, byV_size, hs.out]; rfl)
 have ih3 := Lib.hid (show (byV s).all (·.oneCell') = true by simp [byV, Value.oneCell'])
 have b3 := Blk.new ((w.alloc (.cells (byV s) 103)).alloc (.cells (byV z16) 103)) 103 (byV z16)
 simp only [World.size_alloc] at b3
 have B3 := Lib.hid b3
 clear b3
 go_wp2_with (first
  | (refine wpList_load_row rfl 103 (.tmp 1) rfl w.heap.size rfl 103 _ (0, 0) _ (b0.alloc _) Try.underlying103 rfl ih.out ?_)
  | (refine wpList_store_row rfl 103 (.tmp 3) (.tmp 7) rfl (w.heap.size + 1 + 1) _ rfl rfl 103 (byV z16) B3.out ih.out ih2.out ih3.out ?_))
 have bs : Blk (((w.alloc (.cells (byV s) 103)).alloc (.cells (byV z16) 103)).alloc (.cells (byV z16) 103)) w.heap.size 103 (byV s) := ((Blk.new w 103 (byV s)).alloc (.cells (byV z16) 103)).alloc (.cells (byV z16) 103)
 have br := (Blk.new (w.alloc (.cells (byV s) 103)) 103 (byV z16)).alloc (.cells (byV z16) 103)
 have hbl : Below w.heap.size w (((w.alloc (.cells (byV s) 103)).alloc (.cells (byV z16) 103)).alloc (.cells (byV z16) 103)) := (((Below.refl _ w).alloc (Nat.le_refl _) _).alloc (by simp) _).alloc (by simp; omega) _
 simp only [World.size_alloc] at br
 have bs := bs.farRow (g' := w.heap.size + 1 + 1) (by omega) (byV s)
 have br := br.farRow (g' := w.heap.size + 1 + 1) (by omega) (byV s)
 have bo := Blk.setRow_ B3.out (byV s)
 have hbl := hbl.trans (Iter.below_setRow (g := w.heap.size + 1 + 1) (byV s) (by omega))
 rw [zero16]
 generalize ((((w.alloc (.cells (byV s) 103)).alloc (.cells (byV z16) 103)).alloc (.cells (byV z16) 103)).setRow (w.heap.size + 1 + 1) (byV s)) = W0 at bs br bo hbl ⊢
 clear b0 B3 ih2 ih3
 have h0 : (rowTo 16 (mixF s) (fun i => s.getD i 0) 0) = s := by
  have := rowTo_zero s (mixF s)
  rw [hs.out] at this
  exact this
 have r0 := Lib.hid h0
 clear h0
 go_loopw [8] (fun i wr => ∃ t : Nat, t ≤ 16 ∧ i = .int .i64 t ∧ Blk wr w.heap.size 103 (byV s) ∧ Blk wr (w.heap.size + 1) 103 (byV z16) ∧ Blk wr (w.heap.size + 1 + 1) 103 (byV (rowTo 16 (mixF s) (fun i => s.getD i 0) t)) ∧ Below w.heap.size w wr) (fun i _ => 16 - (intOf i).toNat)
 case atStart => exact ⟨0, by omega, rfl, bs, br, by rw [r0.out]; exact bo, hbl⟩
 case round =>
  clear bs br bo hbl r0
  obtain ⟨j, hj, rfl, bs, br, bo, hbl⟩ := hrel
  by_cases h16 : j < 16
  ·obtain ⟨d, hd⟩ : ∃ d, j / 4 = d := ⟨_, rfl⟩
   obtain ⟨c, hc⟩ : ∃ c, d * 4 = c := ⟨_, rfl⟩
   have HB := Lib.hid (And.intro bs (And.intro br (And.intro bo hbl)))
   clear bs br bo hbl
   have j0 : (0 : Int) ≤ (j : Int) := by omega
   have j1 : (j : Int) < 16 := by omega
   have d0 := tdiv4 j d hd
   have d1 := w64_mul4 d c hc (by omega)
   have d2 := i64_mul4 d c hc (by omega)
   go_wp2_with fail
   have HW := Lib.hid (show wr.heap.size < ((wr.alloc (Obj.cells #[Value.int IntKind.i64 (j : Int)] 3)).alloc (Obj.cells #[Value.int IntKind.i64 (c : Int)] 3)).heap.size by simp; omega)
   have bi := (Blk.new wr 3 #[Value.int IntKind.i64 (j : Int)]).alloc (Obj.cells #[Value.int IntKind.i64 (c : Int)] 3)
   have bc := Blk.new (wr.alloc (Obj.cells #[Value.int IntKind.i64 (j : Int)] 3)) 3 #[Value.int IntKind.i64 (c : Int)]
   simp only [World.size_alloc] at bc
   have bs1 := (HB.out.1.alloc (Obj.cells #[Value.int IntKind.i64 (j : Int)] 3)).alloc (Obj.cells #[Value.int IntKind.i64 (c : Int)] 3)
   have br1 := (HB.out.2.1.alloc (Obj.cells #[Value.int IntKind.i64 (j : Int)] 3)).alloc (Obj.cells #[Value.int IntKind.i64 (c : Int)] 3)
   have bo1 := (HB.out.2.2.1.alloc (Obj.cells #[Value.int IntKind.i64 (j : Int)] 3)).alloc (Obj.cells #[Value.int IntKind.i64 (c : Int)] 3)
   have hb1 := (HB.out.2.2.2.alloc HB.out.2.2.2.size (Obj.cells #[Value.int IntKind.i64 (j : Int)] 3)).alloc (by have := HB.out.2.2.2.size; simp; omega) (Obj.cells #[Value.int IntKind.i64 (c : Int)] 3)
   generalize ((wr.alloc (Obj.cells #[Value.int IntKind.i64 (j : Int)] 3)).alloc (Obj.cells #[Value.int IntKind.i64 (c : Int)] 3)) = W1 at *
   have gi : W1.cell? ⟨wr.heap.size, 0, none⟩ = some (.int .i64 (j : Int)) := bi.cell 0
   have gc : W1.cell? ⟨wr.heap.size + 1, 0, none⟩ = some (.int .i64 (c : Int)) := bc.cell 0
   have go1 : W1.cell? ⟨w.heap.size + 1 + 1, j, none⟩ = some (.int .u8 (s.getD j 0)) := by
    refine (bo1.cell j).trans ?_
    rw [byV_at _ _ (by rw [rowTo_length]; exact h16), rowTo_at _ _ _ _ _ h16, if_neg (by omega)]
   have ne1 : (⟨w.heap.size + 1 + 1, j, none⟩ : Addr) ≠ ⟨wr.heap.size, 0, none⟩ := by
    have := HB.out.2.2.1.lt
    intro h
    injection h with h1
    omega
   have fo1 : W1.frozen? ⟨w.heap.size + 1 + 1, j, none⟩ = false := bo1.frozen j
   obtain ⟨p0, hp0⟩ : ∃ p, c + (j + 0) % 4 = p := ⟨_, rfl⟩
   obtain ⟨p1, hp1⟩ : ∃ p, c + (j + 1) % 4 = p := ⟨_, rfl⟩
   obtain ⟨p2, hp2⟩ : ∃ p, c + (j + 2) % 4 = p := ⟨_, rfl⟩
   obtain ⟨p3, hp3⟩ : ∃ p, c + (j + 3) % 4 = p := ⟨_, rfl⟩
   have hc3 : c + 3 < 16 := by omega
   have a0 : ∀ W : World, W.heap = W1.heap → Calls Try.prog 98 #[.int .i64 0, .pointer (some ⟨w.heap.size, 0, none⟩), .pointer (some ⟨wr.heap.size + 1, 0, none⟩), .pointer (some ⟨wr.heap.size, 0, none⟩)] W fun e w' => e = .returned (.int .u8 (s.getD p0 0)) ∧ W = w' := fun W hW => mixAt_calls 0 0 rfl (by omega) w.heap.size (wr.heap.size + 1) wr.heap.size c j p0 s W hs.out h16 hc3 hp0 (by unfold Blk; rw [hW]; exact bs1) (by rw [cell_heap hW]; exact gi) (by rw [cell_heap hW]; exact gc)
   have a1 : ∀ W : World, W.heap = W1.heap → Calls Try.prog 98 #[.int .i64 1, .pointer (some ⟨w.heap.size, 0, none⟩), .pointer (some ⟨wr.heap.size + 1, 0, none⟩), .pointer (some ⟨wr.heap.size, 0, none⟩)] W fun e w' => e = .returned (.int .u8 (s.getD p1 0)) ∧ W = w' := fun W hW => mixAt_calls 1 1 rfl (by omega) w.heap.size (wr.heap.size + 1) wr.heap.size c j p1 s W hs.out h16 hc3 hp1 (by unfold Blk; rw [hW]; exact bs1) (by rw [cell_heap hW]; exact gi) (by rw [cell_heap hW]; exact gc)
   have a2 : ∀ W : World, W.heap = W1.heap → Calls Try.prog 98 #[.int .i64 2, .pointer (some ⟨w.heap.size, 0, none⟩), .pointer (some ⟨wr.heap.size + 1, 0, none⟩), .pointer (some ⟨wr.heap.size, 0, none⟩)] W fun e w' => e = .returned (.int .u8 (s.getD p2 0)) ∧ W = w' := fun W hW => mixAt_calls 2 2 rfl (by omega) w.heap.size (wr.heap.size + 1) wr.heap.size c j p2 s W hs.out h16 hc3 hp2 (by unfold Blk; rw [hW]; exact bs1) (by rw [cell_heap hW]; exact gi) (by rw [cell_heap hW]; exact gc)
   have a3 : ∀ W : World, W.heap = W1.heap → Calls Try.prog 98 #[.int .i64 3, .pointer (some ⟨w.heap.size, 0, none⟩), .pointer (some ⟨wr.heap.size + 1, 0, none⟩), .pointer (some ⟨wr.heap.size, 0, none⟩)] W fun e w' => e = .returned (.int .u8 (s.getD p3 0)) ∧ W = w' := fun W hW => mixAt_calls 3 3 rfl (by omega) w.heap.size (wr.heap.size + 1) wr.heap.size c j p3 s W hs.out h16 hc3 hp3 (by unfold Blk; rw [hW]; exact bs1) (by rw [cell_heap hW]; exact gi) (by rw [cell_heap hW]; exact gc)
   have x0 := aes_mul2 _ (byte_getD s ho p0).1 (byte_getD s ho p0).2
   have x1 := aes_mul3 _ (byte_getD s ho p1).1 (byte_getD s ho p1).2
   have hset := bo1.set_ j (.int .u8 (xr (xr (xr (m2 (s.getD p0 0)) (m3 (s.getD p1 0))) (s.getD p2 0)) (s.getD p3 0)))
   rw [byV_set] at hset
   have hn := rowTo_set 16 (mixF s) (fun i => s.getD i 0) j
   rw [show mixF s j = xr (xr (xr (m2 (s.getD p0 0)) (m3 (s.getD p1 0))) (s.getD p2 0)) (s.getD p3 0) from by unfold mixF; rw [hd, hc, hp1, hp2, hp3, ← hp0]; rfl] at hn
   rw [hn] at hset
   clear hn
   have hs2 := bs1.far (p := ⟨w.heap.size + 2, j, none⟩) (by simp) (.int .u8 (xr (xr (xr (m2 (s.getD p0 0)) (m3 (s.getD p1 0))) (s.getD p2 0)) (s.getD p3 0)))
   have hr2 := br1.far (p := ⟨w.heap.size + 2, j, none⟩) (by simp) (.int .u8 (xr (xr (xr (m2 (s.getD p0 0)) (m3 (s.getD p1 0))) (s.getD p2 0)) (s.getD p3 0)))
   have hb2 := fun n => (Go.Proofs.YtifpdpfjhjoieaaW.PrintWords.pw_below_drewN hb1 n).setCell (p := ⟨w.heap.size + 2, j, none⟩) (by simp) (.int .u8 (xr (xr (xr (m2 (s.getD p0 0)) (m3 (s.getD p1 0))) (s.getD p2 0)) (s.getD p3 0)))
   have HF := Lib.hid (And.intro hs2 (And.intro hr2 (And.intro hset hb2)))
   have HA := Lib.hid (And.intro a0 (And.intro a1 (And.intro a2 a3)))
   have HX := Lib.hid (And.intro x0 x1)
   clear hset hs2 hr2 hb2 a0 a1 a2 a3 x0 x1 hp0 hp1 hp2 hp3 hc3 hd hc d0 d1 d2 bi bc br1 bo1 hb1 HB HW bs1
   generalize s.getD p0 0 = y0 at *
   generalize s.getD p1 0 = y1 at *
   generalize s.getD p2 0 = y2 at *
   generalize s.getD p3 0 = y3 at *
   generalize m2 y0 = z0 at *
   generalize m3 y1 = z1 at *
   unfold xr at HF
   go_region_held3 (fun w' => w'.cell? ⟨wr.heap.size, 0, none⟩ = some (.int .i64 (j : Int))) (first | go_keep | (rw [World.cell?_setCell_other _ _ _ _ ne1]; exact gi))
    (first
     | (go_at_call 98; first
      | ((with_reducible refine (HA.out.1 _ ?hw0).mono ?_); (case hw0 => rfl); rintro e w' ⟨rfl, rfl⟩)
      | ((with_reducible refine (HA.out.2.1 _ ?hw1).mono ?_); (case hw1 => rfl); rintro e w' ⟨rfl, rfl⟩)
      | ((with_reducible refine (HA.out.2.2.1 _ ?hw2).mono ?_); (case hw2 => rfl); rintro e w' ⟨rfl, rfl⟩)
      | ((with_reducible refine (HA.out.2.2.2 _ ?hw3).mono ?_); (case hw3 => rfl); rintro e w' ⟨rfl, rfl⟩))
     | (go_at_call 83; first
      | ((with_reducible refine (A.aes_Mul.calls 10 _ _ _ _ HX.out.1).mono ?_); rintro e w' ⟨rfl, hd⟩; obtain ⟨n1, rfl⟩ := hd.out)
      | ((with_reducible refine (A.aes_Mul.calls 10 _ _ _ _ HX.out.2).mono ?_); rintro e w' ⟨rfl, hd⟩; obtain ⟨n2, rfl⟩ := hd.out)))
   go_wp2
   exact ⟨⟨j + 1, by omega, by go_num, HF.out.1, HF.out.2.1, HF.out.2.2.1, HF.out.2.2.2 _⟩, by simp [intOf]; omega⟩
  ·obtain rfl : j = 16 := by omega
   have hdj : decide (((16 : Nat) : Int) < 16) = false := by decide
   rw [rowTo_full] at bo
   go_wp2_with (first
    | (refine wpList_load_row rfl 103 (.tmp 3) rfl (w.heap.size + 1 + 1) rfl 103 _ (0, 0) _ bo Try.underlying103 rfl (by rw [byV_size, row16_length]; exact infoState) ?_)
    | (refine wpList_store_row rfl 103 (.tmp 2) (.tmp 31) rfl (w.heap.size + 1) _ rfl rfl 103 _ br (by rw [byV_size, row16_length]; exact infoState) (by rw [byV_size, byV_size, row16_length]; rfl) (by simp [byV, Value.oneCell']) ?_))
   exact bodyPost_ret (results_cell_row rfl _ _ (w.heap.size + 1) 103 (byV (mixedS s)) (0, 0) _ rfl (setRow_heap wr (w.heap.size + 1) _ _ _ _ br) Try.underlying103 rfl (by rw [byV_size, mixedS, row16_length]; exact infoState)) rfl ⟨rfl, hbl.trans (Iter.below_setRow _ (by omega))⟩
end Go.Proofs.Ytifpdpfjhjoieaa

/-! AesF -/
namespace Go.Proofs.Ytifpdpfjhjoieaa
set_option linter.unusedVariables false
set_option linter.unusedSimpArgs false
open Go.RowKit Go.Shelf Iter Go.Proofs.YtifpdpfjhjoieaaW.PrintWords
attribute [local go_sem] Oper.semAt_some
theorem byte_cell {w : World} {Ak : Option Addr} {n : Nat} (l : List Int) (hn : 0 < n) (hk : Kd.C (Kd.int .u8) w Ak n l) : ∃ ak, Ak = some ak ∧ ∀ t, t < n → w.cell? (ak.add t) = some (.int .u8 (l.getD t 0)) := by
 obtain ⟨h1, _, h3⟩ := Kd.reads_of_C (enc := Value.int .u8) (d := (0 : Int)) (h1 := fun _ => rfl) hk
 obtain ⟨ak, e, hc⟩ := h3 (by omega)
 exact ⟨ak, e, fun t ht => hc t ht⟩
def z176 : List Int := List.replicate 176 0
set_option maxRecDepth 100000 in
theorem zero176 : Try.zeroCells104 = byV z176 := by kernel_rfl
theorem infoKeys : (Try.prog.info? 104).map (·.size) = some 176 := by kernel_rfl
theorem info_u8s : (Try.prog.info? 5).map (·.size) = some 1 := by kernel_rfl
/-- Cells of bytes. -/
def valsB (l : List Int) : List Value := l.map fun (x : Int) => Value.int .u8 x
theorem byV_vals (l : List Int) : byV l = (valsB l).toArray := rfl
theorem valsB_length (l : List Int) : (valsB l).length = l.length := by simp [valsB]
theorem valsB_one (l : List Int) : ∀ v ∈ valsB l, v.oneCell' = true := by
 intro v hv
 obtain ⟨x, -, rfl⟩ := List.mem_map.1 hv
 rfl
theorem valsB_at (l : List Int) (j : Nat) (v : Value) (h : (valsB l)[j]? = some v) : j < l.length ∧ v = .int .u8 (l.getD j 0) := by
 unfold valsB at h
 rw [List.getElem?_map] at h
 obtain ⟨x, hx, rfl⟩ := Option.map_eq_some_iff.1 h
 have := (List.getElem?_eq_some_iff.1 hx)
 refine ⟨this.1, ?_⟩
 rw [List.getD_eq_getElem?_getD, hx]
 rfl
theorem splice_valsB (z k : List Int) (off : Nat) : splice (valsB z) off (valsB k) = valsB (z.take off ++ (k ++ z.drop (off + k.length))) := by
 unfold splice valsB
 rw [List.length_map, List.map_append, List.map_append, List.map_take, List.map_drop]
theorem keys_first (key : List Int) (h : key.length = 16) : z176.take 0 ++ (key ++ z176.drop (0 + key.length)) = rowTo 176 (keyF key) (fun _ => 0) (16 * 1) := by
 rw [List.take_zero, List.nil_append]
 apply List.ext_getElem?
 intro i
 unfold rowTo z176
 rw [List.getElem?_map, List.getElem?_append, h]
 by_cases h1 : i < 16
 ·rw [if_pos h1, List.getElem?_range (by omega), List.getElem?_eq_getElem (by omega)]
  simp only [Option.map_some]
  rw [if_pos (by omega)]
  have := keyF_at key 0 i h1
  rw [Nat.mul_zero, Nat.zero_add] at this
  rw [this]
  simp [keyT, h, h1]
 ·rw [if_neg h1]
  by_cases h2 : i < 176
  ·rw [List.getElem?_range h2]
   simp only [Option.map_some]
   rw [if_neg (by omega), List.getElem?_drop, List.getElem?_replicate, if_pos (by omega)]
  ·rw [List.getElem?_eq_none (by simp; omega), List.getElem?_eq_none (by simp; omega)]
   rfl
theorem keys_last (key : List Int) : rowTo 176 (keyF key) (fun _ => 0) (16 * 11) = keysV key := by
 unfold rowTo keysV
 apply List.map_congr_left
 intro i hi
 rw [if_pos (List.mem_range.1 hi)]
theorem byteOk_keyT (key : List Int) (h : byteOk key = true) (n : Nat) : byteOk (keyT key n) = true := by
 cases n with
 | zero => exact h
 | succ n => exact byteOk_row16 _ fun i => keyB_wf _ _ _
theorem range_of {w : World} {g : Nat} {t : TypeId} {l : List Int} (h : Blk w g t (byV l)) (o : Nat) (k : List Int) (hl : o + k.length ≤ l.length) (hk : ∀ j, j < k.length → l.getD (o + j) 0 = k.getD j 0) : w.rangeAt g o (valsB k) := by
 intro j v hj
 obtain ⟨hj', rfl⟩ := valsB_at k j v hj
 rw [h.cell, byV_at _ _ (by omega), hk j hj']
theorem keys_range {w : World} {g : Nat} {ty : TypeId} (key : List Int) (h16 : key.length = 16) (n t : Nat) (hn : n ≤ 11) (ht : t + 1 = n) (h : Blk w g ty (byV (rowTo 176 (keyF key) (fun _ => 0) (16 * n)))) : w.rangeAt g (t * 16) (valsB (keyT key t)) := by
 have hl := keyT_length key h16 t
 refine range_of h _ _ (by rw [rowTo_length, hl]; omega) fun j hj => ?_
 rw [hl] at hj
 rw [rowTo_at _ _ _ _ _ (by omega), if_pos (by omega), Nat.mul_comm t 16, keyF_at _ _ _ hj]
set_option maxRecDepth 100000 in
set_option maxHeartbeats 400000 in
theorem aesKeys_calls (A0 : Option Addr) (c0 : Nat) (key : List Int) (gk : Nat) (w : World) (hkey : key.length = 16) (ho : byteOk key = true) (hr0 : Kd.C (Kd.int .u8) w A0 16 key) (hc0 : 16 ≤ c0) (hk : Blk w gk 123 (byV boxT)) :
  Calls Try.prog 66 #[.slice A0 16 c0, .pointer (some ⟨gk, 0, none⟩)] w fun e w' => e = .returned (.agg (byV (keysV key))) ∧ Below w.heap.size w w' := by
 have hgk := hk.lt
 obtain ⟨ak, rfl, hcell⟩ := byte_cell key (by omega) hr0
 have hcur : ((w.alloc (Obj.cells Try.zeroCells104 104)).alloc (Obj.cells Try.zeroCells104 104)).heap[w.heap.size + 1]? = some (.cells (valsB z176).toArray 104 (0, 0)) := by
  rw [zero176, byV_vals]
  have := heap_alloc_new (w.alloc (Obj.cells (valsB z176).toArray 104)) (Obj.cells (valsB z176).toArray 104)
  rwa [World.size_alloc] at this
 have hsrc : ∀ j v, (valsB key)[j]? = some v → ((w.alloc (Obj.cells Try.zeroCells104 104)).alloc (Obj.cells Try.zeroCells104 104)).cell? (ak.add j) = some v := by
  intro j v hj
  obtain ⟨hj, rfl⟩ := valsB_at key j v hj
  have hc := hcell j (by omega)
  have hlt := World.block_lt_of_cell? w _ hc
  rw [World.cell?_alloc_lt _ _ _ (by simp; omega), World.cell?_alloc_lt _ _ _ hlt]
  exact hc
 have hb0 : Below (w.heap.size + 1) (w.alloc (Obj.cells Try.zeroCells104 104)) ((w.alloc (Obj.cells Try.zeroCells104 104)).alloc (Obj.cells Try.zeroCells104 104)) := (Below.refl _ _).alloc (by simp) _
 have hn : (valsB key).length = Nat.min 16 16 := by rw [valsB_length, hkey]; rfl
 have hfit : 0 + (valsB key).length ≤ (valsB z176).length := by rw [valsB_length, valsB_length, hkey]; decide
 have HC := Lib.hid (And.intro hcur (And.intro hsrc (And.intro hb0 (And.intro hn hfit))))
 clear hcur hsrc hb0 hn hfit hcell
 have HK := Lib.hid (And.intro hkey (And.intro hk hr0))
 clear hkey hk hr0
 go_enter Try.func66, Try.ntmps66
 go_wp2_with (with_reducible refine wpList_copy_splice rfl (.tmp 12) (.tmp 13) 22 22 rfl 5 Try.underlying22 info_u8s (some ⟨w.heap.size + 1, 0, none⟩) (some ak) 16 16 16 c0 rfl rfl (w.heap.size + 1) 0 (valsB z176) 104 HC.out.1 (valsB key) HC.out.2.2.2.1 (fun _ => ⟨rfl, ak, rfl, HC.out.2.1⟩) HC.out.2.2.2.2 (valsB_one key) (w.heap.size + 1) (w.alloc (Obj.cells Try.zeroCells104 104)) HC.out.2.2.1 (Nat.le_refl _) ?_; intro W1 hg1 hb1)
 have bo : Blk W1 (w.heap.size + 1) 104 (byV (rowTo 176 (keyF key) (fun _ => 0) (16 * (0 + 1)))) := by
  have h1 := hg1.out
  rw [splice_valsB, keys_first key HK.out.1] at h1
  exact h1
 have br : Blk W1 w.heap.size 104 (byV z176) := by
  have h1 := Blk.new w 104 Try.zeroCells104
  rw [zero176] at h1 hb1
  exact h1.below hb1 (by omega)
 have hbl : Below w.heap.size w W1 := ((Below.refl _ w).alloc (Nat.le_refl _) _).trans (hb1.mono (by omega))
 have bk : Blk W1 gk 123 (byV boxT) := HK.out.2.1.below hbl hgk
 clear hg1 hb1 HC
 have ho := Lib.hid ho
 go_loopw [6, 7] (fun vr vn wr => ∃ t : Nat, t ≤ 10 ∧ vn = .int .i64 ((t + 1 : Nat) : Int) ∧ vr = .int .u8 (rconT t) ∧ Blk wr w.heap.size 104 (byV z176) ∧ Blk wr (w.heap.size + 1) 104 (byV (rowTo 176 (keyF key) (fun _ => 0) (16 * (t + 1)))) ∧ Blk wr gk 123 (byV boxT) ∧ Below w.heap.size w wr) (fun _ vn _ => 11 - (intOf vn).toNat)
 case atStart => exact ⟨0, by omega, rfl, rfl, br, bo, bk, hbl⟩
 case round =>
  clear br bo bk hbl
  obtain ⟨t, ht, rfl, rfl, br, bo, bk, hbl⟩ := hrel
  obtain ⟨n, hn⟩ : ∃ n, t + 1 = n := ⟨_, rfl⟩
  rw [hn] at bo ⊢
  by_cases h10 : n ≤ 10
  ·have HB := Lib.hid (And.intro br (And.intro bo (And.intro bk hbl)))
   clear br bo bk hbl
   have n1 : (1 : Int) ≤ (n : Int) := by omega
   have n2 : (n : Int) ≤ 10 := by omega
   have n3 : (n : Int) - 1 = (t : Int) := by omega
   have n4 : IntKind.i64.wrap ((n : Int) - 1) = (t : Int) := by rw [n3, IntKind.wrap_i64]; omega
   have n5 : (0 : Int) ≤ (t : Int) := by omega
   have n6 : (t : Int) < 11 := by omega
   have hn := Lib.hid hn
   have hr := Lib.hid (keys_range key HK.out.1 n t (by omega) hn.out HB.out.2.1)
   have hl := keyT_length key HK.out.1 t
   have hi := Lib.hid (show (Try.prog.info? 103).map (·.size) = some (valsB (keyT key t)).length by rw [valsB_length, hl]; exact infoState)
   have hi1 := Lib.hid (show (Try.prog.info? 103).map (·.size) = some (valsB (keyT key t)).toArray.size by rw [← byV_vals, byV_size, hl]; exact infoState)
   have hi2 := Lib.hid (show (byV z16).size = (valsB (keyT key t)).toArray.size by rw [← byV_vals, byV_size, byV_size, hl]; rfl)
   have hi3 := Lib.hid (show (valsB (keyT key t)).toArray.all (·.oneCell') = true by simp [valsB, Value.oneCell'])
   have hl := Lib.hid hl
   go_wp2_with (first
    | (refine wpList_load_mid rfl 103 (.tmp 21) rfl (w.heap.size + 1) (t * 16) rfl (valsB (keyT key t)) _ hr.out Try.underlying103 rfl hi.out ?_)
    | (refine wpList_store_row rfl 103 (.tmp 8) (.tmp 22) rfl wr.heap.size _ rfl rfl 103 (byV z16) (Blk.new wr 103 (byV z16)) hi1.out hi2.out hi3.out ?_))
   rw [zero16]
   have ba := (Blk.new wr 103 (byV z16)).setRow_ (byV (keyT key t))
   have br := (HB.out.1.alloc (Obj.cells (byV z16) 103)).farRow (g' := wr.heap.size) (Nat.ne_of_lt HB.out.1.lt) (byV (keyT key t))
   have bo := (HB.out.2.1.alloc (Obj.cells (byV z16) 103)).farRow (g' := wr.heap.size) (Nat.ne_of_lt HB.out.2.1.lt) (byV (keyT key t))
   have bk := (HB.out.2.2.1.alloc (Obj.cells (byV z16) 103)).farRow (g' := wr.heap.size) (Nat.ne_of_lt HB.out.2.2.1.lt) (byV (keyT key t))
   have hbl := (HB.out.2.2.2.alloc HB.out.2.2.2.size (Obj.cells (byV z16) 103)).trans (Iter.below_setRow (g := wr.heap.size) (byV (keyT key t)) HB.out.2.2.2.size)
   have hsz := Lib.hid (show ((wr.alloc (Obj.cells (byV z16) 103)).setRow wr.heap.size (byV (keyT key t))).heap.size = wr.heap.size + 1 by rw [size_setRow, World.size_alloc])
   rw [← byV_vals]
   have hgo := Lib.hid (show w.heap.size + 1 < wr.heap.size from HB.out.2.1.lt)
   generalize ((wr.alloc (Obj.cells (byV z16) 103)).setRow wr.heap.size (byV (keyT key t))) = W2 at *
   have cell_a : ∀ i, i < 16 → W2.cell? ⟨wr.heap.size, i, none⟩ = some (.int .u8 ((keyT key t).getD i 0)) := fun i h => (ba.cell i).trans (byV_at _ _ (by rw [hl.out]; exact h))
   have kb : byteOk (keyT key t) = true := byteOk_keyT key ho.out t
   have c12 := cell_a 12 (by omega)
   have c13 := cell_a 13 (by omega)
   have c14 := cell_a 14 (by omega)
   have c15 := cell_a 15 (by omega)
   obtain ⟨b12, b12'⟩ := byte_getD _ kb 12
   obtain ⟨b13, b13'⟩ := byte_getD _ kb 13
   obtain ⟨b14, b14'⟩ := byte_getD _ kb 14
   obtain ⟨b15, b15'⟩ := byte_getD _ kb 15
   have d12 := (bk.cell _).trans (box_at _ b12 b12')
   have d13 := (bk.cell _).trans (box_at _ b13 b13')
   have d14 := (bk.cell _).trans (box_at _ b14 b14')
   have d15 := (bk.cell _).trans (box_at _ b15 b15')
   have e0 : keyW (keyT key t) (rconT t) 0 = xr (bx ((keyT key t).getD 13 0)) (rconT t) := rfl
   have e1 : keyW (keyT key t) (rconT t) 1 = bx ((keyT key t).getD 14 0) := rfl
   have e2 : keyW (keyT key t) (rconT t) 2 = bx ((keyT key t).getD 15 0) := rfl
   have e3 : keyW (keyT key t) (rconT t) 3 = bx ((keyT key t).getD 12 0) := rfl
   obtain ⟨r0, r1⟩ := rconT_wf t
   generalize hrr : rconT t = rr at *
   generalize hK : keyT key t = K at *
   generalize K.getD 12 0 = x12 at *
   generalize K.getD 13 0 = x13 at *
   generalize K.getD 14 0 = x14 at *
   generalize K.getD 15 0 = x15 at *
   generalize bx x12 = y12 at *
   generalize bx x13 = y13 at *
   generalize bx x14 = y14 at *
   generalize bx x15 = y15 at *
   have HB2 := Lib.hid (And.intro ba (And.intro br (And.intro bo (And.intro bk hbl))))
   have HE := Lib.hid (And.intro e0 (And.intro e1 (And.intro e2 e3)))
   have HR := Lib.hid (And.intro hrr hK)
   have := World.new_ne W2 _ c12
   have := World.new_ne W2 _ c13
   have := World.new_ne W2 _ c14
   have := World.new_ne W2 _ c15
   have := World.new_ne W2 _ d12
   have := World.new_ne W2 _ d13
   have := World.new_ne W2 _ d14
   have := World.new_ne W2 _ d15
   clear ba br bo bk hbl cell_a kb e0 e1 e2 e3 hrr hK hr hi hi1 hi2 hi3 HB
   go_region_held3 (fun w' => w'.cell? ⟨wr.heap.size, 12, none⟩ = some (.int .u8 x12) ∧ w'.cell? ⟨wr.heap.size, 13, none⟩ = some (.int .u8 x13) ∧ w'.cell? ⟨wr.heap.size, 14, none⟩ = some (.int .u8 x14) ∧ w'.cell? ⟨wr.heap.size, 15, none⟩ = some (.int .u8 x15) ∧ w'.cell? ⟨gk, x12.toNat, none⟩ = some (.int .u8 y12) ∧ w'.cell? ⟨gk, x13.toNat, none⟩ = some (.int .u8 y13) ∧ w'.cell? ⟨gk, x14.toNat, none⟩ = some (.int .u8 y14) ∧ w'.cell? ⟨gk, x15.toNat, none⟩ = some (.int .u8 y15)) (go_keep) (fail)
   have hw0 : #[Value.int IntKind.u8 (Go.bits BinOp.xor IntKind.u8 y13 rr), Value.int IntKind.u8 y14, Value.int IntKind.u8 y15, Value.int IntKind.u8 y12] = byV (wordT K rr 0) := by
    obtain ⟨e0, e1, e2, e3⟩ := HE.out
    show _ = byV [keyW K rr 0, keyW K rr 1, keyW K rr 2, keyW K rr 3]
    rw [e0, e1, e2, e3]
    rfl
   rw [hw0]
   have HB3 : Hid (Blk (W2.alloc (Obj.cells (byV (wordT K rr 0)) 124)).drew wr.heap.size 103 (byV K) ∧ Blk (W2.alloc (Obj.cells (byV (wordT K rr 0)) 124)).drew W2.heap.size 124 (byV (wordT K rr 0)) ∧ Blk (W2.alloc (Obj.cells (byV (wordT K rr 0)) 124)).drew w.heap.size 104 (byV z176) ∧ Blk (W2.alloc (Obj.cells (byV (wordT K rr 0)) 124)).drew (w.heap.size + 1) 104 (byV (rowTo 176 (keyF key) (fun _ => 0) (16 * n + 0))) ∧ Blk (W2.alloc (Obj.cells (byV (wordT K rr 0)) 124)).drew gk 123 (byV boxT) ∧ Below w.heap.size w (W2.alloc (Obj.cells (byV (wordT K rr 0)) 124)).drew) :=
    Lib.hid ⟨HB2.out.1.alloc _, Blk.new W2 _ _, HB2.out.2.1.alloc _, HB2.out.2.2.1.alloc _, HB2.out.2.2.2.1.alloc _, (HB2.out.2.2.2.2.alloc HB2.out.2.2.2.2.size _).drew⟩
   clear HB2 HE hw0
   generalize (W2.alloc (Obj.cells (byV (wordT K rr 0)) 124)).drew = W3 at *
   have hs2 := hsz.out
   have hg2 := hgo.out
   clear hsz hgo
   generalize wr.heap.size = ga at *
   generalize W2.heap.size = gw at *
   have hgs := Lib.hid (And.intro hs2 hg2)
   clear hs2 hg2 b12 b12' b13 b13' b14 b14' b15 b15'
   clear c12 c13 c14 c15 d12 d13 d14 d15
   go_wp2_with fail
   go_loopw [50] (fun i wv => ∃ s : Nat, s ≤ 16 ∧ i = .int .i64 s ∧ Blk wv ga 103 (byV K) ∧ Blk wv gw 124 (byV (wordT K rr s)) ∧ Blk wv w.heap.size 104 (byV z176) ∧ Blk wv (w.heap.size + 1) 104 (byV (rowTo 176 (keyF key) (fun _ => 0) (16 * n + s))) ∧ Blk wv gk 123 (byV boxT) ∧ Below w.heap.size w wv) (fun i _ => 16 - (intOf i).toNat)
   case atStart => exact ⟨0, by omega, rfl, HB3.out⟩
   case round =>
    clear HB3
    obtain ⟨s, hs, rfl, ba, bw, br, bo, bk, hbl⟩ := hrel
    by_cases h16 : s < 16
    ·obtain ⟨q, hq⟩ : ∃ q, s % 4 = q := ⟨_, rfl⟩
     have q4 : q < 4 := by omega
     have vx : (byV (wordT K rr s))[q]? = some (.int .u8 ((wordT K rr s).getD q 0)) := byV_at _ _ (by rw [wordT_length]; exact q4)
     have gx : wr.cell? ⟨gw, q, none⟩ = some (.int .u8 ((wordT K rr s).getD q 0)) := (bw.cell q).trans vx
     have gy : wr.cell? ⟨ga, s, none⟩ = some (.int .u8 (K.getD s 0)) := (ba.cell s).trans (byV_at _ _ (by have := hl.out; omega))
     have fx := bw.frozen q
     have q0 : (0 : Int) ≤ (q : Int) := by omega
     have q1 : (q : Int) < 4 := by omega
     have s0 : (0 : Int) ≤ (s : Int) := by omega
     have s1 : (s : Int) < 16 := by omega
     have hset := bw.set_ q (.int .u8 (xr ((wordT K rr s).getD q 0) (K.getD s 0)))
     rw [byV_set] at hset
     have hw1 : (wordT K rr s).set q (xr ((wordT K rr s).getD q 0) (K.getD s 0)) = wordT K rr (s + 1) := by rw [← hq]; rfl
     rw [hw1] at hset
     have hgs' := hgs.out
     have ba2 := ba.far (p := ⟨gw, q, none⟩) (by simp; omega) (.int .u8 (xr ((wordT K rr s).getD q 0) (K.getD s 0)))
     have br2 := br.far (p := ⟨gw, q, none⟩) (by simp; omega) (.int .u8 (xr ((wordT K rr s).getD q 0) (K.getD s 0)))
     have bo2 := bo.far (p := ⟨gw, q, none⟩) (by simp; omega) (.int .u8 (xr ((wordT K rr s).getD q 0) (K.getD s 0)))
     have hgk2 := Lib.hid hgk
     have bk2 := bk.far (p := ⟨gw, q, none⟩) (by simp; omega) (.int .u8 (xr ((wordT K rr s).getD q 0) (K.getD s 0)))
     have hb2 := hbl.setCell (p := ⟨gw, q, none⟩) (by simp; omega) (.int .u8 (xr ((wordT K rr s).getD q 0) (K.getD s 0)))
     have hkb := wordT_key K rr s
     rw [hq] at hkb
     have HF := Lib.hid (And.intro ba2 (And.intro hset (And.intro br2 (And.intro bo2 (And.intro bk2 hb2)))))
     have HQ := Lib.hid (And.intro hq hkb)
     clear hset ba2 br2 bo2 bk2 hb2 ba bw br bo bk hbl vx hw1 hgs' hkb
     have q2 : Int.tmod (s : Int) 4 = (q : Int) := by rw [← hq]; rfl
     clear hq
     generalize (wordT K rr s).getD q 0 = x at *
     generalize K.getD s 0 = y at *
     go_wp2_with fail
     go_region
     clear gx gy fx
     obtain ⟨W4, hW4⟩ : ∃ W4, (wr.setCell ⟨gw, q, none⟩ (Value.int IntKind.u8 (Go.bits BinOp.xor IntKind.u8 x y))).drew = W4 := ⟨_, rfl⟩
     have HG : Hid (Blk W4 ga 103 (byV K) ∧ Blk W4 gw 124 (byV (wordT K rr (s + 1))) ∧ Blk W4 w.heap.size 104 (byV z176) ∧ Blk W4 (w.heap.size + 1) 104 (byV (rowTo 176 (keyF key) (fun _ => 0) (16 * n + s))) ∧ Blk W4 gk 123 (byV boxT) ∧ Below w.heap.size w W4) := by
      rw [← hW4]
      exact Lib.hid ⟨HF.out.1, HF.out.2.1, HF.out.2.2.1, HF.out.2.2.2.1, HF.out.2.2.2.2.1, HF.out.2.2.2.2.2.drew⟩
     rw [hW4]
     clear hW4 HF
     clear wr
     obtain ⟨hq, hkb⟩ := HQ.out
     have hz : (byV (wordT K rr (s + 1)))[q]? = some (.int .u8 (keyB K rr s)) := by
      rw [byV_at _ _ (by rw [wordT_length]; exact q4)]
      have h1 := wordT_at K rr (s + 1) q q4
      rw [if_neg (by omega), show (s + 1 - 1 - q) / 4 * 4 + q = s from by omega] at h1
      rw [h1]
     have gz : W4.cell? ⟨gw, q, none⟩ = some (.int .u8 (keyB K rr s)) := (HG.out.2.1.cell q).trans hz
     obtain ⟨m, hm⟩ : ∃ m, n * 16 + s = m := ⟨_, rfl⟩
     have hn' := hn.out
     have hm176 : m < 176 := by omega
     have go1 : W4.cell? ⟨w.heap.size + 1, n * 16 + s, none⟩ = some (.int .u8 0) := by
      refine (HG.out.2.2.2.1.cell _).trans ?_
      rw [hm, byV_at _ _ (by rw [rowTo_length]; exact hm176), rowTo_at _ _ _ _ _ hm176, if_neg (by omega)]
     have fo1 : W4.frozen? ⟨w.heap.size + 1, n * 16 + s, none⟩ = false := HG.out.2.2.2.1.frozen _
     have hkf : keyF key (16 * n + s) = keyB K rr s := by
      rw [← hn', keyF_next _ _ _ h16, HR.out.1, HR.out.2]
     have hset : Blk (W4.setCell ⟨w.heap.size + 1, n * 16 + s, none⟩ (.int .u8 (keyB K rr s))) (w.heap.size + 1) 104 (byV (rowTo 176 (keyF key) (fun _ => 0) (16 * n + (s + 1)))) := by
      have h1 := HG.out.2.2.2.1.set_ (n * 16 + s) (.int .u8 (keyB K rr s))
      have h2 := rowTo_set 176 (keyF key) (fun _ => 0) (16 * n + s)
      have h3 : 16 * n + s = n * 16 + s := by omega
      rw [hkf, h3] at h2
      rw [byV_set, h3, h2] at h1
      rw [show 16 * n + (s + 1) = n * 16 + s + 1 from by omega]
      exact h1
     have hgs' := hgs.out
     have ba2 := HG.out.1.far (p := ⟨w.heap.size + 1, n * 16 + s, none⟩) (by simp; omega) (.int .u8 (keyB K rr s))
     have bw2 := HG.out.2.1.far (p := ⟨w.heap.size + 1, n * 16 + s, none⟩) (by simp; omega) (.int .u8 (keyB K rr s))
     have br2 := HG.out.2.2.1.far (p := ⟨w.heap.size + 1, n * 16 + s, none⟩) (by simp) (.int .u8 (keyB K rr s))
     have bk2 := HG.out.2.2.2.2.1.far (p := ⟨w.heap.size + 1, n * 16 + s, none⟩) (by simp; have := hgk2.out; omega) (.int .u8 (keyB K rr s))
     have hb2 := HG.out.2.2.2.2.2.setCell (p := ⟨w.heap.size + 1, n * 16 + s, none⟩) (by simp) (.int .u8 (keyB K rr s))
     have HF := Lib.hid (And.intro ba2 (And.intro bw2 (And.intro br2 (And.intro hset (And.intro bk2 hb2)))))
     clear hset ba2 bw2 br2 bk2 hb2 HG hz hq hkb hkf hm hn' hgs' HQ hm176
     generalize keyB K rr s = z at *
     have n7 : (n : Int) < 11 := by omega
     have n8 : (0 : Int) ≤ (n : Int) := by omega
     go_wp2_with fail
     go_region
     go_wp2
     exact ⟨⟨s + 1, by omega, by go_num, HF.out.1, HF.out.2.1, HF.out.2.2.1, HF.out.2.2.2.1, HF.out.2.2.2.2.1, HF.out.2.2.2.2.2.drew⟩, by simp [intOf]; omega⟩
    ·obtain rfl : s = 16 := by omega
     have hdj : decide (((16 : Nat) : Int) < 16) = false := by decide
     have HB3 := Lib.hid (And.intro br (And.intro bo (And.intro bk hbl)))
     clear ba bw br bo bk hbl
     have hm := aes_mul2 rr r0 r1
     have hr1 := Lib.hid (show m2 rr = rconT n by rw [← hn.out, rconT, HR.out.1])
     go_wp2_with ((with_reducible refine (A.aes_Mul.calls 10 _ _ _ _ hm).mono ?_); rintro e w' ⟨rfl, hd⟩; obtain ⟨n1, rfl⟩ := hd.out)
     exact ⟨⟨n, by omega, by go_num, by rw [hr1.out], HB3.out.1, by rw [show 16 * (n + 1) = 16 * n + 16 from by omega]; exact HB3.out.2.1, HB3.out.2.2.1, pw_below_drewN HB3.out.2.2.2 _⟩, by simp [intOf]; omega⟩
  ·obtain rfl : n = 11 := by omega
   have hdj : decide (((11 : Nat) : Int) ≤ 10) = false := by decide
   rw [keys_last] at bo
   go_wp2_with (first
    | (refine wpList_load_row rfl 104 (.tmp 5) rfl (w.heap.size + 1) rfl 104 _ (0, 0) _ bo Try.underlying104 rfl (by rw [byV_size, keysV_length]; exact infoKeys) ?_)
    | (refine wpList_store_row rfl 104 (.tmp 4) (.tmp 73) rfl w.heap.size _ rfl rfl 104 _ br (by rw [byV_size, keysV_length]; exact infoKeys) (by rw [byV_size, byV_size, keysV_length]; rfl) (by simp [byV, Value.oneCell']) ?_))
   exact bodyPost_ret (results_cell_row rfl _ _ w.heap.size 104 (byV (keysV key)) (0, 0) _ rfl (setRow_heap wr w.heap.size _ _ _ _ br) Try.underlying104 rfl (by rw [byV_size, keysV_length]; exact infoKeys)) rfl ⟨rfl, hbl.trans (Iter.below_setRow _ (Nat.le_refl _))⟩
end Go.Proofs.Ytifpdpfjhjoieaa

/-! AesL -/
namespace Go.Proofs.Ytifpdpfjhjoieaa
set_option linter.unusedVariables false
set_option linter.unusedSimpArgs false
open Go.RowKit Go.Shelf Iter Go.Proofs.YtifpdpfjhjoieaaW.PrintWords Go.Proofs.YtifpdpfjhjoieaaW.PrintLast
attribute [local go_sem] Oper.semAt_some
set_option maxHeartbeats 400000 in
theorem left1 (x : Int) (w : World) (h0 : 0 ≤ x) (h1 : x < 256) : Calls Try.prog 90 #[.int .u8 x, .int .u8 1] w fun e w' => e = .returned (.int .u8 (Go.bits .or .u8 (x * 2 % 256) (x / 128))) ∧ w = w' := by
 go_enter Try.func90, Try.ntmps90
 go_wp2
 go_ret
 exact ⟨rfl, rfl⟩
set_option maxHeartbeats 400000 in
theorem left2 (x : Int) (w : World) (h0 : 0 ≤ x) (h1 : x < 256) : Calls Try.prog 90 #[.int .u8 x, .int .u8 2] w fun e w' => e = .returned (.int .u8 (Go.bits .or .u8 (x * 4 % 256) (x / 64))) ∧ w = w' := by
 go_enter Try.func90, Try.ntmps90
 go_wp2
 go_ret
 exact ⟨rfl, rfl⟩
set_option maxHeartbeats 400000 in
theorem left3 (x : Int) (w : World) (h0 : 0 ≤ x) (h1 : x < 256) : Calls Try.prog 90 #[.int .u8 x, .int .u8 3] w fun e w' => e = .returned (.int .u8 (Go.bits .or .u8 (x * 8 % 256) (x / 32))) ∧ w = w' := by
 go_enter Try.func90, Try.ntmps90
 go_wp2
 go_ret
 exact ⟨rfl, rfl⟩
set_option maxHeartbeats 400000 in
theorem left4 (x : Int) (w : World) (h0 : 0 ≤ x) (h1 : x < 256) : Calls Try.prog 90 #[.int .u8 x, .int .u8 4] w fun e w' => e = .returned (.int .u8 (Go.bits .or .u8 (x * 16 % 256) (x / 16))) ∧ w = w' := by
 go_enter Try.func90, Try.ntmps90
 go_wp2
 go_ret
 exact ⟨rfl, rfl⟩
namespace P
def pyxref05_left.f (x n : Int) : Option Int := if 0 ≤ x ∧ x < 256 then (if n = 1 then some (Go.bits .or .u8 (x * 2 % 256) (x / 128)) else if n = 2 then some (Go.bits .or .u8 (x * 4 % 256) (x / 64)) else if n = 3 then some (Go.bits .or .u8 (x * 8 % 256) (x / 32)) else if n = 4 then some (Go.bits .or .u8 (x * 16 % 256) (x / 16)) else none) else none
theorem pyxref05_left.calls (a0 a1 r : Int) (w : World) (h : pyxref05_left.f a0 a1 = some r) : Calls Try.prog 90 #[.int .u8 a0, .int .u8 a1] w fun e w' => e = .returned (.int .u8 r) ∧ Drawn0 w w' := by
 unfold pyxref05_left.f at h
 split at h
 case isFalse => cases h
 case isTrue hx =>
 by_cases h1 : a1 = 1
 ·subst h1
  rw [if_pos rfl] at h
  injection h with h
  subst h
  exact (left1 a0 w hx.1 hx.2).mono fun e w' ⟨h1, h2⟩ => ⟨h1, by rw [← h2]; exact Drawn0.refl w⟩
 rw [if_neg h1] at h
 by_cases h2 : a1 = 2
 ·subst h2
  rw [if_pos rfl] at h
  injection h with h
  subst h
  exact (left2 a0 w hx.1 hx.2).mono fun e w' ⟨h1, h2⟩ => ⟨h1, by rw [← h2]; exact Drawn0.refl w⟩
 rw [if_neg h2] at h
 by_cases h3 : a1 = 3
 ·subst h3
  rw [if_pos rfl] at h
  injection h with h
  subst h
  exact (left3 a0 w hx.1 hx.2).mono fun e w' ⟨h1, h2⟩ => ⟨h1, by rw [← h2]; exact Drawn0.refl w⟩
 rw [if_neg h3] at h
 by_cases h4 : a1 = 4
 ·subst h4
  rw [if_pos rfl] at h
  injection h with h
  subst h
  exact (left4 a0 w hx.1 hx.2).mono fun e w' ⟨h1, h2⟩ => ⟨h1, by rw [← h2]; exact Drawn0.refl w⟩
 rw [if_neg h4] at h
 cases h
end P
end Go.Proofs.Ytifpdpfjhjoieaa

/-! C0 -/
namespace Go.Proofs.Ytifpdpfjhjoieaa.C
open Go.Proofs.Ytifpdpfjhjoieaa.P
open Go.RowKit Go.Proofs.YtifpdpfjhjoieaaW.PrintWords Go.Proofs.YtifpdpfjhjoieaaW.PrintLast Go.Proofs.YtifpdpfjhjoieaaW.PrintMore
attribute [local go_sem] max2_int min2_int max_two min_two max_three min_three max_four min_four   -- for this text's walks alone
set_option linter.unusedVariables false
set_option linter.unusedSimpArgs false
def errW : Option Int → Value
 | none => .nilIface
 | some c => .iface 0 (.int .i64 c)
theorem errW_none : errW none = .nilIface := rfl
theorem errW_some (c : Int) : errW (some c) = .iface 0 (.int .i64 c) := rfl
theorem info5 : (Try.prog.info? 5).map (fun i => (i.zero, i.size, i.bytes)) = some (some (.int .u8 0), 1, 1) := by kernel_rfl
-- the values' own types
end Go.Proofs.Ytifpdpfjhjoieaa.C

/-! C1 -/
namespace Go.Proofs.Ytifpdpfjhjoieaa.C
open Go.Proofs.Ytifpdpfjhjoieaa.P
open Go.RowKit Go.Proofs.YtifpdpfjhjoieaaW.PrintWords Go.Proofs.YtifpdpfjhjoieaaW.PrintLast Go.Proofs.YtifpdpfjhjoieaaW.PrintMore
attribute [local go_sem] max2_int min2_int max_two min_two max_three min_three max_four min_four   -- for this text's walks alone
set_option linter.unusedVariables false
set_option linter.unusedSimpArgs false
/-! ### pyxref05_turned: function 75 -/
def pyxref05_turned.f (a0 : Int) : Option (Int) := (pyxref05_left.f a0 1).bind fun t101 => ((pyxref05_left.f a0 2).bind fun t102 => ((pyxref05_left.f a0 3).bind fun t103 => ((pyxref05_left.f a0 4).bind fun t104 => (some (Go.bits .xor .u8 (Go.bits .xor .u8 (Go.bits .xor .u8 (Go.bits .xor .u8 (Go.bits .xor .u8 a0 t101) t102) t103) t104) 99)))))
set_option maxHeartbeats 8000000 in
set_option maxRecDepth 100000 in
theorem pyxref05_turned.calls (a0 : Int) (r : Int) (w : World) (h : pyxref05_turned.f a0 = some r) :
  Calls Try.prog 75 #[.int .u8 a0] w fun e w' => e = .returned (.int .u8 r) ∧ Drawn0 w w' := by
 have H : ((pyxref05_left.f a0 1).bind fun t101 => ((pyxref05_left.f a0 2).bind fun t102 => ((pyxref05_left.f a0 3).bind fun t103 => ((pyxref05_left.f a0 4).bind fun t104 => (some (Go.bits .xor .u8 (Go.bits .xor .u8 (Go.bits .xor .u8 (Go.bits .xor .u8 (Go.bits .xor .u8 a0 t101) t102) t103) t104) 99)))))) = some r := h
 clear h
 replace H := Option.bind_eq_some_iff.mp H
 obtain ⟨t101, A20, H⟩ := H
 replace H : ((pyxref05_left.f a0 2).bind fun t102 => ((pyxref05_left.f a0 3).bind fun t103 => ((pyxref05_left.f a0 4).bind fun t104 => (some (Go.bits .xor .u8 (Go.bits .xor .u8 (Go.bits .xor .u8 (Go.bits .xor .u8 (Go.bits .xor .u8 a0 t101) t102) t103) t104) 99))))) = some r := H
 have A2 := Aside0.mk A20
 clear A20
 replace H := Option.bind_eq_some_iff.mp H
 obtain ⟨t102, A30, H⟩ := H
 replace H : ((pyxref05_left.f a0 3).bind fun t103 => ((pyxref05_left.f a0 4).bind fun t104 => (some (Go.bits .xor .u8 (Go.bits .xor .u8 (Go.bits .xor .u8 (Go.bits .xor .u8 (Go.bits .xor .u8 a0 t101) t102) t103) t104) 99)))) = some r := H
 have A3 := Aside0.mk A30
 clear A30
 replace H := Option.bind_eq_some_iff.mp H
 obtain ⟨t103, A40, H⟩ := H
 replace H : ((pyxref05_left.f a0 4).bind fun t104 => (some (Go.bits .xor .u8 (Go.bits .xor .u8 (Go.bits .xor .u8 (Go.bits .xor .u8 (Go.bits .xor .u8 a0 t101) t102) t103) t104) 99))) = some r := H
 have A4 := Aside0.mk A40
 clear A40
 replace H := Option.bind_eq_some_iff.mp H
 obtain ⟨t104, A50, H⟩ := H
 replace H : (some (Go.bits .xor .u8 (Go.bits .xor .u8 (Go.bits .xor .u8 (Go.bits .xor .u8 (Go.bits .xor .u8 a0 t101) t102) t103) t104) 99)) = some r := H
 have A5 := Aside0.mk A50
 clear A50
 obtain rfl := Option.some.inj H
 go_enter Try.func75, Try.ntmps75
 go_wp2_with (first | ((with_reducible refine gate_callee (f := 90) rfl ?_); refine goesL_ (some 5) rfl rfl Try.func90 (by kernel_rfl) rfl #[.int .u8 a0, .int .u8 1] rfl (by (try simp only [List.map_toArray, List.map_cons, List.map_nil]); first | done | rfl | (simp only [List.length_drop, List.length_take]; rfl)) ?_; (with_reducible refine (pyxref05_left.calls a0 1 t101 _ A2.out).mono ?_); rintro e w' ⟨rfl, ⟨nd, rfl⟩⟩; refine ⟨_, rfl, ?_⟩) | ((with_reducible refine gate_callee (f := 90) rfl ?_); refine goesL_ (some 8) rfl rfl Try.func90 (by kernel_rfl) rfl #[.int .u8 a0, .int .u8 2] rfl (by (try simp only [List.map_toArray, List.map_cons, List.map_nil]); first | done | rfl | (simp only [List.length_drop, List.length_take]; rfl)) ?_; (with_reducible refine (pyxref05_left.calls a0 2 t102 _ A3.out).mono ?_); rintro e w' ⟨rfl, ⟨nd, rfl⟩⟩; refine ⟨_, rfl, ?_⟩) | ((with_reducible refine gate_callee (f := 90) rfl ?_); refine goesL_ (some 11) rfl rfl Try.func90 (by kernel_rfl) rfl #[.int .u8 a0, .int .u8 3] rfl (by (try simp only [List.map_toArray, List.map_cons, List.map_nil]); first | done | rfl | (simp only [List.length_drop, List.length_take]; rfl)) ?_; (with_reducible refine (pyxref05_left.calls a0 3 t103 _ A4.out).mono ?_); rintro e w' ⟨rfl, ⟨nd, rfl⟩⟩; refine ⟨_, rfl, ?_⟩) | ((with_reducible refine gate_callee (f := 90) rfl ?_); refine goesL_ (some 14) rfl rfl Try.func90 (by kernel_rfl) rfl #[.int .u8 a0, .int .u8 4] rfl (by (try simp only [List.map_toArray, List.map_cons, List.map_nil]); first | done | rfl | (simp only [List.length_drop, List.length_take]; rfl)) ?_; (with_reducible refine (pyxref05_left.calls a0 4 t104 _ A5.out).mono ?_); rintro e w' ⟨rfl, ⟨nd, rfl⟩⟩; refine ⟨_, rfl, ?_⟩))
 go_ret
 exact ⟨by first | rfl | (simp; done) | (simp [*]; done), by repeat (first | exact Drawn0.refl _ | apply Drawn0.step)⟩
/-! ### pyxref05_Mul: function 76 -/
def pyxref05_Mul.l0 : Nat → Int → Int → Int → Int → Option (Int)
 | 0, _, _, _, _ => none
 | k + 1, x5, x6, x7, x8 => if x8 < 8 then (if (Int.tmod x7 2) = 1 then (if (wrap64 (2 * x6)) > 255 then (pyxref05_Mul.l0 k (Go.bits .xor .i64 x5 x6) (Go.bits .xor .i64 (wrap64 (2 * x6)) 283) (wrap64 (Int.tdiv x7 2)) (wrap64 (x8 + 1))) else (pyxref05_Mul.l0 k (Go.bits .xor .i64 x5 x6) (wrap64 (2 * x6)) (wrap64 (Int.tdiv x7 2)) (wrap64 (x8 + 1)))) else (if (wrap64 (2 * x6)) > 255 then (pyxref05_Mul.l0 k x5 (Go.bits .xor .i64 (wrap64 (2 * x6)) 283) (wrap64 (Int.tdiv x7 2)) (wrap64 (x8 + 1))) else (pyxref05_Mul.l0 k x5 (wrap64 (2 * x6)) (wrap64 (Int.tdiv x7 2)) (wrap64 (x8 + 1))))) else (some ((x5) % 256))
def pyxref05_Mul.f (k : Nat) (a0 : Int) (a1 : Int) : Option (Int) := pyxref05_Mul.l0 k 0 (wrap64 (a0)) (wrap64 (a1)) 0
theorem pyxref05_Mul.mono_l : ∀ k, (∀ y0 y1 y2 y3, LeO (pyxref05_Mul.l0 k y0 y1 y2 y3) (pyxref05_Mul.l0 (k + 1) y0 y1 y2 y3))
 | 0 => fun _ _ _ _ r h => by simp [pyxref05_Mul.l0] at h
 | k + 1 => by
  have ih0 := pyxref05_Mul.mono_l k
  ·intro y0 y1 y2 y3
   unfold pyxref05_Mul.l0
   repeat' first
   | (with_reducible exact ih0 _ _ _ _)
   | (with_reducible exact LeO.refl _)
   | (with_reducible exact LeO.none _)
   | (with_reducible refine LeO.ite ?_ ?_)
   | (with_reducible refine LeO.bind ?_ (fun _ => ?_))
   | exact ih0 _ _ _ _
   | exact LeO.none _
   | refine LeO.ite ?_ ?_
   | refine LeO.bind ?_ (fun _ => ?_)
theorem pyxref05_Mul.mono : ∀ a0 a1 k, LeO (pyxref05_Mul.f k a0 a1) (pyxref05_Mul.f (k + 1) a0 a1) := by
 intro a0 a1 k
 have ih0 := pyxref05_Mul.mono_l k
 unfold pyxref05_Mul.f
 repeat' first
   | (with_reducible exact ih0 _ _ _ _)
   | (with_reducible exact LeO.refl _)
   | (with_reducible exact LeO.none _)
   | (with_reducible refine LeO.ite ?_ ?_)
   | (with_reducible refine LeO.bind ?_ (fun _ => ?_))
   | exact ih0 _ _ _ _
   | exact LeO.none _
   | refine LeO.ite ?_ ?_
   | refine LeO.bind ?_ (fun _ => ?_)
set_option maxHeartbeats 8000000 in
set_option maxRecDepth 100000 in
theorem pyxref05_Mul.calls (k : Nat) (a0 : Int) (a1 : Int) (r : Int) (w : World) (h : pyxref05_Mul.f k a0 a1 = some r) :
  Calls Try.prog 76 #[.int .u8 a0, .int .u8 a1] w fun e w' => e = .returned (.int .u8 r) ∧ Drawn0 w w' := by
 have H : (pyxref05_Mul.l0 k 0 (wrap64 (a0)) (wrap64 (a1)) 0) = some r := h
 clear h
 have H' := Aside0.mk H
 clear H
 go_enter Try.func76, Try.ntmps76
 go_wp2
 go_loopg [5, 6, 7, 8] k (fun kq v5 v6 v7 v8 w' => ∃ (x5_1 : Int) (x6_1 : Int) (x7_1 : Int) (x8_1 : Int), v5 = .int .i64 x5_1 ∧ v6 = .int .i64 x6_1 ∧ v7 = .int .i64 x7_1 ∧ v8 = .int .i64 x8_1 ∧ Aside0 (pyxref05_Mul.l0 kq x5_1 x6_1 x7_1 x8_1 = some r) ∧ Aside0 (kq ≤ k) ∧ Drawn0 w w')
 case atStart => exact ⟨(0), (wrap64 (a0)), (wrap64 (a1)), (0), (by first | rfl | (simp; done) | (simp [*]; done)), (by first | rfl | (simp; done) | (simp [*]; done)), (by first | rfl | (simp; done) | (simp [*]; done)), (by first | rfl | (simp; done) | (simp [*]; done)), H', ⟨Nat.le_refl _⟩, by repeat (first | exact Drawn0.refl _ | apply Drawn0.step)⟩
 case round =>
  clear H'
  try clear p2
  obtain ⟨x5_1, x6_1, x7_1, x8_1, rfl, rfl, rfl, rfl, HA, HK1, ⟨m1, rfl⟩⟩ := hrel
  cases gk with
  | zero => exact absurd HA.out (by simp [pyxref05_Mul.l0])
  | succ k1 =>
   have H := HA.out
   clear HA
   simp only [pyxref05_Mul.l0] at H
   by_cases c3 : x8_1 < 8
   ·rw [if_pos c3] at H
    have c3b0 : decide (x8_1 < 8) = true := decide_eq_true c3
    clear c3
    by_cases c4 : (Int.tmod x7_1 2) = 1
    ·rw [if_pos c4] at H
     have c4b0 : ((Int.tmod x7_1 2) == 1) = true := beq_iff_eq.mpr c4
     have c4b1 : ((Int.tmod x7_1 2) != 1) = false := bne_eq_false_iff_eq.mpr c4
     clear c4
     by_cases c5 : (wrap64 (2 * x6_1)) > 255
     ·rw [if_pos c5] at H
      have c5b0 : decide (255 < (wrap64 (2 * x6_1))) = true := decide_eq_true c5
      clear c5
      have H' := Aside0.mk H
      clear H
      go_wp2
      go_roundg k1
      case measure => have := HK1.out; omega
      case rel => exact ⟨(Go.bits .xor .i64 x5_1 x6_1), (Go.bits .xor .i64 (wrap64 (2 * x6_1)) 283), (wrap64 (Int.tdiv x7_1 2)), (wrap64 (x8_1 + 1)), (by first | rfl | (simp; done) | (simp [*]; done)), (by first | rfl | (simp; done) | (simp [*]; done)), (by first | rfl | (simp; done) | (simp [*]; done)), (by first | rfl | (simp; done) | (simp [*]; done)), H', ⟨by have := HK1.out; omega⟩, by repeat (first | exact Drawn0.refl _ | apply Drawn0.step)⟩
     ·rw [if_neg c5] at H
      have c5b0 : decide (255 < (wrap64 (2 * x6_1))) = false := decide_eq_false c5
      clear c5
      have H' := Aside0.mk H
      clear H
      go_wp2
      go_roundg k1
      case measure => have := HK1.out; omega
      case rel => exact ⟨(Go.bits .xor .i64 x5_1 x6_1), (wrap64 (2 * x6_1)), (wrap64 (Int.tdiv x7_1 2)), (wrap64 (x8_1 + 1)), (by first | rfl | (simp; done) | (simp [*]; done)), (by first | rfl | (simp; done) | (simp [*]; done)), (by first | rfl | (simp; done) | (simp [*]; done)), (by first | rfl | (simp; done) | (simp [*]; done)), H', ⟨by have := HK1.out; omega⟩, by repeat (first | exact Drawn0.refl _ | apply Drawn0.step)⟩
    ·rw [if_neg c4] at H
     have c4b0 : ((Int.tmod x7_1 2) == 1) = false := beq_eq_false_iff_ne.mpr c4
     have c4b1 : ((Int.tmod x7_1 2) != 1) = true := bne_iff_ne.mpr c4
     by_cases c6 : (wrap64 (2 * x6_1)) > 255
     ·rw [if_pos c6] at H
      have c6b0 : decide (255 < (wrap64 (2 * x6_1))) = true := decide_eq_true c6
      clear c6
      have H' := Aside0.mk H
      clear H
      go_wp2
      go_roundg k1
      case measure => have := HK1.out; omega
      case rel => exact ⟨(x5_1), (Go.bits .xor .i64 (wrap64 (2 * x6_1)) 283), (wrap64 (Int.tdiv x7_1 2)), (wrap64 (x8_1 + 1)), (by first | rfl | (simp; done) | (simp [*]; done)), (by first | rfl | (simp; done) | (simp [*]; done)), (by first | rfl | (simp; done) | (simp [*]; done)), (by first | rfl | (simp; done) | (simp [*]; done)), H', ⟨by have := HK1.out; omega⟩, by repeat (first | exact Drawn0.refl _ | apply Drawn0.step)⟩
     ·rw [if_neg c6] at H
      have c6b0 : decide (255 < (wrap64 (2 * x6_1))) = false := decide_eq_false c6
      clear c6
      have H' := Aside0.mk H
      clear H
      go_wp2
      go_roundg k1
      case measure => have := HK1.out; omega
      case rel => exact ⟨(x5_1), (wrap64 (2 * x6_1)), (wrap64 (Int.tdiv x7_1 2)), (wrap64 (x8_1 + 1)), (by first | rfl | (simp; done) | (simp [*]; done)), (by first | rfl | (simp; done) | (simp [*]; done)), (by first | rfl | (simp; done) | (simp [*]; done)), (by first | rfl | (simp; done) | (simp [*]; done)), H', ⟨by have := HK1.out; omega⟩, by repeat (first | exact Drawn0.refl _ | apply Drawn0.step)⟩
   ·rw [if_neg c3] at H
    have c3b0 : decide (x8_1 < 8) = false := decide_eq_false c3
    clear c3
    obtain rfl := Option.some.inj H
    go_wp2
    go_ret
    exact ⟨by first | rfl | (simp; done) | (simp [*]; done), by repeat (first | exact Drawn0.refl _ | apply Drawn0.step)⟩
/-! ### pyxref05_boxes: function 52 -/
mutual
def pyxref05_boxes.l0 : Nat → List Int → List Int → Int → Option (List Int)
 | 0, _, _, _ => none
 | k + 1, x1, x2, x3 => if x3 < 255 then (if 0 ≤ (wrap64 (x3 - 1)) then (if (wrap64 (x3 - 1)) < (x2.length : Int) then ((pyxref05_Mul.f k (rd x2 (wrap64 (x3 - 1))) 3).bind fun t114 => (if x2.length < 140737488355328 then (pyxref05_boxes.l0 k x1 (x2 ++ [t114]) (wrap64 (x3 + 1))) else (none))) else (none)) else (none)) else (pyxref05_boxes.l1 k x1 x2 0)
def pyxref05_boxes.l1 : Nat → List Int → List Int → Int → Option (List Int)
 | 0, _, _, _ => none
 | k + 1, x1, x2, x4 => if x4 < 255 then (if 0 ≤ x4 then (if x4 < (x2.length : Int) then (if 0 ≤ (Int.tmod (wrap64 (255 - x4)) 255) then (if (Int.tmod (wrap64 (255 - x4)) 255) < (x2.length : Int) then ((pyxref05_turned.f (rd x2 (Int.tmod (wrap64 (255 - x4)) 255))).bind fun t120 => (if 0 ≤ (wrap64 (rd x2 x4)) then (if (wrap64 (rd x2 x4)) < (x1.length : Int) then (pyxref05_boxes.l1 k (x1.set ((wrap64 (rd x2 x4)) : Int).toNat t120) x2 (wrap64 (x4 + 1))) else (none)) else (none))) else (none)) else (none)) else (none)) else (none)) else (some x1)
end
def pyxref05_boxes.f (k : Nat)  : Option (List Int) := if 256 ≤ 281474976710656 then ((some (List.replicate 256 0 : List Int)).bind fun y105 => ((pyxref05_turned.f 0).bind fun t108 => (if 0 < (y105.length : Int) then (pyxref05_boxes.l0 k (y105.set (0 : Int).toNat t108) (([1] : List Int)) 1) else (none)))) else (none)
theorem pyxref05_boxes.mono_l : ∀ k, (∀ y0 y1 y2, LeO (pyxref05_boxes.l0 k y0 y1 y2) (pyxref05_boxes.l0 (k + 1) y0 y1 y2)) ∧ (∀ y0 y1 y2, LeO (pyxref05_boxes.l1 k y0 y1 y2) (pyxref05_boxes.l1 (k + 1) y0 y1 y2))
 | 0 => ⟨fun _ _ _ r h => by simp [pyxref05_boxes.l0] at h, fun _ _ _ r h => by simp [pyxref05_boxes.l1] at h⟩
 | k + 1 => by
  obtain ⟨ih0, ih1⟩ := pyxref05_boxes.mono_l k
  refine ⟨?_, ?_⟩
  ·intro y0 y1 y2
   unfold pyxref05_boxes.l0
   repeat' first
   | (with_reducible exact ih0 _ _ _)
   | (with_reducible exact ih1 _ _ _)
   | (with_reducible exact pyxref05_Mul.mono _ _ _)
   | (with_reducible exact LeO.refl _)
   | (with_reducible exact LeO.none _)
   | (with_reducible refine LeO.ite ?_ ?_)
   | (with_reducible refine LeO.bind ?_ (fun _ => ?_))
   | exact ih0 _ _ _
   | exact ih1 _ _ _
   | exact pyxref05_Mul.mono _ _ _
   | exact LeO.none _
   | refine LeO.ite ?_ ?_
   | refine LeO.bind ?_ (fun _ => ?_)
  ·intro y0 y1 y2
   unfold pyxref05_boxes.l1
   repeat' first
   | (with_reducible exact ih0 _ _ _)
   | (with_reducible exact ih1 _ _ _)
   | (with_reducible exact pyxref05_Mul.mono _ _ _)
   | (with_reducible exact LeO.refl _)
   | (with_reducible exact LeO.none _)
   | (with_reducible refine LeO.ite ?_ ?_)
   | (with_reducible refine LeO.bind ?_ (fun _ => ?_))
   | exact ih0 _ _ _
   | exact ih1 _ _ _
   | exact pyxref05_Mul.mono _ _ _
   | exact LeO.none _
   | refine LeO.ite ?_ ?_
   | refine LeO.bind ?_ (fun _ => ?_)
theorem pyxref05_boxes.mono : ∀ k, LeO (pyxref05_boxes.f k ) (pyxref05_boxes.f (k + 1) ) := by
 intro  k
 obtain ⟨ih0, ih1⟩ := pyxref05_boxes.mono_l k
 unfold pyxref05_boxes.f
 repeat' first
   | (with_reducible exact ih0 _ _ _)
   | (with_reducible exact ih1 _ _ _)
   | (with_reducible exact pyxref05_Mul.mono _ _ _)
   | (with_reducible exact LeO.refl _)
   | (with_reducible exact LeO.none _)
   | (with_reducible refine LeO.ite ?_ ?_)
   | (with_reducible refine LeO.bind ?_ (fun _ => ?_))
   | exact ih0 _ _ _
   | exact ih1 _ _ _
   | exact pyxref05_Mul.mono _ _ _
   | exact LeO.none _
   | refine LeO.ite ?_ ?_
   | refine LeO.bind ?_ (fun _ => ?_)
def pyxref05_boxes.T11 : Bool × List (List Nat × List Nat) := (true, [([], []), ([], []), ([], []), ([1, 2], [1, 2]), ([3], [3]), ([4], [4]), ([], []), ([], []), ([7], [7]), ([8], [8]), ([6, 9], [6, 9]), ([10], [10]), ([11], [11]), ([0, 5, 0, 1, 2, 3, 4, 5, 6, 7, 8, 9, 10, 11, 12], [0, 5]), ([13, 12, 12, 0, 1, 2, 3, 4, 5, 6, 7, 8, 9, 10, 11, 12], [12, 13])])
def pyxref05_boxes.B11 : List Nat := [0, 0, 0, 6, 14, 30, 0, 0, 128, 384, 960, 1984, 4032, 8191, 16383]
theorem pyxref05_boxes.tab11 : rtab .any (opsOf Try.f52 11) = pyxref05_boxes.T11 := by kernel_rfl
theorem pyxref05_boxes.bits11 : waitsOk pyxref05_boxes.T11.2 pyxref05_boxes.B11 = true := by kernel_rfl
set_option maxHeartbeats 8000000 in
set_option maxRecDepth 100000 in
theorem pyxref05_boxes.calls (k : Nat)  (r : List Int) (w : World) (h : pyxref05_boxes.f k  = some r) :
  Calls Try.prog 52 #[] w fun e w' => ∃ v0_ : Value, e = .returned (v0_) ∧ Kd.R (Kd.int .u8) 5 w' w.heap.size (fun _ => True) v0_ r ∧ Below w.heap.size w w' := by
 have HB := Aside0.mk (Below.refl w.heap.size w)
 have H : (if 256 ≤ 281474976710656 then ((some (List.replicate 256 0 : List Int)).bind fun y105 => ((pyxref05_turned.f 0).bind fun t108 => (if 0 < (y105.length : Int) then (pyxref05_boxes.l0 k (y105.set (0 : Int).toNat t108) (([1] : List Int)) 1) else (none)))) else (none)) = some r := h
 clear h
 by_cases c1 : 256 ≤ 281474976710656
 ·rw [if_pos c1] at H
  have c1b0 := eq_true c1
  have c1b1 : decide (256 ≤ 281474976710656) = true := decide_eq_true c1
  clear c1
  obtain ⟨y105, hy105⟩ : ∃ y_ : List Int, y_ = (List.replicate 256 0) := ⟨_, rfl⟩
  replace H : ((pyxref05_turned.f 0).bind fun t108 => (if 0 < (y105.length : Int) then (pyxref05_boxes.l0 k (y105.set (0 : Int).toNat t108) (([1] : List Int)) 1) else (none))) = some r := by first | (rw [hy105]; with_reducible exact H) | (have H2_ := (Option.bind_some _ _).symm.trans H; rw [hy105]; with_reducible exact H2_) | (have H2_ := (Option.bind_some _ _).symm.trans H; with_reducible exact H2_) | with_reducible exact H | (rw [hy105]; exact H) | exact H
  have Ny105 := Aside0.mk hy105
  clear hy105
  replace H := Option.bind_eq_some_iff.mp H
  obtain ⟨t108, A20, H⟩ := H
  replace H : (if 0 < (y105.length : Int) then (pyxref05_boxes.l0 k (y105.set (0 : Int).toNat t108) (([1] : List Int)) 1) else (none)) = some r := H
  have A2 := Aside0.mk A20
  clear A20
  by_cases c3 : 0 < (y105.length : Int)
  ·rw [if_pos c3] at H
   have c3b0 : decide (0 < (y105.length : Int)) = true := decide_eq_true c3
   have c3b1 : decide (0 < y105.length) = true := decide_eq_true (by omega)
   clear c3
   obtain ⟨y109, hy109⟩ : ∃ y_ : List Int, y_ = (y105.set (0 : Int).toNat t108) := ⟨_, rfl⟩
   replace H : (pyxref05_boxes.l0 k y109 (([1] : List Int)) 1) = some r := by first | (rw [hy109]; with_reducible exact H) | (have H2_ := (Option.bind_some _ _).symm.trans H; rw [hy109]; with_reducible exact H2_) | (have H2_ := (Option.bind_some _ _).symm.trans H; with_reducible exact H2_) | with_reducible exact H | (rw [hy109]; exact H) | exact H
   have Ny109 := Aside0.mk hy109
   clear hy109
   obtain ⟨y110, hy110⟩ : ∃ y_ : List Int, y_ = (([1] : List Int)) := ⟨_, rfl⟩
   replace H : (pyxref05_boxes.l0 k y109 y110 1) = some r := by first | (rw [hy110]; with_reducible exact H) | (have H2_ := (Option.bind_some _ _).symm.trans H; rw [hy110]; with_reducible exact H2_) | (have H2_ := (Option.bind_some _ _).symm.trans H; with_reducible exact H2_) | with_reducible exact H | (rw [hy110]; exact H) | exact H
   have Ny110 := Aside0.mk hy110
   clear hy110
   have H' := Aside0.mk H
   clear H
   go_enter Try.func52, Try.ntmps52
   go_wp2_with (first | ((with_reducible refine gate_dst (N := 5) rfl ?_); refine Kd.R_make (Kd.int .u8) _ 5 rfl (N := 5) rfl 22 _ _ rfl 256 rfl rfl Try.underlying22 (.int .u8 0) 1 info5 rfl (by decide) (by omega) 0 (ok := fun _ => True) (okp := fun _ => True) rfl (fun _ hk => hk) trivial (by omega) (by omega) (Below.refl _ _) (Nat.le_refl _) ?_; intro v106 w5 ho6 hb hg_ hnew_; clear hg_ hnew_; (first | rw [← Ny105.out] at ho6 | (simp only [Int.reduceToNat] at ho6; rw [← Ny105.out] at ho6)); have n0_ := Aside0.mk (Kd.R_lower ho6 (below_size (by repeat (first | (with_reducible first | exact HB.out | apply below_alloc | apply pw_below_drewN | apply below_drew1) | exact HB.out)))); have n1_ := Aside0.mk (below_step (by repeat (first | (with_reducible first | exact HB.out | apply below_alloc | apply pw_below_drewN | apply below_drew1) | exact HB.out)) hb); clear HB; have HO107 := n0_; have HB := n1_; clear n0_ n1_; clear hb ho6) | ((with_reducible refine gate_callee (f := 75) rfl ?_); refine goesL_ (some 7) rfl rfl Try.func75 (by kernel_rfl) rfl #[.int .u8 0] rfl (by (try simp only [List.map_toArray, List.map_cons, List.map_nil]); first | done | rfl | (simp only [List.length_drop, List.length_take]; rfl)) ?_; (with_reducible refine (pyxref05_turned.calls 0 t108 _ A2.out).mono ?_); rintro e w' ⟨rfl, ⟨nd, rfl⟩⟩; refine ⟨_, rfl, ?_⟩; (try (rw [drewN_self w5]; generalize hq_ : World.drewN w5 _ = w5; have n0_ : Aside0 (Kd.R (Kd.int .u8) 5 w5 w.heap.size (fun _ => True) v106 y105) := ⟨by rw [← hq_]; exact (by (with_reducible repeat (first | apply Kd.R_alloc | apply Kd.R_drewN | apply Kd.R_drew)); exact HO107.out)⟩; have n1_ : Aside0 (Below w.heap.size w w5) := ⟨by rw [← hq_]; exact (by repeat (first | (with_reducible first | exact HB.out | apply below_alloc | apply pw_below_drewN | apply below_drew1) | exact HB.out))⟩; clear HO107 HB hq_; have HO107 := n0_; have HB := n1_; clear n0_ n1_)); have p4 : 0 ≤ (0 : Int) := (by omega); have q4 : (0 : Int) < ((y105.length : Int) : Int) := of_decide_eq_true (by first | (with_reducible assumption) | assumption); have qi4 : (0 < y105.length) = True := eq_true (by omega); obtain ⟨go4, co4, eo4, gb4, gl4, cl4, HG4⟩ := Kd.R_form HO107.out (by omega); (first | cases eo4 | (injection eo4 with ea_ en_ ec_; (first | subst ea_ | (injection ea_ with ea_; subst ea_)); subst ec_; clear en_)); have GB4 := Aside0.mk gb4; have GG4 := Aside0.mk HG4; clear gb4 gl4 HG4; obtain ⟨hx4_0, hf4_0⟩ := Kd.R_celln 0 HO107.out (0 : Int) p4 q4; (try rw [show ((0 : Int)).toNat = 0 from rfl] at hx4_0); (try simp only [Nat.reduceMul, Nat.zero_mul, Nat.zero_add, Nat.reduceAdd] at hx4_0); (try rw [show ((0 : Int)).toNat = 0 from rfl] at hf4_0); (try simp only [Nat.reduceMul, Nat.zero_mul, Nat.zero_add, Nat.reduceAdd] at hf4_0); replace p4 := eq_true p4; replace q4 := eq_true q4; obtain ⟨hy7_, hz7_⟩ := Kd.R_celln 0 HO107.out (0 : Int) (by omega) (of_decide_eq_true (by first | (with_reducible assumption) | assumption)); (try simp only [Int.reduceToNat, Int.toNat_zero, Int.toNat_ofNat, Nat.reduceMul, Nat.zero_mul, Nat.zero_add] at hy7_ hz7_); (try rw [show ((0 : Int)).toNat = 0 from rfl] at hy7_); (try rw [show ((0 : Int)).toNat = 0 from rfl] at hz7_); have HP7 := Kd.R_putg HO107.out (0 : Int) t108) | ((with_reducible refine gate_store (t := 5) (p := 8) rfl ?_); refine store_event (t := 5) (p := 8) (v := ?vo_w8) (w1 := (w5.setCell ⟨go4, (0 : Int).toNat, none⟩ (.int .u8 t108))) ?hg ?ho ?hn ?hr ?_; (case ho => rfl); (case hg => rfl); (case hn => rfl); (case hr => first | (go_simp; done) | (go_simp; rfl)); intro w8 hw; have hg : w5.grownBy w8 (some go4) := (by rw [hw]; exact HP7.2); have hp_ : Kd.R (Kd.int .u8) 5 w8 w.heap.size (fun _ => True) (.slice (some ⟨go4, 0, none⟩) y105.length co4) y109 := (by rw [hw, Ny109.out]; exact HP7.1); clear HP7; have n0_ := Aside0.mk (hp_); have n1_ := Aside0.mk ((by rw [hw]; exact below_set (HB.out) GB4.out : Below w.heap.size w w8)); clear HO107; clear HB; have HO107 := n0_; have HB := n1_; clear n0_ n1_; clear hg hw hp_) | ((with_reducible refine gate_dst (N := 9) rfl ?_); refine Kd.R_lit (Kd.int .u8) _ 5 ?hg (N := 9) ?hd (xs := ([1] : List Int)) (inner := [.int .u8 1]) (ok := fun _ => True) (okp := fun _ => True) ?hr ?hp (fun _ hk => hk) trivial (Below.refl _ _) (Nat.le_refl _) (by simp) ?_; (case hd => rfl); (case hg => rfl); (case hr => first | (go_simp; done) | (go_simp; rfl)); (case hp => exact (Reps.one (show Kd.M (Kd.int .u8) _ _ _ 1 [.int .u8 1] from rfl) (Reps.none _ _))); intro v111 w9 ho10 hb hg_ hnew_; clear hg_ hnew_; (first | rw [← Ny110.out] at ho10 | (simp only [Int.reduceToNat] at ho10; rw [← Ny110.out] at ho10)); have n0_ := Aside0.mk (Kd.R_elder' (by (with_reducible repeat (first | apply Kd.R_alloc | apply Kd.R_drewN | apply Kd.R_drew)); exact HO107.out) (Kd.R_base ho10) hb); have n1_ := Aside0.mk (Kd.R_lower (Kd.R_new' ho10 (Kd.R_lt (by (with_reducible repeat (first | apply Kd.R_alloc | apply Kd.R_drewN | apply Kd.R_drew)); exact HO107.out))) (below_size (by repeat (first | (with_reducible first | exact HB.out | apply below_alloc | apply pw_below_drewN | apply below_drew1) | exact HB.out)))); have n2_ := Aside0.mk (below_step (by repeat (first | (with_reducible first | exact HB.out | apply below_alloc | apply pw_below_drewN | apply below_drew1) | exact HB.out)) hb); clear HO107; clear HB; have HO107 := n0_; have HO112 := n1_; have HB := n2_; clear n0_ n1_ n2_; clear hb ho10))
   go_loopg [2, 3] k (fun kq v2 v3 w' => ∃ (x2_1 : List Int) (x3_1 : Int), v3 = .int .i64 x3_1 ∧ Aside0 (pyxref05_boxes.l0 kq y109 x2_1 x3_1 = some r) ∧ Aside0 (kq ≤ k) ∧ Aside0 (Kd.R (Kd.int .u8) 5 w' w.heap.size (fun k_ => some k_ ≠ (v2 : Value).ownBlock) (.slice (some ⟨go4, 0, none⟩) y105.length co4) y109) ∧ Aside0 (Kd.R (Kd.int .u8) 5 w' w.heap.size (fun k_ => some k_ ≠ ((.slice (some ⟨go4, 0, none⟩) y105.length co4) : Value).ownBlock) v2 x2_1) ∧ Aside0 (Below w.heap.size w w'))
   case atStart => exact ⟨(y110), (1), (by first | rfl | (simp; done) | (simp [*]; done)), H', ⟨Nat.le_refl _⟩, ⟨by (with_reducible repeat (first | apply Kd.R_alloc | apply Kd.R_drewN | apply Kd.R_drew)); exact Kd.R_mono HO107.out (fun _ hk => hk.2)⟩, ⟨by (with_reducible repeat (first | apply Kd.R_alloc | apply Kd.R_drewN | apply Kd.R_drew)); exact Kd.R_mono HO112.out (fun _ hk => hk.2)⟩, ⟨by repeat (first | (with_reducible first | exact HB.out | apply below_alloc | apply pw_below_drewN | apply below_drew1) | exact HB.out)⟩⟩
   case round =>
    clear H'
    try clear c1
    try clear c1b0
    try clear c1b1
    try clear p2
    try clear c3
    try clear c3b0
    try clear c3b1
    try clear p4
    try clear q4
    try clear hx4
    try clear qi4
    try clear hf4
    try clear c5
    try clear c7
    try clear hx4_0
    try clear p4
    try clear q4
    obtain ⟨x2_1, x3_1, rfl, HA, HK1, HO_1, HO_2, HB⟩ := hrel
    have hl1_1 := (Kd.R_reads' HO_1.out).1
    rw [hl1_1] at HO_1
    (try simp only [hl1_1])
    (try simp only [hl1_1] at HO_2)
    cases gk with
    | zero => exact absurd HA.out (by simp [pyxref05_boxes.l0])
    | succ k1 =>
     have H := HA.out
     clear HA
     simp only [pyxref05_boxes.l0] at H
     by_cases c11 : x3_1 < 255
     ·rw [if_pos c11] at H
      have c11b0 : decide (x3_1 < 255) = true := decide_eq_true c11
      clear c11
      obtain ⟨ji12, hji12⟩ : ∃ j_ : Int, (wrap64 (x3_1 - 1)) = j_ := ⟨_, rfl⟩
      replace H : (if 0 ≤ (ji12) then (if (ji12) < (x2_1.length : Int) then ((pyxref05_Mul.f k1 (rd x2_1 (ji12)) 3).bind fun t114 => (if x2_1.length < 140737488355328 then (pyxref05_boxes.l0 k1 y109 (x2_1 ++ [t114]) (wrap64 (x3_1 + 1))) else (none))) else (none)) else (none)) = some r := by first | (rw [hji12] at H; exact H) | (simp only [hji12] at H ⊢; exact H)
      have hji12w : (IntKind.i64.wrap (x3_1 - 1)) = ji12 := (i64_w _).trans hji12
      by_cases c13 : 0 ≤ (ji12)
      ·rw [if_pos c13] at H
       have c13b0 : decide (0 ≤ (ji12)) = true := decide_eq_true c13
       clear c13
       by_cases c14 : (ji12) < (x2_1.length : Int)
       ·rw [if_pos c14] at H
        have c14b0 : decide ((ji12) < (x2_1.length : Int)) = true := decide_eq_true c14
        clear c14
        replace H := Option.bind_eq_some_iff.mp H
        obtain ⟨t114, A150, H⟩ := H
        replace H : (if x2_1.length < 140737488355328 then (pyxref05_boxes.l0 k1 y109 (x2_1 ++ [t114]) (wrap64 (x3_1 + 1))) else (none)) = some r := H
        have A15 := Aside0.mk A150
        clear A150
        by_cases c16 : x2_1.length < 140737488355328
        ·rw [if_pos c16] at H
         have LMc16 := Aside0.mk c16
         clear c16
         obtain ⟨y115, hy115⟩ : ∃ y_ : List Int, y_ = (x2_1 ++ [t114]) := ⟨_, rfl⟩
         replace H : (pyxref05_boxes.l0 k1 y109 y115 (wrap64 (x3_1 + 1))) = some r := by first | (rw [hy115]; with_reducible exact H) | (have H2_ := (Option.bind_some _ _).symm.trans H; rw [hy115]; with_reducible exact H2_) | (have H2_ := (Option.bind_some _ _).symm.trans H; with_reducible exact H2_) | with_reducible exact H | (rw [hy115]; exact H) | exact H
         have Ny115 := Aside0.mk hy115
         clear hy115
         have H' := Aside0.mk H
         clear H
         obtain ⟨Ao17, co17, eo17⟩ := Kd.R_slice HO_2.out
         subst eo17
         have p113 : 0 ≤ ((ji12) : Int) := of_decide_eq_true (by first | (with_reducible assumption) | assumption)
         have q113 : (ji12) < (x2_1.length : Int) := of_decide_eq_true (by first | (with_reducible assumption) | assumption)
         obtain ⟨ad113, e113, hx113_0⟩ := Kd.at_int (Kd.R_reads' HO_2.out).2.2 (ji12) p113 q113
         cases e113
         replace p113 := eq_true p113
         replace q113 := eq_true q113
         go_wp2_with (first | ((with_reducible refine gate_callee (f := 76) rfl ?_); refine goesL_ (some 20) rfl rfl Try.func76 (by kernel_rfl) rfl #[.int .u8 (rd x2_1 (ji12)), .int .u8 3] rfl (by (try simp only [List.map_toArray, List.map_cons, List.map_nil]); first | done | (simp only [hji12]; rfl) | rfl | (simp only [List.length_drop, List.length_take]; rfl)) ?_; (with_reducible refine (pyxref05_Mul.calls k1 (rd x2_1 (ji12)) 3 t114 _ A15.out).mono ?_); rintro e w' ⟨rfl, ⟨nd, rfl⟩⟩; refine ⟨_, rfl, ?_⟩) | ((with_reducible refine gate_builtin (b := .append) (xs := #[.tmp 14, .tmp 21]) rfl ?_); at_builtin; refine Kd.R_append (Kd.int .u8) (w0 := w) w.heap.size rfl (.tmp 14) (.tmp 21) 22 5 (.int .u8 0) 1 rfl Try.underlying22 info5 rfl (by decide) (by omega) (.slice (some ad113) x2_1.length co17) x2_1 t114 [.int .u8 t114] (fun k_ => some k_ ≠ (.slice (some ⟨go4, 0, none⟩) y109.length co4 : Value).ownBlock) (fun _ => False) rfl rfl ?aP (fun _ hk => hk.elim) ?aF ?aO ?aB ?aS ?aL ?_; (case aP => exact rfl); (case aB => exact (by repeat (first | (with_reducible first | exact HB.out | apply below_alloc | apply pw_below_drewN | apply below_drew1) | exact HB.out))); (case aF => exact (fun k_ hk => Kd.fresh' (Kd.R_lt (by (with_reducible repeat (first | apply Kd.R_alloc | apply Kd.R_drewN | apply Kd.R_drew)); exact HO_1.out)) k_ hk)); (case aO => exact (by (with_reducible repeat (first | apply Kd.R_alloc | apply Kd.R_drewN | apply Kd.R_drew)); exact HO_2.out)); (case aS => exact (below_size (by repeat (first | (with_reducible first | exact HB.out | apply below_alloc | apply pw_below_drewN | apply below_drew1) | exact HB.out)))); (case aL => have := LMc16.out; omega); intro v116 w18 ho hb hg hat; rw [← Ny115.out] at ho; have n0_ := Aside0.mk (Kd.R_after (ok := (fun _ => True)) (by (with_reducible repeat (first | apply Kd.R_alloc | apply Kd.R_drewN | apply Kd.R_drew)); exact Kd.R_mono HO_1.out (fun _ hk => ⟨trivial, hk⟩)) hg hat); have n1_ := Aside0.mk (hb); have n2_ := Aside0.mk (ho); clear HO_1; clear HB; clear HO_2; have HO_1 := n0_; have HB := n1_; have HO117 := n2_; clear n0_ n1_ n2_; clear ho hb hg hat))
         (try simp only [← hl1_1])
         go_roundg k1
         case measure => have := HK1.out; omega
         case rel => exact ⟨(y115), (wrap64 (x3_1 + 1)), (by first | rfl | (simp; done) | (simp [*]; done)), H', ⟨by have := HK1.out; omega⟩, ⟨by (try simp only [hl1_1]); (with_reducible repeat (first | apply Kd.R_alloc | apply Kd.R_drewN | apply Kd.R_drew)); exact Kd.R_mono HO_1.out (fun _ hk => hk.2)⟩, ⟨by (try simp only [hl1_1]); (with_reducible repeat (first | apply Kd.R_alloc | apply Kd.R_drewN | apply Kd.R_drew)); exact HO117.out⟩, ⟨by repeat (first | (with_reducible first | exact HB.out | apply below_alloc | apply pw_below_drewN | apply below_drew1) | exact HB.out)⟩⟩
        ·rw [if_neg c16] at H
         exact absurd H (by simp)
       ·rw [if_neg c14] at H
        exact absurd H (by simp)
      ·rw [if_neg c13] at H
       exact absurd H (by simp)
     ·rw [if_neg c11] at H
      have c11b0 : decide (x3_1 < 255) = false := decide_eq_false c11
      clear c11
      have H' := Aside0.mk H
      clear H
      go_wp2
      go_loopg [4] k1 (fun kq v4 w' => ∃ (x1_2 : List Int) (x4_2 : Int), v4 = .int .i64 x4_2 ∧ Aside0 (pyxref05_boxes.l1 kq x1_2 x2_1 x4_2 = some r) ∧ Aside0 (kq ≤ k1) ∧ Aside0 (Kd.R (Kd.int .u8) 5 w' w.heap.size (fun k_ => some k_ ≠ (u2 : Value).ownBlock) (.slice (some ⟨go4, 0, none⟩) y109.length co4) x1_2) ∧ Aside0 (Kd.R (Kd.int .u8) 5 w' w.heap.size (fun k_ => some k_ ≠ ((.slice (some ⟨go4, 0, none⟩) y109.length co4) : Value).ownBlock) u2 x2_1) ∧ Aside0 (Below w.heap.size w w'))
      case atStart => exact ⟨(y109), (0), (by first | rfl | (simp; done) | (simp [*]; done)), H', ⟨Nat.le_refl _⟩, ⟨by (try simp only [hl1_1]); (with_reducible repeat (first | apply Kd.R_alloc | apply Kd.R_drewN | apply Kd.R_drew)); exact HO_1.out⟩, ⟨by (try simp only [hl1_1]); (with_reducible repeat (first | apply Kd.R_alloc | apply Kd.R_drewN | apply Kd.R_drew)); exact HO_2.out⟩, ⟨by repeat (first | (with_reducible first | exact HB.out | apply below_alloc | apply pw_below_drewN | apply below_drew1) | exact HB.out)⟩⟩
      case round =>
       clear H'
       try clear c1
       try clear c1b0
       try clear c1b1
       try clear p1
       try clear q1
       try clear hx1
       try clear p2
       try clear c3
       try clear c3b0
       try clear c3b1
       try clear p4
       try clear q4
       try clear hx4
       try clear qi4
       try clear hf4
       try clear c5
       try clear p6
       try clear c7
       try clear c11
       try clear c11b0
       try clear p11
       try clear q11
       try clear hx11
       try clear c13
       try clear c13b0
       try clear c14
       try clear c14b0
       try clear c16
       try clear hx113_0
       try clear hx4_0
       try clear p113
       try clear p2
       try clear p4
       try clear q113
       try clear q4
       obtain ⟨x1_2, x4_2, rfl, HA, HK2, HO_1, HO_2, HB⟩ := hrel
       have hl1_2 := (Kd.R_reads' HO_1.out).1
       rw [hl1_2] at HO_1
       (try simp only [hl1_2])
       (try simp only [hl1_2] at HO_2)
       cases gk with
       | zero => exact absurd HA.out (by simp [pyxref05_boxes.l1])
       | succ k2 =>
        have H := HA.out
        clear HA
        simp only [pyxref05_boxes.l1] at H
        by_cases c19 : x4_2 < 255
        ·rw [if_pos c19] at H
         have c19b0 : decide (x4_2 < 255) = true := decide_eq_true c19
         clear c19
         by_cases c20 : 0 ≤ x4_2
         ·rw [if_pos c20] at H
          have c20b0 : decide (0 ≤ x4_2) = true := decide_eq_true c20
          clear c20
          by_cases c21 : x4_2 < (x2_1.length : Int)
          ·rw [if_pos c21] at H
           have c21b0 : decide (x4_2 < (x2_1.length : Int)) = true := decide_eq_true c21
           clear c21
           obtain ⟨ji22, hji22⟩ : ∃ j_ : Int, (Int.tmod (wrap64 (255 - x4_2)) 255) = j_ := ⟨_, rfl⟩
           replace H : (if 0 ≤ (ji22) then (if (ji22) < (x2_1.length : Int) then ((pyxref05_turned.f (rd x2_1 (ji22))).bind fun t120 => (if 0 ≤ (wrap64 (rd x2_1 x4_2)) then (if (wrap64 (rd x2_1 x4_2)) < (x1_2.length : Int) then (pyxref05_boxes.l1 k2 (x1_2.set ((wrap64 (rd x2_1 x4_2)) : Int).toNat t120) x2_1 (wrap64 (x4_2 + 1))) else (none)) else (none))) else (none)) else (none)) = some r := by first | (rw [hji22] at H; exact H) | (simp only [hji22] at H ⊢; exact H)
           by_cases c23 : 0 ≤ (ji22)
           ·rw [if_pos c23] at H
            have c23b0 : decide (0 ≤ (ji22)) = true := decide_eq_true c23
            clear c23
            by_cases c24 : (ji22) < (x2_1.length : Int)
            ·rw [if_pos c24] at H
             have c24b0 : decide ((ji22) < (x2_1.length : Int)) = true := decide_eq_true c24
             clear c24
             replace H := Option.bind_eq_some_iff.mp H
             obtain ⟨t120, A250, H⟩ := H
             replace H : (if 0 ≤ (wrap64 (rd x2_1 x4_2)) then (if (wrap64 (rd x2_1 x4_2)) < (x1_2.length : Int) then (pyxref05_boxes.l1 k2 (x1_2.set ((wrap64 (rd x2_1 x4_2)) : Int).toNat t120) x2_1 (wrap64 (x4_2 + 1))) else (none)) else (none)) = some r := H
             have A25 := Aside0.mk A250
             clear A250
             obtain ⟨ji26, hji26⟩ : ∃ j_ : Int, (wrap64 (rd x2_1 x4_2)) = j_ := ⟨_, rfl⟩
             replace H : (if 0 ≤ (ji26) then (if (ji26) < (x1_2.length : Int) then (pyxref05_boxes.l1 k2 (x1_2.set ((ji26) : Int).toNat t120) x2_1 (wrap64 (x4_2 + 1))) else (none)) else (none)) = some r := by first | (rw [hji26] at H; exact H) | (simp only [hji26] at H ⊢; exact H)
             (try rw [hji26] at A25)
             have hji26w : (IntKind.i64.wrap (rd x2_1 x4_2)) = ji26 := (i64_w _).trans hji26
             by_cases c27 : 0 ≤ (ji26)
             ·rw [if_pos c27] at H
              have c27b0 : decide (0 ≤ (ji26)) = true := decide_eq_true c27
              clear c27
              by_cases c28 : (ji26) < (x1_2.length : Int)
              ·rw [if_pos c28] at H
               have c28b0 : decide ((ji26) < (x1_2.length : Int)) = true := decide_eq_true c28
               clear c28
               obtain ⟨y121, hy121⟩ : ∃ y_ : List Int, y_ = (x1_2.set ((ji26) : Int).toNat t120) := ⟨_, rfl⟩
               replace H : (pyxref05_boxes.l1 k2 y121 x2_1 (wrap64 (x4_2 + 1))) = some r := by first | (rw [hy121]; with_reducible exact H) | (have H2_ := (Option.bind_some _ _).symm.trans H; rw [hy121]; with_reducible exact H2_) | (have H2_ := (Option.bind_some _ _).symm.trans H; with_reducible exact H2_) | with_reducible exact H | (rw [hy121]; exact H) | exact H
               have Ny121 := Aside0.mk hy121
               clear hy121
               have H' := Aside0.mk H
               clear H
               try go_wp2
               have n0_ := Aside0.mk (Kd.R_drew HO_1.out)
               have n1_ := Aside0.mk (Kd.R_drew HO_2.out)
               have n2_ := Aside0.mk (below_drew1 HB.out)
               clear HO_1
               clear HO_2
               clear HB
               have HO_1 := n0_
               have HO_2 := n1_
               have HB := n2_
               clear n0_ n1_ n2_
               obtain ⟨Ao31, co31, eo31⟩ := Kd.R_slice HO_2.out
               (first | subst eo31 | (injection eo31 with f1_ f2_ f3_; have f4_ := f1_.symm; have f5_ := f3_.symm; clear f1_ f2_ f3_; subst f4_; subst f5_))
               have p118 : 0 ≤ (x4_2 : Int) := of_decide_eq_true (by first | (with_reducible assumption) | assumption)
               have q118 : x4_2 < (x2_1.length : Int) := of_decide_eq_true (by first | (with_reducible assumption) | assumption)
               obtain ⟨ad118, e118, hx118_0⟩ := Kd.at_int (Kd.R_reads' HO_2.out).2.2 x4_2 p118 q118
               cases e118
               replace p118 := eq_true p118
               replace q118 := eq_true q118
               have p119 : 0 ≤ ((ji22) : Int) := of_decide_eq_true (by first | (with_reducible assumption) | assumption)
               have q119 : (ji22) < (x2_1.length : Int) := of_decide_eq_true (by first | (with_reducible assumption) | assumption)
               obtain ⟨ad119, e119, hx119_0⟩ := Kd.at_int (Kd.R_reads' HO_2.out).2.2 (ji22) p119 q119
               obtain rfl : ad118 = ad119 := (by injection e119)
               replace p119 := eq_true p119
               replace q119 := eq_true q119
               refine start_ (n := 15) (S := fun w' => w'.cell? (ad118.add (x4_2).toNat) = some (.int .u8 (rd x2_1 x4_2)) ∧ w'.cell? (ad118.add ((ji22)).toNat) = some (.int .u8 (rd x2_1 (ji22)))) (ds := [14]) #[false, false, false, false, false, false, false, false, false, false, false, false, false, false, false] (by kernel_rfl) rfl rfl ⟨hx118_0, hx119_0⟩ (fun hHeld => ?_); refine with_tabW pyxref05_boxes.tab11 pyxref05_boxes.bits11 (fun HT_ HW_ => ?_)
               generalize wr.drew = w30 at HO_1 HO_2 HB hx118_0 hx119_0 hHeld ⊢
               refine pure_ (i := 0) (N := some 27) (v := ?_) (a' := ?_) #[true, false, false, false, false, false, false, false, false, false, false, false, false, false, false] rfl rfl (any_of HT_.out (by kernel_rfl)) (fun _ _ _ h => h) (Or.inl ⟨by rfl, ?_⟩) ?_ ?_
               rotate_left
               ·intro w'
                go_simp
                with_reducible rfl
               rotate_left
               ·simp only [Act.put, List.setIfInBounds_toArray, List.set_cons_zero, List.set_cons_succ, i64_w, i32_w]
                rfl
               refine pure_ (i := 1) (N := some 28) (v := ?_) (a' := ?_) #[true, true, false, false, false, false, false, false, false, false, false, false, false, false, false] rfl rfl (any_of HT_.out (by kernel_rfl)) (fun _ _ _ h => h) (Or.inl ⟨by rfl, ?_⟩) ?_ ?_
               rotate_left
               ·intro w'
                go_simp
                with_reducible rfl
               rotate_left
               ·simp only [Act.put, List.setIfInBounds_toArray, List.set_cons_zero, List.set_cons_succ, i64_w, i32_w]
                rfl
               refine pure_ (i := 2) (N := some 29) (v := ?_) (a' := ?_) #[true, true, true, false, false, false, false, false, false, false, false, false, false, false, false] rfl rfl (any_of HT_.out (by kernel_rfl)) (fun _ _ _ h => h) (Or.inl ⟨by rfl, ?_⟩) ?_ ?_
               rotate_left
               ·intro w'
                go_simp
                with_reducible rfl
               rotate_left
               ·simp only [Act.put, List.setIfInBounds_toArray, List.set_cons_zero, List.set_cons_succ, i64_w, i32_w]
                rfl
               refine pure_ (i := 3) (N := some 30) (v := ?_) (a' := ?_) #[true, true, true, true, false, false, false, false, false, false, false, false, false, false, false] rfl rfl (any_of HT_.out (by kernel_rfl)) (fun _ _ _ h => h) (Or.inl ⟨by rfl, ?_⟩) ?_ ?_
               rotate_left
               ·intro w'
                go_simp
                with_reducible rfl
               rotate_left
               ·simp only [Act.put, List.setIfInBounds_toArray, List.set_cons_zero, List.set_cons_succ, i64_w, i32_w]
                rfl
               refine pure_ (i := 6) (N := some 33) (v := ?_) (a' := ?_) #[true, true, true, true, false, false, true, false, false, false, false, false, false, false, false] rfl rfl (any_of HT_.out (by kernel_rfl)) (fun _ _ _ h => h) (Or.inl ⟨by rfl, ?_⟩) ?_ ?_
               rotate_left
               ·intro w'
                go_simp
                with_reducible rfl
               rotate_left
               ·simp only [Act.put, List.setIfInBounds_toArray, List.set_cons_zero, List.set_cons_succ, i64_w, i32_w]
                rfl
               refine pure_ (i := 7) (N := some 34) (v := ?_) (a' := ?_) #[true, true, true, true, false, false, true, true, false, false, false, false, false, false, false] rfl rfl (any_of HT_.out (by kernel_rfl)) (fun _ _ _ h => h) (Or.inl ⟨by rfl, ?_⟩) ?_ ?_
               rotate_left
               ·intro w'
                go_simp
                with_reducible rfl
               rotate_left
               ·simp only [Act.put, List.setIfInBounds_toArray, List.set_cons_zero, List.set_cons_succ, i64_w, i32_w]
                rfl
               refine pure_ (i := 8) (N := some 35) (v := ?_) (a' := ?_) #[true, true, true, true, false, false, true, true, true, false, false, false, false, false, false] rfl rfl (any_of HT_.out (by kernel_rfl)) (fun _ _ _ h => h) (Or.inl ⟨by rfl, ?_⟩) ?_ ?_
               rotate_left
               ·intro w'
                go_simp
                with_reducible rfl
               rotate_left
               ·simp only [Act.put, List.setIfInBounds_toArray, List.set_cons_zero, List.set_cons_succ, i64_w, i32_w]
                rfl
               refine pure_ (i := 9) (N := some 36) (v := ?_) (a' := ?_) #[true, true, true, true, false, false, true, true, true, true, false, false, false, false, false] rfl rfl (any_of HT_.out (by kernel_rfl)) (fun _ _ _ h => h) (Or.inl ⟨by rfl, ?_⟩) ?_ ?_
               rotate_left
               ·intro w'
                go_simp
                with_reducible rfl
               rotate_left
               ·simp only [Act.put, List.setIfInBounds_toArray, List.set_cons_zero, List.set_cons_succ, i64_w, i32_w]
                rfl
               refine pure_ (i := 10) (N := some 37) (v := ?_) (a' := ?_) #[true, true, true, true, false, false, true, true, true, true, true, false, false, false, false] rfl rfl (any_of HT_.out (by kernel_rfl)) (fun _ _ _ h => h) (Or.inl ⟨by rfl, ?_⟩) ?_ ?_
               rotate_left
               ·intro w'
                go_simp
                with_reducible rfl
               rotate_left
               ·simp only [Act.put, List.setIfInBounds_toArray, List.set_cons_zero, List.set_cons_succ, i64_w, i32_w]
                rfl
               refine take_ (i := 4) (N := some 31) (v := ?_) (a' := ?_) #[true, true, true, true, true, false, true, true, true, true, true, false, false, false, false] rfl rfl (take_ofW HT_.out HW_.out (by kernel_rfl)) (fun _ _ _ h => h) (Or.inl ⟨by rfl, ?_⟩) hHeld ?_ ?_
               rotate_left
               ·rintro w' ⟨s0, s1⟩
                go_simp
                with_reducible rfl
               rotate_left
               ·simp only [Act.put, List.setIfInBounds_toArray, List.set_cons_zero, List.set_cons_succ, i64_w, i32_w]
                rfl
               refine pure_ (i := 5) (N := some 32) (v := ?_) (a' := ?_) #[true, true, true, true, true, true, true, true, true, true, true, false, false, false, false] rfl rfl (any_of HT_.out (by kernel_rfl)) (fun _ _ _ h => h) (Or.inl ⟨by rfl, ?_⟩) ?_ ?_
               rotate_left
               ·intro w'
                go_simp
                with_reducible rfl
               rotate_left
               ·simp only [Act.put, List.setIfInBounds_toArray, List.set_cons_zero, List.set_cons_succ, i64_w, i32_w]
                rfl
               refine take_ (i := 11) (N := some 38) (v := ?_) (a' := ?_) #[true, true, true, true, true, true, true, true, true, true, true, true, false, false, false] rfl rfl (take_ofW HT_.out HW_.out (by kernel_rfl)) (fun _ _ _ h => h) (Or.inl ⟨by rfl, ?_⟩) hHeld ?_ ?_
               rotate_left
               ·rintro w' ⟨s0, s1⟩
                go_simp
                with_reducible rfl
               rotate_left
               ·simp only [Act.put, List.setIfInBounds_toArray, List.set_cons_zero, List.set_cons_succ, i64_w, i32_w]
                rfl
               refine one_ (i := 12) (N := some 39) #[true, true, true, true, true, true, true, true, true, true, true, true, true, false, false] rfl rfl (one_of HT_.out (by kernel_rfl)) (by decide) (fun K hK => ?_)
               refine goes_ Try.func75 (by kernel_rfl) rfl #[.int .u8 (rd x2_1 (ji22))] (by rfl) rfl rfl (by (try simp only [List.map_toArray, List.map_cons, List.map_nil]); first | done | (simp only [hji22]; rfl) | rfl | (simp only [List.length_drop, List.length_take]; rfl)) ?_
               with_reducible refine (pyxref05_turned.calls (rd x2_1 (ji22)) t120 _ A25.out).mono ?_
               rintro e w' ⟨rfl, ⟨nd, rfl⟩⟩
               refine ⟨_, rfl, ?_⟩
               have p29 : 0 ≤ ((ji26) : Int) := of_decide_eq_true (by first | (with_reducible assumption) | assumption)
               have q29 : ((ji26) : Int) < ((x1_2.length : Int) : Int) := of_decide_eq_true (by first | (with_reducible assumption) | assumption)
               obtain ⟨hx29_0, hf29_0⟩ := Kd.R_celln 0 HO_1.out ((ji26) : Int) p29 q29
               replace p29 := eq_true p29
               replace q29 := eq_true q29
               have HP32 := Kd.R_putn HO_1.out ((ji26) : Int) t120
               rw [← Ny121.out] at HP32
               have HQ32 := Aside0.mk HP32
               clear HP32
               refine hK.out _ _ ⟨hHeld.1, hHeld.2⟩ (fun hHeld => ?_)
               clear hK K
               refine norm_ (a' := ?_) ?_ ?_
               rotate_left
               ·show Act.put _ (some 39) _ = _
                simp only [Act.put, List.setIfInBounds_toArray, List.set_cons_zero, List.set_cons_succ, i64_w, i32_w]
                rfl
               refine pure_ (i := 13) (N := some 40) (v := ?_) (a' := ?_) #[true, true, true, true, true, true, true, true, true, true, true, true, true, true, false] rfl rfl (any_of HT_.out (by kernel_rfl)) (fun _ _ _ h => h) (Or.inl ⟨by rfl, ?_⟩) ?_ ?_
               rotate_left
               ·intro w'
                go_simp
                with_reducible rfl
               rotate_left
               ·simp only [Act.put, List.setIfInBounds_toArray, List.set_cons_zero, List.set_cons_succ, i64_w, i32_w]
                rfl
               refine last_ (i := 14) (N := none) #[true, true, true, true, true, true, true, true, true, true, true, true, true, true, true] rfl rfl (one_of HT_.out (by kernel_rfl)) (by decide) (fun K hK => ?_)
               refine skip_ (w1 := ?_) (by rfl) rfl ?_ ?_
               rotate_left
               ·go_simp
                rfl
               refine hK.out _ _ ?_
               clear hK K
               refine done_ (done_of HT_.out (by kernel_rfl)) ?_
               try go_wp2
               (try simp only [← hl1_2])
               go_roundg k2
               case measure => have := HK1.out; have := HK2.out; omega
               case rel => exact ⟨(y121), (wrap64 (x4_2 + 1)), (by first | rfl | (simp; done) | (simp [*]; done)), H', ⟨by have := HK1.out; have := HK2.out; omega⟩, ⟨by (try simp only [hl1_1]); (try simp only [hl1_2]); (with_reducible repeat (first | apply Kd.R_alloc | apply Kd.R_drewN | apply Kd.R_drew)); exact HQ32.out⟩, ⟨by (try simp only [hl1_1]); (try simp only [hl1_2]); (with_reducible repeat (first | apply Kd.R_alloc | apply Kd.R_drewN | apply Kd.R_drew)); exact Kd.R_mono (Kd.R_far (p := ⟨go4, ((ji26) : Int).toNat, none⟩) (Kd.R_mono HO_2.out (fun k_ hk => (⟨hk, fun e_ => hk (by rw [e_]; rfl)⟩ : _ ∧ k_ ≠ go4))) (fun _ hk => hk.2) (.int .u8 t120)) (fun _ hk => hk.1)⟩, ⟨by repeat (first | (with_reducible first | exact HB.out | apply below_alloc | apply pw_below_drewN | apply below_drew1 | refine below_set ?_ GB4.out) | exact HB.out)⟩⟩
              ·rw [if_neg c28] at H
               exact absurd H (by simp)
             ·rw [if_neg c27] at H
              exact absurd H (by simp)
            ·rw [if_neg c24] at H
             exact absurd H (by simp)
           ·rw [if_neg c23] at H
            exact absurd H (by simp)
          ·rw [if_neg c21] at H
           exact absurd H (by simp)
         ·rw [if_neg c20] at H
          exact absurd H (by simp)
        ·rw [if_neg c19] at H
         have c19b0 : decide (x4_2 < 255) = false := decide_eq_false c19
         clear c19
         obtain rfl := Option.some.inj H
         go_wp2
         go_ret
         exact ⟨_, by first | rfl | (simp [errW_none, errW_some] <;> rfl) | (simp [*, errW_none, errW_some] <;> rfl), by (with_reducible repeat (first | apply Kd.R_alloc | apply Kd.R_drewN | apply Kd.R_drew)); exact Kd.R_mono HO_1.out (fun _ hk => trivial), by repeat (first | (with_reducible first | exact HB.out | apply below_alloc | apply pw_below_drewN | apply below_drew1) | exact HB.out)⟩
  ·rw [if_neg c3] at H
   exact absurd H (by simp)
 ·rw [if_neg c1] at H
  exact absurd H (by simp)
end Go.Proofs.Ytifpdpfjhjoieaa.C

/-! C2 -/
namespace Go.Proofs.Ytifpdpfjhjoieaa.C
open Go.Proofs.Ytifpdpfjhjoieaa.P
open Go.RowKit Go.Proofs.YtifpdpfjhjoieaaW.PrintWords Go.Proofs.YtifpdpfjhjoieaaW.PrintLast Go.Proofs.YtifpdpfjhjoieaaW.PrintMore
attribute [local go_sem] max2_int min2_int max_two min_two max_three min_three max_four min_four   -- for this text's walks alone
set_option linter.unusedVariables false
set_option linter.unusedSimpArgs false
/-! ### pyxref05_keys: function 53 -/
mutual
def pyxref05_keys.l0 : Nat → List Int → List Int → Int → Int → Option (List Int)
 | 0, _, _, _, _ => none
 | k + 1, x1, x5, x6, x7 => if x7 < 44 then (pyxref05_keys.l1 k x1 x5 x6 x7 0) else (some x5)
def pyxref05_keys.l1 : Nat → List Int → List Int → Int → Int → Int → Option (List Int)
 | 0, _, _, _, _, _ => none
 | k + 1, x1, x5, x6, x7, x8 => if x8 < 4 then (if 0 ≤ (wrap64 ((wrap64 ((wrap64 (4 * x7)) - 4)) + x8)) then (if (wrap64 ((wrap64 ((wrap64 (4 * x7)) - 4)) + x8)) < (x5.length : Int) then (if (Int.tmod x7 4) = 0 then (if 0 ≤ (wrap64 ((wrap64 ((wrap64 (4 * x7)) - 4)) + (Int.tmod (wrap64 (x8 + 1)) 4))) then (if (wrap64 ((wrap64 ((wrap64 (4 * x7)) - 4)) + (Int.tmod (wrap64 (x8 + 1)) 4))) < (x5.length : Int) then (if 0 ≤ (wrap64 (rd x5 (wrap64 ((wrap64 ((wrap64 (4 * x7)) - 4)) + (Int.tmod (wrap64 (x8 + 1)) 4))))) then (if (wrap64 (rd x5 (wrap64 ((wrap64 ((wrap64 (4 * x7)) - 4)) + (Int.tmod (wrap64 (x8 + 1)) 4))))) < (x1.length : Int) then (if x8 = 0 then (if 0 ≤ (wrap64 ((wrap64 ((wrap64 (4 * x7)) - 16)) + x8)) then (if (wrap64 ((wrap64 ((wrap64 (4 * x7)) - 16)) + x8)) < (x5.length : Int) then (if x5.length < 140737488355328 then (pyxref05_keys.l1 k x1 (x5 ++ [Go.bits .xor .u8 (rd x5 (wrap64 ((wrap64 ((wrap64 (4 * x7)) - 16)) + x8))) (Go.bits .xor .u8 (rd x1 (wrap64 (rd x5 (wrap64 ((wrap64 ((wrap64 (4 * x7)) - 4)) + (Int.tmod (wrap64 (x8 + 1)) 4)))))) x6)]) x6 x7 (wrap64 (x8 + 1))) else (none)) else (none)) else (none)) else (if 0 ≤ (wrap64 ((wrap64 ((wrap64 (4 * x7)) - 16)) + x8)) then (if (wrap64 ((wrap64 ((wrap64 (4 * x7)) - 16)) + x8)) < (x5.length : Int) then (if x5.length < 140737488355328 then (pyxref05_keys.l1 k x1 (x5 ++ [Go.bits .xor .u8 (rd x5 (wrap64 ((wrap64 ((wrap64 (4 * x7)) - 16)) + x8))) (rd x1 (wrap64 (rd x5 (wrap64 ((wrap64 ((wrap64 (4 * x7)) - 4)) + (Int.tmod (wrap64 (x8 + 1)) 4))))))]) x6 x7 (wrap64 (x8 + 1))) else (none)) else (none)) else (none))) else (none)) else (none)) else (none)) else (none)) else (if 0 ≤ (wrap64 ((wrap64 ((wrap64 (4 * x7)) - 16)) + x8)) then (if (wrap64 ((wrap64 ((wrap64 (4 * x7)) - 16)) + x8)) < (x5.length : Int) then (if x5.length < 140737488355328 then (pyxref05_keys.l1 k x1 (x5 ++ [Go.bits .xor .u8 (rd x5 (wrap64 ((wrap64 ((wrap64 (4 * x7)) - 16)) + x8))) (rd x5 (wrap64 ((wrap64 ((wrap64 (4 * x7)) - 4)) + x8)))]) x6 x7 (wrap64 (x8 + 1))) else (none)) else (none)) else (none))) else (none)) else (none)) else (if (Int.tmod x7 4) = 0 then ((pyxref05_Mul.f k x6 2).bind fun t128 => (pyxref05_keys.l0 k x1 x5 t128 (wrap64 (x7 + 1)))) else (pyxref05_keys.l0 k x1 x5 x6 (wrap64 (x7 + 1))))
end
def pyxref05_keys.f (k : Nat) (l0 : List Int) (l1 : List Int) : Option (List Int) := (some (([] : List Int) : List Int)).bind fun y122 => (if y122.length + l0.length < 140737488355328 then (pyxref05_keys.l0 k l1 (y122 ++ l0) 1 4) else (none))
set_option maxHeartbeats 8000000 in
set_option maxRecDepth 100000 in
theorem pyxref05_keys.calls (k : Nat) (A0 : Option Addr) (c0 : Nat) (l0 : List Int) (A1 : Option Addr) (c1 : Nat) (l1 : List Int) (r : List Int) (w : World) (hr0 : Kd.C (Kd.int .u8) w A0 l0.length l0) (hc0 : l0.length ≤ c0) (hr1 : Kd.C (Kd.int .u8) w A1 l1.length l1) (hc1 : l1.length ≤ c1) (h : pyxref05_keys.f k l0 l1 = some r) :
  Calls Try.prog 53 #[.slice A0 l0.length c0, .slice A1 l1.length c1] w fun e w' => ∃ v0_ : Value, e = .returned (v0_) ∧ Kd.R (Kd.int .u8) 5 w' w.heap.size (fun _ => True) v0_ r ∧ Below w.heap.size w w' := by
 have HR0 := Aside0.mk hr0
 have HC0 := Aside0.mk hc0
 clear hr0 hc0
 have HR1 := Aside0.mk hr1
 have HC1 := Aside0.mk hc1
 clear hr1 hc1
 have HB := Aside0.mk (Below.refl w.heap.size w)
 have H : ((some (([] : List Int) : List Int)).bind fun y122 => (if y122.length + l0.length < 140737488355328 then (pyxref05_keys.l0 k l1 (y122 ++ l0) 1 4) else (none))) = some r := h
 clear h
 obtain ⟨y122, hy122⟩ : ∃ y_ : List Int, y_ = (([] : List Int)) := ⟨_, rfl⟩
 replace H : (if y122.length + l0.length < 140737488355328 then (pyxref05_keys.l0 k l1 (y122 ++ l0) 1 4) else (none)) = some r := by first | (rw [hy122]; with_reducible exact H) | (have H2_ := (Option.bind_some _ _).symm.trans H; rw [hy122]; with_reducible exact H2_) | (have H2_ := (Option.bind_some _ _).symm.trans H; with_reducible exact H2_) | with_reducible exact H | (rw [hy122]; exact H) | exact H
 have Ny122 := Aside0.mk hy122
 clear hy122
 by_cases c3 : y122.length + l0.length < 140737488355328
 ·rw [if_pos c3] at H
  have LMc3 := Aside0.mk c3
  clear c3
  obtain ⟨y125, hy125⟩ : ∃ y_ : List Int, y_ = (y122 ++ l0) := ⟨_, rfl⟩
  replace H : (pyxref05_keys.l0 k l1 y125 1 4) = some r := by first | (rw [hy125]; with_reducible exact H) | (have H2_ := (Option.bind_some _ _).symm.trans H; rw [hy125]; with_reducible exact H2_) | (have H2_ := (Option.bind_some _ _).symm.trans H; with_reducible exact H2_) | with_reducible exact H | (rw [hy125]; exact H) | exact H
  have Ny125 := Aside0.mk hy125
  clear hy125
  have H' := Aside0.mk H
  clear H
  go_enter Try.func53, Try.ntmps53
  go_wp2_with (first | ((with_reducible refine gate_dst (N := 10) rfl ?_); refine Kd.R_lit (Kd.int .u8) _ 5 ?hg (N := 10) ?hd (xs := ([] : List Int)) (inner := []) (ok := fun _ => True) (okp := fun _ => True) ?hr ?hp (fun _ hk => hk) trivial (Below.refl _ _) (Nat.le_refl _) (by simp) ?_; (case hd => rfl); (case hg => rfl); (case hr => first | (go_simp; done) | (go_simp; rfl)); (case hp => exact (Reps.none _ _)); intro v123 w4 ho5 hb hg_ hnew_; clear hg_ hnew_; (first | rw [← Ny122.out] at ho5 | (simp only [Int.reduceToNat] at ho5; rw [← Ny122.out] at ho5)); have n0_ := Aside0.mk (Kd.R_lower ho5 (below_size (by repeat (first | (with_reducible first | exact HB.out | apply below_alloc | apply pw_below_drewN | apply below_drew1) | exact HB.out)))); have n1_ := Aside0.mk (below_step (by repeat (first | (with_reducible first | exact HB.out | apply below_alloc | apply pw_below_drewN | apply below_drew1) | exact HB.out)) hb); clear HB; have HO124 := n0_; have HB := n1_; clear n0_ n1_; clear hb ho5) | ((with_reducible refine gate_builtin (b := .append) (xs := #[.tmp 10, .tmp 11]) rfl ?_); at_builtin; refine Kd.R_append_rows (Kd.int .u8) (w0 := w) w.heap.size rfl (.tmp 10) (.tmp 11) 22 5 (.int .u8 0) 1 rfl Try.underlying22 info5 rfl (by decide) (by omega) v123 y122 l0 _ _ _ (fun _ => True) (fun _ => False) rfl rfl ?aO ?aR (fun _ _ h => h) (fun _ h => h.elim) ?aF ?aB ?aS ?aL ?_; (case aR => repeat (first | exact (Kd.C_below HR0.out HB.out) | (with_reducible refine Kd.C_alloc ?_ _) | (with_reducible refine Kd.C_drewN ?_ _) | (with_reducible refine Kd.C_drew ?_))); (case aB => exact (by repeat (first | (with_reducible first | exact HB.out | apply below_alloc | apply pw_below_drewN | apply below_drew1) | exact HB.out))); (case aF => exact (fun _ _ => trivial)); (case aO => exact (by (with_reducible repeat (first | apply Kd.R_alloc | apply Kd.R_drewN | apply Kd.R_drew)); exact HO124.out)); (case aS => exact (below_size (by repeat (first | (with_reducible first | exact HB.out | apply below_alloc | apply pw_below_drewN | apply below_drew1) | exact HB.out)))); (case aL => have := LMc3.out; omega); intro v126 w6 ho hb hg hat; rw [← Ny125.out] at ho; have n0_ := Aside0.mk (hb); have n1_ := Aside0.mk (ho); clear HB; clear HO124; have HB := n0_; have HO127 := n1_; clear n0_ n1_; clear ho hb hg hat))
  go_loopg [5, 6, 7] k (fun kq v5 v6 v7 w' => ∃ (x5_1 : List Int) (x6_1 : Int) (x7_1 : Int), v6 = .int .u8 x6_1 ∧ v7 = .int .i64 x7_1 ∧ Aside0 (pyxref05_keys.l0 kq l1 x5_1 x6_1 x7_1 = some r) ∧ Aside0 (kq ≤ k) ∧ Aside0 (Kd.R (Kd.int .u8) 5 w' w.heap.size (fun _ => True) v5 x5_1) ∧ Aside0 (Below w.heap.size w w'))
  case atStart => exact ⟨(y125), (1), (4), (by first | rfl | (simp; done) | (simp [*]; done)), (by first | rfl | (simp; done) | (simp [*]; done)), H', ⟨Nat.le_refl _⟩, ⟨by (with_reducible repeat (first | apply Kd.R_alloc | apply Kd.R_drewN | apply Kd.R_drew)); exact HO127.out⟩, ⟨by repeat (first | (with_reducible first | exact HB.out | apply below_alloc | apply pw_below_drewN | apply below_drew1) | exact HB.out)⟩⟩
  case round =>
   clear H'
   try clear c1
   try clear p2
   try clear c3
   try clear c5
   obtain ⟨x5_1, x6_1, x7_1, rfl, rfl, HA, HK1, HO_5, HB⟩ := hrel
   cases gk with
   | zero => exact absurd HA.out (by simp [pyxref05_keys.l0])
   | succ k1 =>
    have H := HA.out
    clear HA
    simp only [pyxref05_keys.l0] at H
    by_cases c7 : x7_1 < 44
    ·rw [if_pos c7] at H
     have c7b0 : decide (x7_1 < 44) = true := decide_eq_true c7
     clear c7
     have H' := Aside0.mk H
     clear H
     go_wp2
     go_loopg [5, 8] k1 (fun kq v5 v8 w' => ∃ (x5_2 : List Int) (x8_2 : Int), v8 = .int .i64 x8_2 ∧ Aside0 (pyxref05_keys.l1 kq l1 x5_2 x6_1 x7_1 x8_2 = some r) ∧ Aside0 (kq ≤ k1) ∧ Aside0 (Kd.R (Kd.int .u8) 5 w' w.heap.size (fun _ => True) v5 x5_2) ∧ Aside0 (Below w.heap.size w w'))
     case atStart => exact ⟨(x5_1), (0), (by first | rfl | (simp; done) | (simp [*]; done)), H', ⟨Nat.le_refl _⟩, ⟨by (with_reducible repeat (first | apply Kd.R_alloc | apply Kd.R_drewN | apply Kd.R_drew)); exact HO_5.out⟩, ⟨by repeat (first | (with_reducible first | exact HB.out | apply below_alloc | apply pw_below_drewN | apply below_drew1) | exact HB.out)⟩⟩
     case round =>
      clear H'
      try clear c1
      try clear p2
      try clear c3
      try clear c5
      try clear c7
      try clear c7b0
      try clear p2
      obtain ⟨x5_2, x8_2, rfl, HA, HK2, HO_5, HB⟩ := hrel
      cases gk with
      | zero => exact absurd HA.out (by simp [pyxref05_keys.l1])
      | succ k2 =>
       have H := HA.out
       clear HA
       simp only [pyxref05_keys.l1] at H
       by_cases c8 : x8_2 < 4
       ·rw [if_pos c8] at H
        have c8b0 : decide (x8_2 < 4) = true := decide_eq_true c8
        clear c8
        obtain ⟨ji9, hji9⟩ : ∃ j_ : Int, (wrap64 ((wrap64 ((wrap64 (4 * x7_1)) - 4)) + x8_2)) = j_ := ⟨_, rfl⟩
        replace H : (if 0 ≤ (ji9) then (if (ji9) < (x5_2.length : Int) then (if (Int.tmod x7_1 4) = 0 then (if 0 ≤ (wrap64 ((wrap64 ((wrap64 (4 * x7_1)) - 4)) + (Int.tmod (wrap64 (x8_2 + 1)) 4))) then (if (wrap64 ((wrap64 ((wrap64 (4 * x7_1)) - 4)) + (Int.tmod (wrap64 (x8_2 + 1)) 4))) < (x5_2.length : Int) then (if 0 ≤ (wrap64 (rd x5_2 (wrap64 ((wrap64 ((wrap64 (4 * x7_1)) - 4)) + (Int.tmod (wrap64 (x8_2 + 1)) 4))))) then (if (wrap64 (rd x5_2 (wrap64 ((wrap64 ((wrap64 (4 * x7_1)) - 4)) + (Int.tmod (wrap64 (x8_2 + 1)) 4))))) < (l1.length : Int) then (if x8_2 = 0 then (if 0 ≤ (wrap64 ((wrap64 ((wrap64 (4 * x7_1)) - 16)) + x8_2)) then (if (wrap64 ((wrap64 ((wrap64 (4 * x7_1)) - 16)) + x8_2)) < (x5_2.length : Int) then (if x5_2.length < 140737488355328 then (pyxref05_keys.l1 k2 l1 (x5_2 ++ [Go.bits .xor .u8 (rd x5_2 (wrap64 ((wrap64 ((wrap64 (4 * x7_1)) - 16)) + x8_2))) (Go.bits .xor .u8 (rd l1 (wrap64 (rd x5_2 (wrap64 ((wrap64 ((wrap64 (4 * x7_1)) - 4)) + (Int.tmod (wrap64 (x8_2 + 1)) 4)))))) x6_1)]) x6_1 x7_1 (wrap64 (x8_2 + 1))) else (none)) else (none)) else (none)) else (if 0 ≤ (wrap64 ((wrap64 ((wrap64 (4 * x7_1)) - 16)) + x8_2)) then (if (wrap64 ((wrap64 ((wrap64 (4 * x7_1)) - 16)) + x8_2)) < (x5_2.length : Int) then (if x5_2.length < 140737488355328 then (pyxref05_keys.l1 k2 l1 (x5_2 ++ [Go.bits .xor .u8 (rd x5_2 (wrap64 ((wrap64 ((wrap64 (4 * x7_1)) - 16)) + x8_2))) (rd l1 (wrap64 (rd x5_2 (wrap64 ((wrap64 ((wrap64 (4 * x7_1)) - 4)) + (Int.tmod (wrap64 (x8_2 + 1)) 4))))))]) x6_1 x7_1 (wrap64 (x8_2 + 1))) else (none)) else (none)) else (none))) else (none)) else (none)) else (none)) else (none)) else (if 0 ≤ (wrap64 ((wrap64 ((wrap64 (4 * x7_1)) - 16)) + x8_2)) then (if (wrap64 ((wrap64 ((wrap64 (4 * x7_1)) - 16)) + x8_2)) < (x5_2.length : Int) then (if x5_2.length < 140737488355328 then (pyxref05_keys.l1 k2 l1 (x5_2 ++ [Go.bits .xor .u8 (rd x5_2 (wrap64 ((wrap64 ((wrap64 (4 * x7_1)) - 16)) + x8_2))) (rd x5_2 (ji9))]) x6_1 x7_1 (wrap64 (x8_2 + 1))) else (none)) else (none)) else (none))) else (none)) else (none)) = some r := by first | (rw [hji9] at H; exact H) | (simp only [hji9] at H ⊢; exact H)
        have hji9w : (IntKind.i64.wrap ((wrap64 ((wrap64 (4 * x7_1)) - 4)) + x8_2)) = ji9 := (i64_w _).trans hji9
        by_cases c10 : 0 ≤ (ji9)
        ·rw [if_pos c10] at H
         have c10b0 : decide (0 ≤ (ji9)) = true := decide_eq_true c10
         clear c10
         by_cases c11 : (ji9) < (x5_2.length : Int)
         ·rw [if_pos c11] at H
          have c11b0 : decide ((ji9) < (x5_2.length : Int)) = true := decide_eq_true c11
          clear c11
          by_cases c12 : (Int.tmod x7_1 4) = 0
          ·rw [if_pos c12] at H
           have c12b0 : ((Int.tmod x7_1 4) == 0) = true := beq_iff_eq.mpr c12
           have c12b1 : ((Int.tmod x7_1 4) != 0) = false := bne_eq_false_iff_eq.mpr c12
           clear c12
           obtain ⟨ji13, hji13⟩ : ∃ j_ : Int, (wrap64 ((wrap64 ((wrap64 (4 * x7_1)) - 4)) + (Int.tmod (wrap64 (x8_2 + 1)) 4))) = j_ := ⟨_, rfl⟩
           replace H : (if 0 ≤ (ji13) then (if (ji13) < (x5_2.length : Int) then (if 0 ≤ (wrap64 (rd x5_2 (ji13))) then (if (wrap64 (rd x5_2 (ji13))) < (l1.length : Int) then (if x8_2 = 0 then (if 0 ≤ (wrap64 ((wrap64 ((wrap64 (4 * x7_1)) - 16)) + x8_2)) then (if (wrap64 ((wrap64 ((wrap64 (4 * x7_1)) - 16)) + x8_2)) < (x5_2.length : Int) then (if x5_2.length < 140737488355328 then (pyxref05_keys.l1 k2 l1 (x5_2 ++ [Go.bits .xor .u8 (rd x5_2 (wrap64 ((wrap64 ((wrap64 (4 * x7_1)) - 16)) + x8_2))) (Go.bits .xor .u8 (rd l1 (wrap64 (rd x5_2 (ji13)))) x6_1)]) x6_1 x7_1 (wrap64 (x8_2 + 1))) else (none)) else (none)) else (none)) else (if 0 ≤ (wrap64 ((wrap64 ((wrap64 (4 * x7_1)) - 16)) + x8_2)) then (if (wrap64 ((wrap64 ((wrap64 (4 * x7_1)) - 16)) + x8_2)) < (x5_2.length : Int) then (if x5_2.length < 140737488355328 then (pyxref05_keys.l1 k2 l1 (x5_2 ++ [Go.bits .xor .u8 (rd x5_2 (wrap64 ((wrap64 ((wrap64 (4 * x7_1)) - 16)) + x8_2))) (rd l1 (wrap64 (rd x5_2 (ji13))))]) x6_1 x7_1 (wrap64 (x8_2 + 1))) else (none)) else (none)) else (none))) else (none)) else (none)) else (none)) else (none)) = some r := by first | (rw [hji13] at H; exact H) | (simp only [hji13] at H ⊢; exact H)
           have hji13w : (IntKind.i64.wrap ((wrap64 ((wrap64 (4 * x7_1)) - 4)) + (Int.tmod (wrap64 (x8_2 + 1)) 4))) = ji13 := (i64_w _).trans hji13
           by_cases c14 : 0 ≤ (ji13)
           ·rw [if_pos c14] at H
            have c14b0 : decide (0 ≤ (ji13)) = true := decide_eq_true c14
            clear c14
            by_cases c15 : (ji13) < (x5_2.length : Int)
            ·rw [if_pos c15] at H
             have c15b0 : decide ((ji13) < (x5_2.length : Int)) = true := decide_eq_true c15
             clear c15
             obtain ⟨ji16, hji16⟩ : ∃ j_ : Int, (wrap64 (rd x5_2 (ji13))) = j_ := ⟨_, rfl⟩
             replace H : (if 0 ≤ (ji16) then (if (ji16) < (l1.length : Int) then (if x8_2 = 0 then (if 0 ≤ (wrap64 ((wrap64 ((wrap64 (4 * x7_1)) - 16)) + x8_2)) then (if (wrap64 ((wrap64 ((wrap64 (4 * x7_1)) - 16)) + x8_2)) < (x5_2.length : Int) then (if x5_2.length < 140737488355328 then (pyxref05_keys.l1 k2 l1 (x5_2 ++ [Go.bits .xor .u8 (rd x5_2 (wrap64 ((wrap64 ((wrap64 (4 * x7_1)) - 16)) + x8_2))) (Go.bits .xor .u8 (rd l1 (ji16)) x6_1)]) x6_1 x7_1 (wrap64 (x8_2 + 1))) else (none)) else (none)) else (none)) else (if 0 ≤ (wrap64 ((wrap64 ((wrap64 (4 * x7_1)) - 16)) + x8_2)) then (if (wrap64 ((wrap64 ((wrap64 (4 * x7_1)) - 16)) + x8_2)) < (x5_2.length : Int) then (if x5_2.length < 140737488355328 then (pyxref05_keys.l1 k2 l1 (x5_2 ++ [Go.bits .xor .u8 (rd x5_2 (wrap64 ((wrap64 ((wrap64 (4 * x7_1)) - 16)) + x8_2))) (rd l1 (ji16))]) x6_1 x7_1 (wrap64 (x8_2 + 1))) else (none)) else (none)) else (none))) else (none)) else (none)) = some r := by first | (rw [hji16] at H; exact H) | (simp only [hji16] at H ⊢; exact H)
             have hji16w : (IntKind.i64.wrap (rd x5_2 (ji13))) = ji16 := (i64_w _).trans hji16
             by_cases c17 : 0 ≤ (ji16)
             ·rw [if_pos c17] at H
              have c17b0 : decide (0 ≤ (ji16)) = true := decide_eq_true c17
              clear c17
              by_cases c18 : (ji16) < (l1.length : Int)
              ·rw [if_pos c18] at H
               have c18b0 : decide ((ji16) < (l1.length : Int)) = true := decide_eq_true c18
               clear c18
               by_cases c19 : x8_2 = 0
               ·rw [if_pos c19] at H
                have c19b0 : (x8_2 == 0) = true := beq_iff_eq.mpr c19
                have c19b1 : (x8_2 != 0) = false := bne_eq_false_iff_eq.mpr c19
                clear c19
                obtain ⟨ji20, hji20⟩ : ∃ j_ : Int, (wrap64 ((wrap64 ((wrap64 (4 * x7_1)) - 16)) + x8_2)) = j_ := ⟨_, rfl⟩
                replace H : (if 0 ≤ (ji20) then (if (ji20) < (x5_2.length : Int) then (if x5_2.length < 140737488355328 then (pyxref05_keys.l1 k2 l1 (x5_2 ++ [Go.bits .xor .u8 (rd x5_2 (ji20)) (Go.bits .xor .u8 (rd l1 (ji16)) x6_1)]) x6_1 x7_1 (wrap64 (x8_2 + 1))) else (none)) else (none)) else (none)) = some r := by first | (rw [hji20] at H; exact H) | (simp only [hji20] at H ⊢; exact H)
                have hji20w : (IntKind.i64.wrap ((wrap64 ((wrap64 (4 * x7_1)) - 16)) + x8_2)) = ji20 := (i64_w _).trans hji20
                by_cases c21 : 0 ≤ (ji20)
                ·rw [if_pos c21] at H
                 have c21b0 : decide (0 ≤ (ji20)) = true := decide_eq_true c21
                 clear c21
                 by_cases c22 : (ji20) < (x5_2.length : Int)
                 ·rw [if_pos c22] at H
                  have c22b0 : decide ((ji20) < (x5_2.length : Int)) = true := decide_eq_true c22
                  clear c22
                  by_cases c23 : x5_2.length < 140737488355328
                  ·rw [if_pos c23] at H
                   have LMc23 := Aside0.mk c23
                   clear c23
                   obtain ⟨y133, hy133⟩ : ∃ y_ : List Int, y_ = (x5_2 ++ [Go.bits .xor .u8 (rd x5_2 (ji20)) (Go.bits .xor .u8 (rd l1 (ji16)) x6_1)]) := ⟨_, rfl⟩
                   replace H : (pyxref05_keys.l1 k2 l1 y133 x6_1 x7_1 (wrap64 (x8_2 + 1))) = some r := by first | (rw [hy133]; with_reducible exact H) | (have H2_ := (Option.bind_some _ _).symm.trans H; rw [hy133]; with_reducible exact H2_) | (have H2_ := (Option.bind_some _ _).symm.trans H; with_reducible exact H2_) | with_reducible exact H | (rw [hy133]; exact H) | exact H
                   have Ny133 := Aside0.mk hy133
                   clear hy133
                   have H' := Aside0.mk H
                   clear H
                   obtain ⟨Ao24, co24, eo24⟩ := Kd.R_slice HO_5.out
                   subst eo24
                   have p129 : 0 ≤ ((ji9) : Int) := of_decide_eq_true (by first | (with_reducible assumption) | assumption)
                   have q129 : (ji9) < (x5_2.length : Int) := of_decide_eq_true (by first | (with_reducible assumption) | assumption)
                   obtain ⟨ad129, e129, hx129_0⟩ := Kd.at_int (Kd.R_reads' HO_5.out).2.2 (ji9) p129 q129
                   cases e129
                   replace p129 := eq_true p129
                   replace q129 := eq_true q129
                   have p130 : 0 ≤ ((ji13) : Int) := of_decide_eq_true (by first | (with_reducible assumption) | assumption)
                   have q130 : (ji13) < (x5_2.length : Int) := of_decide_eq_true (by first | (with_reducible assumption) | assumption)
                   obtain ⟨ad130, e130, hx130_0⟩ := Kd.at_int (Kd.R_reads' HO_5.out).2.2 (ji13) p130 q130
                   obtain rfl : ad129 = ad130 := (by injection e130)
                   replace p130 := eq_true p130
                   replace q130 := eq_true q130
                   have p131 : 0 ≤ ((ji16) : Int) := of_decide_eq_true (by first | (with_reducible assumption) | assumption)
                   have q131 : (ji16) < (l1.length : Int) := of_decide_eq_true (by first | (with_reducible assumption) | assumption)
                   obtain ⟨ad131, e131, hx131_0⟩ := Kd.at_int HR1.out (ji16) p131 q131
                   cases e131
                   replace hx131_0 := (HB.out.cell (World.block_lt_of_cell? w _ hx131_0)).trans hx131_0
                   replace p131 := eq_true p131
                   replace q131 := eq_true q131
                   have p132 : 0 ≤ ((ji20) : Int) := of_decide_eq_true (by first | (with_reducible assumption) | assumption)
                   have q132 : (ji20) < (x5_2.length : Int) := of_decide_eq_true (by first | (with_reducible assumption) | assumption)
                   obtain ⟨ad132, e132, hx132_0⟩ := Kd.at_int (Kd.R_reads' HO_5.out).2.2 (ji20) p132 q132
                   obtain rfl : ad129 = ad132 := (by injection e132)
                   replace p132 := eq_true p132
                   replace q132 := eq_true q132
                   go_wp2_with (first | ((with_reducible refine gate_builtin (b := .append) (xs := #[.tmp 56, .tmp 67]) rfl ?_); at_builtin; refine Kd.R_append (Kd.int .u8) (w0 := w) w.heap.size rfl (.tmp 56) (.tmp 67) 22 5 (.int .u8 0) 1 rfl Try.underlying22 info5 rfl (by decide) (by omega) (.slice (some ad129) x5_2.length co24) x5_2 (Go.bits .xor .u8 (rd x5_2 (ji20)) (Go.bits .xor .u8 (rd l1 (ji16)) x6_1)) [.int .u8 (Go.bits .xor .u8 (rd x5_2 (ji20)) (Go.bits .xor .u8 (rd l1 (ji16)) x6_1))] (fun _ => True) (fun _ => False) rfl rfl ?aP (fun _ hk => hk.elim) ?aF ?aO ?aB ?aS ?aL ?_; (case aP => exact rfl); (case aB => exact (by repeat (first | (with_reducible first | exact HB.out | apply below_alloc | apply pw_below_drewN | apply below_drew1) | exact HB.out))); (case aF => exact (fun _ _ => trivial)); (case aO => exact (by (with_reducible repeat (first | apply Kd.R_alloc | apply Kd.R_drewN | apply Kd.R_drew)); exact HO_5.out)); (case aS => exact (below_size (by repeat (first | (with_reducible first | exact HB.out | apply below_alloc | apply pw_below_drewN | apply below_drew1) | exact HB.out)))); (case aL => have := LMc23.out; omega); intro v134 w25 ho hb hg hat; rw [← Ny133.out] at ho; have n0_ := Aside0.mk (hb); have n1_ := Aside0.mk (ho); clear HB; clear HO_5; have HB := n0_; have HO135 := n1_; clear n0_ n1_; clear ho hb hg hat))
                   go_roundg k2
                   case measure => have := HK1.out; have := HK2.out; omega
                   case rel => exact ⟨(y133), (wrap64 (x8_2 + 1)), (by first | rfl | (simp; done) | (simp [*]; done)), H', ⟨by have := HK1.out; have := HK2.out; omega⟩, ⟨by (with_reducible repeat (first | apply Kd.R_alloc | apply Kd.R_drewN | apply Kd.R_drew)); exact HO135.out⟩, ⟨by repeat (first | (with_reducible first | exact HB.out | apply below_alloc | apply pw_below_drewN | apply below_drew1) | exact HB.out)⟩⟩
                  ·rw [if_neg c23] at H
                   exact absurd H (by simp)
                 ·rw [if_neg c22] at H
                  exact absurd H (by simp)
                ·rw [if_neg c21] at H
                 exact absurd H (by simp)
               ·rw [if_neg c19] at H
                have c19b0 : (x8_2 == 0) = false := beq_eq_false_iff_ne.mpr c19
                have c19b1 : (x8_2 != 0) = true := bne_iff_ne.mpr c19
                obtain ⟨ji26, hji26⟩ : ∃ j_ : Int, (wrap64 ((wrap64 ((wrap64 (4 * x7_1)) - 16)) + x8_2)) = j_ := ⟨_, rfl⟩
                replace H : (if 0 ≤ (ji26) then (if (ji26) < (x5_2.length : Int) then (if x5_2.length < 140737488355328 then (pyxref05_keys.l1 k2 l1 (x5_2 ++ [Go.bits .xor .u8 (rd x5_2 (ji26)) (rd l1 (ji16))]) x6_1 x7_1 (wrap64 (x8_2 + 1))) else (none)) else (none)) else (none)) = some r := by first | (rw [hji26] at H; exact H) | (simp only [hji26] at H ⊢; exact H)
                have hji26w : (IntKind.i64.wrap ((wrap64 ((wrap64 (4 * x7_1)) - 16)) + x8_2)) = ji26 := (i64_w _).trans hji26
                by_cases c27 : 0 ≤ (ji26)
                ·rw [if_pos c27] at H
                 have c27b0 : decide (0 ≤ (ji26)) = true := decide_eq_true c27
                 clear c27
                 by_cases c28 : (ji26) < (x5_2.length : Int)
                 ·rw [if_pos c28] at H
                  have c28b0 : decide ((ji26) < (x5_2.length : Int)) = true := decide_eq_true c28
                  clear c28
                  by_cases c29 : x5_2.length < 140737488355328
                  ·rw [if_pos c29] at H
                   have LMc29 := Aside0.mk c29
                   clear c29
                   obtain ⟨y137, hy137⟩ : ∃ y_ : List Int, y_ = (x5_2 ++ [Go.bits .xor .u8 (rd x5_2 (ji26)) (rd l1 (ji16))]) := ⟨_, rfl⟩
                   replace H : (pyxref05_keys.l1 k2 l1 y137 x6_1 x7_1 (wrap64 (x8_2 + 1))) = some r := by first | (rw [hy137]; with_reducible exact H) | (have H2_ := (Option.bind_some _ _).symm.trans H; rw [hy137]; with_reducible exact H2_) | (have H2_ := (Option.bind_some _ _).symm.trans H; with_reducible exact H2_) | with_reducible exact H | (rw [hy137]; exact H) | exact H
                   have Ny137 := Aside0.mk hy137
                   clear hy137
                   have H' := Aside0.mk H
                   clear H
                   obtain ⟨Ao30, co30, eo30⟩ := Kd.R_slice HO_5.out
                   subst eo30
                   have p129 : 0 ≤ ((ji9) : Int) := of_decide_eq_true (by first | (with_reducible assumption) | assumption)
                   have q129 : (ji9) < (x5_2.length : Int) := of_decide_eq_true (by first | (with_reducible assumption) | assumption)
                   obtain ⟨ad129, e129, hx129_0⟩ := Kd.at_int (Kd.R_reads' HO_5.out).2.2 (ji9) p129 q129
                   cases e129
                   replace p129 := eq_true p129
                   replace q129 := eq_true q129
                   have p130 : 0 ≤ ((ji13) : Int) := of_decide_eq_true (by first | (with_reducible assumption) | assumption)
                   have q130 : (ji13) < (x5_2.length : Int) := of_decide_eq_true (by first | (with_reducible assumption) | assumption)
                   obtain ⟨ad130, e130, hx130_0⟩ := Kd.at_int (Kd.R_reads' HO_5.out).2.2 (ji13) p130 q130
                   obtain rfl : ad129 = ad130 := (by injection e130)
                   replace p130 := eq_true p130
                   replace q130 := eq_true q130
                   have p131 : 0 ≤ ((ji16) : Int) := of_decide_eq_true (by first | (with_reducible assumption) | assumption)
                   have q131 : (ji16) < (l1.length : Int) := of_decide_eq_true (by first | (with_reducible assumption) | assumption)
                   obtain ⟨ad131, e131, hx131_0⟩ := Kd.at_int HR1.out (ji16) p131 q131
                   cases e131
                   replace hx131_0 := (HB.out.cell (World.block_lt_of_cell? w _ hx131_0)).trans hx131_0
                   replace p131 := eq_true p131
                   replace q131 := eq_true q131
                   have p136 : 0 ≤ ((ji26) : Int) := of_decide_eq_true (by first | (with_reducible assumption) | assumption)
                   have q136 : (ji26) < (x5_2.length : Int) := of_decide_eq_true (by first | (with_reducible assumption) | assumption)
                   obtain ⟨ad136, e136, hx136_0⟩ := Kd.at_int (Kd.R_reads' HO_5.out).2.2 (ji26) p136 q136
                   obtain rfl : ad129 = ad136 := (by injection e136)
                   replace p136 := eq_true p136
                   replace q136 := eq_true q136
                   go_wp2_with (first | ((with_reducible refine gate_builtin (b := .append) (xs := #[.tmp 56, .tmp 67]) rfl ?_); at_builtin; refine Kd.R_append (Kd.int .u8) (w0 := w) w.heap.size rfl (.tmp 56) (.tmp 67) 22 5 (.int .u8 0) 1 rfl Try.underlying22 info5 rfl (by decide) (by omega) (.slice (some ad129) x5_2.length co30) x5_2 (Go.bits .xor .u8 (rd x5_2 (ji26)) (rd l1 (ji16))) [.int .u8 (Go.bits .xor .u8 (rd x5_2 (ji26)) (rd l1 (ji16)))] (fun _ => True) (fun _ => False) rfl rfl ?aP (fun _ hk => hk.elim) ?aF ?aO ?aB ?aS ?aL ?_; (case aP => exact rfl); (case aB => exact (by repeat (first | (with_reducible first | exact HB.out | apply below_alloc | apply pw_below_drewN | apply below_drew1) | exact HB.out))); (case aF => exact (fun _ _ => trivial)); (case aO => exact (by (with_reducible repeat (first | apply Kd.R_alloc | apply Kd.R_drewN | apply Kd.R_drew)); exact HO_5.out)); (case aS => exact (below_size (by repeat (first | (with_reducible first | exact HB.out | apply below_alloc | apply pw_below_drewN | apply below_drew1) | exact HB.out)))); (case aL => have := LMc29.out; omega); intro v138 w31 ho hb hg hat; rw [← Ny137.out] at ho; have n0_ := Aside0.mk (hb); have n1_ := Aside0.mk (ho); clear HB; clear HO_5; have HB := n0_; have HO139 := n1_; clear n0_ n1_; clear ho hb hg hat))
                   go_roundg k2
                   case measure => have := HK1.out; have := HK2.out; omega
                   case rel => exact ⟨(y137), (wrap64 (x8_2 + 1)), (by first | rfl | (simp; done) | (simp [*]; done)), H', ⟨by have := HK1.out; have := HK2.out; omega⟩, ⟨by (with_reducible repeat (first | apply Kd.R_alloc | apply Kd.R_drewN | apply Kd.R_drew)); exact HO139.out⟩, ⟨by repeat (first | (with_reducible first | exact HB.out | apply below_alloc | apply pw_below_drewN | apply below_drew1) | exact HB.out)⟩⟩
                  ·rw [if_neg c29] at H
                   exact absurd H (by simp)
                 ·rw [if_neg c28] at H
                  exact absurd H (by simp)
                ·rw [if_neg c27] at H
                 exact absurd H (by simp)
              ·rw [if_neg c18] at H
               exact absurd H (by simp)
             ·rw [if_neg c17] at H
              exact absurd H (by simp)
            ·rw [if_neg c15] at H
             exact absurd H (by simp)
           ·rw [if_neg c14] at H
            exact absurd H (by simp)
          ·rw [if_neg c12] at H
           have c12b0 : ((Int.tmod x7_1 4) == 0) = false := beq_eq_false_iff_ne.mpr c12
           have c12b1 : ((Int.tmod x7_1 4) != 0) = true := bne_iff_ne.mpr c12
           obtain ⟨ji32, hji32⟩ : ∃ j_ : Int, (wrap64 ((wrap64 ((wrap64 (4 * x7_1)) - 16)) + x8_2)) = j_ := ⟨_, rfl⟩
           replace H : (if 0 ≤ (ji32) then (if (ji32) < (x5_2.length : Int) then (if x5_2.length < 140737488355328 then (pyxref05_keys.l1 k2 l1 (x5_2 ++ [Go.bits .xor .u8 (rd x5_2 (ji32)) (rd x5_2 (ji9))]) x6_1 x7_1 (wrap64 (x8_2 + 1))) else (none)) else (none)) else (none)) = some r := by first | (rw [hji32] at H; exact H) | (simp only [hji32] at H ⊢; exact H)
           have hji32w : (IntKind.i64.wrap ((wrap64 ((wrap64 (4 * x7_1)) - 16)) + x8_2)) = ji32 := (i64_w _).trans hji32
           by_cases c33 : 0 ≤ (ji32)
           ·rw [if_pos c33] at H
            have c33b0 : decide (0 ≤ (ji32)) = true := decide_eq_true c33
            clear c33
            by_cases c34 : (ji32) < (x5_2.length : Int)
            ·rw [if_pos c34] at H
             have c34b0 : decide ((ji32) < (x5_2.length : Int)) = true := decide_eq_true c34
             clear c34
             by_cases c35 : x5_2.length < 140737488355328
             ·rw [if_pos c35] at H
              have LMc35 := Aside0.mk c35
              clear c35
              obtain ⟨y141, hy141⟩ : ∃ y_ : List Int, y_ = (x5_2 ++ [Go.bits .xor .u8 (rd x5_2 (ji32)) (rd x5_2 (ji9))]) := ⟨_, rfl⟩
              replace H : (pyxref05_keys.l1 k2 l1 y141 x6_1 x7_1 (wrap64 (x8_2 + 1))) = some r := by first | (rw [hy141]; with_reducible exact H) | (have H2_ := (Option.bind_some _ _).symm.trans H; rw [hy141]; with_reducible exact H2_) | (have H2_ := (Option.bind_some _ _).symm.trans H; with_reducible exact H2_) | with_reducible exact H | (rw [hy141]; exact H) | exact H
              have Ny141 := Aside0.mk hy141
              clear hy141
              have H' := Aside0.mk H
              clear H
              obtain ⟨Ao36, co36, eo36⟩ := Kd.R_slice HO_5.out
              subst eo36
              have p129 : 0 ≤ ((ji9) : Int) := of_decide_eq_true (by first | (with_reducible assumption) | assumption)
              have q129 : (ji9) < (x5_2.length : Int) := of_decide_eq_true (by first | (with_reducible assumption) | assumption)
              obtain ⟨ad129, e129, hx129_0⟩ := Kd.at_int (Kd.R_reads' HO_5.out).2.2 (ji9) p129 q129
              cases e129
              replace p129 := eq_true p129
              replace q129 := eq_true q129
              have p140 : 0 ≤ ((ji32) : Int) := of_decide_eq_true (by first | (with_reducible assumption) | assumption)
              have q140 : (ji32) < (x5_2.length : Int) := of_decide_eq_true (by first | (with_reducible assumption) | assumption)
              obtain ⟨ad140, e140, hx140_0⟩ := Kd.at_int (Kd.R_reads' HO_5.out).2.2 (ji32) p140 q140
              obtain rfl : ad129 = ad140 := (by injection e140)
              replace p140 := eq_true p140
              replace q140 := eq_true q140
              go_wp2_with (first | ((with_reducible refine gate_builtin (b := .append) (xs := #[.tmp 56, .tmp 67]) rfl ?_); at_builtin; refine Kd.R_append (Kd.int .u8) (w0 := w) w.heap.size rfl (.tmp 56) (.tmp 67) 22 5 (.int .u8 0) 1 rfl Try.underlying22 info5 rfl (by decide) (by omega) (.slice (some ad129) x5_2.length co36) x5_2 (Go.bits .xor .u8 (rd x5_2 (ji32)) (rd x5_2 (ji9))) [.int .u8 (Go.bits .xor .u8 (rd x5_2 (ji32)) (rd x5_2 (ji9)))] (fun _ => True) (fun _ => False) rfl rfl ?aP (fun _ hk => hk.elim) ?aF ?aO ?aB ?aS ?aL ?_; (case aP => exact rfl); (case aB => exact (by repeat (first | (with_reducible first | exact HB.out | apply below_alloc | apply pw_below_drewN | apply below_drew1) | exact HB.out))); (case aF => exact (fun _ _ => trivial)); (case aO => exact (by (with_reducible repeat (first | apply Kd.R_alloc | apply Kd.R_drewN | apply Kd.R_drew)); exact HO_5.out)); (case aS => exact (below_size (by repeat (first | (with_reducible first | exact HB.out | apply below_alloc | apply pw_below_drewN | apply below_drew1) | exact HB.out)))); (case aL => have := LMc35.out; omega); intro v142 w37 ho hb hg hat; rw [← Ny141.out] at ho; have n0_ := Aside0.mk (hb); have n1_ := Aside0.mk (ho); clear HB; clear HO_5; have HB := n0_; have HO143 := n1_; clear n0_ n1_; clear ho hb hg hat))
              go_roundg k2
              case measure => have := HK1.out; have := HK2.out; omega
              case rel => exact ⟨(y141), (wrap64 (x8_2 + 1)), (by first | rfl | (simp; done) | (simp [*]; done)), H', ⟨by have := HK1.out; have := HK2.out; omega⟩, ⟨by (with_reducible repeat (first | apply Kd.R_alloc | apply Kd.R_drewN | apply Kd.R_drew)); exact HO143.out⟩, ⟨by repeat (first | (with_reducible first | exact HB.out | apply below_alloc | apply pw_below_drewN | apply below_drew1) | exact HB.out)⟩⟩
             ·rw [if_neg c35] at H
              exact absurd H (by simp)
            ·rw [if_neg c34] at H
             exact absurd H (by simp)
           ·rw [if_neg c33] at H
            exact absurd H (by simp)
         ·rw [if_neg c11] at H
          exact absurd H (by simp)
        ·rw [if_neg c10] at H
         exact absurd H (by simp)
       ·rw [if_neg c8] at H
        have c8b0 : decide (x8_2 < 4) = false := decide_eq_false c8
        clear c8
        by_cases c38 : (Int.tmod x7_1 4) = 0
        ·rw [if_pos c38] at H
         have c38b0 : ((Int.tmod x7_1 4) == 0) = true := beq_iff_eq.mpr c38
         have c38b1 : ((Int.tmod x7_1 4) != 0) = false := bne_eq_false_iff_eq.mpr c38
         clear c38
         replace H := Option.bind_eq_some_iff.mp H
         obtain ⟨t128, A390, H⟩ := H
         replace H : (pyxref05_keys.l0 k2 l1 x5_2 t128 (wrap64 (x7_1 + 1))) = some r := H
         have A39 := Aside0.mk A390
         clear A390
         have H' := Aside0.mk H
         clear H
         go_wp2_with (first | ((with_reducible refine gate_callee (f := 76) rfl ?_); refine goesL_ (some 73) rfl rfl Try.func76 (by kernel_rfl) rfl #[.int .u8 x6_1, .int .u8 2] rfl (by (try simp only [List.map_toArray, List.map_cons, List.map_nil]); first | done | rfl | (simp only [List.length_drop, List.length_take]; rfl)) ?_; (with_reducible refine (pyxref05_Mul.calls k2 x6_1 2 t128 _ A39.out).mono ?_); rintro e w' ⟨rfl, ⟨nd, rfl⟩⟩; refine ⟨_, rfl, ?_⟩))
         go_roundg k2
         case measure => have := HK1.out; have := HK2.out; omega
         case rel => exact ⟨(x5_2), (t128), (wrap64 (x7_1 + 1)), (by first | rfl | (simp; done) | (simp [*]; done)), (by first | rfl | (simp; done) | (simp [*]; done)), H', ⟨by have := HK1.out; have := HK2.out; omega⟩, ⟨by (with_reducible repeat (first | apply Kd.R_alloc | apply Kd.R_drewN | apply Kd.R_drew)); exact HO_5.out⟩, ⟨by repeat (first | (with_reducible first | exact HB.out | apply below_alloc | apply pw_below_drewN | apply below_drew1) | exact HB.out)⟩⟩
        ·rw [if_neg c38] at H
         have c38b0 : ((Int.tmod x7_1 4) == 0) = false := beq_eq_false_iff_ne.mpr c38
         have c38b1 : ((Int.tmod x7_1 4) != 0) = true := bne_iff_ne.mpr c38
         have H' := Aside0.mk H
         clear H
         go_wp2
         go_roundg k2
         case measure => have := HK1.out; have := HK2.out; omega
         case rel => exact ⟨(x5_2), (x6_1), (wrap64 (x7_1 + 1)), (by first | rfl | (simp; done) | (simp [*]; done)), (by first | rfl | (simp; done) | (simp [*]; done)), H', ⟨by have := HK1.out; have := HK2.out; omega⟩, ⟨by (with_reducible repeat (first | apply Kd.R_alloc | apply Kd.R_drewN | apply Kd.R_drew)); exact HO_5.out⟩, ⟨by repeat (first | (with_reducible first | exact HB.out | apply below_alloc | apply pw_below_drewN | apply below_drew1) | exact HB.out)⟩⟩
    ·rw [if_neg c7] at H
     have c7b0 : decide (x7_1 < 44) = false := decide_eq_false c7
     clear c7
     obtain rfl := Option.some.inj H
     go_wp2
     go_ret
     exact ⟨_, by first | rfl | (simp [errW_none, errW_some] <;> rfl) | (simp [*, errW_none, errW_some] <;> rfl), by (with_reducible repeat (first | apply Kd.R_alloc | apply Kd.R_drewN | apply Kd.R_drew)); exact HO_5.out, by repeat (first | (with_reducible first | exact HB.out | apply below_alloc | apply pw_below_drewN | apply below_drew1) | exact HB.out)⟩
 ·rw [if_neg c3] at H
  exact absurd H (by simp)
-- NOT PRINTED: function 77 (pyxref01_power)
end Go.Proofs.Ytifpdpfjhjoieaa.C

/-! AesQ -/
namespace Go.Proofs.Ytifpdpfjhjoieaa
set_option linter.unusedVariables false
set_option linter.unusedSimpArgs false
open Go.RowKit Go.Proofs.YtifpdpfjhjoieaaW.PrintWords Go.Proofs.YtifpdpfjhjoieaaW.PrintLast
theorem EvS.fuel {α : Type} {g : Nat → Option α} {r : α} (hm : ∀ k, LeO (g k) (g (k + 1))) (k0 : Nat) (h : g k0 = some r) : EvS g r :=
 ⟨k0, fun k hk => by
  induction k with
  | zero => rw [← Nat.le_zero.1 hk]; exact h
  | succ k ih =>
   rcases Nat.lt_or_ge k k0 with hlt | hge
   ·rw [show k + 1 = k0 from by omega]; exact h
   ·exact hm k r (ih hge)⟩
theorem EvS.bind_ {α β : Type} {f : Nat → Option α} {a : α} (hf : EvS f a) {g : Nat → α → Option β} {r : β} (hg : EvS (fun k => g k a) r) : EvS (fun k => (f k).bind (g k)) r := by
 obtain ⟨k1, h1⟩ := hf
 obtain ⟨k2, h2⟩ := hg
 exact ⟨max k1 k2, fun k hk => by show (f k).bind (g k) = some r; rw [h1 k (by omega), Option.bind_some]; exact h2 k (by omega)⟩
theorem rmul2 (a : Int) (h0 : 0 ≤ a) (h1 : a < 256) : EvS (fun k => C.pyxref05_Mul.f k a 2) (m2 a) :=
 EvS.fuel (fun k => C.pyxref05_Mul.mono a 2 k) 10 (eq_of_beq (byte_all (fun a => C.pyxref05_Mul.f 10 a 2 == some (m2 a)) (by decide +kernel) a h0 h1))
theorem rmul3 (a : Int) (h0 : 0 ≤ a) (h1 : a < 256) : EvS (fun k => C.pyxref05_Mul.f k a 3) (m3 a) :=
 EvS.fuel (fun k => C.pyxref05_Mul.mono a 3 k) 10 (eq_of_beq (byte_all (fun a => C.pyxref05_Mul.f 10 a 3 == some (m3 a)) (by decide +kernel) a h0 h1))
theorem rboxes : EvS (fun k => C.pyxref05_boxes.f k) boxT := EvS.fuel (fun k => C.pyxref05_boxes.mono k) 600 (by decide +kernel)
end Go.Proofs.Ytifpdpfjhjoieaa
