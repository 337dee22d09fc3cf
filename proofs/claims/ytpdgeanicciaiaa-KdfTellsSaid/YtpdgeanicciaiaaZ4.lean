/-
  The lower layers, walked and in closed forms, part 4: KdfRefLabel, D0, D1, KdfD, KdfShown, BytInj, RowsIn.
-/
import Derived.Test.YtpdgeanicciaiaaZ0
import Derived.Test.YtpdgeanicciaiaaZ1
import Derived.Test.YtpdgeanicciaiaaZ3
import Derived.Test.YtpdgeanicciaiaaProg
import Derived.Test.YtpdgeanicciaiaaWWords
import Derived.Test.YtpdgeanicciaiaaWLast
import Derived.Test.YtpdgeanicciaiaaWMore
import Derived.Test.YtpdgeanicciaiaaWRepsOne
import Derived.Test.YtpdgeanicciaiaaWSized
import Derived.Below
import Derived.Deep.Draws
import Derived.Deep.AppendLies
import Derived.Maps.AppendAt
import Derived.OwnWalk
import Derived.Laws.BytesArg
import Derived.Laws.MakeOwn
import Derived.Laws.OwnMore
import Derived.Deep.OwnRows
import Derived.Tactics
import Derived.Lib.ConvBytes
import Derived.Laws.Slices
import Derived.WalkKit
import Derived.KernelRfl
import Derived.RowKit3
import Derived.Deep.LoopGhost
import Derived.Deep.QuietTactic
import Derived.BigQuiet
import Derived.WideLaws
import Derived.Deep.DeepCutAuto
import Derived.Deep.CutBlock
import Derived.Deep.RegionHeld3
import Derived.Laws.Rows
import Derived.Lib.AppendStr
import Derived.ArgAppend
import Derived.Laws.IdiomCopy
import Derived.OrdersHeld
import Derived.Laws.BitsLemmas
import Derived.RowKit
import Derived.Lib.SlBytesConst
import Derived.Deep.DeepMust
import Derived.Deep.Matrix
import Derived.SizedLaws
/-! KdfRefLabel -/
namespace Go.Proofs.Ytpdgeanicciaiaa
set_option linter.unusedVariables false
set_option linter.unusedSimpArgs false
open Go.RowKit Go.Proofs.YtpdgeanicciaiaaW.PrintWords Go.Proofs.YtpdgeanicciaiaaW.PrintLast Go.Proofs.YtpdgeanicciaiaaW.PrintMore Iter

namespace P
def pyxref04_Label.f (secret : List Int) (label : ByteArray) (context : List Int) (n : Int) : Option (List Int × Int) := kdf_Label.f secret label context n
set_option maxRecDepth 100000 in
set_option maxHeartbeats 2000000 in
theorem pyxref04_Label.calls (A0 : Option Addr) (c0 : Nat) (l0 : List Int) (a1 : ByteArray) (A2 : Option Addr) (c2 : Nat) (l2 : List Int) (a3 : Int) (r1 : List Int) (r2 : Int) (w : World) (hr0 : Kd.C (Kd.int .u8) w A0 l0.length l0) (hc0 : l0.length ≤ c0) (hr2 : Kd.C (Kd.int .u8) w A2 l2.length l2) (hc2 : l2.length ≤ c2) (h : pyxref04_Label.f l0 a1 l2 a3 = some (r1, r2)) :
    Calls Try.prog 19 #[.slice A0 l0.length c0, .string a1, .slice A2 l2.length c2, .int .i64 a3] w fun e w' => ∃ v0_ : Value, e = .returned (.tuple #[v0_, .int .i64 r2]) ∧ Kd.R (Kd.int .u8) 5 w' w.heap.size (fun _ => True) v0_ r1 ∧ Below w.heap.size w w' := by
  unfold pyxref04_Label.f kdf_Label.f at h
  by_cases h0 : a3 < 0
  · rw [if_pos h0] at h
    injection h with h
    injection h with h1 h2
    subst h1 h2
    have d0 : decide (a3 < 0) = true := by simp [h0]
    go_enter Try.func19, Try.ntmps19
    go_wp2
    go_ret2
    exact ⟨_, rfl, Kd.R_nil _ _ _ _ _, Below.refl _ _⟩
  rw [if_neg h0] at h
  have d0 : decide (a3 < 0) = false := by simp; omega
  by_cases h1 : 8160 < a3
  · rw [if_pos h1] at h
    injection h with h
    injection h with h1' h2
    subst h1' h2
    have d1 : decide (8160 < a3) = true := by simp [h1]
    go_enter Try.func19, Try.ntmps19
    go_wp2
    go_ret2
    exact ⟨_, rfl, Kd.R_nil _ _ _ _ _, Below.refl _ _⟩
  rw [if_neg h1] at h
  have d1 : decide (8160 < a3) = false := by simp; omega
  split at h
  case isFalse => cases h
  case isTrue hok =>
  injection h with h
  injection h with h1' h2
  subst h1' h2
  obtain ⟨n, rfl⟩ := Int.eq_ofNat_of_zero_le (show 0 ≤ a3 by omega)
  rw [Int.toNat_natCast]
  obtain ⟨o1, o2, o3, o4, o5⟩ := hok
  obtain ⟨t, ht⟩ : ∃ t : ByteArray, t = mlsS ++ a1 := ⟨_, rfl⟩
  have htb : bytesOf t = mls ++ bytesOf a1 := by rw [ht, bytesOf_append, mls_bytes]
  have htl : (bytesOf t).length = a1.size + 8 := by rw [htb, List.length_append, bytesOf_length]; exact Nat.add_comm _ _
  have hts : t.size = a1.size + 8 := by rw [← bytesOf_length, htl]
  have hrow1 : P.pyxref01_Row.f (bytesOf t) = some (rowB (bytesOf t), 0) := congrArg some (rowOf_small (bytesOf t) (by omega))
  have hrow2 : P.pyxref01_Row.f l2 = some (rowB l2, 0) := congrArg some (rowOf_small l2 (by omega))
  have hnum : P.pyxref01_Num.f (n : Int) 2 = some (numB n 2, 0) := by
    unfold P.pyxref01_Num.f
    exact congrArg some (numOf_small n 2 (by omega) (by omega) (by omega))
  have hl1 : (numB n 2).length = 2 := numB_length _ _
  have kb : ∀ W : World, (convert 9 22 (.string ({ data := #[77, 76, 83, 32, 49, 46, 48, 32] } ++ a1))).run Try.prog W = .ok (.slice (some ⟨W.heap.size, 0, none⟩) t.size (grownCap W t.size 0 5)) (Lib.bytesWorld W 5 t) := fun W => by
    rw [ht]
    exact print_bytes (P := Try.prog) 9 22 5 Try.underlying9 Try.underlying22 Try.underlying5 (mlsS ++ a1) W
  have hexp : P.pyxref04_Expand.f l0 (labelRow a1 l2 n) (n : Int) = some (labelOf l0 a1 l2 n, 0) := by
    have b1 := byteOk_labelRow a1 l2 n o2
    have b2 := labelRow_length a1 l2 n
    unfold P.pyxref04_Expand.f P.kdf_Expand.f
    rw [if_neg (by omega), if_neg (by omega), if_pos ⟨o1, b1, o3, by omega⟩]
    rfl
  have HLR := Lib.hid hexp
  clear hexp
  have hrw : labelRow a1 l2 n = numB n 2 ++ rowB (bytesOf t) ++ rowB l2 := by rw [htb]; rfl
  have hl3 := rowB_length (bytesOf t)
  rw [htl] at hl3
  have hl4 := rowB_length l2
  have HN := Lib.hid hnum
  have H1 := Lib.hid (And.intro hrow1 (And.intro hrow2 (And.intro hrw (And.intro htb (And.intro htl hts)))))
  have KB := Lib.hid kb
  have Hr := Lib.hid (And.intro hr0 hr2)
  clear hnum hrow1 hrow2 ht htb htl hts kb hr0 hr2 o1 o2 hrw
  go_enter Try.func19, Try.ntmps19
  go_wp2_with fail
  refine (P.pyxref01_Num.calls (n : Int) 2 (numB n 2) 0 _ HN.out).mono ?_
  rintro e W1 ⟨v1, rfl, hR1, hb1⟩
  have hkb := KB.out W1
  have hcp := grownCap_ge W1 t.size 0 5
  have hC2 := bytes_C W1 t (by have := H1.out.2.2.2.2.2; omega)
  have hb2 := bytes_below hb1 hb1.size 5 t
  have hs2 := Lib.bytesWorld_size W1 5 t
  have hR2 : Kd.R (Kd.int .u8) 5 (Lib.bytesWorld W1 5 t) w.heap.size (fun b => b < W1.heap.size) v1 (numB n 2) :=
    Kd.R_mono (Kd.R_move (Kd.R_bound hR1) (fun k hk => Lib.bytesWorld_at_old W1 5 t k hk.2.2.1)) (fun k hk => hk.2.2.1)
  rw [H1.out.2.2.2.2.2] at hkb hcp
  generalize grownCap W1 (a1.size + 8) 0 5 = cp at *
  generalize Lib.bytesWorld W1 5 t = W2 at *
  have HS2 := Lib.hid hs2
  have H2 := Lib.hid (And.intro hC2 (And.intro hb2 hR2))
  have hlen := H1.out.2.2.2.2.1
  have HL := Lib.hid hlen
  clear hs2 hb1 hR1 hlen hC2 hb2 hR2
  have hcp' : (bytesOf t).length ≤ cp := by rw [HL.out]; exact hcp
  go_wp2_with fail
  rw [← HL.out]
  refine (P.pyxref01_Row.calls _ cp (bytesOf t) (rowB (bytesOf t)) 0 _ H2.out.1 hcp' H1.out.1).mono ?_
  rintro e W3 ⟨v3, rfl, hR3, hb3⟩
  have hr3 := Kd.R_below H2.out.2.2 hb3
  have hk3 := H2.out.2.1.trans (hb3.mono H2.out.2.1.size)
  have hs3 := hb3.size
  have H3 := Lib.hid (And.intro hr3 (And.intro hR3 hk3))
  clear hr3 hR3 hk3 hb3
  go_wp2_with fail
  refine (P.pyxref01_Row.calls A2 c2 l2 (rowB l2) 0 _ (Kd.C_below Hr.out.2 H3.out.2.2) hc2 H1.out.2.1).mono ?_
  rintro e W4 ⟨v4, rfl, hR4, hb4⟩
  have hr4 := Kd.R_below H3.out.1 hb4
  have hq4 := Kd.R_below H3.out.2.1 hb4
  have hk4 := H3.out.2.2.trans (hb4.mono H3.out.2.2.size)
  have hs4 := hb4.size
  have hv1 : Kd.R (Kd.int .u8) 5 W4 w.heap.size (fun b => b < W1.heap.size ∨ W4.heap.size ≤ b) v1 (numB n 2) := Kd.R_mono hr4 (fun b hb => Or.inl hb)
  have hR4b := Kd.R_bound hR4
  obtain ⟨A3, c3, rfl, hl5, hC3⟩ := Kd.R_reads hq4
  obtain ⟨A4, c4, rfl, hl6, -⟩ := Kd.R_reads hR4
  have ho4 : ∀ b, (Value.slice A4 (rowB l2).length c4).ownBlock = some b → W3.heap.size ≤ b ∧ b < W4.heap.size := fun b hb => by have := hR4b.1 b hb; omega
  have HV := Lib.hid (And.intro hv1 (And.intro hR4 (And.intro ho4 (And.intro hk4 hC3))))
  clear hr4 hq4 hk4 hR4 hR4b ho4 hv1 H3 H2 hC3
  go_wp2_with (first
    | ((with_reducible refine gate_builtin (b := .append) (xs := #[.tmp 40, .tmp 41]) rfl ?_); at_builtin; refine Kd.R_append_rows (Kd.int .u8) (w0 := w) w.heap.size rfl (.tmp 40) (.tmp 41) 22 5 (.int .u8 0) 1 rfl Try.underlying22 B.info5 rfl (by decide) (by omega) v1 (numB n 2) (rowB (bytesOf t)) _ _ _ (fun b => b < W1.heap.size ∨ W4.heap.size ≤ b) (fun _ => False) rfl rfl HV.out.1 HV.out.2.2.2.2 (fun _ _ h => h) (fun _ h => h.elim) (by intro b hb; exact Or.inr hb) HV.out.2.2.2.1 HV.out.2.2.2.1.size (by omega) ?_; intro v5 W5 hv5 hb5 hgr5 hat5; (have hR5 := Kd.R_grown2 HV.out.2.1 rfl hgr5 (fun k hk e => by have h1 := HV.out.1.1 k hk; have h2 := HV.out.2.2.1 k e.symm; have := HS2.out; omega)); (have hC5 := (Kd.R_reads' hR5).2.2); (have hb4s := hgr5.size); clear hR5 hgr5 hat5; (have hl7 : (numB n 2 ++ rowB (bytesOf t)).length = 2 + (rowB (bytesOf t)).length := by rw [List.length_append, hl1]))
    | ((with_reducible refine gate_builtin (b := .append) (xs := #[.tmp 42, .tmp 43]) rfl ?_); at_builtin; refine Kd.R_append_rows (Kd.int .u8) (w0 := w) w.heap.size rfl (.tmp 42) (.tmp 43) 22 5 (.int .u8 0) 1 rfl Try.underlying22 B.info5 rfl (by decide) (by omega) v5 (numB n 2 ++ rowB (bytesOf t)) (rowB l2) _ _ _ (fun b => b < W1.heap.size ∨ W4.heap.size ≤ b) (fun _ => False) rfl rfl hv5 hC5 (fun _ _ h => h) (fun _ h => h.elim) (by intro b hb; exact Or.inr (Nat.le_trans hb4s hb)) hb5 hb5.size (by omega) ?_; intro v6 W6 hv6 hb6 hgr6 hat6; clear hgr6 hat6; rw [← H1.out.2.2.1] at hv6; obtain ⟨A6, c6, rfl, hl8, hC6⟩ := Kd.R_reads hv6; clear hv5 hb5 hC5))
  have HB6 := Lib.hid (And.intro hb6 (Kd.C_below Hr.out.1 hb6))
  clear hb6 hv6
  refine (P.pyxref04_Expand.calls A0 c0 l0 A6 c6 (labelRow a1 l2 n) (n : Int) (labelOf l0 a1 l2 n) 0 _ HB6.out.2 hc0 hC6 hl8 HLR.out).mono ?_
  rintro e W7 ⟨v7, rfl, hR7, hb7⟩
  go_wp2
  go_ret2
  exact ⟨_, rfl, Kd.R_lower hR7 HB6.out.1.size, HB6.out.1.trans (hb7.mono HB6.out.1.size)⟩
def pyxlaw04_told.f (label : ByteArray) (context : List Int) (n : Int) : Option (List Int) :=
  if 0 ≤ n ∧ n ≤ 8160 ∧ byteOk context = true ∧ label.size ≤ 100000 ∧ context.length ≤ 100000 then some (labelRow label context n.toNat) else none
set_option maxRecDepth 100000 in
set_option maxHeartbeats 2000000 in
theorem pyxlaw04_told.calls (a1 : ByteArray) (A2 : Option Addr) (c2 : Nat) (l2 : List Int) (a3 : Int) (r : List Int) (w : World) (hr2 : Kd.C (Kd.int .u8) w A2 l2.length l2) (hc2 : l2.length ≤ c2) (h : pyxlaw04_told.f a1 l2 a3 = some r) :
    Calls Try.prog 27 #[.string a1, .slice A2 l2.length c2, .int .i64 a3] w fun e w' => ∃ v0_ : Value, e = .returned (v0_) ∧ Kd.R (Kd.int .u8) 5 w' w.heap.size (fun _ => True) v0_ r ∧ Below w.heap.size w w' := by
  unfold pyxlaw04_told.f at h
  split at h
  case isFalse => cases h
  case isTrue hok =>
  injection h with h
  subst h
  obtain ⟨h0, h1, o2, o4, o5⟩ := hok
  obtain ⟨n, rfl⟩ := Int.eq_ofNat_of_zero_le h0
  rw [Int.toNat_natCast]
  obtain ⟨t, ht⟩ : ∃ t : ByteArray, t = mlsS ++ a1 := ⟨_, rfl⟩
  have htb : bytesOf t = mls ++ bytesOf a1 := by rw [ht, bytesOf_append, mls_bytes]
  have htl : (bytesOf t).length = a1.size + 8 := by rw [htb, List.length_append, bytesOf_length]; exact Nat.add_comm _ _
  have hts : t.size = a1.size + 8 := by rw [← bytesOf_length, htl]
  have hrow1 : P.pyxref01_Row.f (bytesOf t) = some (rowB (bytesOf t), 0) := congrArg some (rowOf_small (bytesOf t) (by omega))
  have hrow2 : P.pyxref01_Row.f l2 = some (rowB l2, 0) := congrArg some (rowOf_small l2 (by omega))
  have hnum : P.pyxref01_Num.f (n : Int) 2 = some (numB n 2, 0) := by
    unfold P.pyxref01_Num.f
    exact congrArg some (numOf_small n 2 (by omega) (by omega) (by omega))
  have hl1 : (numB n 2).length = 2 := numB_length _ _
  have kb : ∀ W : World, (convert 9 22 (.string ({ data := #[77, 76, 83, 32, 49, 46, 48, 32] } ++ a1))).run Try.prog W = .ok (.slice (some ⟨W.heap.size, 0, none⟩) t.size (grownCap W t.size 0 5)) (Lib.bytesWorld W 5 t) := fun W => by
    rw [ht]
    exact print_bytes (P := Try.prog) 9 22 5 Try.underlying9 Try.underlying22 Try.underlying5 (mlsS ++ a1) W
  have hrw : labelRow a1 l2 n = numB n 2 ++ rowB (bytesOf t) ++ rowB l2 := by rw [htb]; rfl
  have hl3 := rowB_length (bytesOf t)
  rw [htl] at hl3
  have hl4 := rowB_length l2
  have HN := Lib.hid hnum
  have H1 := Lib.hid (And.intro hrow1 (And.intro hrow2 (And.intro hrw (And.intro htb (And.intro htl hts)))))
  have KB := Lib.hid kb
  have Hr := Lib.hid hr2
  clear hnum hrow1 hrow2 ht htb htl hts kb hr2 o2 hrw
  go_enter Try.func27, Try.ntmps27
  go_wp2_with fail
  refine (P.pyxref01_Num.calls (n : Int) 2 (numB n 2) 0 _ HN.out).mono ?_
  rintro e W1 ⟨v1, rfl, hR1, hb1⟩
  have hkb := KB.out W1
  have hcp := grownCap_ge W1 t.size 0 5
  have hC2 := bytes_C W1 t (by have := H1.out.2.2.2.2.2; omega)
  have hb2 := bytes_below hb1 hb1.size 5 t
  have hs2 := Lib.bytesWorld_size W1 5 t
  have hR2 : Kd.R (Kd.int .u8) 5 (Lib.bytesWorld W1 5 t) w.heap.size (fun b => b < W1.heap.size) v1 (numB n 2) :=
    Kd.R_mono (Kd.R_move (Kd.R_bound hR1) (fun k hk => Lib.bytesWorld_at_old W1 5 t k hk.2.2.1)) (fun k hk => hk.2.2.1)
  rw [H1.out.2.2.2.2.2] at hkb hcp
  generalize grownCap W1 (a1.size + 8) 0 5 = cp at *
  generalize Lib.bytesWorld W1 5 t = W2 at *
  have HS2 := Lib.hid hs2
  have H2 := Lib.hid (And.intro hC2 (And.intro hb2 hR2))
  have hlen := H1.out.2.2.2.2.1
  have HL := Lib.hid hlen
  clear hs2 hb1 hR1 hlen hC2 hb2 hR2
  have hcp' : (bytesOf t).length ≤ cp := by rw [HL.out]; exact hcp
  go_wp2_with fail
  rw [← HL.out]
  refine (P.pyxref01_Row.calls _ cp (bytesOf t) (rowB (bytesOf t)) 0 _ H2.out.1 hcp' H1.out.1).mono ?_
  rintro e W3 ⟨v3, rfl, hR3, hb3⟩
  have hr3 := Kd.R_below H2.out.2.2 hb3
  have hk3 := H2.out.2.1.trans (hb3.mono H2.out.2.1.size)
  have hs3 := hb3.size
  have H3 := Lib.hid (And.intro hr3 (And.intro hR3 hk3))
  clear hr3 hR3 hk3 hb3
  go_wp2_with fail
  refine (P.pyxref01_Row.calls A2 c2 l2 (rowB l2) 0 _ (Kd.C_below Hr.out H3.out.2.2) hc2 H1.out.2.1).mono ?_
  rintro e W4 ⟨v4, rfl, hR4, hb4⟩
  have hr4 := Kd.R_below H3.out.1 hb4
  have hq4 := Kd.R_below H3.out.2.1 hb4
  have hk4 := H3.out.2.2.trans (hb4.mono H3.out.2.2.size)
  have hs4 := hb4.size
  have hv1 : Kd.R (Kd.int .u8) 5 W4 w.heap.size (fun b => b < W1.heap.size ∨ W4.heap.size ≤ b) v1 (numB n 2) := Kd.R_mono hr4 (fun b hb => Or.inl hb)
  have hR4b := Kd.R_bound hR4
  obtain ⟨A3, c3, rfl, hl5, hC3⟩ := Kd.R_reads hq4
  obtain ⟨A4, c4, rfl, hl6, -⟩ := Kd.R_reads hR4
  have ho4 : ∀ b, (Value.slice A4 (rowB l2).length c4).ownBlock = some b → W3.heap.size ≤ b ∧ b < W4.heap.size := fun b hb => by have := hR4b.1 b hb; omega
  have HV := Lib.hid (And.intro hv1 (And.intro hR4 (And.intro ho4 (And.intro hk4 hC3))))
  clear hr4 hq4 hk4 hR4 hR4b ho4 hv1 H3 H2 hC3
  go_wp2_with (first
    | ((with_reducible refine gate_builtin (b := .append) (xs := #[.tmp 30, .tmp 31]) rfl ?_); at_builtin; refine Kd.R_append_rows (Kd.int .u8) (w0 := w) w.heap.size rfl (.tmp 30) (.tmp 31) 22 5 (.int .u8 0) 1 rfl Try.underlying22 B.info5 rfl (by decide) (by omega) v1 (numB n 2) (rowB (bytesOf t)) _ _ _ (fun b => b < W1.heap.size ∨ W4.heap.size ≤ b) (fun _ => False) rfl rfl HV.out.1 HV.out.2.2.2.2 (fun _ _ h => h) (fun _ h => h.elim) (by intro b hb; exact Or.inr hb) HV.out.2.2.2.1 HV.out.2.2.2.1.size (by omega) ?_; intro v5 W5 hv5 hb5 hgr5 hat5; (have hR5 := Kd.R_grown2 HV.out.2.1 rfl hgr5 (fun k hk e => by have h1 := HV.out.1.1 k hk; have h2 := HV.out.2.2.1 k e.symm; have := HS2.out; omega)); (have hC5 := (Kd.R_reads' hR5).2.2); (have hb4s := hgr5.size); clear hR5 hgr5 hat5; (have hl7 : (numB n 2 ++ rowB (bytesOf t)).length = 2 + (rowB (bytesOf t)).length := by rw [List.length_append, hl1]))
    | ((with_reducible refine gate_builtin (b := .append) (xs := #[.tmp 32, .tmp 33]) rfl ?_); at_builtin; refine Kd.R_append_rows (Kd.int .u8) (w0 := w) w.heap.size rfl (.tmp 32) (.tmp 33) 22 5 (.int .u8 0) 1 rfl Try.underlying22 B.info5 rfl (by decide) (by omega) v5 (numB n 2 ++ rowB (bytesOf t)) (rowB l2) _ _ _ (fun b => b < W1.heap.size ∨ W4.heap.size ≤ b) (fun _ => False) rfl rfl hv5 hC5 (fun _ _ h => h) (fun _ h => h.elim) (by intro b hb; exact Or.inr (Nat.le_trans hb4s hb)) hb5 hb5.size (by omega) ?_; intro v6 W6 hv6 hb6 hgr6 hat6; clear hgr6 hat6; rw [← H1.out.2.2.1] at hv6; clear hv5 hb5 hC5))
  go_ret
  exact ⟨_, rfl, Kd.R_mono hv6 (fun _ _ => trivial), hb6⟩
end P
end Go.Proofs.Ytpdgeanicciaiaa

/-! D0 -/
namespace Go.Proofs.Ytpdgeanicciaiaa.D
open Go.Proofs.Ytpdgeanicciaiaa.P
open Go.RowKit Go.Proofs.YtpdgeanicciaiaaW.PrintWords Go.Proofs.YtpdgeanicciaiaaW.PrintLast Go.Proofs.YtpdgeanicciaiaaW.PrintMore
attribute [local go_sem] max2_int min2_int max_two min_two max_three min_three max_four min_four   -- for this text's walks alone
set_option linter.unusedVariables false
set_option linter.unusedSimpArgs false



def errW : Option Int → Value
  | none => .nilIface
  | some c => .iface 0 (.int .i64 c)
theorem errW_none : errW none = .nilIface := rfl
theorem errW_some (c : Int) : errW (some c) = .iface 0 (.int .i64 c) := rfl

-- the values' own types

end Go.Proofs.Ytpdgeanicciaiaa.D

/-! D1 -/
namespace Go.Proofs.Ytpdgeanicciaiaa.D
open Go.Proofs.Ytpdgeanicciaiaa.P
open Go.RowKit Go.Proofs.YtpdgeanicciaiaaW.PrintWords Go.Proofs.YtpdgeanicciaiaaW.PrintLast Go.Proofs.YtpdgeanicciaiaaW.PrintMore
attribute [local go_sem] max2_int min2_int max_two min_two max_three min_three max_four min_four   -- for this text's walks alone
set_option linter.unusedVariables false
set_option linter.unusedSimpArgs false

-- NOT PRINTED: function 53 (kdf_first)

-- NOT PRINTED: function 16 (kdf_Expand)

-- NOT PRINTED: function 56 (byt_Num)

-- NOT PRINTED: function 95 (byt_wide)

-- NOT PRINTED: function 81 (byt_Len)

-- NOT PRINTED: function 57 (byt_Row)

/-! ### kdf_Derive: function 20 -/
def kdf_Derive.f (l0 : List Int) (a1 : ByteArray) : Option (List Int × Int) := (kdf_Label.f l0 a1 ([] : List Int) 32).bind fun bt101 => (some (bt101.1, bt101.2))
set_option maxHeartbeats 8000000 in
set_option maxRecDepth 100000 in
theorem kdf_Derive.calls (A0 : Option Addr) (c0 : Nat) (l0 : List Int) (a1 : ByteArray) (r1 : List Int) (r2 : Int) (w : World) (hr0 : Kd.C (Kd.int .u8) w A0 l0.length l0) (hc0 : l0.length ≤ c0) (h : kdf_Derive.f l0 a1 = some (r1, r2)) :
    Calls Try.prog 20 #[.slice A0 l0.length c0, .string a1] w fun e w' => ∃ v0_ : Value, e = .returned (.tuple #[v0_, .int .i64 r2]) ∧ Kd.R (Kd.int .u8) 5 w' w.heap.size (fun _ => True) v0_ r1 ∧ Below w.heap.size w w' := by
  have HR0 := Aside0.mk hr0
  have HC0 := Aside0.mk hc0
  clear hr0 hc0
  have HB := Aside0.mk (Below.refl w.heap.size w)
  have H : ((kdf_Label.f l0 a1 ([] : List Int) 32).bind fun bt101 => (some (bt101.1, bt101.2))) = some (r1, r2) := h
  clear h
  replace H := Option.bind_eq_some_iff.mp H
  obtain ⟨⟨t101, t102⟩, A30, H⟩ := H
  replace H : (some (t101, t102)) = some (r1, r2) := H
  have A3 := Aside0.mk A30
  clear A30
  simp only [Option.some.injEq, Prod.mk.injEq] at H
  obtain ⟨rfl, rfl⟩ := H
  go_enter Try.func20, Try.ntmps20
  go_wp2_with (first | ((with_reducible refine gate_callee (f := 18) rfl ?_); refine goesL_ (some 8) rfl rfl Try.func18 (by kernel_rfl) rfl #[.slice A0 l0.length c0, .string a1, .slice none 0 0, .int .i64 32] rfl (by (try simp only [List.map_toArray, List.map_cons, List.map_nil]); first | done | rfl | (simp only [List.length_drop, List.length_take]; rfl)) ?_; (refine (kdf_Label.calls _ _ l0 a1 _ _ ([] : List Int) 32 t101 t102 _ ?side1 ?side2 ?side3 ?side4 A3.out).mono ?_); (case side1 => repeat (first | exact HR0.out | (with_reducible refine Kd.C_alloc ?_ _) | (with_reducible refine Kd.C_drewN ?_ _) | (with_reducible refine Kd.C_drew ?_))); (case side2 => exact HC0.out); (case side3 => exact Kd.C_nil _ _); (case side4 => exact Nat.le_refl _); rintro e w4 ⟨v103, rfl, ho0, hb⟩; refine ⟨_, rfl, ?_⟩; have n0_ := Aside0.mk (Kd.R_lower ho0 (below_size (by repeat (first | (with_reducible first | exact HB.out | apply below_alloc | apply pw_below_drewN | apply below_drew1) | exact HB.out)))); have n1_ := Aside0.mk (below_step (by repeat (first | (with_reducible first | exact HB.out | apply below_alloc | apply pw_below_drewN | apply below_drew1) | exact HB.out)) hb); clear HB; have HO104 := n0_; have HB := n1_; clear n0_ n1_; (try clear hb); (try clear hb2); (try clear hk); (try clear hi); (try clear ho0)))
  go_ret2
  exact ⟨_, by first | rfl | (simp [errW_none, errW_some] <;> rfl) | (simp [*, errW_none, errW_some] <;> rfl), by (with_reducible repeat (first | apply Kd.R_alloc | apply Kd.R_drewN | apply Kd.R_drew)); exact HO104.out, by repeat (first | (with_reducible first | exact HB.out | apply below_alloc | apply pw_below_drewN | apply below_drew1) | exact HB.out)⟩

-- NOT PRINTED: function 74 (pyxref02_Pad)

-- NOT PRINTED: function 75 (pyxref02_keys)

-- NOT PRINTED: function 76 (pyxref02_Start)

-- NOT PRINTED: function 93 (pyxref02_word)

-- NOT PRINTED: function 94 (pyxref02_turn)

-- NOT PRINTED: function 77 (pyxref02_step)

-- NOT PRINTED: function 50 (pyxref02_Sum)

-- NOT PRINTED: function 61 (pyxref03_Key)

-- NOT PRINTED: function 62 (pyxref03_with)

-- NOT PRINTED: function 28 (pyxref03_Sum)

-- NOT PRINTED: function 17 (pyxref04_Expand)

-- NOT PRINTED: function 82 (pyxref01_power)

-- NOT PRINTED: function 58 (pyxref01_Num)

-- NOT PRINTED: function 78 (pyxref01_Len)

-- NOT PRINTED: function 51 (pyxref01_Row)

/-! ### pyxref04_Derive: function 21 -/
def pyxref04_Derive.f (l0 : List Int) (a1 : ByteArray) : Option (List Int × Int) := (pyxref04_Label.f l0 a1 ([] : List Int) 32).bind fun bt105 => (some (bt105.1, bt105.2))
set_option maxHeartbeats 8000000 in
set_option maxRecDepth 100000 in
theorem pyxref04_Derive.calls (A0 : Option Addr) (c0 : Nat) (l0 : List Int) (a1 : ByteArray) (r1 : List Int) (r2 : Int) (w : World) (hr0 : Kd.C (Kd.int .u8) w A0 l0.length l0) (hc0 : l0.length ≤ c0) (h : pyxref04_Derive.f l0 a1 = some (r1, r2)) :
    Calls Try.prog 21 #[.slice A0 l0.length c0, .string a1] w fun e w' => ∃ v0_ : Value, e = .returned (.tuple #[v0_, .int .i64 r2]) ∧ Kd.R (Kd.int .u8) 5 w' w.heap.size (fun _ => True) v0_ r1 ∧ Below w.heap.size w w' := by
  have HR0 := Aside0.mk hr0
  have HC0 := Aside0.mk hc0
  clear hr0 hc0
  have HB := Aside0.mk (Below.refl w.heap.size w)
  have H : ((pyxref04_Label.f l0 a1 ([] : List Int) 32).bind fun bt105 => (some (bt105.1, bt105.2))) = some (r1, r2) := h
  clear h
  replace H := Option.bind_eq_some_iff.mp H
  obtain ⟨⟨t105, t106⟩, A30, H⟩ := H
  replace H : (some (t105, t106)) = some (r1, r2) := H
  have A3 := Aside0.mk A30
  clear A30
  simp only [Option.some.injEq, Prod.mk.injEq] at H
  obtain ⟨rfl, rfl⟩ := H
  go_enter Try.func21, Try.ntmps21
  go_wp2_with (first | ((with_reducible refine gate_callee (f := 19) rfl ?_); refine goesL_ (some 8) rfl rfl Try.func19 (by kernel_rfl) rfl #[.slice A0 l0.length c0, .string a1, .slice none 0 0, .int .i64 32] rfl (by (try simp only [List.map_toArray, List.map_cons, List.map_nil]); first | done | rfl | (simp only [List.length_drop, List.length_take]; rfl)) ?_; (refine (pyxref04_Label.calls _ _ l0 a1 _ _ ([] : List Int) 32 t105 t106 _ ?side1 ?side2 ?side3 ?side4 A3.out).mono ?_); (case side1 => repeat (first | exact HR0.out | (with_reducible refine Kd.C_alloc ?_ _) | (with_reducible refine Kd.C_drewN ?_ _) | (with_reducible refine Kd.C_drew ?_))); (case side2 => exact HC0.out); (case side3 => exact Kd.C_nil _ _); (case side4 => exact Nat.le_refl _); rintro e w4 ⟨v107, rfl, ho0, hb⟩; refine ⟨_, rfl, ?_⟩; have n0_ := Aside0.mk (Kd.R_lower ho0 (below_size (by repeat (first | (with_reducible first | exact HB.out | apply below_alloc | apply pw_below_drewN | apply below_drew1) | exact HB.out)))); have n1_ := Aside0.mk (below_step (by repeat (first | (with_reducible first | exact HB.out | apply below_alloc | apply pw_below_drewN | apply below_drew1) | exact HB.out)) hb); clear HB; have HO108 := n0_; have HB := n1_; clear n0_ n1_; (try clear hb); (try clear hb2); (try clear hk); (try clear hi); (try clear ho0)))
  go_ret2
  exact ⟨_, by first | rfl | (simp [errW_none, errW_some] <;> rfl) | (simp [*, errW_none, errW_some] <;> rfl), by (with_reducible repeat (first | apply Kd.R_alloc | apply Kd.R_drewN | apply Kd.R_drew)); exact HO108.out, by repeat (first | (with_reducible first | exact HB.out | apply below_alloc | apply pw_below_drewN | apply below_drew1) | exact HB.out)⟩

/-! ### pyxref04_Out: function 49 -/
def pyxref04_Out.f (l0 : List Int) (a1 : ByteArray) : Option (List Int) := (pyxref04_Derive.f l0 a1).bind fun bt109 => (some bt109.1)
set_option maxHeartbeats 8000000 in
set_option maxRecDepth 100000 in
theorem pyxref04_Out.calls (A0 : Option Addr) (c0 : Nat) (l0 : List Int) (a1 : ByteArray) (r : List Int) (w : World) (hr0 : Kd.C (Kd.int .u8) w A0 l0.length l0) (hc0 : l0.length ≤ c0) (h : pyxref04_Out.f l0 a1 = some r) :
    Calls Try.prog 49 #[.slice A0 l0.length c0, .string a1] w fun e w' => ∃ v0_ : Value, e = .returned (v0_) ∧ Kd.R (Kd.int .u8) 5 w' w.heap.size (fun _ => True) v0_ r ∧ Below w.heap.size w w' := by
  have HR0 := Aside0.mk hr0
  have HC0 := Aside0.mk hc0
  clear hr0 hc0
  have HB := Aside0.mk (Below.refl w.heap.size w)
  have H : ((pyxref04_Derive.f l0 a1).bind fun bt109 => (some bt109.1)) = some r := h
  clear h
  replace H := Option.bind_eq_some_iff.mp H
  obtain ⟨⟨t109, t110⟩, A30, H⟩ := H
  replace H : (some t109) = some r := H
  have A3 := Aside0.mk A30
  clear A30
  obtain rfl := Option.some.inj H
  go_enter Try.func49, Try.ntmps49
  go_wp2_with (first | ((with_reducible refine gate_callee (f := 21) rfl ?_); refine goesL_ (some 10) rfl rfl Try.func21 (by kernel_rfl) rfl #[.slice A0 l0.length c0, .string a1] rfl (by (try simp only [List.map_toArray, List.map_cons, List.map_nil]); first | done | rfl | (simp only [List.length_drop, List.length_take]; rfl)) ?_; (with_reducible refine (pyxref04_Derive.calls _ _ l0 a1 t109 t110 _ ?side1 ?side2 A3.out).mono ?_); (case side1 => repeat (first | exact HR0.out | (with_reducible refine Kd.C_alloc ?_ _) | (with_reducible refine Kd.C_drewN ?_ _) | (with_reducible refine Kd.C_drew ?_))); (case side2 => exact HC0.out); rintro e w4 ⟨v111, rfl, ho0, hb⟩; refine ⟨_, rfl, ?_⟩; have n0_ := Aside0.mk (Kd.R_lower ho0 (below_size (by repeat (first | (with_reducible first | exact HB.out | apply below_alloc | apply pw_below_drewN | apply below_drew1) | exact HB.out)))); have n1_ := Aside0.mk (below_step (by repeat (first | (with_reducible first | exact HB.out | apply below_alloc | apply pw_below_drewN | apply below_drew1) | exact HB.out)) hb); clear HB; have HO112 := n0_; have HB := n1_; clear n0_ n1_; (try clear hb); (try clear hb2); (try clear hk); (try clear hi); (try clear ho0)))
  go_ret
  exact ⟨_, by first | rfl | (simp [errW_none, errW_some] <;> rfl) | (simp [*, errW_none, errW_some] <;> rfl), by (with_reducible repeat (first | apply Kd.R_alloc | apply Kd.R_drewN | apply Kd.R_drew)); exact HO112.out, by repeat (first | (with_reducible first | exact HB.out | apply below_alloc | apply pw_below_drewN | apply below_drew1) | exact HB.out)⟩

end Go.Proofs.Ytpdgeanicciaiaa.D

/-! KdfD -/
namespace Go.Proofs.Ytpdgeanicciaiaa
set_option linter.unusedVariables false
set_option linter.unusedSimpArgs false
open Go.RowKit Go.Proofs.YtpdgeanicciaiaaW.PrintWords Go.Proofs.YtpdgeanicciaiaaW.PrintLast Go.Proofs.YtpdgeanicciaiaaW.PrintMore Iter

theorem labelOf_length (secret : List Int) (label : ByteArray) (context : List Int) (n : Nat) : (labelOf secret label context n).length = n := expandOf_length _ _ _
theorem byteOk_labelOf (secret : List Int) (label : ByteArray) (context : List Int) (n : Nat) : byteOk (labelOf secret label context n) = true := byteOk_expandOf _ _ _
theorem label_some (secret : List Int) (label : ByteArray) (context : List Int) (n : Nat) (hn : n ≤ 8160) (o1 : byteOk secret = true) (o2 : byteOk context = true) (l1 : secret.length ≤ 900000) (l2 : label.size ≤ 100000) (l3 : context.length ≤ 100000) :
    P.kdf_Label.f secret label context (n : Int) = some (labelOf secret label context n, 0) := by
  unfold P.kdf_Label.f
  rw [if_neg (by omega), if_neg (by omega), if_pos ⟨o1, o2, l1, l2, l3⟩, Int.toNat_natCast]
namespace P
def kdf_Derive.f (secret : List Int) (label : ByteArray) : Option (List Int × Int) := if byteOk secret = true ∧ secret.length ≤ 900000 ∧ label.size ≤ 100000 then some (labelOf secret label [] 32, 0) else none
theorem kdf_Derive.calls (A0 : Option Addr) (c0 : Nat) (l0 : List Int) (a1 : ByteArray) (r1 : List Int) (r2 : Int) (w : World) (hr0 : Kd.C (Kd.int .u8) w A0 l0.length l0) (hc0 : l0.length ≤ c0) (h : kdf_Derive.f l0 a1 = some (r1, r2)) :
    Calls Try.prog 20 #[.slice A0 l0.length c0, .string a1] w fun e w' => ∃ v0_ : Value, e = .returned (.tuple #[v0_, .int .i64 r2]) ∧ Kd.R (Kd.int .u8) 5 w' w.heap.size (fun _ => True) v0_ r1 ∧ Below w.heap.size w w' := by
  unfold kdf_Derive.f at h
  split at h
  case isFalse => cases h
  case isTrue hok =>
  refine D.kdf_Derive.calls A0 c0 l0 a1 r1 r2 w hr0 hc0 ?_
  unfold D.kdf_Derive.f
  rw [show (32 : Int) = ((32 : Nat) : Int) from rfl, label_some l0 a1 [] 32 (by omega) hok.1 rfl hok.2.1 hok.2.2 (by simp), Option.bind_some]
  exact h
def pyxref04_Derive.f (secret : List Int) (label : ByteArray) : Option (List Int × Int) := kdf_Derive.f secret label
theorem pyxref04_Derive.calls (A0 : Option Addr) (c0 : Nat) (l0 : List Int) (a1 : ByteArray) (r1 : List Int) (r2 : Int) (w : World) (hr0 : Kd.C (Kd.int .u8) w A0 l0.length l0) (hc0 : l0.length ≤ c0) (h : pyxref04_Derive.f l0 a1 = some (r1, r2)) :
    Calls Try.prog 21 #[.slice A0 l0.length c0, .string a1] w fun e w' => ∃ v0_ : Value, e = .returned (.tuple #[v0_, .int .i64 r2]) ∧ Kd.R (Kd.int .u8) 5 w' w.heap.size (fun _ => True) v0_ r1 ∧ Below w.heap.size w w' := by
  unfold pyxref04_Derive.f kdf_Derive.f at h
  split at h
  case isFalse => cases h
  case isTrue hok =>
  refine D.pyxref04_Derive.calls A0 c0 l0 a1 r1 r2 w hr0 hc0 ?_
  unfold D.pyxref04_Derive.f P.pyxref04_Label.f
  rw [show (32 : Int) = ((32 : Nat) : Int) from rfl, label_some l0 a1 [] 32 (by omega) hok.1 rfl hok.2.1 hok.2.2 (by simp), Option.bind_some]
  exact h
def pyxref04_Out.f (secret : List Int) (label : ByteArray) : Option (List Int) := if byteOk secret = true ∧ secret.length ≤ 900000 ∧ label.size ≤ 100000 then some (labelOf secret label [] 32) else none
theorem pyxref04_Out.calls (A0 : Option Addr) (c0 : Nat) (l0 : List Int) (a1 : ByteArray) (r : List Int) (w : World) (hr0 : Kd.C (Kd.int .u8) w A0 l0.length l0) (hc0 : l0.length ≤ c0) (h : pyxref04_Out.f l0 a1 = some r) :
    Calls Try.prog 49 #[.slice A0 l0.length c0, .string a1] w fun e w' => ∃ v0_ : Value, e = .returned (v0_) ∧ Kd.R (Kd.int .u8) 5 w' w.heap.size (fun _ => True) v0_ r ∧ Below w.heap.size w w' := by
  unfold pyxref04_Out.f at h
  split at h
  case isFalse => cases h
  case isTrue hok =>
  refine D.pyxref04_Out.calls A0 c0 l0 a1 r w hr0 hc0 ?_
  unfold D.pyxref04_Out.f D.pyxref04_Derive.f P.pyxref04_Label.f
  rw [show (32 : Int) = ((32 : Nat) : Int) from rfl, label_some l0 a1 [] 32 (by omega) hok.1 rfl hok.2.1 hok.2.2 (by simp), Option.bind_some, Option.bind_some]
  exact h
end P

/-! The examples. -/
def exPw : List Int := [112, 97, 115, 115, 119, 111, 114, 100]
def exSl : List Int := [115, 97, 108, 116]
def exSalt : List Int := [0, 1, 2, 3, 4, 5, 6, 7, 8, 9, 10, 11, 12]
def saltTo (k : Nat) : List Int := (List.range (min k 13)).map fun (i : Nat) => (i : Int)
theorem saltTo_succ (k : Nat) (h : k < 13) : saltTo k ++ [(k : Int)] = saltTo (k + 1) := by
  unfold saltTo
  rw [Nat.min_eq_left (by omega), Nat.min_eq_left (by omega), List.range_succ, List.map_append]
  rfl
theorem saltTo_late (k : Nat) (h : 13 ≤ k) : saltTo (k + 1) = saltTo k := by
  unfold saltTo
  rw [Nat.min_eq_right (by omega), Nat.min_eq_right (by omega)]
theorem saltTo_le (k : Nat) : (saltTo k).length ≤ 13 := by
  unfold saltTo
  rw [List.length_map, List.length_range]
  omega
theorem saltTo_end : saltTo 22 = exSalt := by decide +kernel
def exA : List Int := [18, 15, 182, 207, 252, 248, 179, 44, 67, 231, 34, 82, 86, 196, 248, 55, 168, 101, 72, 201, 44, 204, 53, 72, 8, 5, 152, 124, 183, 11, 225, 123]
def exB : List Int := [174, 77, 12, 149, 175, 107, 70, 211, 45, 10, 223, 249, 40, 240, 109, 208, 42, 48, 63, 142, 243, 194, 81, 223, 214, 226, 216, 90, 149, 71, 76, 67]
def exX : List Int := [7, 119, 9, 54, 44, 46, 50, 223, 13, 220, 63, 13, 196, 123, 186, 99, 144, 182, 199, 59, 181, 15, 156, 49, 34, 236, 132, 74, 215, 194, 179, 229]
theorem ex_pass1 : P.kdf_Pass.f exPw exSl 1 32 = some (exA, 0) := by decide +kernel
theorem ex_pass2 : P.kdf_Pass.f exPw exSl 2 32 = some (exB, 0) := by decide +kernel
theorem ex_extract : P.kdf_Extract.f exSalt (List.replicate 22 11) = some exX := by decide +kernel
theorem ex_expand : P.kdf_Expand.f exX [240, 241] 40 = some (expandOf exX [240, 241] 40, 0) := by decide +kernel
theorem ex_derive : P.kdf_Derive.f (List.replicate 22 11) ⟨#[120]⟩ = some (labelOf (List.replicate 22 11) ⟨#[120]⟩ [] 32, 0) := by
  unfold P.kdf_Derive.f
  rw [if_pos (by decide +kernel)]
theorem ex_textA : P.pyxref01_Text.f exA = some ⟨#[49, 50, 48, 102, 98, 54, 99, 102, 102, 99, 102, 56, 98, 51, 50, 99, 52, 51, 101, 55, 50, 50, 53, 50, 53, 54, 99, 52, 102, 56, 51, 55, 97, 56, 54, 53, 52, 56, 99, 57, 50, 99, 99, 99, 51, 53, 52, 56, 48, 56, 48, 53, 57, 56, 55, 99, 98, 55, 48, 98, 101, 49, 55, 98]⟩ := by decide +kernel
theorem ex_textB : P.pyxref01_Text.f exB = some ⟨#[97, 101, 52, 100, 48, 99, 57, 53, 97, 102, 54, 98, 52, 54, 100, 51, 50, 100, 48, 97, 100, 102, 102, 57, 50, 56, 102, 48, 54, 100, 100, 48, 50, 97, 51, 48, 51, 102, 56, 101, 102, 51, 99, 50, 53, 49, 100, 102, 100, 54, 101, 50, 100, 56, 53, 97, 57, 53, 52, 55, 52, 99, 52, 51]⟩ := by decide +kernel
theorem ex_textX : P.pyxref01_Text.f exX = some ⟨#[48, 55, 55, 55, 48, 57, 51, 54, 50, 99, 50, 101, 51, 50, 100, 102, 48, 100, 100, 99, 51, 102, 48, 100, 99, 52, 55, 98, 98, 97, 54, 51, 57, 48, 98, 54, 99, 55, 51, 98, 98, 53, 48, 102, 57, 99, 51, 49, 50, 50, 101, 99, 56, 52, 52, 97, 100, 55, 99, 50, 98, 51, 101, 53]⟩ := by decide +kernel
end Go.Proofs.Ytpdgeanicciaiaa

/-! KdfShown -/
namespace Go.Proofs.Ytpdgeanicciaiaa
set_option linter.unusedVariables false
set_option linter.unusedSimpArgs false
open Go.RowKit Go.Proofs.YtpdgeanicciaiaaW.PrintWords Go.Proofs.YtpdgeanicciaiaaW.PrintLast Go.Proofs.YtpdgeanicciaiaaW.PrintMore Iter

theorem own_apart {v v' u : Value} {s : Nat} (hd : ∀ g, u.ownBlock = some g → v.ownBlock ≠ some g) (hu : ∀ g, u.ownBlock = some g → g < s) (hat : v'.ownBlock = v.ownBlock ∨ ∃ b, v'.ownBlock = some b ∧ s ≤ b) : ∀ g, u.ownBlock = some g → v'.ownBlock ≠ some g := by
  intro g hg e
  rcases hat with h | ⟨b, h, hb⟩
  · exact hd g hg (h ▸ e)
  · rw [h] at e
    injection e with e
    have := hu g hg
    omega
theorem apart_symm {v u : Value} (hd : ∀ g, u.ownBlock = some g → v.ownBlock ≠ some g) : ∀ g, v.ownBlock = some g → u.ownBlock ≠ some g := fun g h1 h2 => hd g h2 h1
theorem own_lt {W : World} {base : Nat} {v : Value} {xs : List Int} (h : Kd.R (Kd.int .u8) 5 W base (fun _ => True) v xs) : ∀ g, v.ownBlock = some g → g < W.heap.size := fun g hg => ((Kd.R_bound h).1 g hg).2.2.1

theorem ex_expand' : ∃ x : List Int, P.kdf_Expand.f exX [240, 241] 40 = some (x, 0) ∧ x.length = 40 := ⟨_, ex_expand, expandOf_length _ _ _⟩
theorem ex_derive' : ∃ x : List Int, P.kdf_Derive.f (List.replicate 22 11) ⟨#[120]⟩ = some (x, 0) ∧ x.length = 32 := ⟨_, ex_derive, labelOf_length _ _ _ _⟩
namespace P
def pyxlaw04_shown.f : Option Bool := some true
set_option maxRecDepth 100000 in
set_option maxHeartbeats 4000000 in
theorem pyxlaw04_shown.calls (r : Bool) (w : World) (h : pyxlaw04_shown.f = some r) :
    Calls Try.prog 15 #[] w fun e w' => e = .returned (.bool r) ∧ Below w.heap.size w w' := by
  injection h with h
  subst h
  have kc := fun (w : World) (C : Array Value) (n c : Nat) => Lib.run_convert_bytes_const (P := Try.prog) w 22 5 C n c Try.underlying22 Try.underlying5
  have kc2 : ∀ (w : World) (D : Obj) (C : Array Value) (n c : Nat), (convert 22 22 (.slice (some ⟨w.heap.size + 1, 0, none⟩) n c)).run Try.prog ((w.alloc D).alloc (.cells C 5)) = .ok (.slice (some ⟨w.heap.size + 1, 0, none⟩) n c) ((w.alloc D).alloc (.cells C 5 (C.size, C.size + 1))) := fun w D C n c => by
    have h := kc (w.alloc D) C n c
    rw [World.size_alloc] at h
    exact h
  have kc := Lib.hid (And.intro kc kc2)
  clear kc2
  have hemp : ∀ W : World, w.heap.size ≤ W.heap.size → Kd.R (Kd.int .u8) 5 (W.alloc (.cells #[] 5)) w.heap.size (fun b => b = W.heap.size) (.slice (some ⟨W.heap.size, 0, none⟩) 0 0) [] := fun W hW => Kd.R_of_own (enc := Value.int .u8) (h1 := fun _ => rfl) (xs := []) (World.ownsRow_made (base := w.heap.size) (e := 5) (size := 1) W #[] 0 hW (by decide) rfl) (fun b hb => by cases hb; rfl)
  have h1 := Kd.R_alloc (hemp w (Nat.le_refl _)) (.cells #[] 5)
  have h2 := hemp (w.alloc (.cells #[] 5)) (by simp)
  have hb := ((Below.refl w.heap.size w).alloc (Nat.le_refl _) (.cells #[] 5)).alloc (by simp) (.cells #[] 5)
  rw [World.size_alloc] at h2
  have H := Lib.hid (And.intro h1 (And.intro h2 hb))
  clear h1 h2 hb hemp
  go_enter Try.func15, Try.ntmps15
  go_wp2
  go_loopw [1, 2, 3] (fun v1 v2 i wr => ∃ k : Nat, k ≤ 22 ∧ i = .int .i64 k ∧ Aside0 (Kd.R (Kd.int .u8) 5 wr w.heap.size (fun _ => True) v1 (saltTo k)) ∧ Aside0 (Kd.R (Kd.int .u8) 5 wr w.heap.size (fun _ => True) v2 (List.replicate k 11)) ∧ Aside0 (∀ g, v1.ownBlock = some g → v2.ownBlock ≠ some g) ∧ Below w.heap.size w wr) (fun _ _ i _ => 22 - (intOf i).toNat)
  case atStart => exact ⟨0, Nat.zero_le _, rfl, ⟨Kd.R_mono H.out.1 (fun _ _ => trivial)⟩, ⟨Kd.R_mono H.out.2.1 (fun _ _ => trivial)⟩, ⟨by simp [Value.ownBlock]⟩, H.out.2.2⟩
  case round =>
    clear H
    obtain ⟨k, hk, rfl, hv1, hv2, hd, hb⟩ := hrel
    by_cases hlt : k < 22
    · have e1 : List.replicate k (11 : Int) ++ [11] = List.replicate (k + 1) 11 := (List.replicate_succ' ..).symm
      have l2 : (List.replicate k (11 : Int)).length = k := List.length_replicate
      have hc := c_marked wr 5 (0, 0) [11] (by decide)
      have hb1 := hb.alloc hb.size (Obj.cells #[Value.int IntKind.u8 11] 5)
      have hv1' := Kd.R_alloc hv1.out (Obj.cells #[Value.int IntKind.u8 11] 5)
      have hv2' := Kd.R_alloc hv2.out (Obj.cells #[Value.int IntKind.u8 11] 5)
      have H := Lib.hid (And.intro hc (And.intro hb1 (And.intro hv1' (And.intro hv2' (And.intro hd.out (And.intro e1 l2))))))
      clear hc hb1 hv1' hv2' hv1 hv2 hd hb e1 l2
      have l3 := saltTo_le k
      by_cases h13 : k < 13
      · have e2 := Lib.hid (saltTo_succ k h13)
        have i0 : (0 : Int) ≤ (k : Int) := by omega
        have i3 : (k : Int) < 256 := by omega
        have i1 : (k : Int) < 22 := by omega
        have i2 : (k : Int) < 13 := by omega
        go_wp2_with (first
          | ((with_reducible refine gate_builtin (b := .append) (xs := #[.tmp 18, .tmp 19]) rfl ?_); at_builtin; go_must (refine Kd.R_append_rows (Kd.int .u8) (w0 := w) w.heap.size rfl (.tmp 18) (.tmp 19) 22 5 (.int .u8 0) 1 rfl Try.underlying22 B.info5 rfl (by decide) (by omega) _ (List.replicate k 11) [11] _ _ _ (fun _ => True) (fun _ => False) rfl rfl H.out.2.2.2.1 H.out.1 (fun _ _ h => h) (fun _ h => h.elim) (fun _ _ => trivial) H.out.2.1 H.out.2.1.size (by rw [H.out.2.2.2.2.2.2]; omega) ?_; intro v5 W5 hv5 hb5 hgr5 hat5; rw [H.out.2.2.2.2.2.1] at hv5; (have hs5 := Kd.R_grown2 H.out.2.2.1 rfl hgr5 (fun g hg e => H.out.2.2.2.2.1 g e.symm hg)); (have hd5 := own_apart H.out.2.2.2.2.1 (own_lt H.out.2.2.1) hat5); clear hgr5 hat5; (have hc5 := c_marked W5 5 (0, 0) [(k : Int)] (by simp)); (have H5 := Lib.hid (And.intro hc5 (And.intro (hb5.alloc hb5.size (Obj.cells #[Value.int IntKind.u8 (k : Int)] 5)) (And.intro (Kd.R_alloc hs5 (Obj.cells #[Value.int IntKind.u8 (k : Int)] 5)) (And.intro (Kd.R_alloc hv5 (Obj.cells #[Value.int IntKind.u8 (k : Int)] 5)) hd5))))); clear hc5 hs5 hv5 hd5 hb5))
          | ((with_reducible refine gate_builtin (b := .append) (xs := #[.tmp 23, .tmp 26]) rfl ?_); at_builtin; go_must (refine Kd.R_append_rows (Kd.int .u8) (w0 := w) w.heap.size rfl (.tmp 23) (.tmp 26) 22 5 (.int .u8 0) 1 rfl Try.underlying22 B.info5 rfl (by decide) (by omega) _ (saltTo k) [(k : Int)] _ _ _ (fun _ => True) (fun _ => False) rfl rfl H5.out.2.2.1 H5.out.1 (fun _ _ h => h) (fun _ h => h.elim) (fun _ _ => trivial) H5.out.2.1 H5.out.2.1.size (by omega) ?_; intro v6 W6 hv6 hb6 hgr6 hat6; rw [e2.out] at hv6; (have hs6 := Kd.R_grown2 H5.out.2.2.2.1 rfl hgr6 (fun g hg e => H5.out.2.2.2.2 g hg e.symm)); (have hd6 := apart_symm (own_apart (apart_symm H5.out.2.2.2.2) (own_lt H5.out.2.2.2.1) hat6)); clear hgr6 hat6; (have H6 := Lib.hid (And.intro hv6 (And.intro hs6 (And.intro hd6 hb6)))); clear hv6 hs6 hd6 hb6)))
        exact ⟨⟨k + 1, by omega, by go_num, ⟨H6.out.1⟩, ⟨H6.out.2.1⟩, ⟨H6.out.2.2.1⟩, H6.out.2.2.2⟩, by simp [intOf]; omega⟩
      · have e2 := Lib.hid (saltTo_late k (by omega))
        have i1 : (k : Int) < 22 := by omega
        have i2 : ¬ (k : Int) < 13 := by omega
        go_wp2_with (((with_reducible refine gate_builtin (b := .append) (xs := #[.tmp 18, .tmp 19]) rfl ?_); at_builtin; go_must (refine Kd.R_append_rows (Kd.int .u8) (w0 := w) w.heap.size rfl (.tmp 18) (.tmp 19) 22 5 (.int .u8 0) 1 rfl Try.underlying22 B.info5 rfl (by decide) (by omega) _ (List.replicate k 11) [11] _ _ _ (fun _ => True) (fun _ => False) rfl rfl H.out.2.2.2.1 H.out.1 (fun _ _ h => h) (fun _ h => h.elim) (fun _ _ => trivial) H.out.2.1 H.out.2.1.size (by rw [H.out.2.2.2.2.2.2]; omega) ?_; intro v5 W5 hv5 hb5 hgr5 hat5; rw [H.out.2.2.2.2.2.1] at hv5; (have hs5 := Kd.R_grown2 H.out.2.2.1 rfl hgr5 (fun g hg e => H.out.2.2.2.2.1 g e.symm hg)); (have hd5 := own_apart H.out.2.2.2.2.1 (own_lt H.out.2.2.1) hat5); clear hgr5 hat5; (have H5 := Lib.hid (And.intro hs5 (And.intro hv5 (And.intro hd5 hb5)))); clear hs5 hv5 hd5 hb5)))
        exact ⟨⟨k + 1, by omega, by go_num, ⟨by rw [e2.out]; exact H5.out.1⟩, ⟨H5.out.2.1⟩, ⟨H5.out.2.2.1⟩, H5.out.2.2.2⟩, by simp [intOf]; omega⟩
    · obtain rfl : k = 22 := by omega
      have hs1 := hv1.out
      have hs2 := hv2.out
      rw [saltTo_end] at hs1
      obtain ⟨sec, hsec⟩ : ∃ s : List Int, s = List.replicate 22 11 := ⟨_, rfl⟩
      rw [← hsec] at hs2
      obtain ⟨xe, hxe, hxel⟩ := ex_expand'
      obtain ⟨xd, hxd, hxdl⟩ := ex_derive'
      have hxx := ex_extract
      rw [← hsec] at hxd hxx
      have HE := Lib.hid (And.intro hxx (And.intro hxe (And.intro hxel (And.intro hxd hxdl))))
      clear hsec hv1 hv2 hd hxe hxel hxd hxdl hxx
      obtain ⟨A1, c1, rfl, hl1, hC1⟩ := Kd.R_reads hs1
      obtain ⟨A2, c2, rfl, hl2, hC2⟩ := Kd.R_reads hs2
      clear hs1 hs2
      have hp := c_marked wr 5 (8, 9) exPw (by decide)
      have hq := Kd.C_alloc hp (Obj.cells (nums .u8 exSl).toArray 5 (4, 5))
      have hr := c_marked (wr.alloc (Obj.cells (nums .u8 exPw).toArray 5 (8, 9))) 5 (4, 5) exSl (by decide)
      rw [World.size_alloc] at hr
      have hb9 := (hb.alloc hb.size (Obj.cells (nums .u8 exPw).toArray 5 (8, 9))).alloc (by rw [World.size_alloc]; have := hb.size; omega) (Obj.cells (nums .u8 exSl).toArray 5 (4, 5))
      have hx1 := Kd.C_alloc (Kd.C_alloc hC1 (Obj.cells (nums .u8 exPw).toArray 5 (8, 9))) (Obj.cells (nums .u8 exSl).toArray 5 (4, 5))
      have hx2 := Kd.C_alloc (Kd.C_alloc hC2 (Obj.cells (nums .u8 exPw).toArray 5 (8, 9))) (Obj.cells (nums .u8 exSl).toArray 5 (4, 5))
      have H9 := Lib.hid (And.intro hq (And.intro hr (And.intro hb9 (And.intro hx1 hx2))))
      clear hp hq hr hb9 hx1 hx2 hC1 hC2 hb
      have kd1 := kc.out.1
      have kd2 := kc.out.2
      go_wp2_with fail
      clear kd1 kd2
      refine (kdf_Pass.calls (some ⟨wr.heap.size, 0, none⟩) 8 exPw (some ⟨wr.heap.size + 1, 0, none⟩) 4 exSl 1 32 exA 0 _ H9.out.1 (by decide) H9.out.2.1 (by decide) ex_pass1).mono ?_
      rintro e W2 ⟨v2, rfl, hR2, hb2⟩
      obtain ⟨Aa, ca, rfl, hla, hCa⟩ := Kd.R_reads hR2
      have hx1 := Kd.C_below H9.out.2.2.2.1 hb2
      have hx2 := Kd.C_below H9.out.2.2.2.2 hb2
      have hw2 := H9.out.2.2.1.trans (hb2.mono H9.out.2.2.1.size)
      clear H9 hR2 hb2
      have hp := c_marked W2 5 (8, 9) exPw (by decide)
      have hq := Kd.C_alloc hp (Obj.cells (nums .u8 exSl).toArray 5 (4, 5))
      have hr := c_marked (W2.alloc (Obj.cells (nums .u8 exPw).toArray 5 (8, 9))) 5 (4, 5) exSl (by decide)
      rw [World.size_alloc] at hr
      have hb9 := (hw2.alloc hw2.size (Obj.cells (nums .u8 exPw).toArray 5 (8, 9))).alloc (by rw [World.size_alloc]; have := hw2.size; omega) (Obj.cells (nums .u8 exSl).toArray 5 (4, 5))
      have hx1 := Kd.C_alloc (Kd.C_alloc hx1 (Obj.cells (nums .u8 exPw).toArray 5 (8, 9))) (Obj.cells (nums .u8 exSl).toArray 5 (4, 5))
      have hx2 := Kd.C_alloc (Kd.C_alloc hx2 (Obj.cells (nums .u8 exPw).toArray 5 (8, 9))) (Obj.cells (nums .u8 exSl).toArray 5 (4, 5))
      have hxa := Kd.C_alloc (Kd.C_alloc hCa (Obj.cells (nums .u8 exPw).toArray 5 (8, 9))) (Obj.cells (nums .u8 exSl).toArray 5 (4, 5))
      have H9 := Lib.hid (And.intro hq (And.intro hr (And.intro hb9 (And.intro hx1 (And.intro hx2 hxa)))))
      clear hp hq hr hb9 hx1 hx2 hxa hCa hw2
      have kd1 := kc.out.1
      have kd2 := kc.out.2
      go_wp2_with fail
      clear kd1 kd2
      refine (kdf_Pass.calls (some ⟨W2.heap.size, 0, none⟩) 8 exPw (some ⟨W2.heap.size + 1, 0, none⟩) 4 exSl 2 32 exB 0 _ H9.out.1 (by decide) H9.out.2.1 (by decide) ex_pass2).mono ?_
      rintro e W3 ⟨v3, rfl, hR3, hb3⟩
      obtain ⟨Ab, cb, rfl, hlb, hCb⟩ := Kd.R_reads hR3
      have hx1 := Kd.C_below H9.out.2.2.2.1 hb3
      have hx2 := Kd.C_below H9.out.2.2.2.2.1 hb3
      have hxa := Kd.C_below H9.out.2.2.2.2.2 hb3
      have hw3 := H9.out.2.2.1.trans (hb3.mono H9.out.2.2.1.size)
      have H3 := Lib.hid (And.intro hx1 (And.intro hx2 (And.intro hxa (And.intro hCb hw3))))
      clear H9 hR3 hb3 hx1 hx2 hxa hCb hw3
      go_wp2_with fail
      refine (kdf_Extract.calls A1 c1 exSalt A2 c2 sec exX _ H3.out.1 hl1 H3.out.2.1 hl2 HE.out.1).mono ?_
      rintro e W4 ⟨v4, rfl, hR4, hb4⟩
      obtain ⟨A4, c4, rfl, hl4, hC4⟩ := Kd.R_reads hR4
      have hq := Kd.C_alloc hC4 (Obj.cells (nums .u8 [240, 241]).toArray 5)
      have hr := c_marked W4 5 (0, 0) [240, 241] (by decide)
      have hw4 := H3.out.2.2.2.2.trans (hb4.mono H3.out.2.2.2.2.size)
      have hx1 := Kd.C_alloc (Kd.C_below H3.out.1 hb4) (Obj.cells (nums .u8 [240, 241]).toArray 5)
      have hx2 := Kd.C_alloc (Kd.C_below H3.out.2.1 hb4) (Obj.cells (nums .u8 [240, 241]).toArray 5)
      have hxa := Kd.C_alloc (Kd.C_below H3.out.2.2.1 hb4) (Obj.cells (nums .u8 [240, 241]).toArray 5)
      have hxb := Kd.C_alloc (Kd.C_below H3.out.2.2.2.1 hb4) (Obj.cells (nums .u8 [240, 241]).toArray 5)
      have hb5 := hw4.alloc hw4.size (Obj.cells (nums .u8 [240, 241]).toArray 5)
      have H4 := Lib.hid (And.intro hq (And.intro hr (And.intro hx1 (And.intro hx2 (And.intro hxa (And.intro hxb hb5))))))
      clear H3 hR4 hb4 hC4 hq hr hw4 hx1 hx2 hxa hxb hb5
      go_wp2_with fail
      refine (kdf_Expand.calls A4 c4 exX (some ⟨W4.heap.size, 0, none⟩) 2 [240, 241] 40 xe 0 _ H4.out.1 hl4 H4.out.2.1 (by decide) HE.out.2.1).mono ?_
      rintro e W5 ⟨v5, rfl, hR5, hb5⟩
      obtain ⟨A5, c5, rfl, hl5, -⟩ := Kd.R_reads hR5
      rw [HE.out.2.2.1]
      have hw5 := H4.out.2.2.2.2.2.2.trans (hb5.mono H4.out.2.2.2.2.2.2.size)
      have hx1 := Kd.C_below H4.out.2.2.1 hb5
      have hx2 := Kd.C_below H4.out.2.2.2.1 hb5
      have hxa := Kd.C_below H4.out.2.2.2.2.1 hb5
      have hxb := Kd.C_below H4.out.2.2.2.2.2.1 hb5
      have H5 := Lib.hid (And.intro hx1 (And.intro hx2 (And.intro hxa (And.intro hxb hw5))))
      clear H4 hR5 hb5 hw5 hx1 hx2 hxa hxb hl5
      go_wp2_with fail
      refine (kdf_Derive.calls A2 c2 sec ⟨#[120]⟩ xd 0 _ H5.out.2.1 hl2 HE.out.2.2.2.1).mono ?_
      rintro e W6 ⟨v6, rfl, hR6, hb6⟩
      obtain ⟨A6, c6, rfl, hl6, -⟩ := Kd.R_reads hR6
      rw [HE.out.2.2.2.2]
      have hw6 := H5.out.2.2.2.2.trans (hb6.mono H5.out.2.2.2.2.size)
      have hx1 := Kd.C_below H5.out.1 hb6
      have hx2 := Kd.C_below H5.out.2.1 hb6
      have hxa := Kd.C_below H5.out.2.2.1 hb6
      have hxb := Kd.C_below H5.out.2.2.2.1 hb6
      have H6 := Lib.hid (And.intro hx1 (And.intro hx2 (And.intro hxa (And.intro hxb hw6))))
      clear H5 hR6 hb6 hw6 hx1 hx2 hxa hxb hl6
      go_wp2_with fail
      refine (kdf_Extract.calls A1 c1 exSalt A2 c2 sec exX _ H6.out.1 hl1 H6.out.2.1 hl2 HE.out.1).mono ?_
      rintro e W7 ⟨v7, rfl, hR7, hb7⟩
      obtain ⟨A7, c7, rfl, hl7, hC7⟩ := Kd.R_reads hR7
      have hw7 := H6.out.2.2.2.2.trans (hb7.mono H6.out.2.2.2.2.size)
      have hxa := Kd.C_below H6.out.2.2.1 hb7
      have hxb := Kd.C_below H6.out.2.2.2.1 hb7
      have H7 := Lib.hid (And.intro hxa (And.intro hxb hw7))
      clear H6 hR7 hb7 hw7 hxa hxb
      go_wp2_with fail
      refine (pyxref01_Text.calls A7 c7 exX _ _ hC7 hl7 ex_textX).mono ?_
      rintro e w' ⟨rfl, ⟨n1, rfl⟩⟩
      go_wp2_with fail
      refine (pyxref01_Text.calls Aa ca exA _ _ (Kd.C_drewN H7.out.1 n1) hla ex_textA).mono ?_
      rintro e w' ⟨rfl, ⟨n2, rfl⟩⟩
      go_wp2_with fail
      refine (pyxref01_Text.calls Ab cb exB _ _ (Kd.C_drewN H7.out.2.1 (n1 + n2)) hlb ex_textB).mono ?_
      rintro e w' ⟨rfl, ⟨n3, rfl⟩⟩
      go_wp2
      go_ret
      exact ⟨rfl, pw_below_drewN H7.out.2.2 (n1 + n2 + n3)⟩
end P
end Go.Proofs.Ytpdgeanicciaiaa

/-! BytInj -/
namespace Go.Proofs.Ytpdgeanicciaiaa
set_option linter.unusedVariables false
set_option linter.unusedSimpArgs false
open Go.RowKit

theorem numB_one (n : Nat) (h : n < 256) : numB n 1 = [(n : Int)] := by
  simp [numB, numAt, List.range_succ]
  omega
theorem numB_two (n : Nat) : numB n 2 = [((n / 256 % 256 : Nat) : Int), ((n % 256 : Nat) : Int)] := by
  simp [numB, numAt, List.range_succ]
theorem numB_four (n : Nat) : numB n 4 = [((n / 16777216 % 256 : Nat) : Int), ((n / 65536 % 256 : Nat) : Int), ((n / 256 % 256 : Nat) : Int), ((n % 256 : Nat) : Int)] := by
  simp [numB, numAt, List.range_succ]
/-- Numbers of the same width with the same bytes are the same. -/
theorem numB_two_inj (n m : Nat) (hn : n < 65536) (hm : m < 65536) (h : numB n 2 = numB m 2) : n = m := by
  rw [numB_two, numB_two] at h
  simp only [List.cons.injEq, and_true] at h
  omega
theorem numB_four_inj (n m : Nat) (hn : n < 4294967296) (hm : m < 4294967296) (h : numB n 4 = numB m 4) : n = m := by
  rw [numB_four, numB_four] at h
  simp only [List.cons.injEq, and_true] at h
  omega
/-- A length's bytes, and what is behind them. -/
theorem lenB_inj (n m : Nat) (r s : List Int) (hn : n ≤ 1073741823) (hm : m ≤ 1073741823) (h : lenB n ++ r = lenB m ++ s) : n = m ∧ r = s := by
  unfold lenB at h
  by_cases n1 : n < 64
  · rw [if_pos n1, numB_one n (by omega)] at h
    by_cases m1 : m < 64
    · rw [if_pos m1, numB_one m (by omega)] at h
      simp only [List.cons_append, List.nil_append, List.cons.injEq] at h
      exact ⟨by omega, h.2⟩
    by_cases m2 : m < 16384
    · rw [if_neg m1, if_pos m2, numB_two] at h
      simp only [List.cons_append, List.nil_append, List.cons.injEq] at h
      omega
    · rw [if_neg m1, if_neg m2, numB_four] at h
      simp only [List.cons_append, List.nil_append, List.cons.injEq] at h
      omega
  by_cases n2 : n < 16384
  · rw [if_neg n1, if_pos n2, numB_two] at h
    by_cases m1 : m < 64
    · rw [if_pos m1, numB_one m (by omega)] at h
      simp only [List.cons_append, List.nil_append, List.cons.injEq] at h
      omega
    by_cases m2 : m < 16384
    · rw [if_neg m1, if_pos m2, numB_two] at h
      simp only [List.cons_append, List.nil_append, List.cons.injEq] at h
      exact ⟨by omega, h.2.2⟩
    · rw [if_neg m1, if_neg m2, numB_four] at h
      simp only [List.cons_append, List.nil_append, List.cons.injEq] at h
      omega
  · rw [if_neg n1, if_neg n2, numB_four] at h
    by_cases m1 : m < 64
    · rw [if_pos m1, numB_one m (by omega)] at h
      simp only [List.cons_append, List.nil_append, List.cons.injEq] at h
      omega
    by_cases m2 : m < 16384
    · rw [if_neg m1, if_pos m2, numB_two] at h
      simp only [List.cons_append, List.nil_append, List.cons.injEq] at h
      omega
    · rw [if_neg m1, if_neg m2, numB_four] at h
      simp only [List.cons_append, List.nil_append, List.cons.injEq] at h
      exact ⟨by omega, h.2.2.2.2⟩
theorem rowB_inj (a b r s : List Int) (ha : a.length ≤ 1073741823) (hb : b.length ≤ 1073741823) (h : rowB a ++ r = rowB b ++ s) : a = b ∧ r = s := by
  unfold rowB at h
  rw [List.append_assoc, List.append_assoc] at h
  obtain ⟨hl, h⟩ := lenB_inj _ _ _ _ ha hb h
  exact List.append_inj h hl
end Go.Proofs.Ytpdgeanicciaiaa

/-! RowsIn -/
namespace Go.Proofs.Ytpdgeanicciaiaa
set_option linter.unusedVariables false
open Go.Deep Go.RowKit Go.ChangeShapes Go.WideShapes Go.Proofs.YtpdgeanicciaiaaW.PrintWords

theorem weights_mem_all {H : Type} {P : Program} {e : TypeId} : ∀ {l : List (DataW H)} {d : DataW H}, d ∈ l → ∀ n ∈ d.weights P e, n ∈ DataW.weightsAll P e l
  | d0 :: r, d, h, n, hn => by
    simp only [DataW.weightsAll, List.mem_append]
    rcases List.mem_cons.1 h with rfl | h
    · exact Or.inl hn
    · exact Or.inr (weights_mem_all h n hn)
/-- What is known of a row of rows of bytes that came in. -/
theorem open_rows {H : Type} {enc : TypeId × Value → H} {P : Program} {W : World} {base : Nat} {held : Bool} {t e q : TypeId} {a : Option Addr} {len cap : Nat} {d : DataW H} {ps : List MemPlace} {ts : List TypeId} {ds : List (DataW H)} {j : Nat}
    (hsz : (DataW.weightsEach P ts ds).all (· ≤ reachBytes) = true) (htj : ts[j]? = some t) (hdj : ds[j]? = some d)
    (ht : P.underlying t = some (.slice e)) (he : P.underlying e = some (.slice q)) (hq : P.underlying q = some (.int .u8)) (ce : P.cellsOf e = 1) (cq : P.cellsOf q = 1) (bq : P.bytesOf q = 1)
    (h : DataW.Trod enc P W base (fun _ => true) held t (.slice a len cap) d ps) :
    ∃ l : List (List Int), l.length = len ∧ len ≤ cap ∧ Kd.C (Kd.slice q (Kd.int .u8)) W a len l ∧ ∀ x ∈ l, (∀ n ∈ x, (Lit.int .u8 n).wf = true) ∧ x.length ≤ 140737488351232 := by
  obtain ⟨fuel, hf⟩ := h
  rcases open_int_rows ht he hq ce cq hf with ⟨hcs, _⟩ | ⟨x, l, c, A, L, C, Z, hcs, hb, hl, hm, hd, hx⟩
  · simp [Value.cells] at hcs
    obtain ⟨rfl, rfl, rfl⟩ := hcs
    exact ⟨[], rfl, Nat.le_refl _, ⟨rfl, by simp, fun h => absurd h (by simp)⟩, fun x hx => by simp at hx⟩
  simp [Value.cells] at hcs
  obtain ⟨rfl, rfl, rfl⟩ := hcs
  have hlt : ∀ r, r < len → ((Z r).take (L r)).length = L r := fun r hr => by
    obtain ⟨_, h1, _, h3, _⟩ := hx r (by omega)
    rw [List.length_take]
    omega
  refine ⟨(List.range len).map fun r => (Z r).take (L r), by simp, hl, ⟨by simp, by unfold maxLen at hm; omega, fun h0 => ⟨x, rfl, fun r p hr => ?_⟩⟩, fun y hy => ?_⟩
  · have hrl : r < len := by
      rcases Nat.lt_or_ge r len with h | h
      · exact h
      · rw [List.getElem?_eq_none (by simpa using h)] at hr
        cases hr
    have hp : p = (Z r).take (L r) := by
      simp [hrl] at hr
      exact hr.symm
    subst hp
    obtain ⟨h0', h1, h2, h3, h4, h5, h6⟩ := hx r (by omega)
    have hlr := hlt r hrl
    refine ⟨[.slice (A r) (L r) (C r)], rfl, ⟨A r, C r, by rw [hlr], by omega, ?_⟩, fun i u hu => ?_⟩
    · rw [hlr]
      refine Kd.C_of_reads (enc := Value.int .u8) (d := (0 : Int)) (h1 := fun _ => rfl) ⟨hlr, by unfold maxLen at h2; omega, fun hpos => ?_⟩
      cases hA : A r with
      | none =>
        have := h5 hA
        omega
      | some a' =>
        refine ⟨a', rfl, fun i hi => ?_⟩
        rw [(h6 a' hA).2 i (by omega)]
        rw [List.getD_eq_getElem?_getD, List.getD_eq_getElem?_getD, List.getElem?_take, if_pos hi]
    · rcases i with _ | i
      · have : (Kd.slice q (Kd.int .u8)).sz = 1 := rfl
        rw [this, Nat.mul_one, Nat.add_zero, h0']
        exact hu
      · cases hu
  · obtain ⟨r, hr, rfl⟩ := List.mem_map.1 hy
    have hrl := List.mem_range.1 hr
    obtain ⟨h0', h1, h2, h3, h4, h5, h6⟩ := hx r (by omega)
    refine ⟨fun n hn => h4 n (List.mem_of_mem_take hn), ?_⟩
    rw [hlt r hrl]
    cases hA : A r with
    | none =>
      have := h5 hA
      omega
    | some a' =>
      obtain ⟨hd, _⟩ := Prod.mk.inj hd
      have hmem : intRow .u8 (A r) (L r) (Z r) ∈ (List.range len).map fun r => intRow (H := H) .u8 (A r) (L r) (Z r) := List.mem_map.2 ⟨r, hr, rfl⟩
      have hw : (L r + (C r - L r)) * 1 ∈ (intRow (H := H) .u8 (A r) (L r) (Z r)).weights P e := by
        rw [hA]
        unfold intRow
        simp [DataW.weights, he, bq, lits, h3]
        left
        omega
      have hin : (L r + (C r - L r)) * 1 ∈ d.weights P t := by
        rw [hd]
        simp only [DataW.weights, ht]
        exact List.mem_cons_of_mem _ (List.mem_append.2 (Or.inl (weights_mem_all hmem _ hw)))
      have := List.all_eq_true.1 hsz _ (DataW.weights_mem_each htj hdj _ hin)
      simp [reachBytes] at this
      omega
end Go.Proofs.Ytpdgeanicciaiaa
