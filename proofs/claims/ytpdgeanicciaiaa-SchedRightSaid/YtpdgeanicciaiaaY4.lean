/-
  The lower layers, walked and in closed forms, part 4: KdfRef, KdfRefLabel, D0, D1, KdfD, KdfShown, SchedA, SchedB, SchedC, E0, E1.
-/
import Derived.Test.YtpdgeanicciaiaaY0
import Derived.Test.YtpdgeanicciaiaaY1
import Derived.Test.YtpdgeanicciaiaaY3
import Derived.Test.YtpdgeanicciaiaaProg
import Derived.Test.YtpdgeanicciaiaaUWords
import Derived.Test.YtpdgeanicciaiaaULast
import Derived.Test.YtpdgeanicciaiaaUMore
import Derived.Test.YtpdgeanicciaiaaURepsOne
import Derived.Test.YtpdgeanicciaiaaUFour
import Derived.Test.YtpdgeanicciaiaaUGuard
import Derived.Below
import Derived.Deep.Draws
import Derived.Deep.AppendLies
import Derived.Maps.AppendAt
import Derived.OwnWalk
import Derived.Laws.BytesArg
import Derived.Laws.MakeOwn
import Derived.Laws.OwnMore
import Derived.Deep.OwnRows
import Derived.Tactics
import Derived.Lib.ConvBytes
import Derived.Laws.Slices
import Derived.WalkKit
import Derived.KernelRfl
import Derived.RowKit3
import Derived.Deep.LoopGhost
import Derived.Deep.QuietTactic
import Derived.BigQuiet
import Derived.WideLaws
import Derived.Deep.DeepCutAuto
import Derived.Deep.CutBlock
import Derived.Deep.RegionHeld3
import Derived.Laws.Rows
import Derived.Lib.AppendStr
import Derived.ArgAppend
import Derived.Laws.IdiomCopy
import Derived.OrdersHeld
import Derived.Laws.BitsLemmas
import Derived.RowKit
import Derived.Lib.SlBytesConst
import Derived.Deep.DeepMust
import Derived.StillTailTactics
/-! KdfRef -/
namespace Go.Proofs.Ytpdgeanicciaiaa
set_option linter.unusedVariables false
set_option linter.unusedSimpArgs false
open Go.RowKit Go.Proofs.YtpdgeanicciaiaaW.PrintWords Go.Proofs.YtpdgeanicciaiaaW.PrintLast Go.Proofs.YtpdgeanicciaiaaW.PrintMore Iter
/-- From some number of rounds on it answers r. -/
def EvS {α : Type} (g : Nat → Option α) (r : α) : Prop := ∃ k0, ∀ k, k0 ≤ k → g k = some r
theorem EvS.step {α : Type} {g h : Nat → Option α} {r : α} (e : ∀ k, g (k + 1) = h k) (H : EvS h r) : EvS g r := by
  obtain ⟨k0, hk⟩ := H
  refine ⟨k0 + 1, fun k hk1 => ?_⟩
  obtain ⟨m, rfl⟩ : ∃ m, k = m + 1 := ⟨k - 1, by omega⟩
  rw [e]
  exact hk m (by omega)
theorem EvS.now {α : Type} {g : Nat → Option α} {r : α} (e : ∀ k, g (k + 1) = some r) : EvS g r := by
  refine ⟨1, fun k hk1 => ?_⟩
  obtain ⟨m, rfl⟩ : ∃ m, k = m + 1 := ⟨k - 1, by omega⟩
  exact e m
theorem EvS.congr {α : Type} {g h : Nat → Option α} {r : α} (e : ∀ k, g k = h k) (H : EvS h r) : EvS g r := by
  obtain ⟨k0, hk⟩ := H
  exact ⟨k0, fun k h1 => by rw [e]; exact hk k h1⟩
theorem refSum_some (key b : List Int) (hk : byteOk key = true) (hb : byteOk b = true) (lk : key.length ≤ 900000) (lb : b.length ≤ 800000) : P.pyxref03_Sum.f key b = some (macSum key b) := by
  unfold P.pyxref03_Sum.f
  rw [if_pos ⟨hk, hb, lk, lb⟩]
theorem kdfT_le (key info : List Int) (k : Nat) : (kdfT key info k).length ≤ 32 := by
  cases k with
  | zero => simp [kdfT]
  | succ k => rw [kdfT_length]; omega
theorem kdfT_succ (key info : List Int) (i : Nat) : kdfT key info (i + 1) = macSum key (kdfT key info i ++ info ++ [(((i + 1) % 256 : Nat) : Int)]) := by rw [kdfT]
theorem byteOk_exp (key info : List Int) (i : Nat) (hi : byteOk info = true) : byteOk (kdfT key info i ++ info ++ [(((i + 1) % 256 : Nat) : Int)]) = true := by
  rw [byteOk_append, byteOk_append]
  refine ⟨⟨byteOk_kdfT _ _ _, hi⟩, ?_⟩
  simp [byteOk]
  omega
theorem refExp_step (key info : List Int) (n i k : Nat) (hlt : 32 * i < n) (hn : n ≤ 8160) (hk : byteOk key = true) (hi : byteOk info = true) (lk : key.length ≤ 900000) (li : info.length ≤ 700000) (out T T' : List Int) (hl : out.length = 32 * i) (hT : T.length ≤ 32) (hT' : T'.length = 32)
    (hs : P.pyxref03_Sum.f key (T ++ info ++ [(((i + 1) % 256 : Nat) : Int)]) = some T') :
    Q.pyxref04_Expand.l0 (k + 1) key info (n : Int) out T ((i + 1 : Nat) : Int) = Q.pyxref04_Expand.l0 k key info (n : Int) (out ++ T') T' ((i + 1 + 1 : Nat) : Int) := by
  have e1 : (((i + 1 : Nat) : Int)) % 256 = (((i + 1) % 256 : Nat) : Int) := by omega
  have e2 : wrap64 (((i + 1 : Nat) : Int) + 1) = ((i + 1 + 1 : Nat) : Int) := by unfold wrap64; omega
  have n0 : (([] : List Int)).length = 0 := rfl
  have n1 : (([] : List Int) ++ T).length = T.length := rfl
  have n2 : (T ++ info).length = T.length + info.length := List.length_append
  rw [Q.pyxref04_Expand.l0, if_pos (by omega), Option.bind_some, if_pos (by omega), Option.bind_some, List.nil_append, if_pos (by omega), Option.bind_some, if_pos (by omega), e1, hs, Option.bind_some, if_pos (by omega), e2]
theorem refExp_l0 (key info : List Int) (n : Nat) (hn : n ≤ 8160) (hk : byteOk key = true) (hi : byteOk info = true) (lk : key.length ≤ 900000) (li : info.length ≤ 700000) :
    ∀ (d i : Nat), i + d = (n + 31) / 32 → EvS (fun k => Q.pyxref04_Expand.l0 k key info (n : Int) (outTo (fun k => kdfT key info (k + 1)) i) (kdfT key info i) ((i + 1 : Nat) : Int)) (expandOf key info n, 0)
  | 0, i, h => EvS.now fun k => by
    have hl := outTo_length (fun k => kdfT key info (k + 1)) (fun k => kdfT_length key info k) i
    rw [Q.pyxref04_Expand.l0, if_neg (by omega), if_pos (by omega), if_pos (by omega), Int.toNat_natCast, firstOf_any _ (fun k => kdfT_length key info k) n i (by omega)]
    rfl
  | d + 1, i, h => by
    have hl := outTo_length (fun k => kdfT key info (k + 1)) (fun k => kdfT_length key info k) i
    have hT := kdfT_le key info i
    have hs := refSum_some key _ hk (byteOk_exp key info i hi) lk (by rw [List.length_append, List.length_append]; simp only [List.length_cons, List.length_nil]; omega)
    rw [← kdfT_succ] at hs
    exact EvS.step (h := fun k => Q.pyxref04_Expand.l0 k key info (n : Int) (outTo (fun k => kdfT key info (k + 1)) i ++ kdfT key info (i + 1)) (kdfT key info (i + 1)) ((i + 1 + 1 : Nat) : Int)) (fun k => refExp_step key info n i k (by omega) hn hk hi lk li _ _ _ hl hT (kdfT_length key info i) hs) (refExp_l0 key info n hn hk hi lk li d (i + 1) (by omega))
theorem refExp_eq (key info : List Int) (n : Nat) (hn : n ≤ 8160) (hk : byteOk key = true) (hi : byteOk info = true) (lk : key.length ≤ 900000) (li : info.length ≤ 700000) :
    EvS (fun k => Q.pyxref04_Expand.f k key info (n : Int)) (expandOf key info n, 0) := by
  refine EvS.step (h := fun k => Q.pyxref04_Expand.l0 k key info (n : Int) [] [] 1) (fun k => ?_) (refExp_l0 key info n hn hk hi lk li ((n + 31) / 32) 0 (by omega))
  unfold Q.pyxref04_Expand.f
  rw [if_neg (by omega), show decide ((n : Int) > 8160) = false by rw [decide_eq_false_iff_not]; omega, Q.pyxref04_Expand.j0, if_neg (by simp)]
section
variable (word salt : List Int) (rounds n : Nat) (hw : byteOk word = true) (hsa : byteOk salt = true) (lw : word.length ≤ 900000) (ls : salt.length ≤ 700000) (hr1 : 1 ≤ rounds) (hr2 : rounds ≤ 1048576) (hn : n ≤ 1024)
include hw lw
end
namespace P
def pyxref04_Expand.f (key info : List Int) (n : Int) : Option (List Int × Int) := kdf_Expand.f key info n
theorem pyxref04_Expand.calls (A0 : Option Addr) (c0 : Nat) (l0 : List Int) (A1 : Option Addr) (c1 : Nat) (l1 : List Int) (a2 : Int) (r1 : List Int) (r2 : Int) (w : World) (hr0 : Kd.C (Kd.int .u8) w A0 l0.length l0) (hc0 : l0.length ≤ c0) (hr1 : Kd.C (Kd.int .u8) w A1 l1.length l1) (hc1 : l1.length ≤ c1) (h : pyxref04_Expand.f l0 l1 a2 = some (r1, r2)) :
    Calls Try.prog 17 #[.slice A0 l0.length c0, .slice A1 l1.length c1, .int .i64 a2] w fun e w' => ∃ v0_ : Value, e = .returned (.tuple #[v0_, .int .i64 r2]) ∧ Kd.R (Kd.int .u8) 5 w' w.heap.size (fun _ => True) v0_ r1 ∧ Below w.heap.size w w' := by
  unfold pyxref04_Expand.f kdf_Expand.f at h
  have hbad : ∀ k, Q.pyxref04_Expand.j0 (k + 1) l0 l1 a2 true = some ([], 1) := fun k => by rw [Q.pyxref04_Expand.j0, if_pos rfl]
  by_cases h0 : a2 < 0
  · rw [if_pos h0] at h
    refine Q.pyxref04_Expand.calls 1 A0 c0 l0 A1 c1 l1 a2 r1 r2 w hr0 hc0 hr1 hc1 ?_
    unfold Q.pyxref04_Expand.f
    rw [if_pos h0, hbad]
    exact h
  rw [if_neg h0] at h
  by_cases h1 : 8160 < a2
  · rw [if_pos h1] at h
    refine Q.pyxref04_Expand.calls 1 A0 c0 l0 A1 c1 l1 a2 r1 r2 w hr0 hc0 hr1 hc1 ?_
    unfold Q.pyxref04_Expand.f
    rw [if_neg h0, show decide (a2 > 8160) = true by rw [decide_eq_true_eq]; exact h1, hbad]
    exact h
  rw [if_neg h1] at h
  split at h
  case isFalse => cases h
  case isTrue hok =>
  obtain ⟨o1, o2, o3, o4⟩ := hok
  obtain ⟨n, rfl⟩ := Int.eq_ofNat_of_zero_le (show 0 ≤ a2 by omega)
  rw [Int.toNat_natCast] at h
  obtain ⟨k0, hk⟩ := refExp_eq l0 l1 n (by omega) o1 o2 o3 o4
  exact Q.pyxref04_Expand.calls k0 A0 c0 l0 A1 c1 l1 n r1 r2 w hr0 hc0 hr1 hc1 ((hk k0 (Nat.le_refl _)).trans h)
def kdf_Extract.f (l0 l1 : List Int) : Option (List Int) := mac_Sum.f l0 l1
theorem kdf_Extract.calls (A0 : Option Addr) (c0 : Nat) (l0 : List Int) (A1 : Option Addr) (c1 : Nat) (l1 : List Int) (r : List Int) (w : World) (hr0 : Kd.C (Kd.int .u8) w A0 l0.length l0) (hc0 : l0.length ≤ c0) (hr1 : Kd.C (Kd.int .u8) w A1 l1.length l1) (hc1 : l1.length ≤ c1) (h : kdf_Extract.f l0 l1 = some r) :
    Calls Try.prog 23 #[.slice A0 l0.length c0, .slice A1 l1.length c1] w fun e w' => ∃ v0_ : Value, e = .returned (v0_) ∧ Kd.R (Kd.int .u8) 5 w' w.heap.size (fun _ => True) v0_ r ∧ Below w.heap.size w w' :=
  Q.kdf_Extract.calls A0 c0 l0 A1 c1 l1 r w hr0 hc0 hr1 hc1 (by unfold Q.kdf_Extract.f; unfold kdf_Extract.f at h; rw [h]; rfl)
def pyxref04_Extract.f (l0 l1 : List Int) : Option (List Int) := pyxref03_Sum.f l0 l1
theorem pyxref04_Extract.calls (A0 : Option Addr) (c0 : Nat) (l0 : List Int) (A1 : Option Addr) (c1 : Nat) (l1 : List Int) (r : List Int) (w : World) (hr0 : Kd.C (Kd.int .u8) w A0 l0.length l0) (hc0 : l0.length ≤ c0) (hr1 : Kd.C (Kd.int .u8) w A1 l1.length l1) (hc1 : l1.length ≤ c1) (h : pyxref04_Extract.f l0 l1 = some r) :
    Calls Try.prog 24 #[.slice A0 l0.length c0, .slice A1 l1.length c1] w fun e w' => ∃ v0_ : Value, e = .returned (v0_) ∧ Kd.R (Kd.int .u8) 5 w' w.heap.size (fun _ => True) v0_ r ∧ Below w.heap.size w w' :=
  Q.pyxref04_Extract.calls A0 c0 l0 A1 c1 l1 r w hr0 hc0 hr1 hc1 (by unfold Q.pyxref04_Extract.f; unfold pyxref04_Extract.f at h; rw [h]; rfl)
end P
end Go.Proofs.Ytpdgeanicciaiaa

/-! KdfRefLabel -/
namespace Go.Proofs.Ytpdgeanicciaiaa
set_option linter.unusedVariables false
set_option linter.unusedSimpArgs false
open Go.RowKit Go.Proofs.YtpdgeanicciaiaaW.PrintWords Go.Proofs.YtpdgeanicciaiaaW.PrintLast Go.Proofs.YtpdgeanicciaiaaW.PrintMore Iter
namespace P
def pyxref04_Label.f (secret : List Int) (label : ByteArray) (context : List Int) (n : Int) : Option (List Int × Int) := kdf_Label.f secret label context n
set_option maxRecDepth 100000 in
set_option maxHeartbeats 2000000 in
theorem pyxref04_Label.calls (A0 : Option Addr) (c0 : Nat) (l0 : List Int) (a1 : ByteArray) (A2 : Option Addr) (c2 : Nat) (l2 : List Int) (a3 : Int) (r1 : List Int) (r2 : Int) (w : World) (hr0 : Kd.C (Kd.int .u8) w A0 l0.length l0) (hc0 : l0.length ≤ c0) (hr2 : Kd.C (Kd.int .u8) w A2 l2.length l2) (hc2 : l2.length ≤ c2) (h : pyxref04_Label.f l0 a1 l2 a3 = some (r1, r2)) :
    Calls Try.prog 19 #[.slice A0 l0.length c0, .string a1, .slice A2 l2.length c2, .int .i64 a3] w fun e w' => ∃ v0_ : Value, e = .returned (.tuple #[v0_, .int .i64 r2]) ∧ Kd.R (Kd.int .u8) 5 w' w.heap.size (fun _ => True) v0_ r1 ∧ Below w.heap.size w w' := by
  unfold pyxref04_Label.f kdf_Label.f at h
  by_cases h0 : a3 < 0
  · rw [if_pos h0] at h
    injection h with h
    injection h with h1 h2
    subst h1 h2
    have d0 : decide (a3 < 0) = true := by simp [h0]
    go_enter Try.func19, Try.ntmps19
    go_wp2
    go_ret2
    exact ⟨_, rfl, Kd.R_nil _ _ _ _ _, Below.refl _ _⟩
  rw [if_neg h0] at h
  have d0 : decide (a3 < 0) = false := by simp; omega
  by_cases h1 : 8160 < a3
  · rw [if_pos h1] at h
    injection h with h
    injection h with h1' h2
    subst h1' h2
    have d1 : decide (8160 < a3) = true := by simp [h1]
    go_enter Try.func19, Try.ntmps19
    go_wp2
    go_ret2
    exact ⟨_, rfl, Kd.R_nil _ _ _ _ _, Below.refl _ _⟩
  rw [if_neg h1] at h
  have d1 : decide (8160 < a3) = false := by simp; omega
  split at h
  case isFalse => cases h
  case isTrue hok =>
  injection h with h
  injection h with h1' h2
  subst h1' h2
  obtain ⟨n, rfl⟩ := Int.eq_ofNat_of_zero_le (show 0 ≤ a3 by omega)
  rw [Int.toNat_natCast]
  obtain ⟨o1, o2, o3, o4, o5⟩ := hok
  obtain ⟨t, ht⟩ : ∃ t : ByteArray, t = mlsS ++ a1 := ⟨_, rfl⟩
  have htb : bytesOf t = mls ++ bytesOf a1 := by rw [ht, bytesOf_append, mls_bytes]
  have htl : (bytesOf t).length = a1.size + 8 := by rw [htb, List.length_append, bytesOf_length]; exact Nat.add_comm _ _
  have hts : t.size = a1.size + 8 := by rw [← bytesOf_length, htl]
  have hrow1 : P.pyxref01_Row.f (bytesOf t) = some (rowB (bytesOf t), 0) := congrArg some (rowOf_small (bytesOf t) (by omega))
  have hrow2 : P.pyxref01_Row.f l2 = some (rowB l2, 0) := congrArg some (rowOf_small l2 (by omega))
  have hnum : P.pyxref01_Num.f (n : Int) 2 = some (numB n 2, 0) := by
    unfold P.pyxref01_Num.f
    exact congrArg some (numOf_small n 2 (by omega) (by omega) (by omega))
  have hl1 : (numB n 2).length = 2 := numB_length _ _
  have kb : ∀ W : World, (convert 9 22 (.string ({ data := #[77, 76, 83, 32, 49, 46, 48, 32] } ++ a1))).run Try.prog W = .ok (.slice (some ⟨W.heap.size, 0, none⟩) t.size (grownCap W t.size 0 5)) (Lib.bytesWorld W 5 t) := fun W => by
    rw [ht]
    exact print_bytes (P := Try.prog) 9 22 5 Try.underlying9 Try.underlying22 Try.underlying5 (mlsS ++ a1) W
  have hexp : P.pyxref04_Expand.f l0 (labelRow a1 l2 n) (n : Int) = some (labelOf l0 a1 l2 n, 0) := by
    have b1 := byteOk_labelRow a1 l2 n o2
    have b2 := labelRow_length a1 l2 n
    unfold P.pyxref04_Expand.f P.kdf_Expand.f
    rw [if_neg (by omega), if_neg (by omega), if_pos ⟨o1, b1, o3, by omega⟩]
    rfl
  have HLR := Lib.hid hexp
  clear hexp
  have hrw : labelRow a1 l2 n = numB n 2 ++ rowB (bytesOf t) ++ rowB l2 := by rw [htb]; rfl
  have hl3 := rowB_length (bytesOf t)
  rw [htl] at hl3
  have hl4 := rowB_length l2
  have HN := Lib.hid hnum
  have H1 := Lib.hid (And.intro hrow1 (And.intro hrow2 (And.intro hrw (And.intro htb (And.intro htl hts)))))
  have KB := Lib.hid kb
  have Hr := Lib.hid (And.intro hr0 hr2)
  clear hnum hrow1 hrow2 ht htb htl hts kb hr0 hr2 o1 o2 hrw
  go_enter Try.func19, Try.ntmps19
  go_wp2_with fail
  refine (P.pyxref01_Num.calls (n : Int) 2 (numB n 2) 0 _ HN.out).mono ?_
  rintro e W1 ⟨v1, rfl, hR1, hb1⟩
  have hkb := KB.out W1
  have hcp := grownCap_ge W1 t.size 0 5
  have hC2 := bytes_C W1 t (by have := H1.out.2.2.2.2.2; omega)
  have hb2 := bytes_below hb1 hb1.size 5 t
  have hs2 := Lib.bytesWorld_size W1 5 t
  have hR2 : Kd.R (Kd.int .u8) 5 (Lib.bytesWorld W1 5 t) w.heap.size (fun b => b < W1.heap.size) v1 (numB n 2) :=
    Kd.R_mono (Kd.R_move (Kd.R_bound hR1) (fun k hk => Lib.bytesWorld_at_old W1 5 t k hk.2.2.1)) (fun k hk => hk.2.2.1)
  rw [H1.out.2.2.2.2.2] at hkb hcp
  generalize grownCap W1 (a1.size + 8) 0 5 = cp at *
  generalize Lib.bytesWorld W1 5 t = W2 at *
  have HS2 := Lib.hid hs2
  have H2 := Lib.hid (And.intro hC2 (And.intro hb2 hR2))
  have hlen := H1.out.2.2.2.2.1
  have HL := Lib.hid hlen
  clear hs2 hb1 hR1 hlen hC2 hb2 hR2
  have hcp' : (bytesOf t).length ≤ cp := by rw [HL.out]; exact hcp
  go_wp2_with fail
  rw [← HL.out]
  refine (P.pyxref01_Row.calls _ cp (bytesOf t) (rowB (bytesOf t)) 0 _ H2.out.1 hcp' H1.out.1).mono ?_
  rintro e W3 ⟨v3, rfl, hR3, hb3⟩
  have hr3 := Kd.R_below H2.out.2.2 hb3
  have hk3 := H2.out.2.1.trans (hb3.mono H2.out.2.1.size)
  have hs3 := hb3.size
  have H3 := Lib.hid (And.intro hr3 (And.intro hR3 hk3))
  clear hr3 hR3 hk3 hb3
  go_wp2_with fail
  refine (P.pyxref01_Row.calls A2 c2 l2 (rowB l2) 0 _ (Kd.C_below Hr.out.2 H3.out.2.2) hc2 H1.out.2.1).mono ?_
  rintro e W4 ⟨v4, rfl, hR4, hb4⟩
  have hr4 := Kd.R_below H3.out.1 hb4
  have hq4 := Kd.R_below H3.out.2.1 hb4
  have hk4 := H3.out.2.2.trans (hb4.mono H3.out.2.2.size)
  have hs4 := hb4.size
  have hv1 : Kd.R (Kd.int .u8) 5 W4 w.heap.size (fun b => b < W1.heap.size ∨ W4.heap.size ≤ b) v1 (numB n 2) := Kd.R_mono hr4 (fun b hb => Or.inl hb)
  have hR4b := Kd.R_bound hR4
  obtain ⟨A3, c3, rfl, hl5, hC3⟩ := Kd.R_reads hq4
  obtain ⟨A4, c4, rfl, hl6, -⟩ := Kd.R_reads hR4
  have ho4 : ∀ b, (Value.slice A4 (rowB l2).length c4).ownBlock = some b → W3.heap.size ≤ b ∧ b < W4.heap.size := fun b hb => by have := hR4b.1 b hb; omega
  have HV := Lib.hid (And.intro hv1 (And.intro hR4 (And.intro ho4 (And.intro hk4 hC3))))
  clear hr4 hq4 hk4 hR4 hR4b ho4 hv1 H3 H2 hC3
  go_wp2_with (first
    | ((with_reducible refine gate_builtin (b := .append) (xs := #[.tmp 40, .tmp 41]) rfl ?_); at_builtin; refine Kd.R_append_rows (Kd.int .u8) (w0 := w) w.heap.size rfl (.tmp 40) (.tmp 41) 22 5 (.int .u8 0) 1 rfl Try.underlying22 B.info5 rfl (by decide) (by omega) v1 (numB n 2) (rowB (bytesOf t)) _ _ _ (fun b => b < W1.heap.size ∨ W4.heap.size ≤ b) (fun _ => False) rfl rfl HV.out.1 HV.out.2.2.2.2 (fun _ _ h => h) (fun _ h => h.elim) (by intro b hb; exact Or.inr hb) HV.out.2.2.2.1 HV.out.2.2.2.1.size (by omega) ?_; intro v5 W5 hv5 hb5 hgr5 hat5; (have hR5 := Kd.R_grown2 HV.out.2.1 rfl hgr5 (fun k hk e => by have h1 := HV.out.1.1 k hk; have h2 := HV.out.2.2.1 k e.symm; have := HS2.out; omega)); (have hC5 := (Kd.R_reads' hR5).2.2); (have hb4s := hgr5.size); clear hR5 hgr5 hat5; (have hl7 : (numB n 2 ++ rowB (bytesOf t)).length = 2 + (rowB (bytesOf t)).length := by rw [List.length_append, hl1]))
    | ((with_reducible refine gate_builtin (b := .append) (xs := #[.tmp 42, .tmp 43]) rfl ?_); at_builtin; refine Kd.R_append_rows (Kd.int .u8) (w0 := w) w.heap.size rfl (.tmp 42) (.tmp 43) 22 5 (.int .u8 0) 1 rfl Try.underlying22 B.info5 rfl (by decide) (by omega) v5 (numB n 2 ++ rowB (bytesOf t)) (rowB l2) _ _ _ (fun b => b < W1.heap.size ∨ W4.heap.size ≤ b) (fun _ => False) rfl rfl hv5 hC5 (fun _ _ h => h) (fun _ h => h.elim) (by intro b hb; exact Or.inr (Nat.le_trans hb4s hb)) hb5 hb5.size (by omega) ?_; intro v6 W6 hv6 hb6 hgr6 hat6; clear hgr6 hat6; rw [← H1.out.2.2.1] at hv6; obtain ⟨A6, c6, rfl, hl8, hC6⟩ := Kd.R_reads hv6; clear hv5 hb5 hC5))
  have HB6 := Lib.hid (And.intro hb6 (Kd.C_below Hr.out.1 hb6))
  clear hb6 hv6
  refine (P.pyxref04_Expand.calls A0 c0 l0 A6 c6 (labelRow a1 l2 n) (n : Int) (labelOf l0 a1 l2 n) 0 _ HB6.out.2 hc0 hC6 hl8 HLR.out).mono ?_
  rintro e W7 ⟨v7, rfl, hR7, hb7⟩
  go_wp2
  go_ret2
  exact ⟨_, rfl, Kd.R_lower hR7 HB6.out.1.size, HB6.out.1.trans (hb7.mono HB6.out.1.size)⟩
end P
end Go.Proofs.Ytpdgeanicciaiaa

/-! D0 -/
namespace Go.Proofs.Ytpdgeanicciaiaa.D
open Go.Proofs.Ytpdgeanicciaiaa.P
open Go.RowKit Go.Proofs.YtpdgeanicciaiaaW.PrintWords Go.Proofs.YtpdgeanicciaiaaW.PrintLast Go.Proofs.YtpdgeanicciaiaaW.PrintMore
attribute [local go_sem] max2_int min2_int max_two min_two max_three min_three max_four min_four   -- for this text's walks alone
set_option linter.unusedVariables false
set_option linter.unusedSimpArgs false
def errW : Option Int → Value
  | none => .nilIface
  | some c => .iface 0 (.int .i64 c)
theorem errW_none : errW none = .nilIface := rfl
theorem errW_some (c : Int) : errW (some c) = .iface 0 (.int .i64 c) := rfl
-- the values' own types
end Go.Proofs.Ytpdgeanicciaiaa.D

/-! D1 -/
namespace Go.Proofs.Ytpdgeanicciaiaa.D
open Go.Proofs.Ytpdgeanicciaiaa.P
open Go.RowKit Go.Proofs.YtpdgeanicciaiaaW.PrintWords Go.Proofs.YtpdgeanicciaiaaW.PrintLast Go.Proofs.YtpdgeanicciaiaaW.PrintMore
attribute [local go_sem] max2_int min2_int max_two min_two max_three min_three max_four min_four   -- for this text's walks alone
set_option linter.unusedVariables false
set_option linter.unusedSimpArgs false
-- NOT PRINTED: function 53 (kdf_first)
-- NOT PRINTED: function 16 (kdf_Expand)
-- NOT PRINTED: function 56 (byt_Num)
-- NOT PRINTED: function 95 (byt_wide)
-- NOT PRINTED: function 81 (byt_Len)
-- NOT PRINTED: function 57 (byt_Row)
/-! ### kdf_Derive: function 20 -/
def kdf_Derive.f (l0 : List Int) (a1 : ByteArray) : Option (List Int × Int) := (kdf_Label.f l0 a1 ([] : List Int) 32).bind fun bt101 => (some (bt101.1, bt101.2))
set_option maxHeartbeats 8000000 in
set_option maxRecDepth 100000 in
theorem kdf_Derive.calls (A0 : Option Addr) (c0 : Nat) (l0 : List Int) (a1 : ByteArray) (r1 : List Int) (r2 : Int) (w : World) (hr0 : Kd.C (Kd.int .u8) w A0 l0.length l0) (hc0 : l0.length ≤ c0) (h : kdf_Derive.f l0 a1 = some (r1, r2)) :
    Calls Try.prog 20 #[.slice A0 l0.length c0, .string a1] w fun e w' => ∃ v0_ : Value, e = .returned (.tuple #[v0_, .int .i64 r2]) ∧ Kd.R (Kd.int .u8) 5 w' w.heap.size (fun _ => True) v0_ r1 ∧ Below w.heap.size w w' := by
  have HR0 := Aside0.mk hr0
  have HC0 := Aside0.mk hc0
  clear hr0 hc0
  have HB := Aside0.mk (Below.refl w.heap.size w)
  have H : ((kdf_Label.f l0 a1 ([] : List Int) 32).bind fun bt101 => (some (bt101.1, bt101.2))) = some (r1, r2) := h
  clear h
  replace H := Option.bind_eq_some_iff.mp H
  obtain ⟨⟨t101, t102⟩, A30, H⟩ := H
  replace H : (some (t101, t102)) = some (r1, r2) := H
  have A3 := Aside0.mk A30
  clear A30
  simp only [Option.some.injEq, Prod.mk.injEq] at H
  obtain ⟨rfl, rfl⟩ := H
  go_enter Try.func20, Try.ntmps20
  go_wp2_with (first | ((with_reducible refine gate_callee (f := 18) rfl ?_); refine goesL_ (some 8) rfl rfl Try.func18 (by kernel_rfl) rfl #[.slice A0 l0.length c0, .string a1, .slice none 0 0, .int .i64 32] rfl (by (try simp only [List.map_toArray, List.map_cons, List.map_nil]); first | done | rfl | (simp only [List.length_drop, List.length_take]; rfl)) ?_; (refine (kdf_Label.calls _ _ l0 a1 _ _ ([] : List Int) 32 t101 t102 _ ?side1 ?side2 ?side3 ?side4 A3.out).mono ?_); (case side1 => repeat (first | exact HR0.out | (with_reducible refine Kd.C_alloc ?_ _) | (with_reducible refine Kd.C_drewN ?_ _) | (with_reducible refine Kd.C_drew ?_))); (case side2 => exact HC0.out); (case side3 => exact Kd.C_nil _ _); (case side4 => exact Nat.le_refl _); rintro e w4 ⟨v103, rfl, ho0, hb⟩; refine ⟨_, rfl, ?_⟩; have n0_ := Aside0.mk (Kd.R_lower ho0 (below_size (by repeat (first | (with_reducible first | exact HB.out | apply below_alloc | apply pw_below_drewN | apply below_drew1) | exact HB.out)))); have n1_ := Aside0.mk (below_step (by repeat (first | (with_reducible first | exact HB.out | apply below_alloc | apply pw_below_drewN | apply below_drew1) | exact HB.out)) hb); clear HB; have HO104 := n0_; have HB := n1_; clear n0_ n1_; (try clear hb); (try clear hb2); (try clear hk); (try clear hi); (try clear ho0)))
  go_ret2
  exact ⟨_, by first | rfl | (simp [errW_none, errW_some] <;> rfl) | (simp [*, errW_none, errW_some] <;> rfl), by (with_reducible repeat (first | apply Kd.R_alloc | apply Kd.R_drewN | apply Kd.R_drew)); exact HO104.out, by repeat (first | (with_reducible first | exact HB.out | apply below_alloc | apply pw_below_drewN | apply below_drew1) | exact HB.out)⟩
-- NOT PRINTED: function 74 (pyxref02_Pad)
-- NOT PRINTED: function 75 (pyxref02_keys)
-- NOT PRINTED: function 76 (pyxref02_Start)
-- NOT PRINTED: function 93 (pyxref02_word)
-- NOT PRINTED: function 94 (pyxref02_turn)
-- NOT PRINTED: function 77 (pyxref02_step)
-- NOT PRINTED: function 50 (pyxref02_Sum)
-- NOT PRINTED: function 61 (pyxref03_Key)
-- NOT PRINTED: function 62 (pyxref03_with)
-- NOT PRINTED: function 28 (pyxref03_Sum)
-- NOT PRINTED: function 17 (pyxref04_Expand)
-- NOT PRINTED: function 82 (pyxref01_power)
-- NOT PRINTED: function 58 (pyxref01_Num)
-- NOT PRINTED: function 78 (pyxref01_Len)
-- NOT PRINTED: function 51 (pyxref01_Row)
/-! ### pyxref04_Derive: function 21 -/
def pyxref04_Derive.f (l0 : List Int) (a1 : ByteArray) : Option (List Int × Int) := (pyxref04_Label.f l0 a1 ([] : List Int) 32).bind fun bt105 => (some (bt105.1, bt105.2))
set_option maxHeartbeats 8000000 in
set_option maxRecDepth 100000 in
theorem pyxref04_Derive.calls (A0 : Option Addr) (c0 : Nat) (l0 : List Int) (a1 : ByteArray) (r1 : List Int) (r2 : Int) (w : World) (hr0 : Kd.C (Kd.int .u8) w A0 l0.length l0) (hc0 : l0.length ≤ c0) (h : pyxref04_Derive.f l0 a1 = some (r1, r2)) :
    Calls Try.prog 21 #[.slice A0 l0.length c0, .string a1] w fun e w' => ∃ v0_ : Value, e = .returned (.tuple #[v0_, .int .i64 r2]) ∧ Kd.R (Kd.int .u8) 5 w' w.heap.size (fun _ => True) v0_ r1 ∧ Below w.heap.size w w' := by
  have HR0 := Aside0.mk hr0
  have HC0 := Aside0.mk hc0
  clear hr0 hc0
  have HB := Aside0.mk (Below.refl w.heap.size w)
  have H : ((pyxref04_Label.f l0 a1 ([] : List Int) 32).bind fun bt105 => (some (bt105.1, bt105.2))) = some (r1, r2) := h
  clear h
  replace H := Option.bind_eq_some_iff.mp H
  obtain ⟨⟨t105, t106⟩, A30, H⟩ := H
  replace H : (some (t105, t106)) = some (r1, r2) := H
  have A3 := Aside0.mk A30
  clear A30
  simp only [Option.some.injEq, Prod.mk.injEq] at H
  obtain ⟨rfl, rfl⟩ := H
  go_enter Try.func21, Try.ntmps21
  go_wp2_with (first | ((with_reducible refine gate_callee (f := 19) rfl ?_); refine goesL_ (some 8) rfl rfl Try.func19 (by kernel_rfl) rfl #[.slice A0 l0.length c0, .string a1, .slice none 0 0, .int .i64 32] rfl (by (try simp only [List.map_toArray, List.map_cons, List.map_nil]); first | done | rfl | (simp only [List.length_drop, List.length_take]; rfl)) ?_; (refine (pyxref04_Label.calls _ _ l0 a1 _ _ ([] : List Int) 32 t105 t106 _ ?side1 ?side2 ?side3 ?side4 A3.out).mono ?_); (case side1 => repeat (first | exact HR0.out | (with_reducible refine Kd.C_alloc ?_ _) | (with_reducible refine Kd.C_drewN ?_ _) | (with_reducible refine Kd.C_drew ?_))); (case side2 => exact HC0.out); (case side3 => exact Kd.C_nil _ _); (case side4 => exact Nat.le_refl _); rintro e w4 ⟨v107, rfl, ho0, hb⟩; refine ⟨_, rfl, ?_⟩; have n0_ := Aside0.mk (Kd.R_lower ho0 (below_size (by repeat (first | (with_reducible first | exact HB.out | apply below_alloc | apply pw_below_drewN | apply below_drew1) | exact HB.out)))); have n1_ := Aside0.mk (below_step (by repeat (first | (with_reducible first | exact HB.out | apply below_alloc | apply pw_below_drewN | apply below_drew1) | exact HB.out)) hb); clear HB; have HO108 := n0_; have HB := n1_; clear n0_ n1_; (try clear hb); (try clear hb2); (try clear hk); (try clear hi); (try clear ho0)))
  go_ret2
  exact ⟨_, by first | rfl | (simp [errW_none, errW_some] <;> rfl) | (simp [*, errW_none, errW_some] <;> rfl), by (with_reducible repeat (first | apply Kd.R_alloc | apply Kd.R_drewN | apply Kd.R_drew)); exact HO108.out, by repeat (first | (with_reducible first | exact HB.out | apply below_alloc | apply pw_below_drewN | apply below_drew1) | exact HB.out)⟩
/-! ### pyxref04_Out: function 49 -/
def pyxref04_Out.f (l0 : List Int) (a1 : ByteArray) : Option (List Int) := (pyxref04_Derive.f l0 a1).bind fun bt109 => (some bt109.1)
set_option maxHeartbeats 8000000 in
set_option maxRecDepth 100000 in
theorem pyxref04_Out.calls (A0 : Option Addr) (c0 : Nat) (l0 : List Int) (a1 : ByteArray) (r : List Int) (w : World) (hr0 : Kd.C (Kd.int .u8) w A0 l0.length l0) (hc0 : l0.length ≤ c0) (h : pyxref04_Out.f l0 a1 = some r) :
    Calls Try.prog 49 #[.slice A0 l0.length c0, .string a1] w fun e w' => ∃ v0_ : Value, e = .returned (v0_) ∧ Kd.R (Kd.int .u8) 5 w' w.heap.size (fun _ => True) v0_ r ∧ Below w.heap.size w w' := by
  have HR0 := Aside0.mk hr0
  have HC0 := Aside0.mk hc0
  clear hr0 hc0
  have HB := Aside0.mk (Below.refl w.heap.size w)
  have H : ((pyxref04_Derive.f l0 a1).bind fun bt109 => (some bt109.1)) = some r := h
  clear h
  replace H := Option.bind_eq_some_iff.mp H
  obtain ⟨⟨t109, t110⟩, A30, H⟩ := H
  replace H : (some t109) = some r := H
  have A3 := Aside0.mk A30
  clear A30
  obtain rfl := Option.some.inj H
  go_enter Try.func49, Try.ntmps49
  go_wp2_with (first | ((with_reducible refine gate_callee (f := 21) rfl ?_); refine goesL_ (some 10) rfl rfl Try.func21 (by kernel_rfl) rfl #[.slice A0 l0.length c0, .string a1] rfl (by (try simp only [List.map_toArray, List.map_cons, List.map_nil]); first | done | rfl | (simp only [List.length_drop, List.length_take]; rfl)) ?_; (with_reducible refine (pyxref04_Derive.calls _ _ l0 a1 t109 t110 _ ?side1 ?side2 A3.out).mono ?_); (case side1 => repeat (first | exact HR0.out | (with_reducible refine Kd.C_alloc ?_ _) | (with_reducible refine Kd.C_drewN ?_ _) | (with_reducible refine Kd.C_drew ?_))); (case side2 => exact HC0.out); rintro e w4 ⟨v111, rfl, ho0, hb⟩; refine ⟨_, rfl, ?_⟩; have n0_ := Aside0.mk (Kd.R_lower ho0 (below_size (by repeat (first | (with_reducible first | exact HB.out | apply below_alloc | apply pw_below_drewN | apply below_drew1) | exact HB.out)))); have n1_ := Aside0.mk (below_step (by repeat (first | (with_reducible first | exact HB.out | apply below_alloc | apply pw_below_drewN | apply below_drew1) | exact HB.out)) hb); clear HB; have HO112 := n0_; have HB := n1_; clear n0_ n1_; (try clear hb); (try clear hb2); (try clear hk); (try clear hi); (try clear ho0)))
  go_ret
  exact ⟨_, by first | rfl | (simp [errW_none, errW_some] <;> rfl) | (simp [*, errW_none, errW_some] <;> rfl), by (with_reducible repeat (first | apply Kd.R_alloc | apply Kd.R_drewN | apply Kd.R_drew)); exact HO112.out, by repeat (first | (with_reducible first | exact HB.out | apply below_alloc | apply pw_below_drewN | apply below_drew1) | exact HB.out)⟩
end Go.Proofs.Ytpdgeanicciaiaa.D

/-! KdfD -/
namespace Go.Proofs.Ytpdgeanicciaiaa
set_option linter.unusedVariables false
set_option linter.unusedSimpArgs false
open Go.RowKit Go.Proofs.YtpdgeanicciaiaaW.PrintWords Go.Proofs.YtpdgeanicciaiaaW.PrintLast Go.Proofs.YtpdgeanicciaiaaW.PrintMore Iter
theorem labelOf_length (secret : List Int) (label : ByteArray) (context : List Int) (n : Nat) : (labelOf secret label context n).length = n := expandOf_length _ _ _
theorem byteOk_labelOf (secret : List Int) (label : ByteArray) (context : List Int) (n : Nat) : byteOk (labelOf secret label context n) = true := byteOk_expandOf _ _ _
theorem label_some (secret : List Int) (label : ByteArray) (context : List Int) (n : Nat) (hn : n ≤ 8160) (o1 : byteOk secret = true) (o2 : byteOk context = true) (l1 : secret.length ≤ 900000) (l2 : label.size ≤ 100000) (l3 : context.length ≤ 100000) :
    P.kdf_Label.f secret label context (n : Int) = some (labelOf secret label context n, 0) := by
  unfold P.kdf_Label.f
  rw [if_neg (by omega), if_neg (by omega), if_pos ⟨o1, o2, l1, l2, l3⟩, Int.toNat_natCast]
namespace P
def kdf_Derive.f (secret : List Int) (label : ByteArray) : Option (List Int × Int) := if byteOk secret = true ∧ secret.length ≤ 900000 ∧ label.size ≤ 100000 then some (labelOf secret label [] 32, 0) else none
theorem kdf_Derive.calls (A0 : Option Addr) (c0 : Nat) (l0 : List Int) (a1 : ByteArray) (r1 : List Int) (r2 : Int) (w : World) (hr0 : Kd.C (Kd.int .u8) w A0 l0.length l0) (hc0 : l0.length ≤ c0) (h : kdf_Derive.f l0 a1 = some (r1, r2)) :
    Calls Try.prog 20 #[.slice A0 l0.length c0, .string a1] w fun e w' => ∃ v0_ : Value, e = .returned (.tuple #[v0_, .int .i64 r2]) ∧ Kd.R (Kd.int .u8) 5 w' w.heap.size (fun _ => True) v0_ r1 ∧ Below w.heap.size w w' := by
  unfold kdf_Derive.f at h
  split at h
  case isFalse => cases h
  case isTrue hok =>
  refine D.kdf_Derive.calls A0 c0 l0 a1 r1 r2 w hr0 hc0 ?_
  unfold D.kdf_Derive.f
  rw [show (32 : Int) = ((32 : Nat) : Int) from rfl, label_some l0 a1 [] 32 (by omega) hok.1 rfl hok.2.1 hok.2.2 (by simp), Option.bind_some]
  exact h
def pyxref04_Derive.f (secret : List Int) (label : ByteArray) : Option (List Int × Int) := kdf_Derive.f secret label
theorem pyxref04_Derive.calls (A0 : Option Addr) (c0 : Nat) (l0 : List Int) (a1 : ByteArray) (r1 : List Int) (r2 : Int) (w : World) (hr0 : Kd.C (Kd.int .u8) w A0 l0.length l0) (hc0 : l0.length ≤ c0) (h : pyxref04_Derive.f l0 a1 = some (r1, r2)) :
    Calls Try.prog 21 #[.slice A0 l0.length c0, .string a1] w fun e w' => ∃ v0_ : Value, e = .returned (.tuple #[v0_, .int .i64 r2]) ∧ Kd.R (Kd.int .u8) 5 w' w.heap.size (fun _ => True) v0_ r1 ∧ Below w.heap.size w w' := by
  unfold pyxref04_Derive.f kdf_Derive.f at h
  split at h
  case isFalse => cases h
  case isTrue hok =>
  refine D.pyxref04_Derive.calls A0 c0 l0 a1 r1 r2 w hr0 hc0 ?_
  unfold D.pyxref04_Derive.f P.pyxref04_Label.f
  rw [show (32 : Int) = ((32 : Nat) : Int) from rfl, label_some l0 a1 [] 32 (by omega) hok.1 rfl hok.2.1 hok.2.2 (by simp), Option.bind_some]
  exact h
def pyxref04_Out.f (secret : List Int) (label : ByteArray) : Option (List Int) := if byteOk secret = true ∧ secret.length ≤ 900000 ∧ label.size ≤ 100000 then some (labelOf secret label [] 32) else none
theorem pyxref04_Out.calls (A0 : Option Addr) (c0 : Nat) (l0 : List Int) (a1 : ByteArray) (r : List Int) (w : World) (hr0 : Kd.C (Kd.int .u8) w A0 l0.length l0) (hc0 : l0.length ≤ c0) (h : pyxref04_Out.f l0 a1 = some r) :
    Calls Try.prog 49 #[.slice A0 l0.length c0, .string a1] w fun e w' => ∃ v0_ : Value, e = .returned (v0_) ∧ Kd.R (Kd.int .u8) 5 w' w.heap.size (fun _ => True) v0_ r ∧ Below w.heap.size w w' := by
  unfold pyxref04_Out.f at h
  split at h
  case isFalse => cases h
  case isTrue hok =>
  refine D.pyxref04_Out.calls A0 c0 l0 a1 r w hr0 hc0 ?_
  unfold D.pyxref04_Out.f D.pyxref04_Derive.f P.pyxref04_Label.f
  rw [show (32 : Int) = ((32 : Nat) : Int) from rfl, label_some l0 a1 [] 32 (by omega) hok.1 rfl hok.2.1 hok.2.2 (by simp), Option.bind_some, Option.bind_some]
  exact h
end P
end Go.Proofs.Ytpdgeanicciaiaa

/-! KdfShown -/
namespace Go.Proofs.Ytpdgeanicciaiaa
set_option linter.unusedVariables false
set_option linter.unusedSimpArgs false
open Go.RowKit Go.Proofs.YtpdgeanicciaiaaW.PrintWords Go.Proofs.YtpdgeanicciaiaaW.PrintLast Go.Proofs.YtpdgeanicciaiaaW.PrintMore Iter
theorem own_lt {W : World} {base : Nat} {v : Value} {xs : List Int} (h : Kd.R (Kd.int .u8) 5 W base (fun _ => True) v xs) : ∀ g, v.ownBlock = some g → g < W.heap.size := fun g hg => ((Kd.R_bound h).1 g hg).2.2.1
namespace P
end P
end Go.Proofs.Ytpdgeanicciaiaa

/-! SchedA -/
namespace Go.Proofs.Ytpdgeanicciaiaa
set_option linter.unusedVariables false
set_option linter.unusedSimpArgs false
open Go.RowKit Go.Proofs.YtpdgeanicciaiaaW.PrintWords Go.Proofs.YtpdgeanicciaiaaW.PrintLast Go.Proofs.YtpdgeanicciaiaaW.PrintMore Iter
def row32 (x : List Int) : Bool := decide (x.length = 32)
theorem whole1_calls (A : Option Addr) (n c : Nat) (w : World) : Calls Try.prog 87 #[.slice A n c] w fun e w' => e = .returned (.bool ((n : Int) != 32)) ∧ w = w' := by
  go_enter Try.func87, Try.ntmps87
  go_wp2
  go_ret
  exact ⟨rfl, rfl⟩
/-- The first row that has not 32 bytes, from row k on. -/
def badAt (l : List (List Int)) : Int := if l.all row32 then -1 else ((l.findIdx fun x => !row32 x : Nat) : Int)
theorem all_take_succ (l : List (List Int)) (k : Nat) (h : k < l.length) (ha : (l.take k).all row32 = true) : (l.take (k + 1)).all row32 = row32 l[k] := by
  rw [List.take_succ_eq_append_getElem h, List.all_append, ha]
  simp
theorem badAt_here (l : List (List Int)) (k : Nat) (h : k < l.length) (ha : (l.take k).all row32 = true) (hb : row32 l[k] = false) : badAt l = (k : Int) := by
  have hn : l.all row32 = false := by
    rw [List.all_eq_false]
    exact ⟨l[k], List.getElem_mem h, by rw [hb]; simp⟩
  unfold badAt
  rw [hn, if_neg (by simp)]
  congr 1
  refine (List.findIdx_eq h).2 ⟨by rw [hb]; rfl, fun j hj => ?_⟩
  have := List.all_eq_true.1 ha l[j] (List.mem_take_iff_getElem.2 ⟨j, by omega, rfl⟩)
  rw [this]
  rfl
set_option maxRecDepth 100000 in
set_option maxHeartbeats 1000000 in
theorem indexFunc_calls (A0 : Option Addr) (c0 : Nat) (l : List (List Int)) (w : World) (hr : Kd.C (Kd.slice 5 (Kd.int .u8)) w A0 l.length l) (hc : l.length ≤ c0) (hl : l.length ≤ 1000000) :
    Calls Try.prog 96 #[.slice A0 l.length c0, .func (.func 87) #[] #[]] w fun e w' => e = .returned (.int .i64 (badAt l)) ∧ w = w' := by
  have Hr := Lib.hid hr
  clear hr
  go_enter Try.func96, Try.ntmps96
  go_wp2
  go_loop [8] (fun i => ∃ k : Nat, k ≤ l.length ∧ i = .int .i64 (k : Int) ∧ Aside0 ((l.take k).all row32 = true)) (fun i => l.length - (intOf i).toNat)
  case atStart => exact ⟨0, Nat.zero_le _, rfl, ⟨by simp⟩⟩
  case round =>
    obtain ⟨k, hk, rfl, ha⟩ := hrel
    by_cases hlt : k < l.length
    · obtain ⟨ad, rfl, hcell⟩ := Hr.out.2.2 (by omega)
      obtain ⟨cs, hs1, ⟨A, c, hcs, hxc, hxC⟩, hcell⟩ := hcell k l[k] (List.getElem?_eq_getElem hlt)
      have h0 := hcell 0 (Value.slice A l[k].length c) (by rw [hcs]; rfl)
      rw [show k * (Kd.slice 5 (Kd.int .u8)).sz + 0 = k from by show k * 1 + 0 = k; omega] at h0
      have i1 : (k : Int) < (l.length : Int) := by omega
      have hb := all_take_succ l k hlt ha.out
      have hh := badAt_here l k hlt ha.out
      have HA := Lib.hid (And.intro hb hh)
      clear ha hcell hcs hxC hb hh hs1
      by_cases h32 : l[k].length = 32
      · have r1 : row32 l[k] = true := by unfold row32; simpa using h32
        have d1 : ((l[k].length : Int) != 32) = false := by rw [bne_eq_false_iff_eq]; omega
        have HR := Lib.hid (And.intro r1 d1)
        clear r1 d1 h32
        go_wp2_with fail
        refine (whole1_calls A l[k].length c w).mono ?_
        rintro e w' ⟨rfl, rfl⟩
        rw [HR.out.2]
        go_wp2
        go_round
        case rel => exact ⟨k + 1, by omega, by go_num, ⟨by rw [HA.out.1]; exact HR.out.1⟩⟩
        case measure => simp [intOf]; omega
      · have r1 : row32 l[k] = false := by unfold row32; simpa using h32
        have d1 : ((l[k].length : Int) != 32) = true := by rw [bne_iff_ne]; omega
        have HR := Lib.hid (And.intro (HA.out.2 r1) d1)
        clear r1 d1 h32 HA
        go_wp2_with fail
        refine (whole1_calls A l[k].length c w).mono ?_
        rintro e w' ⟨rfl, rfl⟩
        rw [HR.out.2]
        go_wp2
        go_ret
        exact ⟨by rw [HR.out.1]; rfl, rfl⟩
    · obtain rfl : k = l.length := by omega
      have hh : badAt l = -1 := by
        have h := ha.out
        rw [List.take_length] at h
        unfold badAt
        rw [if_pos h]
      have HA := Lib.hid hh
      clear hh ha
      have i1 : ¬ (l.length : Int) < (l.length : Int) := by omega
      go_wp2
      go_ret
      exact ⟨by rw [HA.out]; rfl, rfl⟩
theorem badAt_all (l : List (List Int)) : decide (badAt l ≥ 0) = !(l.all row32) := by
  unfold badAt
  by_cases h : l.all row32 = true
  · rw [if_pos h, h]
    rfl
  · rw [if_neg h, show l.all row32 = false by simpa using h]
    simp
theorem containsFunc_calls (A0 : Option Addr) (c0 : Nat) (l : List (List Int)) (w : World) (hr : Kd.C (Kd.slice 5 (Kd.int .u8)) w A0 l.length l) (hc : l.length ≤ c0) (hl : l.length ≤ 1000000) :
    Calls Try.prog 86 #[.slice A0 l.length c0, .func (.func 87) #[] #[]] w fun e w' => e = .returned (.bool (!(l.all row32))) ∧ w = w' := by
  have hb := badAt_all l
  have H := Lib.hid (And.intro (indexFunc_calls A0 c0 l w hr hc hl) hb)
  clear hr hb
  go_enter Try.func86, Try.ntmps86
  go_wp2_with fail
  refine H.out.1.mono ?_
  rintro e w' ⟨rfl, rfl⟩
  go_wp2
  go_ret
  exact ⟨by rw [← H.out.2]; rfl, rfl⟩
namespace P
def sched_whole.f (l : List (List Int)) : Option Bool := if l.length ≤ 1000000 then some (l.all row32) else none
theorem sched_whole.calls (A0 : Option Addr) (c0 : Nat) (l0 : List (List Int)) (r : Bool) (w : World) (hr0 : Kd.C (Kd.slice 5 (Kd.int .u8)) w A0 l0.length l0) (hc0 : l0.length ≤ c0) (h : sched_whole.f l0 = some r) :
    Calls Try.prog 63 #[.slice A0 l0.length c0] w fun e w' => e = .returned (.bool r) ∧ Drawn0 w w' := by
  unfold sched_whole.f at h
  split at h
  case isFalse => cases h
  case isTrue hl =>
  injection h with h
  have h' : (!(!(l0.all row32))) = r := by rw [← h, Bool.not_not]
  have H := Lib.hid (And.intro (containsFunc_calls A0 c0 l0 w hr0 hc0 hl) h')
  clear h h' hr0
  go_enter Try.func63, Try.ntmps63
  go_wp2_with fail
  refine H.out.1.mono ?_
  rintro e w' ⟨rfl, rfl⟩
  go_wp2
  go_ret
  exact ⟨by rw [← H.out.2, Bool.not_not]; rfl, 0, rfl⟩
end P
end Go.Proofs.Ytpdgeanicciaiaa

/-! SchedB -/
namespace Go.Proofs.Ytpdgeanicciaiaa
set_option linter.unusedVariables false
set_option linter.unusedSimpArgs false
open Go.RowKit Go.Proofs.YtpdgeanicciaiaaW.PrintWords Go.Proofs.YtpdgeanicciaiaaW.PrintLast Go.Proofs.YtpdgeanicciaiaaW.PrintMore Iter
theorem infoParts : (Try.prog.info? 107).map (·.size) = some 5 := by kernel_rfl
def partsV (g : Nat) : Array Value := #[.pointer (some ⟨g, 0, none⟩), .pointer (some ⟨g, 1, none⟩), .pointer (some ⟨g, 2, none⟩), .pointer (some ⟨g, 3, none⟩), .pointer (some ⟨g, 4, none⟩)]
set_option maxRecDepth 100000 in
set_option maxHeartbeats 1000000 in
theorem parts_calls (g : Nat) (w : World) : Calls Try.prog 72 #[.pointer (some ⟨g, 0, none⟩)] w fun e w' => e = .returned (.agg (partsV g)) ∧ Below w.heap.size w w' := by
  go_enter Try.func72, Try.ntmps72
  have br := Blk.new w 107 #[.pointer none, .pointer none, .pointer none, .pointer none, .pointer none]
  have HB := Lib.hid br
  clear br
  go_wp2
  go_still_tail 16, (by kernel_rfl)
  change wpList _ _ _ _ _ (w.alloc (Obj.cells #[.pointer none, .pointer none, .pointer none, .pointer none, .pointer none] 107)).drew
  have hB2 : Blk (w.alloc (Obj.cells #[.pointer none, .pointer none, .pointer none, .pointer none, .pointer none] 107)).drew w.heap.size 107 #[.pointer none, .pointer none, .pointer none, .pointer none, .pointer none] := HB.out
  have hb2 : Below w.heap.size w (w.alloc (Obj.cells #[.pointer none, .pointer none, .pointer none, .pointer none, .pointer none] 107)).drew := ((Below.refl _ w).alloc (Nat.le_refl _) _).drew
  generalize (w.alloc (Obj.cells #[.pointer none, .pointer none, .pointer none, .pointer none, .pointer none] 107)).drew = W2 at *
  have H2 := Lib.hid (And.intro hB2 hb2)
  clear hB2 hb2 HB
  go_wp2_with (refine wpList_store_row rfl 107 _ _ rfl w.heap.size _ rfl rfl 107 _ H2.out.1 infoParts rfl (by simp [Value.oneCell']) ?_)
  exact bodyPost_ret (results_cell_row rfl _ _ w.heap.size 107 (partsV g) (0, 0) _ rfl (setRow_heap _ w.heap.size _ _ _ _ H2.out.1) Try.underlying107 rfl infoParts) rfl ⟨rfl, H2.out.2.trans (Iter.below_setRow _ (Nat.le_refl _))⟩
end Go.Proofs.Ytpdgeanicciaiaa

/-! SchedC -/
namespace Go.Proofs.Ytpdgeanicciaiaa
set_option linter.unusedVariables false
set_option linter.unusedSimpArgs false
open Go.RowKit Go.Proofs.YtpdgeanicciaiaaW.PrintWords Go.Proofs.YtpdgeanicciaiaaW.PrintLast Go.Proofs.YtpdgeanicciaiaaW.PrintMore Iter
namespace P
def bytes_Equal.f (l0 : List Int) (l1 : List Int) : Option (Bool) := if byteOk l0 = true ∧ byteOk l1 = true then some (l0 == l1) else none
theorem bytes_Equal.calls (A0 : Option Addr) (c0 : Nat) (l0 : List Int) (A1 : Option Addr) (c1 : Nat) (l1 : List Int) (r : Bool) (w : World) (hr0 : Kd.C (Kd.int .u8) w A0 l0.length l0) (hc0 : l0.length ≤ c0) (hr1 : Kd.C (Kd.int .u8) w A1 l1.length l1) (hc1 : l1.length ≤ c1) (h : bytes_Equal.f l0 l1 = some r) :
    Calls Try.prog 73 #[.slice A0 l0.length c0, .slice A1 l1.length c1] w fun e w' => e = .returned (.bool r) ∧ Drawn0 w w' := by
  unfold bytes_Equal.f at h
  split at h
  case isFalse => cases h
  case isTrue hok =>
  exact F.bytes_Equal.calls A0 c0 l0 A1 c1 l1 r w hr0 hc0 hr1 hc1 (by rw [← h]; exact congrArg some (strOfNums_inj l0 l1 hok.1 hok.2))
end P
theorem equal_quiet (A : Option Addr) (c : Nat) (x : List Int) (B : Option Addr) (d : Nat) (y : List Int) (w : World) (n : Nat) (h1 : Kd.C (Kd.int .u8) w A x.length x) (h2 : x.length ≤ c) (h3 : Kd.C (Kd.int .u8) w B y.length y) (h4 : y.length ≤ d) (h : P.bytes_Equal.f x y = some (x == y)) :
    Calls Try.prog 73 #[.slice A x.length c, .slice B y.length d] (w.drewN n) fun e w' => e = .returned (.bool (x == y)) ∧ ∃ m, w' = (w.drewN n).drewN m :=
  (P.bytes_Equal.calls A c x B d y (x == y) (w.drewN n) (Kd.C_drewN h1 n) h2 (Kd.C_drewN h3 n) h4 h).mono fun _ _ h => ⟨h.1, h.2.out⟩
def nil5 : Array Value := #[.slice none 0 0, .slice none 0 0, .slice none 0 0, .slice none 0 0, .slice none 0 0]
def ptr5 : Array Value := #[.pointer none, .pointer none, .pointer none, .pointer none, .pointer none]
theorem partsV_get (g k : Nat) (h : k < 5) : (partsV g)[k]? = some (.pointer (some ⟨g, k, none⟩)) := by
  rcases k with _ | _ | _ | _ | _ | k
  · rfl
  · rfl
  · rfl
  · rfl
  · rfl
  · omega
/-- The five rows of an epoch, as they lie. -/
def Five (W : World) (g : Nat) (ls : List (List Int)) : Prop := ∀ k, k < 5 → ∃ A c x, W.cell? ⟨g, k, none⟩ = some (.slice A x.length c) ∧ x.length ≤ c ∧ Kd.C (Kd.int .u8) W A x.length x ∧ ls[k]? = some x ∧ byteOk x = true
theorem Five.drewN {W : World} {g : Nat} {ls : List (List Int)} (h : Five W g ls) (n : Nat) : Five (W.drewN n) g ls := fun k hk => by
  obtain ⟨A, c, x, h1, h2, h3, h4⟩ := h k hk
  exact ⟨A, c, x, h1, h2, Kd.C_drewN h3 n, h4⟩
set_option maxRecDepth 100000 in
set_option maxHeartbeats 2000000 in
theorem same_walk (U V : Array Value) (ls ms : List (List Int)) (w : World) (hl : ls.length = 5) (hm : ms.length = 5)
    (hU : ∀ W g, Below w.heap.size w W → Blk W g 60 U → Five W g ls) (hV : ∀ W g, Below w.heap.size w W → Blk W g 60 V → Five W g ms) :
    Calls Try.prog 47 #[.agg U, .agg V] w fun e w' => e = .returned (.bool (ls == ms)) ∧ Below w.heap.size w w' := by
  have b0 := (Blk.new w 60 U).alloc (Obj.cells V 60)
  have b1 := Blk.new (w.alloc (Obj.cells U 60)) 60 V
  rw [World.size_alloc] at b1
  have hb := ((Below.refl w.heap.size w).alloc (Nat.le_refl _) (Obj.cells U 60)).alloc (by rw [World.size_alloc]; omega) (Obj.cells V 60)
  have hsz : ((w.alloc (Obj.cells U 60)).alloc (Obj.cells V 60)).heap.size = w.heap.size + 2 := by simp
  have H0 := Lib.hid (And.intro b0 (And.intro b1 (And.intro hb hsz)))
  clear b0 b1 hb hsz
  go_enter Try.func47, Try.ntmps47
  go_wp2_with fail
  generalize (w.alloc (Obj.cells U 60)).alloc (Obj.cells V 60) = W0 at *
  refine (parts_calls w.heap.size W0).mono ?_
  rintro e W1 ⟨rfl, hb1⟩
  go_wp2_with fail
  refine (parts_calls (w.heap.size + 1) W1).mono ?_
  rintro e W2 ⟨rfl, hb2⟩
  have c0 := (H0.out.1.below hb1 H0.out.1.lt).below hb2 (by have := hb1.size; have := H0.out.1.lt; omega)
  have c1 := (H0.out.2.1.below hb1 H0.out.2.1.lt).below hb2 (by have := hb1.size; have := H0.out.2.1.lt; omega)
  have hb3 := (H0.out.2.2.1.trans (hb1.mono H0.out.2.2.1.size)).trans (hb2.mono (by have := hb1.size; have := H0.out.2.2.1.size; omega))
  have hs2 : w.heap.size + 2 ≤ W2.heap.size := by have := hb1.size; have := hb2.size; have := H0.out.2.2.2; omega
  have d0 := (c0.alloc (Obj.cells ptr5 107)).alloc (Obj.cells ptr5 107)
  have d1 := (c1.alloc (Obj.cells ptr5 107)).alloc (Obj.cells ptr5 107)
  have e0 := (Blk.new W2 107 ptr5).alloc (Obj.cells ptr5 107)
  have e1 := Blk.new (W2.alloc (Obj.cells ptr5 107)) 107 ptr5
  rw [World.size_alloc] at e1
  have hb4 := (hb3.alloc hb3.size (Obj.cells ptr5 107)).alloc (by rw [World.size_alloc]; have := hb3.size; omega) (Obj.cells ptr5 107)
  have H2 := Lib.hid (And.intro d0 (And.intro d1 (And.intro e0 (And.intro e1 hb4))))
  clear c0 c1 d0 d1 e0 e1 hb4 hb1 hb2 hb3 H0
  go_wp2_with (first
    | (refine wpList_store_row rfl 107 (.tmp 5) (.tmp 8) rfl W2.heap.size (partsV w.heap.size) rfl rfl 107 ptr5 H2.out.2.2.1 infoParts rfl (by simp [partsV, Value.oneCell']) ?_)
    | (refine wpList_store_row rfl 107 (.tmp 6) (.tmp 9) rfl (W2.heap.size + 1) (partsV (w.heap.size + 1)) rfl rfl 107 ptr5 (H2.out.2.2.2.1.farRow (by omega) _) infoParts rfl (by simp [partsV, Value.oneCell']) ?_))
  have x0 := (H2.out.1.farRow (g' := W2.heap.size) (by omega) (partsV w.heap.size)).farRow (g' := W2.heap.size + 1) (by omega) (partsV (w.heap.size + 1))
  have x1 := (H2.out.2.1.farRow (g' := W2.heap.size) (by omega) (partsV w.heap.size)).farRow (g' := W2.heap.size + 1) (by omega) (partsV (w.heap.size + 1))
  have x2 := (H2.out.2.2.1.setRow_ (partsV w.heap.size)).farRow (g' := W2.heap.size + 1) (by omega) (partsV (w.heap.size + 1))
  have x3 := (H2.out.2.2.2.1.farRow (g' := W2.heap.size) (by omega) (partsV w.heap.size)).setRow_ (partsV (w.heap.size + 1))
  have x4 := (H2.out.2.2.2.2.trans (Iter.below_setRow (partsV w.heap.size) (show w.heap.size ≤ W2.heap.size by omega))).trans (Iter.below_setRow (partsV (w.heap.size + 1)) (show w.heap.size ≤ W2.heap.size + 1 by omega))
  change Code.wp Try.prog _ _ _ ((((W2.alloc (Obj.cells ptr5 107)).alloc (Obj.cells ptr5 107)).setRow W2.heap.size (partsV w.heap.size)).setRow (W2.heap.size + 1) (partsV (w.heap.size + 1)))
  generalize (((W2.alloc (Obj.cells ptr5 107)).alloc (Obj.cells ptr5 107)).setRow W2.heap.size (partsV w.heap.size)).setRow (W2.heap.size + 1) (partsV (w.heap.size + 1)) = WL at *
  have f0 := hU WL w.heap.size x4 x0
  have f1 := hV WL (w.heap.size + 1) x4 x1
  have HL := Lib.hid (And.intro f0 (And.intro f1 (And.intro x2 (And.intro x3 x4))))
  have HLS := Lib.hid (And.intro hl hm)
  clear f0 f1 x0 x1 x2 x3 x4 H2 hU hV hl hm
  go_loopw [10] (fun i wr => ∃ k : Nat, k ≤ 5 ∧ i = .int .i64 (k : Int) ∧ Aside0 (∃ n, wr = WL.drewN n) ∧ Aside0 (∀ j, j < k → ls[j]? = ms[j]?)) (fun i _ => 5 - (intOf i).toNat)
  case atStart => exact ⟨0, by omega, rfl, ⟨0, rfl⟩, ⟨fun j hj => by omega⟩⟩
  case round =>
    obtain ⟨k, hk, rfl, hn, he⟩ := hrel
    by_cases hlt : k < 5
    · obtain ⟨A, c, x, g1, g2, g3, g4, g5⟩ : ∃ A c x, wr.cell? ⟨w.heap.size, k, none⟩ = some (.slice A x.length c) ∧ x.length ≤ c ∧ Kd.C (Kd.int .u8) wr A x.length x ∧ ls[k]? = some x ∧ byteOk x = true := by
        obtain ⟨n, e⟩ := hn.out
        rw [e]
        exact HL.out.1.drewN n k hlt
      obtain ⟨B, d, y, h1, h2, h3, h4, h5⟩ : ∃ A c x, wr.cell? ⟨w.heap.size + 1, k, none⟩ = some (.slice A x.length c) ∧ x.length ≤ c ∧ Kd.C (Kd.int .u8) wr A x.length x ∧ ms[k]? = some x ∧ byteOk x = true := by
        obtain ⟨n, e⟩ := hn.out
        rw [e]
        exact HL.out.2.1.drewN n k hlt
      have p1 : wr.cell? ⟨W2.heap.size, k, none⟩ = some (.pointer (some ⟨w.heap.size, k, none⟩)) := by
        obtain ⟨n, e⟩ := hn.out
        rw [e]
        exact (HL.out.2.2.1.cell k).trans (partsV_get _ k hlt)
      have p2 : wr.cell? ⟨W2.heap.size + 1, k, none⟩ = some (.pointer (some ⟨w.heap.size + 1, k, none⟩)) := by
        obtain ⟨n, e⟩ := hn.out
        rw [e]
        exact (HL.out.2.2.2.1.cell k).trans (partsV_get _ k hlt)
      have hE : P.bytes_Equal.f x y = some (x == y) := by unfold P.bytes_Equal.f; rw [if_pos ⟨g5, h5⟩]
      have CE := Lib.hid (fun n => equal_quiet A c x B d y wr n g3 g2 h3 h2 hE)
      have HE := Lib.hid (And.intro g4 h4)
      have i1 : (k : Int) < 5 := by omega
      clear g3 g4 g5 h3 h4 h5 hE
      go_wp2_with fail
      go_quiet ((go_at_call 73; exact Calls.quiet_of (CE.out _)))
      by_cases hxy : x = y
      · have d1 : (x == y) = true := by rw [hxy]; exact beq_self_eq_true y
        have HX := Lib.hid (show ls[k]? = ms[k]? by rw [HE.out.1, HE.out.2, hxy])
        rw [d1]
        clear hxy d1
        go_wp2
        go_roundw
        case rel =>
          refine ⟨k + 1, by omega, by go_num, ?_, ⟨fun j hj => ?_⟩⟩
          · obtain ⟨n, e⟩ := hn.out
            exact ⟨n + nq, by rw [e, World.drewN_drewN]⟩
          · rcases Nat.lt_or_ge j k with h | h
            · exact he.out j h
            · rw [show j = k by omega]
              exact HX.out
        case measure => simp [intOf]; omega
      · have d1 : (x == y) = false := by rw [beq_eq_false_iff_ne]; exact hxy
        have hfin : (ls == ms) = false := by
          rw [beq_eq_false_iff_ne]
          intro e
          have h1 := HE.out.1
          rw [e, HE.out.2] at h1
          exact hxy (Option.some.inj h1).symm
        have HF := Lib.hid hfin
        rw [d1]
        clear hxy d1 hfin
        have hbf : Aside0 (Below w.heap.size w (wr.drewN nq)) := by
          obtain ⟨n, e⟩ := hn.out
          exact ⟨by rw [e]; exact pw_below_drewN (pw_below_drewN HL.out.2.2.2.2 n) nq⟩
        go_wp2
        go_ret
        exact ⟨by rw [HF.out]; rfl, hbf.out⟩
    · obtain rfl : k = 5 := by omega
      have hfin : (ls == ms) = true := by
        rw [beq_iff_eq]
        apply List.ext_getElem?
        intro j
        rcases Nat.lt_or_ge j 5 with h | h
        · exact he.out j h
        · rw [List.getElem?_eq_none (by rw [HLS.out.1]; exact h), List.getElem?_eq_none (by rw [HLS.out.2]; exact h)]
      have HF := Lib.hid hfin
      clear hfin
      have hbf : Aside0 (Below w.heap.size w wr) := by
        obtain ⟨n, e⟩ := hn.out
        exact ⟨by rw [e]; exact pw_below_drewN HL.out.2.2.2.2 n⟩
      go_wp2
      go_ret
      exact ⟨by rw [HF.out]; rfl, hbf.out⟩
theorem five_of (w W : World) (g : Nat) (A0_0 : Option Addr) (c0_0 : Nat) (l0_0 : List Int) (A0_1 : Option Addr) (c0_1 : Nat) (l0_1 : List Int) (A0_2 : Option Addr) (c0_2 : Nat) (l0_2 : List Int) (A0_3 : Option Addr) (c0_3 : Nat) (l0_3 : List Int) (A0_4 : Option Addr) (c0_4 : Nat) (l0_4 : List Int) (hb : Below w.heap.size w W) (hr0_0 : Kd.C (Kd.int .u8) w A0_0 l0_0.length l0_0) (hc0_0 : l0_0.length ≤ c0_0) (hr0_1 : Kd.C (Kd.int .u8) w A0_1 l0_1.length l0_1) (hc0_1 : l0_1.length ≤ c0_1) (hr0_2 : Kd.C (Kd.int .u8) w A0_2 l0_2.length l0_2) (hc0_2 : l0_2.length ≤ c0_2) (hr0_3 : Kd.C (Kd.int .u8) w A0_3 l0_3.length l0_3) (hc0_3 : l0_3.length ≤ c0_3) (hr0_4 : Kd.C (Kd.int .u8) w A0_4 l0_4.length l0_4) (hc0_4 : l0_4.length ≤ c0_4) (ok : [l0_0, l0_1, l0_2, l0_3, l0_4].all byteOk = true)
    (B : Blk W g 60 #[.slice A0_0 l0_0.length c0_0, .slice A0_1 l0_1.length c0_1, .slice A0_2 l0_2.length c0_2, .slice A0_3 l0_3.length c0_3, .slice A0_4 l0_4.length c0_4]) : Five W g [l0_0, l0_1, l0_2, l0_3, l0_4] := by
  simp only [List.all_cons, List.all_nil, Bool.and_true, Bool.and_eq_true] at ok
  obtain ⟨o0, o1, o2, o3, o4⟩ := ok
  intro k hk
  rcases k with _ | _ | _ | _ | _ | k
  · exact ⟨A0_0, c0_0, l0_0, (B.cell 0).trans rfl, hc0_0, Kd.C_below hr0_0 hb, rfl, o0⟩
  · exact ⟨A0_1, c0_1, l0_1, (B.cell 1).trans rfl, hc0_1, Kd.C_below hr0_1 hb, rfl, o1⟩
  · exact ⟨A0_2, c0_2, l0_2, (B.cell 2).trans rfl, hc0_2, Kd.C_below hr0_2 hb, rfl, o2⟩
  · exact ⟨A0_3, c0_3, l0_3, (B.cell 3).trans rfl, hc0_3, Kd.C_below hr0_3 hb, rfl, o3⟩
  · exact ⟨A0_4, c0_4, l0_4, (B.cell 4).trans rfl, hc0_4, Kd.C_below hr0_4 hb, rfl, o4⟩
  · omega
namespace P
def sched_Same.f (l0_0 l0_1 l0_2 l0_3 l0_4 l1_0 l1_1 l1_2 l1_3 l1_4 : List Int) : Option Bool := if [l0_0, l0_1, l0_2, l0_3, l0_4].all byteOk = true ∧ [l1_0, l1_1, l1_2, l1_3, l1_4].all byteOk = true then some ([l0_0, l0_1, l0_2, l0_3, l0_4] == [l1_0, l1_1, l1_2, l1_3, l1_4]) else none
set_option maxRecDepth 100000 in
theorem sched_Same.calls (A0_0 : Option Addr) (c0_0 : Nat) (l0_0 : List Int) (A0_1 : Option Addr) (c0_1 : Nat) (l0_1 : List Int) (A0_2 : Option Addr) (c0_2 : Nat) (l0_2 : List Int) (A0_3 : Option Addr) (c0_3 : Nat) (l0_3 : List Int) (A0_4 : Option Addr) (c0_4 : Nat) (l0_4 : List Int) (A1_0 : Option Addr) (c1_0 : Nat) (l1_0 : List Int) (A1_1 : Option Addr) (c1_1 : Nat) (l1_1 : List Int) (A1_2 : Option Addr) (c1_2 : Nat) (l1_2 : List Int) (A1_3 : Option Addr) (c1_3 : Nat) (l1_3 : List Int) (A1_4 : Option Addr) (c1_4 : Nat) (l1_4 : List Int) (r : Bool) (w : World) (hr0_0 : Kd.C (Kd.int .u8) w A0_0 l0_0.length l0_0) (hc0_0 : l0_0.length ≤ c0_0) (hr0_1 : Kd.C (Kd.int .u8) w A0_1 l0_1.length l0_1) (hc0_1 : l0_1.length ≤ c0_1) (hr0_2 : Kd.C (Kd.int .u8) w A0_2 l0_2.length l0_2) (hc0_2 : l0_2.length ≤ c0_2) (hr0_3 : Kd.C (Kd.int .u8) w A0_3 l0_3.length l0_3) (hc0_3 : l0_3.length ≤ c0_3) (hr0_4 : Kd.C (Kd.int .u8) w A0_4 l0_4.length l0_4) (hc0_4 : l0_4.length ≤ c0_4) (hr1_0 : Kd.C (Kd.int .u8) w A1_0 l1_0.length l1_0) (hc1_0 : l1_0.length ≤ c1_0) (hr1_1 : Kd.C (Kd.int .u8) w A1_1 l1_1.length l1_1) (hc1_1 : l1_1.length ≤ c1_1) (hr1_2 : Kd.C (Kd.int .u8) w A1_2 l1_2.length l1_2) (hc1_2 : l1_2.length ≤ c1_2) (hr1_3 : Kd.C (Kd.int .u8) w A1_3 l1_3.length l1_3) (hc1_3 : l1_3.length ≤ c1_3) (hr1_4 : Kd.C (Kd.int .u8) w A1_4 l1_4.length l1_4) (hc1_4 : l1_4.length ≤ c1_4) (h : sched_Same.f l0_0 l0_1 l0_2 l0_3 l0_4 l1_0 l1_1 l1_2 l1_3 l1_4 = some r) :
    Calls Try.prog 47 #[.agg #[.slice A0_0 l0_0.length c0_0, .slice A0_1 l0_1.length c0_1, .slice A0_2 l0_2.length c0_2, .slice A0_3 l0_3.length c0_3, .slice A0_4 l0_4.length c0_4], .agg #[.slice A1_0 l1_0.length c1_0, .slice A1_1 l1_1.length c1_1, .slice A1_2 l1_2.length c1_2, .slice A1_3 l1_3.length c1_3, .slice A1_4 l1_4.length c1_4]] w fun e w' => e = .returned (.bool r) ∧ Below w.heap.size w w' := by
  unfold sched_Same.f at h
  split at h
  case isFalse => cases h
  case isTrue hok =>
  injection h with h
  subst h
  exact same_walk _ _ [l0_0, l0_1, l0_2, l0_3, l0_4] [l1_0, l1_1, l1_2, l1_3, l1_4] w rfl rfl (fun W g hb B => five_of w W g A0_0 c0_0 l0_0 A0_1 c0_1 l0_1 A0_2 c0_2 l0_2 A0_3 c0_3 l0_3 A0_4 c0_4 l0_4 hb hr0_0 hc0_0 hr0_1 hc0_1 hr0_2 hc0_2 hr0_3 hc0_3 hr0_4 hc0_4 hok.1 B) (fun W g hb B => five_of w W g A1_0 c1_0 l1_0 A1_1 c1_1 l1_1 A1_2 c1_2 l1_2 A1_3 c1_3 l1_3 A1_4 c1_4 l1_4 hb hr1_0 hc1_0 hr1_1 hc1_1 hr1_2 hc1_2 hr1_3 hc1_3 hr1_4 hc1_4 hok.2 B)
end P
end Go.Proofs.Ytpdgeanicciaiaa

/-! E0 -/
namespace Go.Proofs.Ytpdgeanicciaiaa.E
open Go.Proofs.Ytpdgeanicciaiaa.P
open Go.RowKit Go.Proofs.YtpdgeanicciaiaaW.PrintWords Go.Proofs.YtpdgeanicciaiaaW.PrintLast Go.Proofs.YtpdgeanicciaiaaW.PrintMore
attribute [local go_sem] max2_int min2_int max_two min_two max_three min_three max_four min_four   -- for this text's walks alone
set_option linter.unusedVariables false
set_option linter.unusedSimpArgs false
def errW : Option Int → Value
  | none => .nilIface
  | some c => .iface 0 (.int .i64 c)
theorem errW_none : errW none = .nilIface := rfl
theorem errW_some (c : Int) : errW (some c) = .iface 0 (.int .i64 c) := rfl
theorem info5 : (Try.prog.info? 5).map (fun i => (i.zero, i.size, i.bytes)) = some (some (.int .u8 0), 1, 1) := by kernel_rfl
-- the values' own types
def rd_L1 (xs : List (List Int)) (i : Int) : (List Int) := xs.getD i.toNat ([] : List Int)
theorem at_L1 {w : World} {A : Option Addr} {n : Nat} {xs : List (List Int)} (h : Kd.C (Kd.slice 5 (Kd.int .u8)) w A n xs) (i : Int) (h0 : 0 ≤ i) (h1 : i < n) : ∃ ad A0 c0, A = some ad ∧ w.cell? (ad.add i.toNat) = some (.slice A0 (rd_L1 xs i).length c0) ∧ (rd_L1 xs i).length ≤ c0 ∧ (Kd.int .u8).C w A0 (rd_L1 xs i).length (rd_L1 xs i) := by
  obtain ⟨ad, c, e, _, hK, hc0⟩ := Kd.C_get h ([] : List Int) i h0 h1
  have hc : ∀ j u, c[j]? = some u → w.cell? (ad.add (i.toNat * 1 + j)) = some u := hc0
  obtain ⟨A0, c0, rfl, l0, g0⟩ := hK
  exact ⟨ad, A0, c0, e, by have hq := hc 0 _ rfl; rwa [Nat.mul_one, Nat.add_zero] at hq, l0, g0⟩
end Go.Proofs.Ytpdgeanicciaiaa.E

/-! E1 -/
namespace Go.Proofs.Ytpdgeanicciaiaa.E
open Go.Proofs.Ytpdgeanicciaiaa.P
open Go.RowKit Go.Proofs.YtpdgeanicciaiaaW.PrintWords Go.Proofs.YtpdgeanicciaiaaW.PrintLast Go.Proofs.YtpdgeanicciaiaaW.PrintMore
attribute [local go_sem] max2_int min2_int max_two min_two max_three min_three max_four min_four   -- for this text's walks alone
set_option linter.unusedVariables false
set_option linter.unusedSimpArgs false
-- NOT PRINTED: function 96 (slices_IndexFunc_byte_byte)
-- NOT PRINTED: function 86 (slices_ContainsFunc_byte_byte)
-- NOT PRINTED: function 63 (sched_whole)
-- NOT PRINTED: function 95 (byt_wide)
-- NOT PRINTED: function 81 (byt_Len)
/-! ### sched_rows: function 65 -/
def sched_rows.l0 : Nat → List Int → List (List Int) → Int → Int → Option (List Int)
  | 0, _, _, _, _ => none
  | k + 1, x3, x8, x9, x10 => if x10 < x9 then (if 0 ≤ x10 then (if x10 < (x8.length : Int) then ((byt_Row.f (rd_L1 x8 x10)).bind fun bt102 => (if x3.length + bt102.1.length < 140737488355328 then (sched_rows.l0 k (x3 ++ bt102.1) x8 x9 (wrap64 (x10 + 1))) else (none))) else (none)) else (none)) else (some x3)
def sched_rows.f (k : Nat) (l0 : List (List Int)) : Option (List Int) := sched_rows.l0 k ([] : List Int) l0 (l0.length : Int) 0
theorem sched_rows.mono_l : ∀ k, (∀ y0 y1 y2 y3, LeO (sched_rows.l0 k y0 y1 y2 y3) (sched_rows.l0 (k + 1) y0 y1 y2 y3))
  | 0 => fun _ _ _ _ r h => by simp [sched_rows.l0] at h
  | k + 1 => by
    have ih0 := sched_rows.mono_l k
    · intro y0 y1 y2 y3
      unfold sched_rows.l0
      repeat' first
      | (with_reducible exact ih0 _ _ _ _)
      | (with_reducible exact LeO.refl _)
      | (with_reducible exact LeO.none _)
      | (with_reducible refine LeO.ite ?_ ?_)
      | (with_reducible refine LeO.bind ?_ (fun _ => ?_))
      | exact ih0 _ _ _ _
      | exact LeO.none _
      | refine LeO.ite ?_ ?_
      | refine LeO.bind ?_ (fun _ => ?_)
theorem sched_rows.mono : ∀ a0 k, LeO (sched_rows.f k a0) (sched_rows.f (k + 1) a0) := by
  intro a0 k
  have ih0 := sched_rows.mono_l k
  unfold sched_rows.f
  repeat' first
      | (with_reducible exact ih0 _ _ _ _)
      | (with_reducible exact LeO.refl _)
      | (with_reducible exact LeO.none _)
      | (with_reducible refine LeO.ite ?_ ?_)
      | (with_reducible refine LeO.bind ?_ (fun _ => ?_))
      | exact ih0 _ _ _ _
      | exact LeO.none _
      | refine LeO.ite ?_ ?_
      | refine LeO.bind ?_ (fun _ => ?_)
set_option maxHeartbeats 8000000 in
set_option maxRecDepth 100000 in
theorem sched_rows.calls (k : Nat) (A0 : Option Addr) (c0 : Nat) (l0 : List (List Int)) (r : List Int) (w : World) (hr0 : Kd.C (Kd.slice 5 (Kd.int .u8)) w A0 l0.length l0) (hc0 : l0.length ≤ c0) (h : sched_rows.f k l0 = some r) :
    Calls Try.prog 65 #[.slice A0 l0.length c0] w fun e w' => ∃ v0_ : Value, e = .returned (v0_) ∧ Kd.R (Kd.int .u8) 5 w' w.heap.size (fun _ => True) v0_ r ∧ Below w.heap.size w w' := by
  have HR0 := Aside0.mk hr0
  have HC0 := Aside0.mk hc0
  clear hr0 hc0
  have HB := Aside0.mk (Below.refl w.heap.size w)
  have H : (sched_rows.l0 k ([] : List Int) l0 (l0.length : Int) 0) = some r := h
  clear h
  have H' := Aside0.mk H
  clear H
  go_enter Try.func65, Try.ntmps65
  go_wp2
  go_loopg [3, 10] k (fun kq v3 v10 w' => ∃ (x3_1 : List Int) (x10_1 : Int), v10 = .int .i64 x10_1 ∧ Aside0 (sched_rows.l0 kq x3_1 l0 (l0.length : Int) x10_1 = some r) ∧ Aside0 (kq ≤ k) ∧ Aside0 (Kd.R (Kd.int .u8) 5 w' w.heap.size (fun _ => True) v3 x3_1) ∧ Aside0 (Below w.heap.size w w'))
  case atStart => exact ⟨(([] : List Int)), (0), (by first | rfl | (simp; done) | (simp [*]; done)), H', ⟨Nat.le_refl _⟩, ⟨by first | exact Kd.R_nil _ _ _ _ _ | exact Kd.N_nil _ _ _ _ _ | exact Kd.V_nil _ _ _ _ _ | exact Kd.Q_nil _ _ _ _ _ | exact Kd.S_nil _ _ _ _ _⟩, ⟨by repeat (first | (with_reducible first | exact HB.out | apply below_alloc | apply pw_below_drewN | apply below_drew1) | exact HB.out)⟩⟩
  case round =>
    clear H'
    obtain ⟨x3_1, x10_1, rfl, HA, HK1, HO_3, HB⟩ := hrel
    cases gk with
    | zero => exact absurd HA.out (by simp [sched_rows.l0])
    | succ k1 =>
      have H := HA.out
      clear HA
      simp only [sched_rows.l0] at H
      by_cases c2 : x10_1 < (l0.length : Int)
      · rw [if_pos c2] at H
        have c2b0 : decide (x10_1 < (l0.length : Int)) = true := decide_eq_true c2
        clear c2
        by_cases c3 : 0 ≤ x10_1
        · rw [if_pos c3] at H
          have c3b0 : decide (0 ≤ x10_1) = true := decide_eq_true c3
          clear c3
          by_cases c4 : x10_1 < (l0.length : Int)
          · rw [if_pos c4] at H
            have c4b0 : decide (x10_1 < (l0.length : Int)) = true := decide_eq_true c4
            clear c4
            replace H := Option.bind_eq_some_iff.mp H
            obtain ⟨⟨t102, t103⟩, A50, H⟩ := H
            replace H : (if x3_1.length + t102.length < 140737488355328 then (sched_rows.l0 k1 (x3_1 ++ t102) l0 (l0.length : Int) (wrap64 (x10_1 + 1))) else (none)) = some r := H
            have A5 := Aside0.mk A50
            clear A50
            by_cases c6 : x3_1.length + t102.length < 140737488355328
            · rw [if_pos c6] at H
              have LMc6 := Aside0.mk c6
              clear c6
              obtain ⟨y106, hy106⟩ : ∃ y_ : List Int, y_ = (x3_1 ++ t102) := ⟨_, rfl⟩
              replace H : (sched_rows.l0 k1 y106 l0 (l0.length : Int) (wrap64 (x10_1 + 1))) = some r := by first | (rw [hy106]; with_reducible exact H) | (have H2_ := (Option.bind_some _ _).symm.trans H; rw [hy106]; with_reducible exact H2_) | (have H2_ := (Option.bind_some _ _).symm.trans H; with_reducible exact H2_) | with_reducible exact H | (rw [hy106]; exact H) | exact H
              have Ny106 := Aside0.mk hy106
              clear hy106
              have H' := Aside0.mk H
              clear H
              have p101 : 0 ≤ (x10_1 : Int) := of_decide_eq_true (by first | (with_reducible assumption) | assumption)
              have q101 : x10_1 < (l0.length : Int) := of_decide_eq_true (by first | (with_reducible assumption) | assumption)
              obtain ⟨ad101, A101_0, c101_0, e101, hx101_0, hl101_0, hi101_0⟩ := at_L1 HR0.out x10_1 p101 q101
              cases e101
              replace hx101_0 := (HB.out.cell (World.block_lt_of_cell? w _ hx101_0)).trans hx101_0
              have HR101_0 := Aside0.mk hi101_0
              have HC101_0 := Aside0.mk hl101_0
              clear hi101_0 hl101_0
              replace p101 := eq_true p101
              replace q101 := eq_true q101
              go_wp2_with (first | ((with_reducible refine gate_callee (f := 57) rfl ?_); refine goesL_ (some 16) rfl rfl Try.func57 (by kernel_rfl) rfl #[.slice A101_0 (rd_L1 l0 x10_1).length c101_0] rfl (by (try simp only [List.map_toArray, List.map_cons, List.map_nil]); first | done | rfl | (simp only [List.length_drop, List.length_take]; rfl)) ?_; (with_reducible refine (byt_Row.calls _ _ (rd_L1 l0 x10_1) t102 t103 _ ?side1 ?side2 A5.out).mono ?_); (case side1 => repeat (first | exact (Kd.C_below HR101_0.out HB.out) | (with_reducible refine Kd.C_alloc ?_ _) | (with_reducible refine Kd.C_drewN ?_ _) | (with_reducible refine Kd.C_drew ?_))); (case side2 => exact HC101_0.out); rintro e w7 ⟨v104, rfl, ho0, hb⟩; refine ⟨_, rfl, ?_⟩; have n0_ := Aside0.mk (Kd.R_elder' (by (with_reducible repeat (first | apply Kd.R_alloc | apply Kd.R_drewN | apply Kd.R_drew)); exact HO_3.out) (Kd.R_base ho0) hb); have n1_ := Aside0.mk (Kd.R_lower (Kd.R_new' ho0 (Kd.R_lt (by (with_reducible repeat (first | apply Kd.R_alloc | apply Kd.R_drewN | apply Kd.R_drew)); exact HO_3.out))) (below_size (by repeat (first | (with_reducible first | exact HB.out | apply below_alloc | apply pw_below_drewN | apply below_drew1) | exact HB.out)))); have n2_ := Aside0.mk (below_step (by repeat (first | (with_reducible first | exact HB.out | apply below_alloc | apply pw_below_drewN | apply below_drew1) | exact HB.out)) hb); clear HO_3; clear HB; have HO_3 := n0_; have HO105 := n1_; have HB := n2_; clear n0_ n1_ n2_; (try clear hb); (try clear hb2); (try clear hk); (try clear hi); (try clear ho0); obtain ⟨Ao9, co9, eo9⟩ := Kd.R_slice HO105.out; subst eo9) | ((with_reducible refine gate_builtin (b := .append) (xs := #[.tmp 19, .tmp 20]) rfl ?_); at_builtin; refine Kd.R_append_rows (Kd.int .u8) (w0 := w) w.heap.size rfl (.tmp 19) (.tmp 20) 22 5 (.int .u8 0) 1 rfl Try.underlying22 info5 rfl (by decide) (by omega) u3 x3_1 t102 _ _ _ (fun k_ => some k_ ≠ (.slice Ao9 t102.length co9 : Value).ownBlock) (fun _ => False) rfl rfl ?aO ?aR (fun _ _ h => h) (fun _ h => h.elim) ?aF ?aB ?aS ?aL ?_; (case aR => repeat (first | exact (Kd.R_reads' HO105.out).2.2 | (with_reducible refine Kd.C_alloc ?_ _) | (with_reducible refine Kd.C_drewN ?_ _) | (with_reducible refine Kd.C_drew ?_))); (case aB => exact (by repeat (first | (with_reducible first | exact HB.out | apply below_alloc | apply pw_below_drewN | apply below_drew1) | exact HB.out))); (case aF => exact (fun k_ hk => Kd.fresh' (Kd.R_lt (by (with_reducible repeat (first | apply Kd.R_alloc | apply Kd.R_drewN | apply Kd.R_drew)); exact HO105.out)) k_ hk)); (case aO => exact (by (with_reducible repeat (first | apply Kd.R_alloc | apply Kd.R_drewN | apply Kd.R_drew)); exact Kd.R_mono HO_3.out (fun _ hk => hk.2))); (case aS => exact (below_size (by repeat (first | (with_reducible first | exact HB.out | apply below_alloc | apply pw_below_drewN | apply below_drew1) | exact HB.out)))); (case aL => have := LMc6.out; omega); intro v107 w8 ho hb hg hat; rw [← Ny106.out] at ho; have n0_ := Aside0.mk (Kd.R_after (ok := (fun _ => True)) (by (with_reducible repeat (first | apply Kd.R_alloc | apply Kd.R_drewN | apply Kd.R_drew)); exact HO105.out) hg hat); have n1_ := Aside0.mk (hb); have n2_ := Aside0.mk (ho); clear HO105; clear HB; clear HO_3; have HO105 := n0_; have HB := n1_; have HO108 := n2_; clear n0_ n1_ n2_; clear ho hb hg hat))
              go_roundg k1
              case measure => have := HK1.out; omega
              case rel => exact ⟨(y106), (wrap64 (x10_1 + 1)), (by first | rfl | (simp; done) | (simp [*]; done)), H', ⟨by have := HK1.out; omega⟩, ⟨by (with_reducible repeat (first | apply Kd.R_alloc | apply Kd.R_drewN | apply Kd.R_drew)); exact Kd.R_mono HO108.out (fun _ hk => trivial)⟩, ⟨by repeat (first | (with_reducible first | exact HB.out | apply below_alloc | apply pw_below_drewN | apply below_drew1) | exact HB.out)⟩⟩
            · rw [if_neg c6] at H
              exact absurd H (by simp)
          · rw [if_neg c4] at H
            exact absurd H (by simp)
        · rw [if_neg c3] at H
          exact absurd H (by simp)
      · rw [if_neg c2] at H
        have c2b0 : decide (x10_1 < (l0.length : Int)) = false := decide_eq_false c2
        clear c2
        obtain rfl := Option.some.inj H
        go_wp2
        go_ret
        exact ⟨_, by first | rfl | (simp [errW_none, errW_some] <;> rfl) | (simp [*, errW_none, errW_some] <;> rfl), by (with_reducible repeat (first | apply Kd.R_alloc | apply Kd.R_drewN | apply Kd.R_drew)); exact HO_3.out, by repeat (first | (with_reducible first | exact HB.out | apply below_alloc | apply pw_below_drewN | apply below_drew1) | exact HB.out)⟩
-- NOT PRINTED: function 88 (slices_Grow_byte_byte)
-- NOT PRINTED: function 31 (sched_Context)
-- NOT PRINTED: function 53 (kdf_first)
-- NOT PRINTED: function 16 (kdf_Expand)
/-! ### sched_label: function 67 -/
def sched_label.f (l0 : List Int) (a1 : ByteArray) (l2 : List Int) : Option (List Int) := (kdf_Label.f l0 a1 l2 32).bind fun bt112 => (some bt112.1)
set_option maxHeartbeats 8000000 in
set_option maxRecDepth 100000 in
theorem sched_label.calls (A0 : Option Addr) (c0 : Nat) (l0 : List Int) (a1 : ByteArray) (A2 : Option Addr) (c2 : Nat) (l2 : List Int) (r : List Int) (w : World) (hr0 : Kd.C (Kd.int .u8) w A0 l0.length l0) (hc0 : l0.length ≤ c0) (hr2 : Kd.C (Kd.int .u8) w A2 l2.length l2) (hc2 : l2.length ≤ c2) (h : sched_label.f l0 a1 l2 = some r) :
    Calls Try.prog 67 #[.slice A0 l0.length c0, .string a1, .slice A2 l2.length c2] w fun e w' => ∃ v0_ : Value, e = .returned (v0_) ∧ Kd.R (Kd.int .u8) 5 w' w.heap.size (fun _ => True) v0_ r ∧ Below w.heap.size w w' := by
  have HR0 := Aside0.mk hr0
  have HC0 := Aside0.mk hc0
  clear hr0 hc0
  have HR2 := Aside0.mk hr2
  have HC2 := Aside0.mk hc2
  clear hr2 hc2
  have HB := Aside0.mk (Below.refl w.heap.size w)
  have H : ((kdf_Label.f l0 a1 l2 32).bind fun bt112 => (some bt112.1)) = some r := h
  clear h
  replace H := Option.bind_eq_some_iff.mp H
  obtain ⟨⟨t112, t113⟩, A40, H⟩ := H
  replace H : (some t112) = some r := H
  have A4 := Aside0.mk A40
  clear A40
  obtain rfl := Option.some.inj H
  go_enter Try.func67, Try.ntmps67
  go_wp2_with (first | ((with_reducible refine gate_callee (f := 18) rfl ?_); refine goesL_ (some 13) rfl rfl Try.func18 (by kernel_rfl) rfl #[.slice A0 l0.length c0, .string a1, .slice A2 l2.length c2, .int .i64 32] rfl (by (try simp only [List.map_toArray, List.map_cons, List.map_nil]); first | done | rfl | (simp only [List.length_drop, List.length_take]; rfl)) ?_; (with_reducible refine (kdf_Label.calls _ _ l0 a1 _ _ l2 32 t112 t113 _ ?side1 ?side2 ?side3 ?side4 A4.out).mono ?_); (case side1 => repeat (first | exact HR0.out | (with_reducible refine Kd.C_alloc ?_ _) | (with_reducible refine Kd.C_drewN ?_ _) | (with_reducible refine Kd.C_drew ?_))); (case side2 => exact HC0.out); (case side3 => repeat (first | exact HR2.out | (with_reducible refine Kd.C_alloc ?_ _) | (with_reducible refine Kd.C_drewN ?_ _) | (with_reducible refine Kd.C_drew ?_))); (case side4 => exact HC2.out); rintro e w5 ⟨v114, rfl, ho0, hb⟩; refine ⟨_, rfl, ?_⟩; have n0_ := Aside0.mk (Kd.R_lower ho0 (below_size (by repeat (first | (with_reducible first | exact HB.out | apply below_alloc | apply pw_below_drewN | apply below_drew1) | exact HB.out)))); have n1_ := Aside0.mk (below_step (by repeat (first | (with_reducible first | exact HB.out | apply below_alloc | apply pw_below_drewN | apply below_drew1) | exact HB.out)) hb); clear HB; have HO115 := n0_; have HB := n1_; clear n0_ n1_; (try clear hb); (try clear hb2); (try clear hk); (try clear hi); (try clear ho0)))
  go_ret
  exact ⟨_, by first | rfl | (simp [errW_none, errW_some] <;> rfl) | (simp [*, errW_none, errW_some] <;> rfl), by (with_reducible repeat (first | apply Kd.R_alloc | apply Kd.R_drewN | apply Kd.R_drew)); exact HO115.out, by repeat (first | (with_reducible first | exact HB.out | apply below_alloc | apply pw_below_drewN | apply below_drew1) | exact HB.out)⟩
-- NOT PRINTED: function 97 (sha_primes)
-- NOT PRINTED: function 104 (bits_Mul64)
-- NOT PRINTED: function 105 (bits_Add64)
-- NOT PRINTED: function 102 (sha_above)
-- NOT PRINTED: function 98 (sha_root)
-- NOT PRINTED: function 89 (sha_keys)
-- NOT PRINTED: function 90 (sha_Start)
-- NOT PRINTED: function 103 (bits_RotateLeft32)
-- NOT PRINTED: function 100 (sha_turned)
-- NOT PRINTED: function 99 (sha_words)
-- NOT PRINTED: function 91 (sha_mixed)
-- NOT PRINTED: function 92 (sha_Pad)
-- NOT PRINTED: function 80 (mac_joined)
-- NOT PRINTED: function 83 (mac_Key)
-- NOT PRINTED: function 33 (sched_Joiner)
/-! ### sched_Shared: function 38 -/
def sched_Shared.l0 : Nat → List Int → List (List Int) → Int → Int → Option (List Int)
  | 0, _, _, _, _ => none
  | k + 1, x3, x9, x10, x11 => if x11 < x10 then (if 0 ≤ x11 then (if x11 < (x9.length : Int) then ((byt_Num.f x11 2).bind fun bt123 => ((sched_label.f (rd_L1 x9 x11) (⟨#[115, 104, 97, 114, 101, 100]⟩ : ByteArray) bt123.1).bind fun t127 => ((kdf_Extract.f x3 t127).bind fun t130 => (sched_Shared.l0 k t130 x9 x10 (wrap64 (x11 + 1)))))) else (none)) else (none)) else (some x3)
def sched_Shared.f (k : Nat) (l0 : List (List Int)) : Option (List Int) := if 32 ≤ 281474976710656 then (sched_Shared.l0 k (List.replicate 32 0) l0 (l0.length : Int) 0) else (none)
theorem sched_Shared.mono_l : ∀ k, (∀ y0 y1 y2 y3, LeO (sched_Shared.l0 k y0 y1 y2 y3) (sched_Shared.l0 (k + 1) y0 y1 y2 y3))
  | 0 => fun _ _ _ _ r h => by simp [sched_Shared.l0] at h
  | k + 1 => by
    have ih0 := sched_Shared.mono_l k
    · intro y0 y1 y2 y3
      unfold sched_Shared.l0
      repeat' first
      | (with_reducible exact ih0 _ _ _ _)
      | (with_reducible exact LeO.refl _)
      | (with_reducible exact LeO.none _)
      | (with_reducible refine LeO.ite ?_ ?_)
      | (with_reducible refine LeO.bind ?_ (fun _ => ?_))
      | exact ih0 _ _ _ _
      | exact LeO.none _
      | refine LeO.ite ?_ ?_
      | refine LeO.bind ?_ (fun _ => ?_)
theorem sched_Shared.mono : ∀ a0 k, LeO (sched_Shared.f k a0) (sched_Shared.f (k + 1) a0) := by
  intro a0 k
  have ih0 := sched_Shared.mono_l k
  unfold sched_Shared.f
  repeat' first
      | (with_reducible exact ih0 _ _ _ _)
      | (with_reducible exact LeO.refl _)
      | (with_reducible exact LeO.none _)
      | (with_reducible refine LeO.ite ?_ ?_)
      | (with_reducible refine LeO.bind ?_ (fun _ => ?_))
      | exact ih0 _ _ _ _
      | exact LeO.none _
      | refine LeO.ite ?_ ?_
      | refine LeO.bind ?_ (fun _ => ?_)
set_option maxHeartbeats 8000000 in
set_option maxRecDepth 100000 in
theorem sched_Shared.calls (k : Nat) (A0 : Option Addr) (c0 : Nat) (l0 : List (List Int)) (r : List Int) (w : World) (hr0 : Kd.C (Kd.slice 5 (Kd.int .u8)) w A0 l0.length l0) (hc0 : l0.length ≤ c0) (h : sched_Shared.f k l0 = some r) :
    Calls Try.prog 38 #[.slice A0 l0.length c0] w fun e w' => ∃ v0_ : Value, e = .returned (v0_) ∧ Kd.R (Kd.int .u8) 5 w' w.heap.size (fun _ => True) v0_ r ∧ Below w.heap.size w w' := by
  have HR0 := Aside0.mk hr0
  have HC0 := Aside0.mk hc0
  clear hr0 hc0
  have HB := Aside0.mk (Below.refl w.heap.size w)
  have H : (if 32 ≤ 281474976710656 then (sched_Shared.l0 k (List.replicate 32 0) l0 (l0.length : Int) 0) else (none)) = some r := h
  clear h
  by_cases c2 : 32 ≤ 281474976710656
  · rw [if_pos c2] at H
    have c2b0 := eq_true c2
    have c2b1 : decide (32 ≤ 281474976710656) = true := decide_eq_true c2
    clear c2
    obtain ⟨y119, hy119⟩ : ∃ y_ : List Int, y_ = (List.replicate 32 0) := ⟨_, rfl⟩
    replace H : (sched_Shared.l0 k y119 l0 (l0.length : Int) 0) = some r := by first | (rw [hy119]; with_reducible exact H) | (have H2_ := (Option.bind_some _ _).symm.trans H; rw [hy119]; with_reducible exact H2_) | (have H2_ := (Option.bind_some _ _).symm.trans H; with_reducible exact H2_) | with_reducible exact H | (rw [hy119]; exact H) | exact H
    have Ny119 := Aside0.mk hy119
    clear hy119
    have H' := Aside0.mk H
    clear H
    go_enter Try.func38, Try.ntmps38
    go_wp2_with (first | ((with_reducible refine gate_dst (N := 8) rfl ?_); refine Kd.R_make (Kd.int .u8) _ 5 rfl (N := 8) rfl 22 _ _ rfl 32 rfl rfl Try.underlying22 (.int .u8 0) 1 info5 rfl (by decide) (by omega) 0 (ok := fun _ => True) (okp := fun _ => True) rfl (fun _ hk => hk) trivial (by omega) (by omega) (Below.refl _ _) (Nat.le_refl _) ?_; intro v120 w3 ho4 hb hg_ hnew_; clear hg_ hnew_; (first | rw [← Ny119.out] at ho4 | (simp only [Int.reduceToNat] at ho4; rw [← Ny119.out] at ho4)); have n0_ := Aside0.mk (Kd.R_lower ho4 (below_size (by repeat (first | (with_reducible first | exact HB.out | apply below_alloc | apply pw_below_drewN | apply below_drew1) | exact HB.out)))); have n1_ := Aside0.mk (below_step (by repeat (first | (with_reducible first | exact HB.out | apply below_alloc | apply pw_below_drewN | apply below_drew1) | exact HB.out)) hb); clear HB; have HO121 := n0_; have HB := n1_; clear n0_ n1_; clear hb ho4))
    go_loopg [3, 11] k (fun kq v3 v11 w' => ∃ (x3_1 : List Int) (x11_1 : Int), v11 = .int .i64 x11_1 ∧ Aside0 (sched_Shared.l0 kq x3_1 l0 (l0.length : Int) x11_1 = some r) ∧ Aside0 (kq ≤ k) ∧ Aside0 (Kd.R (Kd.int .u8) 5 w' w.heap.size (fun _ => True) v3 x3_1) ∧ Aside0 (Below w.heap.size w w'))
    case atStart => exact ⟨(y119), (0), (by first | rfl | (simp; done) | (simp [*]; done)), H', ⟨Nat.le_refl _⟩, ⟨by (with_reducible repeat (first | apply Kd.R_alloc | apply Kd.R_drewN | apply Kd.R_drew)); exact HO121.out⟩, ⟨by repeat (first | (with_reducible first | exact HB.out | apply below_alloc | apply pw_below_drewN | apply below_drew1) | exact HB.out)⟩⟩
    case round =>
      clear H'
      try clear c2
      try clear c2b0
      try clear c2b1
      try clear p2
      try clear c3
      obtain ⟨x3_1, x11_1, rfl, HA, HK1, HO_3, HB⟩ := hrel
      cases gk with
      | zero => exact absurd HA.out (by simp [sched_Shared.l0])
      | succ k1 =>
        have H := HA.out
        clear HA
        simp only [sched_Shared.l0] at H
        by_cases c5 : x11_1 < (l0.length : Int)
        · rw [if_pos c5] at H
          have c5b0 : decide (x11_1 < (l0.length : Int)) = true := decide_eq_true c5
          clear c5
          by_cases c6 : 0 ≤ x11_1
          · rw [if_pos c6] at H
            have c6b0 : decide (0 ≤ x11_1) = true := decide_eq_true c6
            clear c6
            by_cases c7 : x11_1 < (l0.length : Int)
            · rw [if_pos c7] at H
              have c7b0 : decide (x11_1 < (l0.length : Int)) = true := decide_eq_true c7
              clear c7
              replace H := Option.bind_eq_some_iff.mp H
              obtain ⟨⟨t123, t124⟩, A80, H⟩ := H
              replace H : ((sched_label.f (rd_L1 l0 x11_1) (⟨#[115, 104, 97, 114, 101, 100]⟩ : ByteArray) t123).bind fun t127 => ((kdf_Extract.f x3_1 t127).bind fun t130 => (sched_Shared.l0 k1 t130 l0 (l0.length : Int) (wrap64 (x11_1 + 1))))) = some r := H
              have A8 := Aside0.mk A80
              clear A80
              replace H := Option.bind_eq_some_iff.mp H
              obtain ⟨t127, A90, H⟩ := H
              replace H : ((kdf_Extract.f x3_1 t127).bind fun t130 => (sched_Shared.l0 k1 t130 l0 (l0.length : Int) (wrap64 (x11_1 + 1)))) = some r := H
              have A9 := Aside0.mk A90
              clear A90
              replace H := Option.bind_eq_some_iff.mp H
              obtain ⟨t130, A100, H⟩ := H
              replace H : (sched_Shared.l0 k1 t130 l0 (l0.length : Int) (wrap64 (x11_1 + 1))) = some r := H
              have A10 := Aside0.mk A100
              clear A100
              have H' := Aside0.mk H
              clear H
              have p122 : 0 ≤ (x11_1 : Int) := of_decide_eq_true (by first | (with_reducible assumption) | assumption)
              have q122 : x11_1 < (l0.length : Int) := of_decide_eq_true (by first | (with_reducible assumption) | assumption)
              obtain ⟨ad122, A122_0, c122_0, e122, hx122_0, hl122_0, hi122_0⟩ := at_L1 HR0.out x11_1 p122 q122
              cases e122
              replace hx122_0 := (HB.out.cell (World.block_lt_of_cell? w _ hx122_0)).trans hx122_0
              have HR122_0 := Aside0.mk hi122_0
              have HC122_0 := Aside0.mk hl122_0
              clear hi122_0 hl122_0
              replace p122 := eq_true p122
              replace q122 := eq_true q122
              go_wp2_with (first | ((with_reducible refine gate_callee (f := 56) rfl ?_); refine goesL_ (some 18) rfl rfl Try.func56 (by kernel_rfl) rfl #[.int .i64 x11_1, .int .i64 2] rfl (by (try simp only [List.map_toArray, List.map_cons, List.map_nil]); first | done | rfl | (simp only [List.length_drop, List.length_take]; rfl)) ?_; (with_reducible refine (byt_Num.calls x11_1 2 t123 t124 _ A8.out).mono ?_); rintro e w11 ⟨v125, rfl, ho0, hb⟩; refine ⟨_, rfl, ?_⟩; have n0_ := Aside0.mk (Kd.R_elder' (by (with_reducible repeat (first | apply Kd.R_alloc | apply Kd.R_drewN | apply Kd.R_drew)); exact HO_3.out) (Kd.R_base ho0) hb); have n1_ := Aside0.mk (Kd.R_lower (Kd.R_new' ho0 (Kd.R_lt (by (with_reducible repeat (first | apply Kd.R_alloc | apply Kd.R_drewN | apply Kd.R_drew)); exact HO_3.out))) (below_size (by repeat (first | (with_reducible first | exact HB.out | apply below_alloc | apply pw_below_drewN | apply below_drew1) | exact HB.out)))); have n2_ := Aside0.mk (below_step (by repeat (first | (with_reducible first | exact HB.out | apply below_alloc | apply pw_below_drewN | apply below_drew1) | exact HB.out)) hb); clear HO_3; clear HB; have HO_3 := n0_; have HO126 := n1_; have HB := n2_; clear n0_ n1_ n2_; (try clear hb); (try clear hb2); (try clear hk); (try clear hi); (try clear ho0); obtain ⟨Ao12, co12, eo12⟩ := Kd.R_slice HO126.out; subst eo12) | ((with_reducible refine gate_callee (f := 67) rfl ?_); refine goesL_ (some 24) rfl rfl Try.func67 (by kernel_rfl) rfl #[.slice A122_0 (rd_L1 l0 x11_1).length c122_0, .string (⟨#[115, 104, 97, 114, 101, 100]⟩ : ByteArray), .slice Ao12 t123.length co12] rfl (by (try simp only [List.map_toArray, List.map_cons, List.map_nil]); first | done | rfl | (simp only [List.length_drop, List.length_take]; rfl)) ?_; (with_reducible refine (sched_label.calls _ _ (rd_L1 l0 x11_1) (⟨#[115, 104, 97, 114, 101, 100]⟩ : ByteArray) _ _ t123 t127 _ ?side1 ?side2 ?side3 ?side4 A9.out).mono ?_); (case side1 => repeat (first | exact (Kd.C_below HR122_0.out HB.out) | (with_reducible refine Kd.C_alloc ?_ _) | (with_reducible refine Kd.C_drewN ?_ _) | (with_reducible refine Kd.C_drew ?_))); (case side2 => exact HC122_0.out); (case side3 => repeat (first | exact (Kd.R_reads' HO126.out).2.2 | (with_reducible refine Kd.C_alloc ?_ _) | (with_reducible refine Kd.C_drewN ?_ _) | (with_reducible refine Kd.C_drew ?_))); (case side4 => exact (Kd.R_reads' HO126.out).2.1); rintro e w13 ⟨v128, rfl, ho0, hb⟩; refine ⟨_, rfl, ?_⟩; have n0_ := Aside0.mk (Kd.R_elder' (by (with_reducible repeat (first | apply Kd.R_alloc | apply Kd.R_drewN | apply Kd.R_drew)); exact HO_3.out) (Kd.R_base ho0) hb); have n1_ := Aside0.mk (Kd.R_elder' (by (with_reducible repeat (first | apply Kd.R_alloc | apply Kd.R_drewN | apply Kd.R_drew)); exact HO126.out) (Kd.R_base ho0) hb); have n2_ := Aside0.mk (Kd.R_lower (Kd.R_new' (Kd.R_new' ho0 (Kd.R_lt (by (with_reducible repeat (first | apply Kd.R_alloc | apply Kd.R_drewN | apply Kd.R_drew)); exact HO_3.out))) (Kd.R_lt (by (with_reducible repeat (first | apply Kd.R_alloc | apply Kd.R_drewN | apply Kd.R_drew)); exact HO126.out))) (below_size (by repeat (first | (with_reducible first | exact HB.out | apply below_alloc | apply pw_below_drewN | apply below_drew1) | exact HB.out)))); have n3_ := Aside0.mk (below_step (by repeat (first | (with_reducible first | exact HB.out | apply below_alloc | apply pw_below_drewN | apply below_drew1) | exact HB.out)) hb); clear HO_3; clear HO126; clear HB; have HO_3 := n0_; have HO126 := n1_; have HO129 := n2_; have HB := n3_; clear n0_ n1_ n2_ n3_; (try clear hb); (try clear hb2); (try clear hk); (try clear hi); (try clear ho0); obtain ⟨Ao14, co14, eo14⟩ := Kd.R_slice HO_3.out; subst eo14; obtain ⟨Ao15, co15, eo15⟩ := Kd.R_slice HO129.out; subst eo15) | ((with_reducible refine gate_callee (f := 23) rfl ?_); refine goesL_ (some 25) rfl rfl Try.func23 (by kernel_rfl) rfl #[.slice Ao14 x3_1.length co14, .slice Ao15 t127.length co15] rfl (by (try simp only [List.map_toArray, List.map_cons, List.map_nil]); first | done | rfl | (simp only [List.length_drop, List.length_take]; rfl)) ?_; (with_reducible refine (kdf_Extract.calls _ _ x3_1 _ _ t127 t130 _ ?side1 ?side2 ?side3 ?side4 A10.out).mono ?_); (case side1 => repeat (first | exact (Kd.R_reads' HO_3.out).2.2 | (with_reducible refine Kd.C_alloc ?_ _) | (with_reducible refine Kd.C_drewN ?_ _) | (with_reducible refine Kd.C_drew ?_))); (case side2 => exact (Kd.R_reads' HO_3.out).2.1); (case side3 => repeat (first | exact (Kd.R_reads' HO129.out).2.2 | (with_reducible refine Kd.C_alloc ?_ _) | (with_reducible refine Kd.C_drewN ?_ _) | (with_reducible refine Kd.C_drew ?_))); (case side4 => exact (Kd.R_reads' HO129.out).2.1); rintro e w16 ⟨v131, rfl, ho0, hb⟩; refine ⟨_, rfl, ?_⟩; have n0_ := Aside0.mk (Kd.R_elder' (by (with_reducible repeat (first | apply Kd.R_alloc | apply Kd.R_drewN | apply Kd.R_drew)); exact HO_3.out) (Kd.R_base ho0) hb); have n1_ := Aside0.mk (Kd.R_elder' (by (with_reducible repeat (first | apply Kd.R_alloc | apply Kd.R_drewN | apply Kd.R_drew)); exact HO126.out) (Kd.R_base ho0) hb); have n2_ := Aside0.mk (Kd.R_elder' (by (with_reducible repeat (first | apply Kd.R_alloc | apply Kd.R_drewN | apply Kd.R_drew)); exact HO129.out) (Kd.R_base ho0) hb); have n3_ := Aside0.mk (Kd.R_lower (Kd.R_new' (Kd.R_new' (Kd.R_new' ho0 (Kd.R_lt (by (with_reducible repeat (first | apply Kd.R_alloc | apply Kd.R_drewN | apply Kd.R_drew)); exact HO_3.out))) (Kd.R_lt (by (with_reducible repeat (first | apply Kd.R_alloc | apply Kd.R_drewN | apply Kd.R_drew)); exact HO126.out))) (Kd.R_lt (by (with_reducible repeat (first | apply Kd.R_alloc | apply Kd.R_drewN | apply Kd.R_drew)); exact HO129.out))) (below_size (by repeat (first | (with_reducible first | exact HB.out | apply below_alloc | apply pw_below_drewN | apply below_drew1) | exact HB.out)))); have n4_ := Aside0.mk (below_step (by repeat (first | (with_reducible first | exact HB.out | apply below_alloc | apply pw_below_drewN | apply below_drew1) | exact HB.out)) hb); clear HO_3; clear HO126; clear HO129; clear HB; have HO_3 := n0_; have HO126 := n1_; have HO129 := n2_; have HO132 := n3_; have HB := n4_; clear n0_ n1_ n2_ n3_ n4_; (try clear hb); (try clear hb2); (try clear hk); (try clear hi); (try clear ho0)))
              go_roundg k1
              case measure => have := HK1.out; omega
              case rel => exact ⟨(t130), (wrap64 (x11_1 + 1)), (by first | rfl | (simp; done) | (simp [*]; done)), H', ⟨by have := HK1.out; omega⟩, ⟨by (with_reducible repeat (first | apply Kd.R_alloc | apply Kd.R_drewN | apply Kd.R_drew)); exact Kd.R_mono HO132.out (fun _ hk => trivial)⟩, ⟨by repeat (first | (with_reducible first | exact HB.out | apply below_alloc | apply pw_below_drewN | apply below_drew1) | exact HB.out)⟩⟩
            · rw [if_neg c7] at H
              exact absurd H (by simp)
          · rw [if_neg c6] at H
            exact absurd H (by simp)
        · rw [if_neg c5] at H
          have c5b0 : decide (x11_1 < (l0.length : Int)) = false := decide_eq_false c5
          clear c5
          obtain rfl := Option.some.inj H
          go_wp2
          go_ret
          exact ⟨_, by first | rfl | (simp [errW_none, errW_some] <;> rfl) | (simp [*, errW_none, errW_some] <;> rfl), by (with_reducible repeat (first | apply Kd.R_alloc | apply Kd.R_drewN | apply Kd.R_drew)); exact HO_3.out, by repeat (first | (with_reducible first | exact HB.out | apply below_alloc | apply pw_below_drewN | apply below_drew1) | exact HB.out)⟩
  · rw [if_neg c2] at H
    exact absurd H (by simp)
-- NOT PRINTED: function 72 (sched_parts)
-- NOT PRINTED: function 69 (sched_fill)
-- NOT PRINTED: function 35 (sched_Epoch)
-- NOT PRINTED: function 41 (sched_Log)
-- NOT PRINTED: function 71 (sched_right)
-- NOT PRINTED: function 43 (sched_Proof)
-- NOT PRINTED: function 45 (sched_Export)
/-! ### bytes_Equal: function 73 -/
def bytes_Equal.f (l0 : List Int) (l1 : List Int) : Option (Bool) := some ((strOfNums l0).toList == (strOfNums l1).toList)
set_option maxHeartbeats 8000000 in
set_option maxRecDepth 100000 in
theorem bytes_Equal.calls (A0 : Option Addr) (c0 : Nat) (l0 : List Int) (A1 : Option Addr) (c1 : Nat) (l1 : List Int) (r : Bool) (w : World) (hr0 : Kd.C (Kd.int .u8) w A0 l0.length l0) (hc0 : l0.length ≤ c0) (hr1 : Kd.C (Kd.int .u8) w A1 l1.length l1) (hc1 : l1.length ≤ c1) (h : bytes_Equal.f l0 l1 = some r) :
    Calls Try.prog 73 #[.slice A0 l0.length c0, .slice A1 l1.length c1] w fun e w' => e = .returned (.bool r) ∧ Drawn0 w w' := by
  have HR0 := Aside0.mk hr0
  have HC0 := Aside0.mk hc0
  clear hr0 hc0
  have HR1 := Aside0.mk hr1
  have HC1 := Aside0.mk hc1
  clear hr1 hc1
  have H : (some ((strOfNums l0).toList == (strOfNums l1).toList)) = some r := h
  clear h
  obtain rfl := Option.some.inj H
  have hcv3 := Kd.C_string (P := Try.prog) (A := A0) (c := c0) Try.underlying22 Try.underlying5 Try.underlying9 HR0.out
  have hcv4 := Kd.C_string (P := Try.prog) (A := A1) (c := c1) Try.underlying22 Try.underlying5 Try.underlying9 HR1.out
  go_enter Try.func73, Try.ntmps73
  go_wp2
  go_ret
  exact ⟨by first | rfl | (simp; done) | (simp [*]; done), by repeat (first | exact Drawn0.refl _ | apply Drawn0.step)⟩
-- NOT PRINTED: function 47 (sched_Same)
-- NOT PRINTED: function 82 (pyxref01_power)
-- NOT PRINTED: function 78 (pyxref01_Len)
/-! ### pyxref12_row: function 66 -/
def pyxref12_row.f (l0 : List Int) : Option (List Int) := (pyxref01_Row.f l0).bind fun bt150 => (some bt150.1)
set_option maxHeartbeats 8000000 in
set_option maxRecDepth 100000 in
theorem pyxref12_row.calls (A0 : Option Addr) (c0 : Nat) (l0 : List Int) (r : List Int) (w : World) (hr0 : Kd.C (Kd.int .u8) w A0 l0.length l0) (hc0 : l0.length ≤ c0) (h : pyxref12_row.f l0 = some r) :
    Calls Try.prog 66 #[.slice A0 l0.length c0] w fun e w' => ∃ v0_ : Value, e = .returned (v0_) ∧ Kd.R (Kd.int .u8) 5 w' w.heap.size (fun _ => True) v0_ r ∧ Below w.heap.size w w' := by
  have HR0 := Aside0.mk hr0
  have HC0 := Aside0.mk hc0
  clear hr0 hc0
  have HB := Aside0.mk (Below.refl w.heap.size w)
  have H : ((pyxref01_Row.f l0).bind fun bt150 => (some bt150.1)) = some r := h
  clear h
  replace H := Option.bind_eq_some_iff.mp H
  obtain ⟨⟨t150, t151⟩, A20, H⟩ := H
  replace H : (some t150) = some r := H
  have A2 := Aside0.mk A20
  clear A20
  obtain rfl := Option.some.inj H
  go_enter Try.func66, Try.ntmps66
  go_wp2_with (first | ((with_reducible refine gate_callee (f := 51) rfl ?_); refine goesL_ (some 7) rfl rfl Try.func51 (by kernel_rfl) rfl #[.slice A0 l0.length c0] rfl (by (try simp only [List.map_toArray, List.map_cons, List.map_nil]); first | done | rfl | (simp only [List.length_drop, List.length_take]; rfl)) ?_; (with_reducible refine (pyxref01_Row.calls _ _ l0 t150 t151 _ ?side1 ?side2 A2.out).mono ?_); (case side1 => repeat (first | exact HR0.out | (with_reducible refine Kd.C_alloc ?_ _) | (with_reducible refine Kd.C_drewN ?_ _) | (with_reducible refine Kd.C_drew ?_))); (case side2 => exact HC0.out); rintro e w3 ⟨v152, rfl, ho0, hb⟩; refine ⟨_, rfl, ?_⟩; have n0_ := Aside0.mk (Kd.R_lower ho0 (below_size (by repeat (first | (with_reducible first | exact HB.out | apply below_alloc | apply pw_below_drewN | apply below_drew1) | exact HB.out)))); have n1_ := Aside0.mk (below_step (by repeat (first | (with_reducible first | exact HB.out | apply below_alloc | apply pw_below_drewN | apply below_drew1) | exact HB.out)) hb); clear HB; have HO153 := n0_; have HB := n1_; clear n0_ n1_; (try clear hb); (try clear hb2); (try clear hk); (try clear hi); (try clear ho0)))
  go_ret
  exact ⟨_, by first | rfl | (simp [errW_none, errW_some] <;> rfl) | (simp [*, errW_none, errW_some] <;> rfl), by (with_reducible repeat (first | apply Kd.R_alloc | apply Kd.R_drewN | apply Kd.R_drew)); exact HO153.out, by repeat (first | (with_reducible first | exact HB.out | apply below_alloc | apply pw_below_drewN | apply below_drew1) | exact HB.out)⟩
/-! ### pyxref12_Context: function 32 -/
def pyxref12_Context.j0 : Nat → List Int → List Int → List Int → List Int → Bool → Option (List Int × Int)
  | 0, _, _, _, _, _ => none
  | k + 1, x0, x2, x3, x10, x34 => if x34 = true then (some (([] : List Int), 1)) else ((some (([] : List Int) : List Int)).bind fun y158 => ((pyxref12_row.f x0).bind fun t161 => (if y158.length + t161.length < 140737488355328 then ((some (y158 ++ t161 : List Int)).bind fun y164 => (if y164.length + x10.length < 140737488355328 then ((some (y164 ++ x10 : List Int)).bind fun y167 => ((pyxref12_row.f x2).bind fun t170 => (if y167.length + t170.length < 140737488355328 then ((some (y167 ++ t170 : List Int)).bind fun y173 => ((pyxref12_row.f x3).bind fun t176 => (if y173.length + t176.length < 140737488355328 then (some ((y173 ++ t176), 0)) else (none)))) else (none)))) else (none))) else (none))))
def pyxref12_Context.f (k : Nat) (l0 : List Int) (a1 : Int) (l2 : List Int) (l3 : List Int) : Option (List Int × Int) := (pyxref01_Num.f a1 6).bind fun bt154 => (if bt154.2 = 0 then (if (l0.length : Int) > 255 then (pyxref12_Context.j0 k l0 l2 l3 bt154.1 true) else (if (l2.length : Int) = 32 then (pyxref12_Context.j0 k l0 l2 l3 bt154.1 ((l3.length : Int) != 32)) else (pyxref12_Context.j0 k l0 l2 l3 bt154.1 true))) else (pyxref12_Context.j0 k l0 l2 l3 bt154.1 true))
theorem pyxref12_Context.mono_l : ∀ k, (∀ y0 y1 y2 y3 y4, LeO (pyxref12_Context.j0 k y0 y1 y2 y3 y4) (pyxref12_Context.j0 (k + 1) y0 y1 y2 y3 y4))
  | 0 => fun _ _ _ _ _ r h => by simp [pyxref12_Context.j0] at h
  | k + 1 => by
    have ih0 := pyxref12_Context.mono_l k
    · intro y0 y1 y2 y3 y4
      unfold pyxref12_Context.j0
      repeat' first
      | (with_reducible exact ih0 _ _ _ _ _)
      | (with_reducible exact LeO.refl _)
      | (with_reducible exact LeO.none _)
      | (with_reducible refine LeO.ite ?_ ?_)
      | (with_reducible refine LeO.bind ?_ (fun _ => ?_))
      | exact ih0 _ _ _ _ _
      | exact LeO.none _
      | refine LeO.ite ?_ ?_
      | refine LeO.bind ?_ (fun _ => ?_)
theorem pyxref12_Context.mono : ∀ a0 a1 a2 a3 k, LeO (pyxref12_Context.f k a0 a1 a2 a3) (pyxref12_Context.f (k + 1) a0 a1 a2 a3) := by
  intro a0 a1 a2 a3 k
  have ih0 := pyxref12_Context.mono_l k
  unfold pyxref12_Context.f
  repeat' first
      | (with_reducible exact ih0 _ _ _ _ _)
      | (with_reducible exact LeO.refl _)
      | (with_reducible exact LeO.none _)
      | (with_reducible refine LeO.ite ?_ ?_)
      | (with_reducible refine LeO.bind ?_ (fun _ => ?_))
      | exact ih0 _ _ _ _ _
      | exact LeO.none _
      | refine LeO.ite ?_ ?_
      | refine LeO.bind ?_ (fun _ => ?_)
set_option maxHeartbeats 8000000 in
set_option maxRecDepth 100000 in
theorem pyxref12_Context.calls (k : Nat) (A0 : Option Addr) (c0 : Nat) (l0 : List Int) (a1 : Int) (A2 : Option Addr) (c2 : Nat) (l2 : List Int) (A3 : Option Addr) (c3 : Nat) (l3 : List Int) (r1 : List Int) (r2 : Int) (w : World) (hr0 : Kd.C (Kd.int .u8) w A0 l0.length l0) (hc0 : l0.length ≤ c0) (hr2 : Kd.C (Kd.int .u8) w A2 l2.length l2) (hc2 : l2.length ≤ c2) (hr3 : Kd.C (Kd.int .u8) w A3 l3.length l3) (hc3 : l3.length ≤ c3) (h : pyxref12_Context.f k l0 a1 l2 l3 = some (r1, r2)) :
    Calls Try.prog 32 #[.slice A0 l0.length c0, .int .i64 a1, .slice A2 l2.length c2, .slice A3 l3.length c3] w fun e w' => ∃ v0_ : Value, e = .returned (.tuple #[v0_, .int .i64 r2]) ∧ Kd.R (Kd.int .u8) 5 w' w.heap.size (fun _ => True) v0_ r1 ∧ Below w.heap.size w w' := by
  have HR0 := Aside0.mk hr0
  have HC0 := Aside0.mk hc0
  clear hr0 hc0
  have HR2 := Aside0.mk hr2
  have HC2 := Aside0.mk hc2
  clear hr2 hc2
  have HR3 := Aside0.mk hr3
  have HC3 := Aside0.mk hc3
  clear hr3 hc3
  have HB := Aside0.mk (Below.refl w.heap.size w)
  have H : ((pyxref01_Num.f a1 6).bind fun bt154 => (if bt154.2 = 0 then (if (l0.length : Int) > 255 then (pyxref12_Context.j0 k l0 l2 l3 bt154.1 true) else (if (l2.length : Int) = 32 then (pyxref12_Context.j0 k l0 l2 l3 bt154.1 ((l3.length : Int) != 32)) else (pyxref12_Context.j0 k l0 l2 l3 bt154.1 true))) else (pyxref12_Context.j0 k l0 l2 l3 bt154.1 true))) = some (r1, r2) := h
  clear h
  replace H := Option.bind_eq_some_iff.mp H
  obtain ⟨⟨t154, t155⟩, A50, H⟩ := H
  replace H : (if t155 = 0 then (if (l0.length : Int) > 255 then (pyxref12_Context.j0 k l0 l2 l3 t154 true) else (if (l2.length : Int) = 32 then (pyxref12_Context.j0 k l0 l2 l3 t154 ((l3.length : Int) != 32)) else (pyxref12_Context.j0 k l0 l2 l3 t154 true))) else (pyxref12_Context.j0 k l0 l2 l3 t154 true)) = some (r1, r2) := H
  have A5 := Aside0.mk A50
  clear A50
  have HC6 := Aside0.mk H
  clear H
  go_enter Try.func32, Try.ntmps32
  go_upto_region 2 with (first | ((with_reducible refine gate_callee (f := 58) rfl ?_); refine goesL_ (some 15) rfl rfl Try.func58 (by kernel_rfl) rfl #[.int .i64 a1, .int .i64 6] rfl (by (try simp only [List.map_toArray, List.map_cons, List.map_nil]); first | done | rfl | (simp only [List.length_drop, List.length_take]; rfl)) ?_; (with_reducible refine (pyxref01_Num.calls a1 6 t154 t155 _ A5.out).mono ?_); rintro e w7 ⟨v156, rfl, ho0, hb⟩; refine ⟨_, rfl, ?_⟩; have n0_ := Aside0.mk (Kd.R_lower ho0 (below_size (by repeat (first | (with_reducible first | exact HB.out | apply below_alloc | apply pw_below_drewN | apply below_drew1) | exact HB.out)))); have n1_ := Aside0.mk (below_step (by repeat (first | (with_reducible first | exact HB.out | apply below_alloc | apply pw_below_drewN | apply below_drew1) | exact HB.out)) hb); clear HB; have HO157 := n0_; have HB := n1_; clear n0_ n1_; (try clear hb); (try clear hb2); (try clear hk); (try clear hi); (try clear ho0)))
  (try simp only [Act.put, List.setIfInBounds_toArray, List.set_cons_zero, List.set_cons_succ])
  go_cut [34] (fun v34 wc => ∃ (kq : Nat) (x34_5 : Bool), v34 = .bool x34_5 ∧ Aside0 (pyxref12_Context.j0 kq l0 l2 l3 t154 x34_5 = some (r1, r2)) ∧ Aside0 (kq ≤ k) ∧ Aside0 (Kd.R (Kd.int .u8) 5 wc w.heap.size (fun _ => True) v156 t154) ∧ Aside0 (Below w.heap.size w wc))
  case first =>
    have H := HC6.out
    clear HC6
    by_cases c8 : t155 = 0
    · rw [if_pos c8] at H
      have c8b0 : (t155 == 0) = true := beq_iff_eq.mpr c8
      have c8b1 : (t155 != 0) = false := bne_eq_false_iff_eq.mpr c8
      clear c8
      (first | rw [c8b0] | (simp only [i64_w, i32_w]; rw [c8b0]) | skip)
      by_cases c9 : (l0.length : Int) > 255
      · rw [if_pos c9] at H
        have c9b0 : decide (255 < (l0.length : Int)) = true := decide_eq_true c9
        have c9b1 : decide (255 < l0.length) = true := decide_eq_true (by omega)
        clear c9
        have H' := Aside0.mk H
        clear H
        go_wp2
        go_meet
        case rel => exact ⟨_, (true), (by first | rfl | (simp; done) | (simp [*]; done)), H', ⟨by first | omega | exact Nat.le_refl _⟩, ⟨by (with_reducible repeat (first | apply Kd.R_alloc | apply Kd.R_drewN | apply Kd.R_drew)); exact HO157.out⟩, ⟨by repeat (first | (with_reducible first | exact HB.out | apply below_alloc | apply pw_below_drewN | apply below_drew1) | exact HB.out)⟩⟩
      · rw [if_neg c9] at H
        have c9b0 : decide (255 < (l0.length : Int)) = false := decide_eq_false c9
        have c9b1 : decide (255 < l0.length) = false := decide_eq_false (by omega)
        clear c9
        by_cases c10 : (l2.length : Int) = 32
        · rw [if_pos c10] at H
          have c10b0 : ((l2.length : Int) == 32) = true := beq_iff_eq.mpr c10
          have c10b1 : ((l2.length : Int) != 32) = false := bne_eq_false_iff_eq.mpr c10
          clear c10
          have H' := Aside0.mk H
          clear H
          go_wp2
          go_meet
          case rel => exact ⟨_, (((l3.length : Int) != 32)), (by first | rfl | (simp; done) | (simp [*]; done)), H', ⟨by first | omega | exact Nat.le_refl _⟩, ⟨by (with_reducible repeat (first | apply Kd.R_alloc | apply Kd.R_drewN | apply Kd.R_drew)); exact HO157.out⟩, ⟨by repeat (first | (with_reducible first | exact HB.out | apply below_alloc | apply pw_below_drewN | apply below_drew1) | exact HB.out)⟩⟩
        · rw [if_neg c10] at H
          have c10b0 : ((l2.length : Int) == 32) = false := beq_eq_false_iff_ne.mpr c10
          have c10b1 : ((l2.length : Int) != 32) = true := bne_iff_ne.mpr c10
          have H' := Aside0.mk H
          clear H
          go_wp2
          go_meet
          case rel => exact ⟨_, (true), (by first | rfl | (simp; done) | (simp [*]; done)), H', ⟨by first | omega | exact Nat.le_refl _⟩, ⟨by (with_reducible repeat (first | apply Kd.R_alloc | apply Kd.R_drewN | apply Kd.R_drew)); exact HO157.out⟩, ⟨by repeat (first | (with_reducible first | exact HB.out | apply below_alloc | apply pw_below_drewN | apply below_drew1) | exact HB.out)⟩⟩
    · rw [if_neg c8] at H
      have c8b0 : (t155 == 0) = false := beq_eq_false_iff_ne.mpr c8
      have c8b1 : (t155 != 0) = true := bne_iff_ne.mpr c8
      (first | rw [c8b0] | (simp only [i64_w, i32_w]; rw [c8b0]) | skip)
      have H' := Aside0.mk H
      clear H
      go_wp2
      go_meet
      case rel => exact ⟨_, (true), (by first | rfl | (simp; done) | (simp [*]; done)), H', ⟨by first | omega | exact Nat.le_refl _⟩, ⟨by (with_reducible repeat (first | apply Kd.R_alloc | apply Kd.R_drewN | apply Kd.R_drew)); exact HO157.out⟩, ⟨by repeat (first | (with_reducible first | exact HB.out | apply below_alloc | apply pw_below_drewN | apply below_drew1) | exact HB.out)⟩⟩
  case rest =>
    clear HC6
    try clear c1
    try clear c2
    try clear p2
    try clear c3
    try clear c5
    try clear c8
    try clear c8b0
    try clear c8b1
    try clear c9
    try clear c9b0
    try clear c9b1
    try clear c10
    try clear c10b0
    try clear c10b1
    obtain ⟨kq, x34_5, rfl, HA, HJ5, HO_10, HB⟩ := hcut
    cases kq with
    | zero => exact absurd HA.out (by simp [pyxref12_Context.j0])
    | succ kj5 =>
      have H := HA.out
      clear HA
      simp only [pyxref12_Context.j0] at H
      by_cases c11 : x34_5 = true
      · subst c11
        have H1 : (some (([] : List Int), 1)) = some (r1, r2) := by rw [if_pos rfl] at H; exact H
        clear H
        have H := H1
        clear H1
        simp only [Option.some.injEq, Prod.mk.injEq] at H
        obtain ⟨rfl, rfl⟩ := H
        go_wp2
        go_ret2
        exact ⟨_, by first | rfl | (simp [errW_none, errW_some] <;> rfl) | (simp [*, errW_none, errW_some] <;> rfl), by first | exact Kd.R_nil _ _ _ _ _ | exact Kd.N_nil _ _ _ _ _ | exact Kd.V_nil _ _ _ _ _ | exact Kd.Q_nil _ _ _ _ _ | exact Kd.S_nil _ _ _ _ _, by repeat (first | (with_reducible first | exact HB.out | apply below_alloc | apply pw_below_drewN | apply below_drew1) | exact HB.out)⟩
      · replace c11 := Bool.eq_false_iff.mpr c11
        subst c11
        have H1 : ((some (([] : List Int) : List Int)).bind fun y158 => ((pyxref12_row.f l0).bind fun t161 => (if y158.length + t161.length < 140737488355328 then ((some (y158 ++ t161 : List Int)).bind fun y164 => (if y164.length + t154.length < 140737488355328 then ((some (y164 ++ t154 : List Int)).bind fun y167 => ((pyxref12_row.f l2).bind fun t170 => (if y167.length + t170.length < 140737488355328 then ((some (y167 ++ t170 : List Int)).bind fun y173 => ((pyxref12_row.f l3).bind fun t176 => (if y173.length + t176.length < 140737488355328 then (some ((y173 ++ t176), 0)) else (none)))) else (none)))) else (none))) else (none)))) = some (r1, r2) := by rw [if_neg (show ¬ (false = true) by decide)] at H; exact H
        clear H
        have H := H1
        clear H1
        obtain ⟨y158, hy158⟩ : ∃ y_ : List Int, y_ = (([] : List Int)) := ⟨_, rfl⟩
        replace H : ((pyxref12_row.f l0).bind fun t161 => (if y158.length + t161.length < 140737488355328 then ((some (y158 ++ t161 : List Int)).bind fun y164 => (if y164.length + t154.length < 140737488355328 then ((some (y164 ++ t154 : List Int)).bind fun y167 => ((pyxref12_row.f l2).bind fun t170 => (if y167.length + t170.length < 140737488355328 then ((some (y167 ++ t170 : List Int)).bind fun y173 => ((pyxref12_row.f l3).bind fun t176 => (if y173.length + t176.length < 140737488355328 then (some ((y173 ++ t176), 0)) else (none)))) else (none)))) else (none))) else (none))) = some (r1, r2) := by first | (rw [hy158]; with_reducible exact H) | (have H2_ := (Option.bind_some _ _).symm.trans H; rw [hy158]; with_reducible exact H2_) | (have H2_ := (Option.bind_some _ _).symm.trans H; with_reducible exact H2_) | with_reducible exact H | (rw [hy158]; exact H) | exact H
        have Ny158 := Aside0.mk hy158
        clear hy158
        replace H := Option.bind_eq_some_iff.mp H
        obtain ⟨t161, A120, H⟩ := H
        replace H : (if y158.length + t161.length < 140737488355328 then ((some (y158 ++ t161 : List Int)).bind fun y164 => (if y164.length + t154.length < 140737488355328 then ((some (y164 ++ t154 : List Int)).bind fun y167 => ((pyxref12_row.f l2).bind fun t170 => (if y167.length + t170.length < 140737488355328 then ((some (y167 ++ t170 : List Int)).bind fun y173 => ((pyxref12_row.f l3).bind fun t176 => (if y173.length + t176.length < 140737488355328 then (some ((y173 ++ t176), 0)) else (none)))) else (none)))) else (none))) else (none)) = some (r1, r2) := H
        have A12 := Aside0.mk A120
        clear A120
        by_cases c13 : y158.length + t161.length < 140737488355328
        · rw [if_pos c13] at H
          have LMc13 := Aside0.mk c13
          clear c13
          obtain ⟨y164, hy164⟩ : ∃ y_ : List Int, y_ = (y158 ++ t161) := ⟨_, rfl⟩
          replace H : (if y164.length + t154.length < 140737488355328 then ((some (y164 ++ t154 : List Int)).bind fun y167 => ((pyxref12_row.f l2).bind fun t170 => (if y167.length + t170.length < 140737488355328 then ((some (y167 ++ t170 : List Int)).bind fun y173 => ((pyxref12_row.f l3).bind fun t176 => (if y173.length + t176.length < 140737488355328 then (some ((y173 ++ t176), 0)) else (none)))) else (none)))) else (none)) = some (r1, r2) := by first | (rw [hy164]; with_reducible exact H) | (have H2_ := (Option.bind_some _ _).symm.trans H; rw [hy164]; with_reducible exact H2_) | (have H2_ := (Option.bind_some _ _).symm.trans H; with_reducible exact H2_) | with_reducible exact H | (rw [hy164]; exact H) | exact H
          have Ny164 := Aside0.mk hy164
          clear hy164
          by_cases c14 : y164.length + t154.length < 140737488355328
          · rw [if_pos c14] at H
            have LMc14 := Aside0.mk c14
            clear c14
            obtain ⟨y167, hy167⟩ : ∃ y_ : List Int, y_ = (y164 ++ t154) := ⟨_, rfl⟩
            replace H : ((pyxref12_row.f l2).bind fun t170 => (if y167.length + t170.length < 140737488355328 then ((some (y167 ++ t170 : List Int)).bind fun y173 => ((pyxref12_row.f l3).bind fun t176 => (if y173.length + t176.length < 140737488355328 then (some ((y173 ++ t176), 0)) else (none)))) else (none))) = some (r1, r2) := by first | (rw [hy167]; with_reducible exact H) | (have H2_ := (Option.bind_some _ _).symm.trans H; rw [hy167]; with_reducible exact H2_) | (have H2_ := (Option.bind_some _ _).symm.trans H; with_reducible exact H2_) | with_reducible exact H | (rw [hy167]; exact H) | exact H
            have Ny167 := Aside0.mk hy167
            clear hy167
            replace H := Option.bind_eq_some_iff.mp H
            obtain ⟨t170, A150, H⟩ := H
            replace H : (if y167.length + t170.length < 140737488355328 then ((some (y167 ++ t170 : List Int)).bind fun y173 => ((pyxref12_row.f l3).bind fun t176 => (if y173.length + t176.length < 140737488355328 then (some ((y173 ++ t176), 0)) else (none)))) else (none)) = some (r1, r2) := H
            have A15 := Aside0.mk A150
            clear A150
            by_cases c16 : y167.length + t170.length < 140737488355328
            · rw [if_pos c16] at H
              have LMc16 := Aside0.mk c16
              clear c16
              obtain ⟨y173, hy173⟩ : ∃ y_ : List Int, y_ = (y167 ++ t170) := ⟨_, rfl⟩
              replace H : ((pyxref12_row.f l3).bind fun t176 => (if y173.length + t176.length < 140737488355328 then (some ((y173 ++ t176), 0)) else (none))) = some (r1, r2) := by first | (rw [hy173]; with_reducible exact H) | (have H2_ := (Option.bind_some _ _).symm.trans H; rw [hy173]; with_reducible exact H2_) | (have H2_ := (Option.bind_some _ _).symm.trans H; with_reducible exact H2_) | with_reducible exact H | (rw [hy173]; exact H) | exact H
              have Ny173 := Aside0.mk hy173
              clear hy173
              replace H := Option.bind_eq_some_iff.mp H
              obtain ⟨t176, A170, H⟩ := H
              replace H : (if y173.length + t176.length < 140737488355328 then (some ((y173 ++ t176), 0)) else (none)) = some (r1, r2) := H
              have A17 := Aside0.mk A170
              clear A170
              by_cases c18 : y173.length + t176.length < 140737488355328
              · rw [if_pos c18] at H
                have LMc18 := Aside0.mk c18
                clear c18
                obtain ⟨y179, hy179⟩ : ∃ y_ : List Int, y_ = (y173 ++ t176) := ⟨_, rfl⟩
                replace H : (some (y179, 0)) = some (r1, r2) := by first | (rw [hy179]; with_reducible exact H) | (have H2_ := (Option.bind_some _ _).symm.trans H; rw [hy179]; with_reducible exact H2_) | (have H2_ := (Option.bind_some _ _).symm.trans H; with_reducible exact H2_) | with_reducible exact H | (rw [hy179]; exact H) | exact H
                have Ny179 := Aside0.mk hy179
                clear hy179
                simp only [Option.some.injEq, Prod.mk.injEq] at H
                obtain ⟨rfl, rfl⟩ := H
                go_wp2_with (first | ((with_reducible refine gate_dst (N := 35) rfl ?_); (try (refine gate_guard (by rfl) ?_; dsimp only)); refine Kd.R_lit (Kd.int .u8) _ 5 ?hg (N := 35) ?hd (xs := ([] : List Int)) (inner := []) (ok := fun _ => True) (okp := fun _ => True) ?hr ?hp (fun _ hk => hk) trivial (Below.refl _ _) (Nat.le_refl _) (by simp) ?_; (case hd => rfl); (case hg => rfl); (case hr => first | (go_simp; done) | (go_simp; rfl)); (case hp => exact (Reps.none _ _)); intro v159 w19 ho20 hb hg_ hnew_; clear hg_ hnew_; (first | rw [← Ny158.out] at ho20 | (simp only [Int.reduceToNat] at ho20; rw [← Ny158.out] at ho20)); have n0_ := Aside0.mk (Kd.R_elder' (by (with_reducible repeat (first | apply Kd.R_alloc | apply Kd.R_drewN | apply Kd.R_drew)); exact HO_10.out) (Kd.R_base ho20) hb); have n1_ := Aside0.mk (Kd.R_lower (Kd.R_new' ho20 (Kd.R_lt (by (with_reducible repeat (first | apply Kd.R_alloc | apply Kd.R_drewN | apply Kd.R_drew)); exact HO_10.out))) (below_size (by repeat (first | (with_reducible first | exact HB.out | apply below_alloc | apply pw_below_drewN | apply below_drew1) | exact HB.out)))); have n2_ := Aside0.mk (below_step (by repeat (first | (with_reducible first | exact HB.out | apply below_alloc | apply pw_below_drewN | apply below_drew1) | exact HB.out)) hb); clear HO_10; clear HB; have HO_10 := n0_; have HO160 := n1_; have HB := n2_; clear n0_ n1_ n2_; clear hb ho20) | ((with_reducible refine gate_callee (f := 66) rfl ?_); refine goesL_ (some 37) rfl rfl Try.func66 (by kernel_rfl) rfl #[.slice A0 l0.length c0] rfl (by (try simp only [List.map_toArray, List.map_cons, List.map_nil]); first | done | rfl | (simp only [List.length_drop, List.length_take]; rfl)) ?_; (with_reducible refine (pyxref12_row.calls _ _ l0 t161 _ ?side1 ?side2 A12.out).mono ?_); (case side1 => repeat (first | exact (Kd.C_below HR0.out HB.out) | (with_reducible refine Kd.C_alloc ?_ _) | (with_reducible refine Kd.C_drewN ?_ _) | (with_reducible refine Kd.C_drew ?_))); (case side2 => exact HC0.out); rintro e w21 ⟨v162, rfl, ho0, hb⟩; refine ⟨_, rfl, ?_⟩; have n0_ := Aside0.mk (Kd.R_elder' (by (with_reducible repeat (first | apply Kd.R_alloc | apply Kd.R_drewN | apply Kd.R_drew)); exact HO_10.out) (Kd.R_base ho0) hb); have n1_ := Aside0.mk (Kd.R_elder' (by (with_reducible repeat (first | apply Kd.R_alloc | apply Kd.R_drewN | apply Kd.R_drew)); exact HO160.out) (Kd.R_base ho0) hb); have n2_ := Aside0.mk (Kd.R_lower (Kd.R_new' (Kd.R_new' ho0 (Kd.R_lt (by (with_reducible repeat (first | apply Kd.R_alloc | apply Kd.R_drewN | apply Kd.R_drew)); exact HO_10.out))) (Kd.R_lt (by (with_reducible repeat (first | apply Kd.R_alloc | apply Kd.R_drewN | apply Kd.R_drew)); exact HO160.out))) (below_size (by repeat (first | (with_reducible first | exact HB.out | apply below_alloc | apply pw_below_drewN | apply below_drew1) | exact HB.out)))); have n3_ := Aside0.mk (below_step (by repeat (first | (with_reducible first | exact HB.out | apply below_alloc | apply pw_below_drewN | apply below_drew1) | exact HB.out)) hb); clear HO_10; clear HO160; clear HB; have HO_10 := n0_; have HO160 := n1_; have HO163 := n2_; have HB := n3_; clear n0_ n1_ n2_ n3_; (try clear hb); (try clear hb2); (try clear hk); (try clear hi); (try clear ho0); obtain ⟨Ao23, co23, eo23⟩ := Kd.R_slice HO163.out; subst eo23) | ((with_reducible refine gate_builtin (b := .append) (xs := #[.tmp 35, .tmp 37]) rfl ?_); (try (refine gate_guard (by rfl) ?_; dsimp only)); at_builtin; refine Kd.R_append_rows (Kd.int .u8) (w0 := w) w.heap.size rfl (.tmp 35) (.tmp 37) 22 5 (.int .u8 0) 1 rfl Try.underlying22 info5 rfl (by decide) (by omega) v159 y158 t161 _ _ _ (fun k_ => some k_ ≠ (v156 : Value).ownBlock ∧ some k_ ≠ (.slice Ao23 t161.length co23 : Value).ownBlock) (fun _ => False) rfl rfl ?aO ?aR (fun _ _ h => h) (fun _ h => h.elim) ?aF ?aB ?aS ?aL ?_; (case aR => repeat (first | exact (Kd.R_reads' HO163.out).2.2 | (with_reducible refine Kd.C_alloc ?_ _) | (with_reducible refine Kd.C_drewN ?_ _) | (with_reducible refine Kd.C_drew ?_))); (case aB => exact (by repeat (first | (with_reducible first | exact HB.out | apply below_alloc | apply pw_below_drewN | apply below_drew1) | exact HB.out))); (case aF => exact (fun k_ hk => ⟨Kd.fresh' (Kd.R_lt (by (with_reducible repeat (first | apply Kd.R_alloc | apply Kd.R_drewN | apply Kd.R_drew)); exact HO_10.out)) k_ hk, Kd.fresh' (Kd.R_lt (by (with_reducible repeat (first | apply Kd.R_alloc | apply Kd.R_drewN | apply Kd.R_drew)); exact HO163.out)) k_ hk⟩)); (case aO => exact (by (with_reducible repeat (first | apply Kd.R_alloc | apply Kd.R_drewN | apply Kd.R_drew)); exact Kd.R_mono HO160.out (fun _ hk => ⟨hk.1.2, hk.2⟩))); (case aS => exact (below_size (by repeat (first | (with_reducible first | exact HB.out | apply below_alloc | apply pw_below_drewN | apply below_drew1) | exact HB.out)))); (case aL => have := LMc13.out; omega); intro v165 w22 ho hb hg hat; rw [← Ny164.out] at ho; have n0_ := Aside0.mk (Kd.R_after (ok := (fun k_ => some k_ ≠ (.slice Ao23 t161.length co23 : Value).ownBlock)) (by (with_reducible repeat (first | apply Kd.R_alloc | apply Kd.R_drewN | apply Kd.R_drew)); exact Kd.R_mono HO_10.out (fun _ hk => ⟨hk.2, hk.1.2⟩)) hg hat); have n1_ := Aside0.mk (Kd.R_after (ok := (fun k_ => some k_ ≠ (v156 : Value).ownBlock)) (by (with_reducible repeat (first | apply Kd.R_alloc | apply Kd.R_drewN | apply Kd.R_drew)); exact Kd.R_mono HO163.out (fun _ hk => ⟨hk.1.2, hk.2⟩)) hg hat); have n2_ := Aside0.mk (hb); have n3_ := Aside0.mk (ho); clear HO_10; clear HO163; clear HB; clear HO160; have HO_10 := n0_; have HO163 := n1_; have HB := n2_; have HO166 := n3_; clear n0_ n1_ n2_ n3_; clear ho hb hg hat; obtain ⟨Ao25, co25, eo25⟩ := Kd.R_slice HO_10.out; subst eo25) | ((with_reducible refine gate_builtin (b := .append) (xs := #[.tmp 38, .tmp 39]) rfl ?_); (try (refine gate_guard (by rfl) ?_; dsimp only)); at_builtin; refine Kd.R_append_rows (Kd.int .u8) (w0 := w) w.heap.size rfl (.tmp 38) (.tmp 39) 22 5 (.int .u8 0) 1 rfl Try.underlying22 info5 rfl (by decide) (by omega) v165 y164 t154 _ _ _ (fun k_ => some k_ ≠ (.slice Ao25 t154.length co25 : Value).ownBlock ∧ some k_ ≠ (.slice Ao23 t161.length co23 : Value).ownBlock) (fun _ => False) rfl rfl ?aO ?aR (fun _ _ h => h) (fun _ h => h.elim) ?aF ?aB ?aS ?aL ?_; (case aR => repeat (first | exact (Kd.R_reads' HO_10.out).2.2 | (with_reducible refine Kd.C_alloc ?_ _) | (with_reducible refine Kd.C_drewN ?_ _) | (with_reducible refine Kd.C_drew ?_))); (case aB => exact (by repeat (first | (with_reducible first | exact HB.out | apply below_alloc | apply pw_below_drewN | apply below_drew1) | exact HB.out))); (case aF => exact (fun k_ hk => ⟨Kd.fresh' (Kd.R_lt (by (with_reducible repeat (first | apply Kd.R_alloc | apply Kd.R_drewN | apply Kd.R_drew)); exact HO_10.out)) k_ hk, Kd.fresh' (Kd.R_lt (by (with_reducible repeat (first | apply Kd.R_alloc | apply Kd.R_drewN | apply Kd.R_drew)); exact HO163.out)) k_ hk⟩)); (case aO => exact (by (with_reducible repeat (first | apply Kd.R_alloc | apply Kd.R_drewN | apply Kd.R_drew)); exact HO166.out)); (case aS => exact (below_size (by repeat (first | (with_reducible first | exact HB.out | apply below_alloc | apply pw_below_drewN | apply below_drew1) | exact HB.out)))); (case aL => have := LMc14.out; omega); intro v168 w24 ho hb hg hat; rw [← Ny167.out] at ho; have n0_ := Aside0.mk (Kd.R_after (ok := (fun k_ => some k_ ≠ (.slice Ao23 t161.length co23 : Value).ownBlock)) (by (with_reducible repeat (first | apply Kd.R_alloc | apply Kd.R_drewN | apply Kd.R_drew)); exact HO_10.out) hg hat); have n1_ := Aside0.mk (Kd.R_after (ok := (fun k_ => some k_ ≠ (.slice Ao25 t154.length co25 : Value).ownBlock)) (by (with_reducible repeat (first | apply Kd.R_alloc | apply Kd.R_drewN | apply Kd.R_drew)); exact HO163.out) hg hat); have n2_ := Aside0.mk (hb); have n3_ := Aside0.mk (ho); clear HO_10; clear HO163; clear HB; clear HO166; have HO_10 := n0_; have HO163 := n1_; have HB := n2_; have HO169 := n3_; clear n0_ n1_ n2_ n3_; clear ho hb hg hat) | ((with_reducible refine gate_callee (f := 66) rfl ?_); refine goesL_ (some 43) rfl rfl Try.func66 (by kernel_rfl) rfl #[.slice A2 l2.length c2] rfl (by (try simp only [List.map_toArray, List.map_cons, List.map_nil]); first | done | rfl | (simp only [List.length_drop, List.length_take]; rfl)) ?_; (with_reducible refine (pyxref12_row.calls _ _ l2 t170 _ ?side1 ?side2 A15.out).mono ?_); (case side1 => repeat (first | exact (Kd.C_below HR2.out HB.out) | (with_reducible refine Kd.C_alloc ?_ _) | (with_reducible refine Kd.C_drewN ?_ _) | (with_reducible refine Kd.C_drew ?_))); (case side2 => exact HC2.out); rintro e w26 ⟨v171, rfl, ho0, hb⟩; refine ⟨_, rfl, ?_⟩; have n0_ := Aside0.mk (Kd.R_elder' (by (with_reducible repeat (first | apply Kd.R_alloc | apply Kd.R_drewN | apply Kd.R_drew)); exact HO_10.out) (Kd.R_base ho0) hb); have n1_ := Aside0.mk (Kd.R_elder' (by (with_reducible repeat (first | apply Kd.R_alloc | apply Kd.R_drewN | apply Kd.R_drew)); exact HO163.out) (Kd.R_base ho0) hb); have n2_ := Aside0.mk (Kd.R_elder' (by (with_reducible repeat (first | apply Kd.R_alloc | apply Kd.R_drewN | apply Kd.R_drew)); exact HO169.out) (Kd.R_base ho0) hb); have n3_ := Aside0.mk (Kd.R_lower (Kd.R_new' (Kd.R_new' (Kd.R_new' ho0 (Kd.R_lt (by (with_reducible repeat (first | apply Kd.R_alloc | apply Kd.R_drewN | apply Kd.R_drew)); exact HO_10.out))) (Kd.R_lt (by (with_reducible repeat (first | apply Kd.R_alloc | apply Kd.R_drewN | apply Kd.R_drew)); exact HO163.out))) (Kd.R_lt (by (with_reducible repeat (first | apply Kd.R_alloc | apply Kd.R_drewN | apply Kd.R_drew)); exact HO169.out))) (below_size (by repeat (first | (with_reducible first | exact HB.out | apply below_alloc | apply pw_below_drewN | apply below_drew1) | exact HB.out)))); have n4_ := Aside0.mk (below_step (by repeat (first | (with_reducible first | exact HB.out | apply below_alloc | apply pw_below_drewN | apply below_drew1) | exact HB.out)) hb); clear HO_10; clear HO163; clear HO169; clear HB; have HO_10 := n0_; have HO163 := n1_; have HO169 := n2_; have HO172 := n3_; have HB := n4_; clear n0_ n1_ n2_ n3_ n4_; (try clear hb); (try clear hb2); (try clear hk); (try clear hi); (try clear ho0); obtain ⟨Ao28, co28, eo28⟩ := Kd.R_slice HO172.out; subst eo28) | ((with_reducible refine gate_builtin (b := .append) (xs := #[.tmp 41, .tmp 43]) rfl ?_); (try (refine gate_guard (by rfl) ?_; dsimp only)); at_builtin; refine Kd.R_append_rows (Kd.int .u8) (w0 := w) w.heap.size rfl (.tmp 41) (.tmp 43) 22 5 (.int .u8 0) 1 rfl Try.underlying22 info5 rfl (by decide) (by omega) v168 y167 t170 _ _ _ (fun k_ => some k_ ≠ (.slice Ao25 t154.length co25 : Value).ownBlock ∧ some k_ ≠ (.slice Ao23 t161.length co23 : Value).ownBlock ∧ some k_ ≠ (.slice Ao28 t170.length co28 : Value).ownBlock) (fun _ => False) rfl rfl ?aO ?aR (fun _ _ h => h) (fun _ h => h.elim) ?aF ?aB ?aS ?aL ?_; (case aR => repeat (first | exact (Kd.R_reads' HO172.out).2.2 | (with_reducible refine Kd.C_alloc ?_ _) | (with_reducible refine Kd.C_drewN ?_ _) | (with_reducible refine Kd.C_drew ?_))); (case aB => exact (by repeat (first | (with_reducible first | exact HB.out | apply below_alloc | apply pw_below_drewN | apply below_drew1) | exact HB.out))); (case aF => exact (fun k_ hk => ⟨Kd.fresh' (Kd.R_lt (by (with_reducible repeat (first | apply Kd.R_alloc | apply Kd.R_drewN | apply Kd.R_drew)); exact HO_10.out)) k_ hk, Kd.fresh' (Kd.R_lt (by (with_reducible repeat (first | apply Kd.R_alloc | apply Kd.R_drewN | apply Kd.R_drew)); exact HO163.out)) k_ hk, Kd.fresh' (Kd.R_lt (by (with_reducible repeat (first | apply Kd.R_alloc | apply Kd.R_drewN | apply Kd.R_drew)); exact HO172.out)) k_ hk⟩)); (case aO => exact (by (with_reducible repeat (first | apply Kd.R_alloc | apply Kd.R_drewN | apply Kd.R_drew)); exact Kd.R_mono HO169.out (fun _ hk => ⟨hk.1.1, ⟨hk.1.2, hk.2⟩⟩))); (case aS => exact (below_size (by repeat (first | (with_reducible first | exact HB.out | apply below_alloc | apply pw_below_drewN | apply below_drew1) | exact HB.out)))); (case aL => have := LMc16.out; omega); intro v174 w27 ho hb hg hat; rw [← Ny173.out] at ho; have n0_ := Aside0.mk (Kd.R_after (ok := (fun k_ => some k_ ≠ (.slice Ao23 t161.length co23 : Value).ownBlock ∧ some k_ ≠ (.slice Ao28 t170.length co28 : Value).ownBlock)) (by (with_reducible repeat (first | apply Kd.R_alloc | apply Kd.R_drewN | apply Kd.R_drew)); exact Kd.R_mono HO_10.out (fun _ hk => ⟨⟨hk.1.1, hk.2⟩, hk.1.2⟩)) hg hat); have n1_ := Aside0.mk (Kd.R_after (ok := (fun k_ => some k_ ≠ (.slice Ao25 t154.length co25 : Value).ownBlock ∧ some k_ ≠ (.slice Ao28 t170.length co28 : Value).ownBlock)) (by (with_reducible repeat (first | apply Kd.R_alloc | apply Kd.R_drewN | apply Kd.R_drew)); exact Kd.R_mono HO163.out (fun _ hk => ⟨⟨hk.1.1, hk.2⟩, hk.1.2⟩)) hg hat); have n2_ := Aside0.mk (Kd.R_after (ok := (fun k_ => some k_ ≠ (.slice Ao25 t154.length co25 : Value).ownBlock ∧ some k_ ≠ (.slice Ao23 t161.length co23 : Value).ownBlock)) (by (with_reducible repeat (first | apply Kd.R_alloc | apply Kd.R_drewN | apply Kd.R_drew)); exact Kd.R_mono HO172.out (fun _ hk => ⟨⟨hk.1.1.2, hk.1.2⟩, hk.2⟩)) hg hat); have n3_ := Aside0.mk (hb); have n4_ := Aside0.mk (ho); clear HO_10; clear HO163; clear HO172; clear HB; clear HO169; have HO_10 := n0_; have HO163 := n1_; have HO172 := n2_; have HB := n3_; have HO175 := n4_; clear n0_ n1_ n2_ n3_ n4_; clear ho hb hg hat) | ((with_reducible refine gate_callee (f := 66) rfl ?_); refine goesL_ (some 46) rfl rfl Try.func66 (by kernel_rfl) rfl #[.slice A3 l3.length c3] rfl (by (try simp only [List.map_toArray, List.map_cons, List.map_nil]); first | done | rfl | (simp only [List.length_drop, List.length_take]; rfl)) ?_; (with_reducible refine (pyxref12_row.calls _ _ l3 t176 _ ?side1 ?side2 A17.out).mono ?_); (case side1 => repeat (first | exact (Kd.C_below HR3.out HB.out) | (with_reducible refine Kd.C_alloc ?_ _) | (with_reducible refine Kd.C_drewN ?_ _) | (with_reducible refine Kd.C_drew ?_))); (case side2 => exact HC3.out); rintro e w29 ⟨v177, rfl, ho0, hb⟩; refine ⟨_, rfl, ?_⟩; have n0_ := Aside0.mk (Kd.R_elder' (by (with_reducible repeat (first | apply Kd.R_alloc | apply Kd.R_drewN | apply Kd.R_drew)); exact HO_10.out) (Kd.R_base ho0) hb); have n1_ := Aside0.mk (Kd.R_elder' (by (with_reducible repeat (first | apply Kd.R_alloc | apply Kd.R_drewN | apply Kd.R_drew)); exact HO163.out) (Kd.R_base ho0) hb); have n2_ := Aside0.mk (Kd.R_elder' (by (with_reducible repeat (first | apply Kd.R_alloc | apply Kd.R_drewN | apply Kd.R_drew)); exact HO172.out) (Kd.R_base ho0) hb); have n3_ := Aside0.mk (Kd.R_elder' (by (with_reducible repeat (first | apply Kd.R_alloc | apply Kd.R_drewN | apply Kd.R_drew)); exact HO175.out) (Kd.R_base ho0) hb); have n4_ := Aside0.mk (Kd.R_lower (Kd.R_new' (Kd.R_new' (Kd.R_new' (Kd.R_new' ho0 (Kd.R_lt (by (with_reducible repeat (first | apply Kd.R_alloc | apply Kd.R_drewN | apply Kd.R_drew)); exact HO_10.out))) (Kd.R_lt (by (with_reducible repeat (first | apply Kd.R_alloc | apply Kd.R_drewN | apply Kd.R_drew)); exact HO163.out))) (Kd.R_lt (by (with_reducible repeat (first | apply Kd.R_alloc | apply Kd.R_drewN | apply Kd.R_drew)); exact HO172.out))) (Kd.R_lt (by (with_reducible repeat (first | apply Kd.R_alloc | apply Kd.R_drewN | apply Kd.R_drew)); exact HO175.out))) (below_size (by repeat (first | (with_reducible first | exact HB.out | apply below_alloc | apply pw_below_drewN | apply below_drew1) | exact HB.out)))); have n5_ := Aside0.mk (below_step (by repeat (first | (with_reducible first | exact HB.out | apply below_alloc | apply pw_below_drewN | apply below_drew1) | exact HB.out)) hb); clear HO_10; clear HO163; clear HO172; clear HO175; clear HB; have HO_10 := n0_; have HO163 := n1_; have HO172 := n2_; have HO175 := n3_; have HO178 := n4_; have HB := n5_; clear n0_ n1_ n2_ n3_ n4_ n5_; (try clear hb); (try clear hb2); (try clear hk); (try clear hi); (try clear ho0); obtain ⟨Ao31, co31, eo31⟩ := Kd.R_slice HO178.out; subst eo31) | ((with_reducible refine gate_builtin (b := .append) (xs := #[.tmp 44, .tmp 46]) rfl ?_); (try (refine gate_guard (by rfl) ?_; dsimp only)); at_builtin; refine Kd.R_append_rows (Kd.int .u8) (w0 := w) w.heap.size rfl (.tmp 44) (.tmp 46) 22 5 (.int .u8 0) 1 rfl Try.underlying22 info5 rfl (by decide) (by omega) v174 y173 t176 _ _ _ (fun k_ => some k_ ≠ (.slice Ao25 t154.length co25 : Value).ownBlock ∧ some k_ ≠ (.slice Ao23 t161.length co23 : Value).ownBlock ∧ some k_ ≠ (.slice Ao28 t170.length co28 : Value).ownBlock ∧ some k_ ≠ (.slice Ao31 t176.length co31 : Value).ownBlock) (fun _ => False) rfl rfl ?aO ?aR (fun _ _ h => h) (fun _ h => h.elim) ?aF ?aB ?aS ?aL ?_; (case aR => repeat (first | exact (Kd.R_reads' HO178.out).2.2 | (with_reducible refine Kd.C_alloc ?_ _) | (with_reducible refine Kd.C_drewN ?_ _) | (with_reducible refine Kd.C_drew ?_))); (case aB => exact (by repeat (first | (with_reducible first | exact HB.out | apply below_alloc | apply pw_below_drewN | apply below_drew1) | exact HB.out))); (case aF => exact (fun k_ hk => ⟨Kd.fresh' (Kd.R_lt (by (with_reducible repeat (first | apply Kd.R_alloc | apply Kd.R_drewN | apply Kd.R_drew)); exact HO_10.out)) k_ hk, Kd.fresh' (Kd.R_lt (by (with_reducible repeat (first | apply Kd.R_alloc | apply Kd.R_drewN | apply Kd.R_drew)); exact HO163.out)) k_ hk, Kd.fresh' (Kd.R_lt (by (with_reducible repeat (first | apply Kd.R_alloc | apply Kd.R_drewN | apply Kd.R_drew)); exact HO172.out)) k_ hk, Kd.fresh' (Kd.R_lt (by (with_reducible repeat (first | apply Kd.R_alloc | apply Kd.R_drewN | apply Kd.R_drew)); exact HO178.out)) k_ hk⟩)); (case aO => exact (by (with_reducible repeat (first | apply Kd.R_alloc | apply Kd.R_drewN | apply Kd.R_drew)); exact Kd.R_mono HO175.out (fun _ hk => ⟨hk.1.1, ⟨hk.1.2.1, ⟨hk.1.2.2, hk.2⟩⟩⟩))); (case aS => exact (below_size (by repeat (first | (with_reducible first | exact HB.out | apply below_alloc | apply pw_below_drewN | apply below_drew1) | exact HB.out)))); (case aL => have := LMc18.out; omega); intro v180 w30 ho hb hg hat; rw [← Ny179.out] at ho; have n0_ := Aside0.mk (Kd.R_after (ok := (fun k_ => some k_ ≠ (.slice Ao23 t161.length co23 : Value).ownBlock ∧ some k_ ≠ (.slice Ao28 t170.length co28 : Value).ownBlock ∧ some k_ ≠ (.slice Ao31 t176.length co31 : Value).ownBlock)) (by (with_reducible repeat (first | apply Kd.R_alloc | apply Kd.R_drewN | apply Kd.R_drew)); exact Kd.R_mono HO_10.out (fun _ hk => ⟨⟨hk.1.1.1, ⟨hk.1.1.2, hk.2⟩⟩, hk.1.2⟩)) hg hat); have n1_ := Aside0.mk (Kd.R_after (ok := (fun k_ => some k_ ≠ (.slice Ao25 t154.length co25 : Value).ownBlock ∧ some k_ ≠ (.slice Ao28 t170.length co28 : Value).ownBlock ∧ some k_ ≠ (.slice Ao31 t176.length co31 : Value).ownBlock)) (by (with_reducible repeat (first | apply Kd.R_alloc | apply Kd.R_drewN | apply Kd.R_drew)); exact Kd.R_mono HO163.out (fun _ hk => ⟨⟨hk.1.1.1, ⟨hk.1.1.2, hk.2⟩⟩, hk.1.2⟩)) hg hat); have n2_ := Aside0.mk (Kd.R_after (ok := (fun k_ => some k_ ≠ (.slice Ao25 t154.length co25 : Value).ownBlock ∧ some k_ ≠ (.slice Ao23 t161.length co23 : Value).ownBlock ∧ some k_ ≠ (.slice Ao31 t176.length co31 : Value).ownBlock)) (by (with_reducible repeat (first | apply Kd.R_alloc | apply Kd.R_drewN | apply Kd.R_drew)); exact Kd.R_mono HO172.out (fun _ hk => ⟨⟨hk.1.1.1, ⟨hk.1.1.2, hk.2⟩⟩, hk.1.2⟩)) hg hat); have n3_ := Aside0.mk (Kd.R_after (ok := (fun k_ => some k_ ≠ (.slice Ao25 t154.length co25 : Value).ownBlock ∧ some k_ ≠ (.slice Ao23 t161.length co23 : Value).ownBlock ∧ some k_ ≠ (.slice Ao28 t170.length co28 : Value).ownBlock)) (by (with_reducible repeat (first | apply Kd.R_alloc | apply Kd.R_drewN | apply Kd.R_drew)); exact Kd.R_mono HO178.out (fun _ hk => ⟨⟨hk.1.1.1.2, ⟨hk.1.1.2, hk.1.2⟩⟩, hk.2⟩)) hg hat); have n4_ := Aside0.mk (hb); have n5_ := Aside0.mk (ho); clear HO_10; clear HO163; clear HO172; clear HO178; clear HB; clear HO175; have HO_10 := n0_; have HO163 := n1_; have HO172 := n2_; have HO178 := n3_; have HB := n4_; have HO181 := n5_; clear n0_ n1_ n2_ n3_ n4_ n5_; clear ho hb hg hat))
                go_ret2
                exact ⟨_, by first | rfl | (simp [errW_none, errW_some] <;> rfl) | (simp [*, errW_none, errW_some] <;> rfl), by (with_reducible repeat (first | apply Kd.R_alloc | apply Kd.R_drewN | apply Kd.R_drew)); exact Kd.R_mono HO181.out (fun _ hk => trivial), by repeat (first | (with_reducible first | exact HB.out | apply below_alloc | apply pw_below_drewN | apply below_drew1) | exact HB.out)⟩
              · rw [if_neg c18] at H
                exact absurd H (by simp)
            · rw [if_neg c16] at H
              exact absurd H (by simp)
          · rw [if_neg c14] at H
            exact absurd H (by simp)
        · rw [if_neg c13] at H
          exact absurd H (by simp)
-- NOT PRINTED: function 74 (pyxref02_Pad)
-- NOT PRINTED: function 75 (pyxref02_keys)
-- NOT PRINTED: function 76 (pyxref02_Start)
-- NOT PRINTED: function 93 (pyxref02_word)
-- NOT PRINTED: function 94 (pyxref02_turn)
-- NOT PRINTED: function 77 (pyxref02_step)
-- NOT PRINTED: function 61 (pyxref03_Key)
-- NOT PRINTED: function 62 (pyxref03_with)
-- NOT PRINTED: function 17 (pyxref04_Expand)
/-! ### pyxref12_label: function 68 -/
def pyxref12_label.f (l0 : List Int) (a1 : ByteArray) (l2 : List Int) : Option (List Int) := (pyxref04_Label.f l0 a1 l2 32).bind fun bt182 => (some bt182.1)
set_option maxHeartbeats 8000000 in
set_option maxRecDepth 100000 in
theorem pyxref12_label.calls (A0 : Option Addr) (c0 : Nat) (l0 : List Int) (a1 : ByteArray) (A2 : Option Addr) (c2 : Nat) (l2 : List Int) (r : List Int) (w : World) (hr0 : Kd.C (Kd.int .u8) w A0 l0.length l0) (hc0 : l0.length ≤ c0) (hr2 : Kd.C (Kd.int .u8) w A2 l2.length l2) (hc2 : l2.length ≤ c2) (h : pyxref12_label.f l0 a1 l2 = some r) :
    Calls Try.prog 68 #[.slice A0 l0.length c0, .string a1, .slice A2 l2.length c2] w fun e w' => ∃ v0_ : Value, e = .returned (v0_) ∧ Kd.R (Kd.int .u8) 5 w' w.heap.size (fun _ => True) v0_ r ∧ Below w.heap.size w w' := by
  have HR0 := Aside0.mk hr0
  have HC0 := Aside0.mk hc0
  clear hr0 hc0
  have HR2 := Aside0.mk hr2
  have HC2 := Aside0.mk hc2
  clear hr2 hc2
  have HB := Aside0.mk (Below.refl w.heap.size w)
  have H : ((pyxref04_Label.f l0 a1 l2 32).bind fun bt182 => (some bt182.1)) = some r := h
  clear h
  replace H := Option.bind_eq_some_iff.mp H
  obtain ⟨⟨t182, t183⟩, A40, H⟩ := H
  replace H : (some t182) = some r := H
  have A4 := Aside0.mk A40
  clear A40
  obtain rfl := Option.some.inj H
  go_enter Try.func68, Try.ntmps68
  go_wp2_with (first | ((with_reducible refine gate_callee (f := 19) rfl ?_); refine goesL_ (some 13) rfl rfl Try.func19 (by kernel_rfl) rfl #[.slice A0 l0.length c0, .string a1, .slice A2 l2.length c2, .int .i64 32] rfl (by (try simp only [List.map_toArray, List.map_cons, List.map_nil]); first | done | rfl | (simp only [List.length_drop, List.length_take]; rfl)) ?_; (with_reducible refine (pyxref04_Label.calls _ _ l0 a1 _ _ l2 32 t182 t183 _ ?side1 ?side2 ?side3 ?side4 A4.out).mono ?_); (case side1 => repeat (first | exact HR0.out | (with_reducible refine Kd.C_alloc ?_ _) | (with_reducible refine Kd.C_drewN ?_ _) | (with_reducible refine Kd.C_drew ?_))); (case side2 => exact HC0.out); (case side3 => repeat (first | exact HR2.out | (with_reducible refine Kd.C_alloc ?_ _) | (with_reducible refine Kd.C_drewN ?_ _) | (with_reducible refine Kd.C_drew ?_))); (case side4 => exact HC2.out); rintro e w5 ⟨v184, rfl, ho0, hb⟩; refine ⟨_, rfl, ?_⟩; have n0_ := Aside0.mk (Kd.R_lower ho0 (below_size (by repeat (first | (with_reducible first | exact HB.out | apply below_alloc | apply pw_below_drewN | apply below_drew1) | exact HB.out)))); have n1_ := Aside0.mk (below_step (by repeat (first | (with_reducible first | exact HB.out | apply below_alloc | apply pw_below_drewN | apply below_drew1) | exact HB.out)) hb); clear HB; have HO185 := n0_; have HB := n1_; clear n0_ n1_; (try clear hb); (try clear hb2); (try clear hk); (try clear hi); (try clear ho0)))
  go_ret
  exact ⟨_, by first | rfl | (simp [errW_none, errW_some] <;> rfl) | (simp [*, errW_none, errW_some] <;> rfl), by (with_reducible repeat (first | apply Kd.R_alloc | apply Kd.R_drewN | apply Kd.R_drew)); exact HO185.out, by repeat (first | (with_reducible first | exact HB.out | apply below_alloc | apply pw_below_drewN | apply below_drew1) | exact HB.out)⟩
/-! ### pyxref12_Joiner: function 34 -/
def pyxref12_Joiner.j0 : Nat → List Int → List Int → List Int → Bool → Option (List Int × Int)
  | 0, _, _, _, _ => none
  | k + 1, x0, x1, x2, x15 => if x15 = true then (some (([] : List Int), 1)) else ((pyxref04_Extract.f x0 x1).bind fun t186 => ((pyxref12_label.f t186 (⟨#[106, 111, 105, 110, 101, 114]⟩ : ByteArray) x2).bind fun t189 => (some (t189, 0))))
def pyxref12_Joiner.f (k : Nat) (l0 : List Int) (l1 : List Int) (l2 : List Int) : Option (List Int × Int) := if (l0.length : Int) = 32 then (pyxref12_Joiner.j0 k l0 l1 l2 ((l1.length : Int) != 32)) else (pyxref12_Joiner.j0 k l0 l1 l2 true)
theorem pyxref12_Joiner.mono_l : ∀ k, (∀ y0 y1 y2 y3, LeO (pyxref12_Joiner.j0 k y0 y1 y2 y3) (pyxref12_Joiner.j0 (k + 1) y0 y1 y2 y3))
  | 0 => fun _ _ _ _ r h => by simp [pyxref12_Joiner.j0] at h
  | k + 1 => by
    have ih0 := pyxref12_Joiner.mono_l k
    · intro y0 y1 y2 y3
      unfold pyxref12_Joiner.j0
      repeat' first
      | (with_reducible exact ih0 _ _ _ _)
      | (with_reducible exact LeO.refl _)
      | (with_reducible exact LeO.none _)
      | (with_reducible refine LeO.ite ?_ ?_)
      | (with_reducible refine LeO.bind ?_ (fun _ => ?_))
      | exact ih0 _ _ _ _
      | exact LeO.none _
      | refine LeO.ite ?_ ?_
      | refine LeO.bind ?_ (fun _ => ?_)
theorem pyxref12_Joiner.mono : ∀ a0 a1 a2 k, LeO (pyxref12_Joiner.f k a0 a1 a2) (pyxref12_Joiner.f (k + 1) a0 a1 a2) := by
  intro a0 a1 a2 k
  have ih0 := pyxref12_Joiner.mono_l k
  unfold pyxref12_Joiner.f
  repeat' first
      | (with_reducible exact ih0 _ _ _ _)
      | (with_reducible exact LeO.refl _)
      | (with_reducible exact LeO.none _)
      | (with_reducible refine LeO.ite ?_ ?_)
      | (with_reducible refine LeO.bind ?_ (fun _ => ?_))
      | exact ih0 _ _ _ _
      | exact LeO.none _
      | refine LeO.ite ?_ ?_
      | refine LeO.bind ?_ (fun _ => ?_)
set_option maxHeartbeats 8000000 in
set_option maxRecDepth 100000 in
theorem pyxref12_Joiner.calls (k : Nat) (A0 : Option Addr) (c0 : Nat) (l0 : List Int) (A1 : Option Addr) (c1 : Nat) (l1 : List Int) (A2 : Option Addr) (c2 : Nat) (l2 : List Int) (r1 : List Int) (r2 : Int) (w : World) (hr0 : Kd.C (Kd.int .u8) w A0 l0.length l0) (hc0 : l0.length ≤ c0) (hr1 : Kd.C (Kd.int .u8) w A1 l1.length l1) (hc1 : l1.length ≤ c1) (hr2 : Kd.C (Kd.int .u8) w A2 l2.length l2) (hc2 : l2.length ≤ c2) (h : pyxref12_Joiner.f k l0 l1 l2 = some (r1, r2)) :
    Calls Try.prog 34 #[.slice A0 l0.length c0, .slice A1 l1.length c1, .slice A2 l2.length c2] w fun e w' => ∃ v0_ : Value, e = .returned (.tuple #[v0_, .int .i64 r2]) ∧ Kd.R (Kd.int .u8) 5 w' w.heap.size (fun _ => True) v0_ r1 ∧ Below w.heap.size w w' := by
  have HR0 := Aside0.mk hr0
  have HC0 := Aside0.mk hc0
  clear hr0 hc0
  have HR1 := Aside0.mk hr1
  have HC1 := Aside0.mk hc1
  clear hr1 hc1
  have HR2 := Aside0.mk hr2
  have HC2 := Aside0.mk hc2
  clear hr2 hc2
  have HB := Aside0.mk (Below.refl w.heap.size w)
  have H : (if (l0.length : Int) = 32 then (pyxref12_Joiner.j0 k l0 l1 l2 ((l1.length : Int) != 32)) else (pyxref12_Joiner.j0 k l0 l1 l2 true)) = some (r1, r2) := h
  clear h
  have HC4 := Aside0.mk H
  clear H
  go_enter Try.func34, Try.ntmps34
  go_upto_region 1 with (fail)
  go_cut [15] (fun v15 wc => ∃ (kq : Nat) (x15_3 : Bool), v15 = .bool x15_3 ∧ Aside0 (pyxref12_Joiner.j0 kq l0 l1 l2 x15_3 = some (r1, r2)) ∧ Aside0 (kq ≤ k) ∧ Aside0 (Below w.heap.size w wc))
  case first =>
    have H := HC4.out
    clear HC4
    by_cases c5 : (l0.length : Int) = 32
    · rw [if_pos c5] at H
      have c5b0 : ((l0.length : Int) == 32) = true := beq_iff_eq.mpr c5
      have c5b1 : ((l0.length : Int) != 32) = false := bne_eq_false_iff_eq.mpr c5
      clear c5
      (first | rw [c5b0] | (simp only [i64_w, i32_w]; rw [c5b0]) | skip)
      have H' := Aside0.mk H
      clear H
      go_wp2
      go_meet
      case rel => exact ⟨_, (((l1.length : Int) != 32)), (by first | rfl | (simp; done) | (simp [*]; done)), H', ⟨by first | omega | exact Nat.le_refl _⟩, ⟨by repeat (first | (with_reducible first | exact HB.out | apply below_alloc | apply pw_below_drewN | apply below_drew1) | exact HB.out)⟩⟩
    · rw [if_neg c5] at H
      have c5b0 : ((l0.length : Int) == 32) = false := beq_eq_false_iff_ne.mpr c5
      have c5b1 : ((l0.length : Int) != 32) = true := bne_iff_ne.mpr c5
      (first | rw [c5b0] | (simp only [i64_w, i32_w]; rw [c5b0]) | skip)
      have H' := Aside0.mk H
      clear H
      go_wp2
      go_meet
      case rel => exact ⟨_, (true), (by first | rfl | (simp; done) | (simp [*]; done)), H', ⟨by first | omega | exact Nat.le_refl _⟩, ⟨by repeat (first | (with_reducible first | exact HB.out | apply below_alloc | apply pw_below_drewN | apply below_drew1) | exact HB.out)⟩⟩
  case rest =>
    clear HC4
    try clear c1
    try clear c2
    try clear p2
    try clear c3
    try clear c5
    try clear c5b0
    try clear c5b1
    obtain ⟨kq, x15_3, rfl, HA, HJ3, HB⟩ := hcut
    cases kq with
    | zero => exact absurd HA.out (by simp [pyxref12_Joiner.j0])
    | succ kj3 =>
      have H := HA.out
      clear HA
      simp only [pyxref12_Joiner.j0] at H
      by_cases c6 : x15_3 = true
      · subst c6
        have H1 : (some (([] : List Int), 1)) = some (r1, r2) := by rw [if_pos rfl] at H; exact H
        clear H
        have H := H1
        clear H1
        simp only [Option.some.injEq, Prod.mk.injEq] at H
        obtain ⟨rfl, rfl⟩ := H
        go_wp2
        go_ret2
        exact ⟨_, by first | rfl | (simp [errW_none, errW_some] <;> rfl) | (simp [*, errW_none, errW_some] <;> rfl), by first | exact Kd.R_nil _ _ _ _ _ | exact Kd.N_nil _ _ _ _ _ | exact Kd.V_nil _ _ _ _ _ | exact Kd.Q_nil _ _ _ _ _ | exact Kd.S_nil _ _ _ _ _, by repeat (first | (with_reducible first | exact HB.out | apply below_alloc | apply pw_below_drewN | apply below_drew1) | exact HB.out)⟩
      · replace c6 := Bool.eq_false_iff.mpr c6
        subst c6
        have H1 : ((pyxref04_Extract.f l0 l1).bind fun t186 => ((pyxref12_label.f t186 (⟨#[106, 111, 105, 110, 101, 114]⟩ : ByteArray) l2).bind fun t189 => (some (t189, 0)))) = some (r1, r2) := by rw [if_neg (show ¬ (false = true) by decide)] at H; exact H
        clear H
        have H := H1
        clear H1
        replace H := Option.bind_eq_some_iff.mp H
        obtain ⟨t186, A70, H⟩ := H
        replace H : ((pyxref12_label.f t186 (⟨#[106, 111, 105, 110, 101, 114]⟩ : ByteArray) l2).bind fun t189 => (some (t189, 0))) = some (r1, r2) := H
        have A7 := Aside0.mk A70
        clear A70
        replace H := Option.bind_eq_some_iff.mp H
        obtain ⟨t189, A80, H⟩ := H
        replace H : (some (t189, 0)) = some (r1, r2) := H
        have A8 := Aside0.mk A80
        clear A80
        simp only [Option.some.injEq, Prod.mk.injEq] at H
        obtain ⟨rfl, rfl⟩ := H
        go_wp2_with (first | ((with_reducible refine gate_callee (f := 24) rfl ?_); refine goesL_ (some 18) rfl rfl Try.func24 (by kernel_rfl) rfl #[.slice A0 l0.length c0, .slice A1 l1.length c1] rfl (by (try simp only [List.map_toArray, List.map_cons, List.map_nil]); first | done | rfl | (simp only [List.length_drop, List.length_take]; rfl)) ?_; (with_reducible refine (pyxref04_Extract.calls _ _ l0 _ _ l1 t186 _ ?side1 ?side2 ?side3 ?side4 A7.out).mono ?_); (case side1 => repeat (first | exact (Kd.C_below HR0.out HB.out) | (with_reducible refine Kd.C_alloc ?_ _) | (with_reducible refine Kd.C_drewN ?_ _) | (with_reducible refine Kd.C_drew ?_))); (case side2 => exact HC0.out); (case side3 => repeat (first | exact (Kd.C_below HR1.out HB.out) | (with_reducible refine Kd.C_alloc ?_ _) | (with_reducible refine Kd.C_drewN ?_ _) | (with_reducible refine Kd.C_drew ?_))); (case side4 => exact HC1.out); rintro e w9 ⟨v187, rfl, ho0, hb⟩; refine ⟨_, rfl, ?_⟩; have n0_ := Aside0.mk (Kd.R_lower ho0 (below_size (by repeat (first | (with_reducible first | exact HB.out | apply below_alloc | apply pw_below_drewN | apply below_drew1) | exact HB.out)))); have n1_ := Aside0.mk (below_step (by repeat (first | (with_reducible first | exact HB.out | apply below_alloc | apply pw_below_drewN | apply below_drew1) | exact HB.out)) hb); clear HB; have HO188 := n0_; have HB := n1_; clear n0_ n1_; (try clear hb); (try clear hb2); (try clear hk); (try clear hi); (try clear ho0); obtain ⟨Ao10, co10, eo10⟩ := Kd.R_slice HO188.out; subst eo10) | ((with_reducible refine gate_callee (f := 68) rfl ?_); refine goesL_ (some 20) rfl rfl Try.func68 (by kernel_rfl) rfl #[.slice Ao10 t186.length co10, .string (⟨#[106, 111, 105, 110, 101, 114]⟩ : ByteArray), .slice A2 l2.length c2] rfl (by (try simp only [List.map_toArray, List.map_cons, List.map_nil]); first | done | rfl | (simp only [List.length_drop, List.length_take]; rfl)) ?_; (with_reducible refine (pyxref12_label.calls _ _ t186 (⟨#[106, 111, 105, 110, 101, 114]⟩ : ByteArray) _ _ l2 t189 _ ?side1 ?side2 ?side3 ?side4 A8.out).mono ?_); (case side1 => repeat (first | exact (Kd.R_reads' HO188.out).2.2 | (with_reducible refine Kd.C_alloc ?_ _) | (with_reducible refine Kd.C_drewN ?_ _) | (with_reducible refine Kd.C_drew ?_))); (case side2 => exact (Kd.R_reads' HO188.out).2.1); (case side3 => repeat (first | exact (Kd.C_below HR2.out HB.out) | (with_reducible refine Kd.C_alloc ?_ _) | (with_reducible refine Kd.C_drewN ?_ _) | (with_reducible refine Kd.C_drew ?_))); (case side4 => exact HC2.out); rintro e w11 ⟨v190, rfl, ho0, hb⟩; refine ⟨_, rfl, ?_⟩; have n0_ := Aside0.mk (Kd.R_elder' (by (with_reducible repeat (first | apply Kd.R_alloc | apply Kd.R_drewN | apply Kd.R_drew)); exact HO188.out) (Kd.R_base ho0) hb); have n1_ := Aside0.mk (Kd.R_lower (Kd.R_new' ho0 (Kd.R_lt (by (with_reducible repeat (first | apply Kd.R_alloc | apply Kd.R_drewN | apply Kd.R_drew)); exact HO188.out))) (below_size (by repeat (first | (with_reducible first | exact HB.out | apply below_alloc | apply pw_below_drewN | apply below_drew1) | exact HB.out)))); have n2_ := Aside0.mk (below_step (by repeat (first | (with_reducible first | exact HB.out | apply below_alloc | apply pw_below_drewN | apply below_drew1) | exact HB.out)) hb); clear HO188; clear HB; have HO188 := n0_; have HO191 := n1_; have HB := n2_; clear n0_ n1_ n2_; (try clear hb); (try clear hb2); (try clear hk); (try clear hi); (try clear ho0)))
        go_ret2
        exact ⟨_, by first | rfl | (simp [errW_none, errW_some] <;> rfl) | (simp [*, errW_none, errW_some] <;> rfl), by (with_reducible repeat (first | apply Kd.R_alloc | apply Kd.R_drewN | apply Kd.R_drew)); exact Kd.R_mono HO191.out (fun _ hk => trivial), by repeat (first | (with_reducible first | exact HB.out | apply below_alloc | apply pw_below_drewN | apply below_drew1) | exact HB.out)⟩
/-! ### pyxref12_Shared: function 39 -/
def pyxref12_Shared.l0 : Nat → List (List Int) → List Int → Int → Option (List Int)
  | 0, _, _, _ => none
  | k + 1, x0, x3, x4 => if x4 < (x0.length : Int) then ((pyxref01_Num.f x4 2).bind fun bt195 => (if 0 ≤ x4 then ((pyxref12_label.f (rd_L1 x0 x4) (⟨#[115, 104, 97, 114, 101, 100]⟩ : ByteArray) bt195.1).bind fun t200 => ((pyxref04_Extract.f x3 t200).bind fun t203 => (pyxref12_Shared.l0 k x0 t203 (wrap64 (x4 + 1))))) else (none))) else (some x3)
def pyxref12_Shared.f (k : Nat) (l0 : List (List Int)) : Option (List Int) := if 32 ≤ 281474976710656 then (pyxref12_Shared.l0 k l0 (List.replicate 32 0) 0) else (none)
theorem pyxref12_Shared.mono_l : ∀ k, (∀ y0 y1 y2, LeO (pyxref12_Shared.l0 k y0 y1 y2) (pyxref12_Shared.l0 (k + 1) y0 y1 y2))
  | 0 => fun _ _ _ r h => by simp [pyxref12_Shared.l0] at h
  | k + 1 => by
    have ih0 := pyxref12_Shared.mono_l k
    · intro y0 y1 y2
      unfold pyxref12_Shared.l0
      repeat' first
      | (with_reducible exact ih0 _ _ _)
      | (with_reducible exact LeO.refl _)
      | (with_reducible exact LeO.none _)
      | (with_reducible refine LeO.ite ?_ ?_)
      | (with_reducible refine LeO.bind ?_ (fun _ => ?_))
      | exact ih0 _ _ _
      | exact LeO.none _
      | refine LeO.ite ?_ ?_
      | refine LeO.bind ?_ (fun _ => ?_)
theorem pyxref12_Shared.mono : ∀ a0 k, LeO (pyxref12_Shared.f k a0) (pyxref12_Shared.f (k + 1) a0) := by
  intro a0 k
  have ih0 := pyxref12_Shared.mono_l k
  unfold pyxref12_Shared.f
  repeat' first
      | (with_reducible exact ih0 _ _ _)
      | (with_reducible exact LeO.refl _)
      | (with_reducible exact LeO.none _)
      | (with_reducible refine LeO.ite ?_ ?_)
      | (with_reducible refine LeO.bind ?_ (fun _ => ?_))
      | exact ih0 _ _ _
      | exact LeO.none _
      | refine LeO.ite ?_ ?_
      | refine LeO.bind ?_ (fun _ => ?_)
set_option maxHeartbeats 8000000 in
set_option maxRecDepth 100000 in
theorem pyxref12_Shared.calls (k : Nat) (A0 : Option Addr) (c0 : Nat) (l0 : List (List Int)) (r : List Int) (w : World) (hr0 : Kd.C (Kd.slice 5 (Kd.int .u8)) w A0 l0.length l0) (hc0 : l0.length ≤ c0) (h : pyxref12_Shared.f k l0 = some r) :
    Calls Try.prog 39 #[.slice A0 l0.length c0] w fun e w' => ∃ v0_ : Value, e = .returned (v0_) ∧ Kd.R (Kd.int .u8) 5 w' w.heap.size (fun _ => True) v0_ r ∧ Below w.heap.size w w' := by
  have HR0 := Aside0.mk hr0
  have HC0 := Aside0.mk hc0
  clear hr0 hc0
  have HB := Aside0.mk (Below.refl w.heap.size w)
  have H : (if 32 ≤ 281474976710656 then (pyxref12_Shared.l0 k l0 (List.replicate 32 0) 0) else (none)) = some r := h
  clear h
  by_cases c2 : 32 ≤ 281474976710656
  · rw [if_pos c2] at H
    have c2b0 := eq_true c2
    have c2b1 : decide (32 ≤ 281474976710656) = true := decide_eq_true c2
    clear c2
    obtain ⟨y192, hy192⟩ : ∃ y_ : List Int, y_ = (List.replicate 32 0) := ⟨_, rfl⟩
    replace H : (pyxref12_Shared.l0 k l0 y192 0) = some r := by first | (rw [hy192]; with_reducible exact H) | (have H2_ := (Option.bind_some _ _).symm.trans H; rw [hy192]; with_reducible exact H2_) | (have H2_ := (Option.bind_some _ _).symm.trans H; with_reducible exact H2_) | with_reducible exact H | (rw [hy192]; exact H) | exact H
    have Ny192 := Aside0.mk hy192
    clear hy192
    have H' := Aside0.mk H
    clear H
    go_enter Try.func39, Try.ntmps39
    go_wp2_with (first | ((with_reducible refine gate_dst (N := 7) rfl ?_); refine Kd.R_make (Kd.int .u8) _ 5 rfl (N := 7) rfl 22 _ _ rfl 32 rfl rfl Try.underlying22 (.int .u8 0) 1 info5 rfl (by decide) (by omega) 0 (ok := fun _ => True) (okp := fun _ => True) rfl (fun _ hk => hk) trivial (by omega) (by omega) (Below.refl _ _) (Nat.le_refl _) ?_; intro v193 w3 ho4 hb hg_ hnew_; clear hg_ hnew_; (first | rw [← Ny192.out] at ho4 | (simp only [Int.reduceToNat] at ho4; rw [← Ny192.out] at ho4)); have n0_ := Aside0.mk (Kd.R_lower ho4 (below_size (by repeat (first | (with_reducible first | exact HB.out | apply below_alloc | apply pw_below_drewN | apply below_drew1) | exact HB.out)))); have n1_ := Aside0.mk (below_step (by repeat (first | (with_reducible first | exact HB.out | apply below_alloc | apply pw_below_drewN | apply below_drew1) | exact HB.out)) hb); clear HB; have HO194 := n0_; have HB := n1_; clear n0_ n1_; clear hb ho4))
    go_loopg [3, 4] k (fun kq v3 v4 w' => ∃ (x3_1 : List Int) (x4_1 : Int), v4 = .int .i64 x4_1 ∧ Aside0 (pyxref12_Shared.l0 kq l0 x3_1 x4_1 = some r) ∧ Aside0 (kq ≤ k) ∧ Aside0 (Kd.R (Kd.int .u8) 5 w' w.heap.size (fun _ => True) v3 x3_1) ∧ Aside0 (Below w.heap.size w w'))
    case atStart => exact ⟨(y192), (0), (by first | rfl | (simp; done) | (simp [*]; done)), H', ⟨Nat.le_refl _⟩, ⟨by (with_reducible repeat (first | apply Kd.R_alloc | apply Kd.R_drewN | apply Kd.R_drew)); exact HO194.out⟩, ⟨by repeat (first | (with_reducible first | exact HB.out | apply below_alloc | apply pw_below_drewN | apply below_drew1) | exact HB.out)⟩⟩
    case round =>
      clear H'
      try clear c2
      try clear c2b0
      try clear c2b1
      try clear p2
      try clear c3
      obtain ⟨x3_1, x4_1, rfl, HA, HK1, HO_3, HB⟩ := hrel
      cases gk with
      | zero => exact absurd HA.out (by simp [pyxref12_Shared.l0])
      | succ k1 =>
        have H := HA.out
        clear HA
        simp only [pyxref12_Shared.l0] at H
        by_cases c5 : x4_1 < (l0.length : Int)
        · rw [if_pos c5] at H
          have c5b0 : decide (x4_1 < (l0.length : Int)) = true := decide_eq_true c5
          clear c5
          replace H := Option.bind_eq_some_iff.mp H
          obtain ⟨⟨t195, t196⟩, A60, H⟩ := H
          replace H : (if 0 ≤ x4_1 then ((pyxref12_label.f (rd_L1 l0 x4_1) (⟨#[115, 104, 97, 114, 101, 100]⟩ : ByteArray) t195).bind fun t200 => ((pyxref04_Extract.f x3_1 t200).bind fun t203 => (pyxref12_Shared.l0 k1 l0 t203 (wrap64 (x4_1 + 1))))) else (none)) = some r := H
          have A6 := Aside0.mk A60
          clear A60
          by_cases c7 : 0 ≤ x4_1
          · rw [if_pos c7] at H
            have c7b0 : decide (0 ≤ x4_1) = true := decide_eq_true c7
            clear c7
            replace H := Option.bind_eq_some_iff.mp H
            obtain ⟨t200, A80, H⟩ := H
            replace H : ((pyxref04_Extract.f x3_1 t200).bind fun t203 => (pyxref12_Shared.l0 k1 l0 t203 (wrap64 (x4_1 + 1)))) = some r := H
            have A8 := Aside0.mk A80
            clear A80
            replace H := Option.bind_eq_some_iff.mp H
            obtain ⟨t203, A90, H⟩ := H
            replace H : (pyxref12_Shared.l0 k1 l0 t203 (wrap64 (x4_1 + 1))) = some r := H
            have A9 := Aside0.mk A90
            clear A90
            have H' := Aside0.mk H
            clear H
            go_wp2_with (first | ((with_reducible refine gate_callee (f := 58) rfl ?_); refine goesL_ (some 16) rfl rfl Try.func58 (by kernel_rfl) rfl #[.int .i64 x4_1, .int .i64 2] rfl (by (try simp only [List.map_toArray, List.map_cons, List.map_nil]); first | done | rfl | (simp only [List.length_drop, List.length_take]; rfl)) ?_; (with_reducible refine (pyxref01_Num.calls x4_1 2 t195 t196 _ A6.out).mono ?_); rintro e w10 ⟨v197, rfl, ho0, hb⟩; refine ⟨_, rfl, ?_⟩; have n0_ := Aside0.mk (Kd.R_elder' (by (with_reducible repeat (first | apply Kd.R_alloc | apply Kd.R_drewN | apply Kd.R_drew)); exact HO_3.out) (Kd.R_base ho0) hb); have n1_ := Aside0.mk (Kd.R_lower (Kd.R_new' ho0 (Kd.R_lt (by (with_reducible repeat (first | apply Kd.R_alloc | apply Kd.R_drewN | apply Kd.R_drew)); exact HO_3.out))) (below_size (by repeat (first | (with_reducible first | exact HB.out | apply below_alloc | apply pw_below_drewN | apply below_drew1) | exact HB.out)))); have n2_ := Aside0.mk (below_step (by repeat (first | (with_reducible first | exact HB.out | apply below_alloc | apply pw_below_drewN | apply below_drew1) | exact HB.out)) hb); clear HO_3; clear HB; have HO_3 := n0_; have HO198 := n1_; have HB := n2_; clear n0_ n1_ n2_; (try clear hb); (try clear hb2); (try clear hk); (try clear hi); (try clear ho0); have p199 : 0 ≤ (x4_1 : Int) := of_decide_eq_true (by first | (with_reducible assumption) | assumption); have q199 : x4_1 < (l0.length : Int) := of_decide_eq_true (by first | (with_reducible assumption) | assumption); obtain ⟨ad199, A199_0, c199_0, e199, hx199_0, hl199_0, hi199_0⟩ := at_L1 HR0.out x4_1 p199 q199; cases e199; replace hx199_0 := (HB.out.cell (World.block_lt_of_cell? w _ hx199_0)).trans hx199_0; have HR199_0 := Aside0.mk hi199_0; have HC199_0 := Aside0.mk hl199_0; clear hi199_0 hl199_0; replace p199 := eq_true p199; replace q199 := eq_true q199; obtain ⟨Ao11, co11, eo11⟩ := Kd.R_slice HO198.out; subst eo11) | ((with_reducible refine gate_callee (f := 68) rfl ?_); refine goesL_ (some 25) rfl rfl Try.func68 (by kernel_rfl) rfl #[.slice A199_0 (rd_L1 l0 x4_1).length c199_0, .string (⟨#[115, 104, 97, 114, 101, 100]⟩ : ByteArray), .slice Ao11 t195.length co11] rfl (by (try simp only [List.map_toArray, List.map_cons, List.map_nil]); first | done | rfl | (simp only [List.length_drop, List.length_take]; rfl)) ?_; (with_reducible refine (pyxref12_label.calls _ _ (rd_L1 l0 x4_1) (⟨#[115, 104, 97, 114, 101, 100]⟩ : ByteArray) _ _ t195 t200 _ ?side1 ?side2 ?side3 ?side4 A8.out).mono ?_); (case side1 => repeat (first | exact (Kd.C_below HR199_0.out HB.out) | (with_reducible refine Kd.C_alloc ?_ _) | (with_reducible refine Kd.C_drewN ?_ _) | (with_reducible refine Kd.C_drew ?_))); (case side2 => exact HC199_0.out); (case side3 => repeat (first | exact (Kd.R_reads' HO198.out).2.2 | (with_reducible refine Kd.C_alloc ?_ _) | (with_reducible refine Kd.C_drewN ?_ _) | (with_reducible refine Kd.C_drew ?_))); (case side4 => exact (Kd.R_reads' HO198.out).2.1); rintro e w12 ⟨v201, rfl, ho0, hb⟩; refine ⟨_, rfl, ?_⟩; have n0_ := Aside0.mk (Kd.R_elder' (by (with_reducible repeat (first | apply Kd.R_alloc | apply Kd.R_drewN | apply Kd.R_drew)); exact HO_3.out) (Kd.R_base ho0) hb); have n1_ := Aside0.mk (Kd.R_elder' (by (with_reducible repeat (first | apply Kd.R_alloc | apply Kd.R_drewN | apply Kd.R_drew)); exact HO198.out) (Kd.R_base ho0) hb); have n2_ := Aside0.mk (Kd.R_lower (Kd.R_new' (Kd.R_new' ho0 (Kd.R_lt (by (with_reducible repeat (first | apply Kd.R_alloc | apply Kd.R_drewN | apply Kd.R_drew)); exact HO_3.out))) (Kd.R_lt (by (with_reducible repeat (first | apply Kd.R_alloc | apply Kd.R_drewN | apply Kd.R_drew)); exact HO198.out))) (below_size (by repeat (first | (with_reducible first | exact HB.out | apply below_alloc | apply pw_below_drewN | apply below_drew1) | exact HB.out)))); have n3_ := Aside0.mk (below_step (by repeat (first | (with_reducible first | exact HB.out | apply below_alloc | apply pw_below_drewN | apply below_drew1) | exact HB.out)) hb); clear HO_3; clear HO198; clear HB; have HO_3 := n0_; have HO198 := n1_; have HO202 := n2_; have HB := n3_; clear n0_ n1_ n2_ n3_; (try clear hb); (try clear hb2); (try clear hk); (try clear hi); (try clear ho0); obtain ⟨Ao13, co13, eo13⟩ := Kd.R_slice HO_3.out; subst eo13; obtain ⟨Ao14, co14, eo14⟩ := Kd.R_slice HO202.out; subst eo14) | ((with_reducible refine gate_callee (f := 24) rfl ?_); refine goesL_ (some 26) rfl rfl Try.func24 (by kernel_rfl) rfl #[.slice Ao13 x3_1.length co13, .slice Ao14 t200.length co14] rfl (by (try simp only [List.map_toArray, List.map_cons, List.map_nil]); first | done | rfl | (simp only [List.length_drop, List.length_take]; rfl)) ?_; (with_reducible refine (pyxref04_Extract.calls _ _ x3_1 _ _ t200 t203 _ ?side1 ?side2 ?side3 ?side4 A9.out).mono ?_); (case side1 => repeat (first | exact (Kd.R_reads' HO_3.out).2.2 | (with_reducible refine Kd.C_alloc ?_ _) | (with_reducible refine Kd.C_drewN ?_ _) | (with_reducible refine Kd.C_drew ?_))); (case side2 => exact (Kd.R_reads' HO_3.out).2.1); (case side3 => repeat (first | exact (Kd.R_reads' HO202.out).2.2 | (with_reducible refine Kd.C_alloc ?_ _) | (with_reducible refine Kd.C_drewN ?_ _) | (with_reducible refine Kd.C_drew ?_))); (case side4 => exact (Kd.R_reads' HO202.out).2.1); rintro e w15 ⟨v204, rfl, ho0, hb⟩; refine ⟨_, rfl, ?_⟩; have n0_ := Aside0.mk (Kd.R_elder' (by (with_reducible repeat (first | apply Kd.R_alloc | apply Kd.R_drewN | apply Kd.R_drew)); exact HO_3.out) (Kd.R_base ho0) hb); have n1_ := Aside0.mk (Kd.R_elder' (by (with_reducible repeat (first | apply Kd.R_alloc | apply Kd.R_drewN | apply Kd.R_drew)); exact HO198.out) (Kd.R_base ho0) hb); have n2_ := Aside0.mk (Kd.R_elder' (by (with_reducible repeat (first | apply Kd.R_alloc | apply Kd.R_drewN | apply Kd.R_drew)); exact HO202.out) (Kd.R_base ho0) hb); have n3_ := Aside0.mk (Kd.R_lower (Kd.R_new' (Kd.R_new' (Kd.R_new' ho0 (Kd.R_lt (by (with_reducible repeat (first | apply Kd.R_alloc | apply Kd.R_drewN | apply Kd.R_drew)); exact HO_3.out))) (Kd.R_lt (by (with_reducible repeat (first | apply Kd.R_alloc | apply Kd.R_drewN | apply Kd.R_drew)); exact HO198.out))) (Kd.R_lt (by (with_reducible repeat (first | apply Kd.R_alloc | apply Kd.R_drewN | apply Kd.R_drew)); exact HO202.out))) (below_size (by repeat (first | (with_reducible first | exact HB.out | apply below_alloc | apply pw_below_drewN | apply below_drew1) | exact HB.out)))); have n4_ := Aside0.mk (below_step (by repeat (first | (with_reducible first | exact HB.out | apply below_alloc | apply pw_below_drewN | apply below_drew1) | exact HB.out)) hb); clear HO_3; clear HO198; clear HO202; clear HB; have HO_3 := n0_; have HO198 := n1_; have HO202 := n2_; have HO205 := n3_; have HB := n4_; clear n0_ n1_ n2_ n3_ n4_; (try clear hb); (try clear hb2); (try clear hk); (try clear hi); (try clear ho0)))
            go_roundg k1
            case measure => have := HK1.out; omega
            case rel => exact ⟨(t203), (wrap64 (x4_1 + 1)), (by first | rfl | (simp; done) | (simp [*]; done)), H', ⟨by have := HK1.out; omega⟩, ⟨by (with_reducible repeat (first | apply Kd.R_alloc | apply Kd.R_drewN | apply Kd.R_drew)); exact Kd.R_mono HO205.out (fun _ hk => trivial)⟩, ⟨by repeat (first | (with_reducible first | exact HB.out | apply below_alloc | apply pw_below_drewN | apply below_drew1) | exact HB.out)⟩⟩
          · rw [if_neg c7] at H
            exact absurd H (by simp)
        · rw [if_neg c5] at H
          have c5b0 : decide (x4_1 < (l0.length : Int)) = false := decide_eq_false c5
          clear c5
          obtain rfl := Option.some.inj H
          go_wp2
          go_ret
          exact ⟨_, by first | rfl | (simp [errW_none, errW_some] <;> rfl) | (simp [*, errW_none, errW_some] <;> rfl), by (with_reducible repeat (first | apply Kd.R_alloc | apply Kd.R_drewN | apply Kd.R_drew)); exact HO_3.out, by repeat (first | (with_reducible first | exact HB.out | apply below_alloc | apply pw_below_drewN | apply below_drew1) | exact HB.out)⟩
  · rw [if_neg c2] at H
    exact absurd H (by simp)
end Go.Proofs.Ytpdgeanicciaiaa.E
