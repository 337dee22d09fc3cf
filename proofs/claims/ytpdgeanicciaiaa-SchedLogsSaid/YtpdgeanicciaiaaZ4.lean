/-
  The lower layers, walked and in closed forms, part 4: D1, KdfD, KdfShown, SchedA, SchedB, SchedC, E0, E1, E2, SchedD, SchedE, SchedF, SchedG, SchedK, SchedH, SchedI, BytInj, RowsIn.
-/
import Derived.Test.YtpdgeanicciaiaaZ0
import Derived.Test.YtpdgeanicciaiaaZ1
import Derived.Test.YtpdgeanicciaiaaZ3
import Derived.Test.YtpdgeanicciaiaaWWords
import Derived.Test.YtpdgeanicciaiaaWGuard
import Derived.Test.YtpdgeanicciaiaaWLast
import Derived.Test.YtpdgeanicciaiaaWMore
import Derived.Test.YtpdgeanicciaiaaWRepsOne
import Derived.Test.YtpdgeanicciaiaaProg
import Derived.Test.YtpdgeanicciaiaaWSized
import Derived.Lib.SlBytesConst
import Derived.Deep.DeepMust
import Derived.StillTailTactics
import Derived.Deep.QuietTactic
import Derived.BigQuiet
import Derived.Below
import Derived.Deep.Draws
import Derived.Deep.AppendLies
import Derived.Maps.AppendAt
import Derived.OwnWalk
import Derived.Laws.BytesArg
import Derived.Laws.MakeOwn
import Derived.Laws.OwnMore
import Derived.Deep.OwnRows
import Derived.Tactics
import Derived.Lib.ConvBytes
import Derived.Laws.Slices
import Derived.WalkKit
import Derived.KernelRfl
import Derived.RowKit3
import Derived.Deep.LoopGhost
import Derived.WideLaws
import Derived.Deep.DeepCutAuto
import Derived.Deep.CutBlock
import Derived.Deep.RegionHeld3
import Derived.Laws.Rows
import Derived.Lib.AppendStr
import Derived.ArgAppend
import Derived.Laws.IdiomCopy
import Derived.OrdersHeld
import Derived.Laws.BitsLemmas
import Derived.RowKit
import Derived.Deep.Matrix
import Derived.SizedLaws
/-! D1 -/
namespace Go.Proofs.Ytpdgeanicciaiaa.D
open Go.Proofs.Ytpdgeanicciaiaa.P
open Go.RowKit Go.Proofs.YtpdgeanicciaiaaW.PrintWords Go.Proofs.YtpdgeanicciaiaaW.PrintLast Go.Proofs.YtpdgeanicciaiaaW.PrintMore
attribute [local go_sem] max2_int min2_int max_two min_two max_three min_three max_four min_four   -- for this text's walks alone
set_option linter.unusedVariables false
set_option linter.unusedSimpArgs false
-- NOT PRINTED: function 53 (kdf_first)
-- NOT PRINTED: function 16 (kdf_Expand)
-- NOT PRINTED: function 56 (byt_Num)
-- NOT PRINTED: function 95 (byt_wide)
-- NOT PRINTED: function 81 (byt_Len)
-- NOT PRINTED: function 57 (byt_Row)
/-! ### kdf_Derive: function 20 -/
def kdf_Derive.f (l0 : List Int) (a1 : ByteArray) : Option (List Int × Int) := (kdf_Label.f l0 a1 ([] : List Int) 32).bind fun bt101 => (some (bt101.1, bt101.2))
set_option maxHeartbeats 8000000 in
set_option maxRecDepth 100000 in
theorem kdf_Derive.calls (A0 : Option Addr) (c0 : Nat) (l0 : List Int) (a1 : ByteArray) (r1 : List Int) (r2 : Int) (w : World) (hr0 : Kd.C (Kd.int .u8) w A0 l0.length l0) (hc0 : l0.length ≤ c0) (h : kdf_Derive.f l0 a1 = some (r1, r2)) :
    Calls Try.prog 20 #[.slice A0 l0.length c0, .string a1] w fun e w' => ∃ v0_ : Value, e = .returned (.tuple #[v0_, .int .i64 r2]) ∧ Kd.R (Kd.int .u8) 5 w' w.heap.size (fun _ => True) v0_ r1 ∧ Below w.heap.size w w' := by
  have HR0 := Aside0.mk hr0
  have HC0 := Aside0.mk hc0
  clear hr0 hc0
  have HB := Aside0.mk (Below.refl w.heap.size w)
  have H : ((kdf_Label.f l0 a1 ([] : List Int) 32).bind fun bt101 => (some (bt101.1, bt101.2))) = some (r1, r2) := h
  clear h
  replace H := Option.bind_eq_some_iff.mp H
  obtain ⟨⟨t101, t102⟩, A30, H⟩ := H
  replace H : (some (t101, t102)) = some (r1, r2) := H
  have A3 := Aside0.mk A30
  clear A30
  simp only [Option.some.injEq, Prod.mk.injEq] at H
  obtain ⟨rfl, rfl⟩ := H
  go_enter Try.func20, Try.ntmps20
  go_wp2_with (first | ((with_reducible refine gate_callee (f := 18) rfl ?_); refine goesL_ (some 8) rfl rfl Try.func18 (by kernel_rfl) rfl #[.slice A0 l0.length c0, .string a1, .slice none 0 0, .int .i64 32] rfl (by (try simp only [List.map_toArray, List.map_cons, List.map_nil]); first | done | rfl | (simp only [List.length_drop, List.length_take]; rfl)) ?_; (refine (kdf_Label.calls _ _ l0 a1 _ _ ([] : List Int) 32 t101 t102 _ ?side1 ?side2 ?side3 ?side4 A3.out).mono ?_); (case side1 => repeat (first | exact HR0.out | (with_reducible refine Kd.C_alloc ?_ _) | (with_reducible refine Kd.C_drewN ?_ _) | (with_reducible refine Kd.C_drew ?_))); (case side2 => exact HC0.out); (case side3 => exact Kd.C_nil _ _); (case side4 => exact Nat.le_refl _); rintro e w4 ⟨v103, rfl, ho0, hb⟩; refine ⟨_, rfl, ?_⟩; have n0_ := Aside0.mk (Kd.R_lower ho0 (below_size (by repeat (first | (with_reducible first | exact HB.out | apply below_alloc | apply pw_below_drewN | apply below_drew1) | exact HB.out)))); have n1_ := Aside0.mk (below_step (by repeat (first | (with_reducible first | exact HB.out | apply below_alloc | apply pw_below_drewN | apply below_drew1) | exact HB.out)) hb); clear HB; have HO104 := n0_; have HB := n1_; clear n0_ n1_; (try clear hb); (try clear hb2); (try clear hk); (try clear hi); (try clear ho0)))
  go_ret2
  exact ⟨_, by first | rfl | (simp [errW_none, errW_some] <;> rfl) | (simp [*, errW_none, errW_some] <;> rfl), by (with_reducible repeat (first | apply Kd.R_alloc | apply Kd.R_drewN | apply Kd.R_drew)); exact HO104.out, by repeat (first | (with_reducible first | exact HB.out | apply below_alloc | apply pw_below_drewN | apply below_drew1) | exact HB.out)⟩
-- NOT PRINTED: function 74 (pyxref02_Pad)
-- NOT PRINTED: function 75 (pyxref02_keys)
-- NOT PRINTED: function 76 (pyxref02_Start)
-- NOT PRINTED: function 93 (pyxref02_word)
-- NOT PRINTED: function 94 (pyxref02_turn)
-- NOT PRINTED: function 77 (pyxref02_step)
-- NOT PRINTED: function 50 (pyxref02_Sum)
-- NOT PRINTED: function 61 (pyxref03_Key)
-- NOT PRINTED: function 62 (pyxref03_with)
-- NOT PRINTED: function 28 (pyxref03_Sum)
-- NOT PRINTED: function 17 (pyxref04_Expand)
-- NOT PRINTED: function 82 (pyxref01_power)
-- NOT PRINTED: function 58 (pyxref01_Num)
-- NOT PRINTED: function 78 (pyxref01_Len)
-- NOT PRINTED: function 51 (pyxref01_Row)
end Go.Proofs.Ytpdgeanicciaiaa.D

/-! KdfD -/
namespace Go.Proofs.Ytpdgeanicciaiaa
set_option linter.unusedVariables false
set_option linter.unusedSimpArgs false
open Go.RowKit Go.Proofs.YtpdgeanicciaiaaW.PrintWords Go.Proofs.YtpdgeanicciaiaaW.PrintLast Go.Proofs.YtpdgeanicciaiaaW.PrintMore Iter
theorem labelOf_length (secret : List Int) (label : ByteArray) (context : List Int) (n : Nat) : (labelOf secret label context n).length = n := expandOf_length _ _ _
theorem byteOk_labelOf (secret : List Int) (label : ByteArray) (context : List Int) (n : Nat) : byteOk (labelOf secret label context n) = true := byteOk_expandOf _ _ _
theorem label_some (secret : List Int) (label : ByteArray) (context : List Int) (n : Nat) (hn : n ≤ 8160) (o1 : byteOk secret = true) (o2 : byteOk context = true) (l1 : secret.length ≤ 900000) (l2 : label.size ≤ 100000) (l3 : context.length ≤ 100000) :
    P.kdf_Label.f secret label context (n : Int) = some (labelOf secret label context n, 0) := by
  unfold P.kdf_Label.f
  rw [if_neg (by omega), if_neg (by omega), if_pos ⟨o1, o2, l1, l2, l3⟩, Int.toNat_natCast]
namespace P
def kdf_Derive.f (secret : List Int) (label : ByteArray) : Option (List Int × Int) := if byteOk secret = true ∧ secret.length ≤ 900000 ∧ label.size ≤ 100000 then some (labelOf secret label [] 32, 0) else none
theorem kdf_Derive.calls (A0 : Option Addr) (c0 : Nat) (l0 : List Int) (a1 : ByteArray) (r1 : List Int) (r2 : Int) (w : World) (hr0 : Kd.C (Kd.int .u8) w A0 l0.length l0) (hc0 : l0.length ≤ c0) (h : kdf_Derive.f l0 a1 = some (r1, r2)) :
    Calls Try.prog 20 #[.slice A0 l0.length c0, .string a1] w fun e w' => ∃ v0_ : Value, e = .returned (.tuple #[v0_, .int .i64 r2]) ∧ Kd.R (Kd.int .u8) 5 w' w.heap.size (fun _ => True) v0_ r1 ∧ Below w.heap.size w w' := by
  unfold kdf_Derive.f at h
  split at h
  case isFalse => cases h
  case isTrue hok =>
  refine D.kdf_Derive.calls A0 c0 l0 a1 r1 r2 w hr0 hc0 ?_
  unfold D.kdf_Derive.f
  rw [show (32 : Int) = ((32 : Nat) : Int) from rfl, label_some l0 a1 [] 32 (by omega) hok.1 rfl hok.2.1 hok.2.2 (by simp), Option.bind_some]
  exact h
end P
end Go.Proofs.Ytpdgeanicciaiaa

/-! SchedA -/
namespace Go.Proofs.Ytpdgeanicciaiaa
set_option linter.unusedVariables false
set_option linter.unusedSimpArgs false
open Go.RowKit Go.Proofs.YtpdgeanicciaiaaW.PrintWords Go.Proofs.YtpdgeanicciaiaaW.PrintLast Go.Proofs.YtpdgeanicciaiaaW.PrintMore Iter
def row32 (x : List Int) : Bool := decide (x.length = 32)
theorem whole1_calls (A : Option Addr) (n c : Nat) (w : World) : Calls Try.prog 87 #[.slice A n c] w fun e w' => e = .returned (.bool ((n : Int) != 32)) ∧ w = w' := by
  go_enter Try.func87, Try.ntmps87
  go_wp2
  go_ret
  exact ⟨rfl, rfl⟩
/-- The first row that has not 32 bytes, from row k on. -/
def badAt (l : List (List Int)) : Int := if l.all row32 then -1 else ((l.findIdx fun x => !row32 x : Nat) : Int)
theorem all_take_succ (l : List (List Int)) (k : Nat) (h : k < l.length) (ha : (l.take k).all row32 = true) : (l.take (k + 1)).all row32 = row32 l[k] := by
  rw [List.take_succ_eq_append_getElem h, List.all_append, ha]
  simp
theorem badAt_here (l : List (List Int)) (k : Nat) (h : k < l.length) (ha : (l.take k).all row32 = true) (hb : row32 l[k] = false) : badAt l = (k : Int) := by
  have hn : l.all row32 = false := by
    rw [List.all_eq_false]
    exact ⟨l[k], List.getElem_mem h, by rw [hb]; simp⟩
  unfold badAt
  rw [hn, if_neg (by simp)]
  congr 1
  refine (List.findIdx_eq h).2 ⟨by rw [hb]; rfl, fun j hj => ?_⟩
  have := List.all_eq_true.1 ha l[j] (List.mem_take_iff_getElem.2 ⟨j, by omega, rfl⟩)
  rw [this]
  rfl
set_option maxRecDepth 100000 in
set_option maxHeartbeats 1000000 in
theorem indexFunc_calls (A0 : Option Addr) (c0 : Nat) (l : List (List Int)) (w : World) (hr : Kd.C (Kd.slice 5 (Kd.int .u8)) w A0 l.length l) (hc : l.length ≤ c0) (hl : l.length ≤ 1000000) :
    Calls Try.prog 96 #[.slice A0 l.length c0, .func (.func 87) #[] #[]] w fun e w' => e = .returned (.int .i64 (badAt l)) ∧ w = w' := by
  have Hr := Lib.hid hr
  clear hr
  go_enter Try.func96, Try.ntmps96
  go_wp2
  go_loop [8] (fun i => ∃ k : Nat, k ≤ l.length ∧ i = .int .i64 (k : Int) ∧ Aside0 ((l.take k).all row32 = true)) (fun i => l.length - (intOf i).toNat)
  case atStart => exact ⟨0, Nat.zero_le _, rfl, ⟨by simp⟩⟩
  case round =>
    obtain ⟨k, hk, rfl, ha⟩ := hrel
    by_cases hlt : k < l.length
    · obtain ⟨ad, rfl, hcell⟩ := Hr.out.2.2 (by omega)
      obtain ⟨cs, hs1, ⟨A, c, hcs, hxc, hxC⟩, hcell⟩ := hcell k l[k] (List.getElem?_eq_getElem hlt)
      have h0 := hcell 0 (Value.slice A l[k].length c) (by rw [hcs]; rfl)
      rw [show k * (Kd.slice 5 (Kd.int .u8)).sz + 0 = k from by show k * 1 + 0 = k; omega] at h0
      have i1 : (k : Int) < (l.length : Int) := by omega
      have hb := all_take_succ l k hlt ha.out
      have hh := badAt_here l k hlt ha.out
      have HA := Lib.hid (And.intro hb hh)
      clear ha hcell hcs hxC hb hh hs1
      by_cases h32 : l[k].length = 32
      · have r1 : row32 l[k] = true := by unfold row32; simpa using h32
        have d1 : ((l[k].length : Int) != 32) = false := by rw [bne_eq_false_iff_eq]; omega
        have HR := Lib.hid (And.intro r1 d1)
        clear r1 d1 h32
        go_wp2_with fail
        refine (whole1_calls A l[k].length c w).mono ?_
        rintro e w' ⟨rfl, rfl⟩
        rw [HR.out.2]
        go_wp2
        go_round
        case rel => exact ⟨k + 1, by omega, by go_num, ⟨by rw [HA.out.1]; exact HR.out.1⟩⟩
        case measure => simp [intOf]; omega
      · have r1 : row32 l[k] = false := by unfold row32; simpa using h32
        have d1 : ((l[k].length : Int) != 32) = true := by rw [bne_iff_ne]; omega
        have HR := Lib.hid (And.intro (HA.out.2 r1) d1)
        clear r1 d1 h32 HA
        go_wp2_with fail
        refine (whole1_calls A l[k].length c w).mono ?_
        rintro e w' ⟨rfl, rfl⟩
        rw [HR.out.2]
        go_wp2
        go_ret
        exact ⟨by rw [HR.out.1]; rfl, rfl⟩
    · obtain rfl : k = l.length := by omega
      have hh : badAt l = -1 := by
        have h := ha.out
        rw [List.take_length] at h
        unfold badAt
        rw [if_pos h]
      have HA := Lib.hid hh
      clear hh ha
      have i1 : ¬ (l.length : Int) < (l.length : Int) := by omega
      go_wp2
      go_ret
      exact ⟨by rw [HA.out]; rfl, rfl⟩
theorem badAt_all (l : List (List Int)) : decide (badAt l ≥ 0) = !(l.all row32) := by
  unfold badAt
  by_cases h : l.all row32 = true
  · rw [if_pos h, h]
    rfl
  · rw [if_neg h, show l.all row32 = false by simpa using h]
    simp
theorem containsFunc_calls (A0 : Option Addr) (c0 : Nat) (l : List (List Int)) (w : World) (hr : Kd.C (Kd.slice 5 (Kd.int .u8)) w A0 l.length l) (hc : l.length ≤ c0) (hl : l.length ≤ 1000000) :
    Calls Try.prog 86 #[.slice A0 l.length c0, .func (.func 87) #[] #[]] w fun e w' => e = .returned (.bool (!(l.all row32))) ∧ w = w' := by
  have hb := badAt_all l
  have H := Lib.hid (And.intro (indexFunc_calls A0 c0 l w hr hc hl) hb)
  clear hr hb
  go_enter Try.func86, Try.ntmps86
  go_wp2_with fail
  refine H.out.1.mono ?_
  rintro e w' ⟨rfl, rfl⟩
  go_wp2
  go_ret
  exact ⟨by rw [← H.out.2]; rfl, rfl⟩
namespace P
def sched_whole.f (l : List (List Int)) : Option Bool := if l.length ≤ 1000000 then some (l.all row32) else none
theorem sched_whole.calls (A0 : Option Addr) (c0 : Nat) (l0 : List (List Int)) (r : Bool) (w : World) (hr0 : Kd.C (Kd.slice 5 (Kd.int .u8)) w A0 l0.length l0) (hc0 : l0.length ≤ c0) (h : sched_whole.f l0 = some r) :
    Calls Try.prog 63 #[.slice A0 l0.length c0] w fun e w' => e = .returned (.bool r) ∧ Drawn0 w w' := by
  unfold sched_whole.f at h
  split at h
  case isFalse => cases h
  case isTrue hl =>
  injection h with h
  have h' : (!(!(l0.all row32))) = r := by rw [← h, Bool.not_not]
  have H := Lib.hid (And.intro (containsFunc_calls A0 c0 l0 w hr0 hc0 hl) h')
  clear h h' hr0
  go_enter Try.func63, Try.ntmps63
  go_wp2_with fail
  refine H.out.1.mono ?_
  rintro e w' ⟨rfl, rfl⟩
  go_wp2
  go_ret
  exact ⟨by rw [← H.out.2, Bool.not_not]; rfl, 0, rfl⟩
end P
end Go.Proofs.Ytpdgeanicciaiaa

/-! SchedB -/
namespace Go.Proofs.Ytpdgeanicciaiaa
set_option linter.unusedVariables false
set_option linter.unusedSimpArgs false
open Go.RowKit Go.Proofs.YtpdgeanicciaiaaW.PrintWords Go.Proofs.YtpdgeanicciaiaaW.PrintLast Go.Proofs.YtpdgeanicciaiaaW.PrintMore Iter
theorem infoParts : (Try.prog.info? 107).map (·.size) = some 5 := by kernel_rfl
def partsV (g : Nat) : Array Value := #[.pointer (some ⟨g, 0, none⟩), .pointer (some ⟨g, 1, none⟩), .pointer (some ⟨g, 2, none⟩), .pointer (some ⟨g, 3, none⟩), .pointer (some ⟨g, 4, none⟩)]
set_option maxRecDepth 100000 in
set_option maxHeartbeats 1000000 in
theorem parts_calls (g : Nat) (w : World) : Calls Try.prog 72 #[.pointer (some ⟨g, 0, none⟩)] w fun e w' => e = .returned (.agg (partsV g)) ∧ Below w.heap.size w w' := by
  go_enter Try.func72, Try.ntmps72
  have br := Blk.new w 107 #[.pointer none, .pointer none, .pointer none, .pointer none, .pointer none]
  have HB := Lib.hid br
  clear br
  go_wp2
  go_still_tail 16, (by kernel_rfl)
  change wpList _ _ _ _ _ (w.alloc (Obj.cells #[.pointer none, .pointer none, .pointer none, .pointer none, .pointer none] 107)).drew
  have hB2 : Blk (w.alloc (Obj.cells #[.pointer none, .pointer none, .pointer none, .pointer none, .pointer none] 107)).drew w.heap.size 107 #[.pointer none, .pointer none, .pointer none, .pointer none, .pointer none] := HB.out
  have hb2 : Below w.heap.size w (w.alloc (Obj.cells #[.pointer none, .pointer none, .pointer none, .pointer none, .pointer none] 107)).drew := ((Below.refl _ w).alloc (Nat.le_refl _) _).drew
  generalize (w.alloc (Obj.cells #[.pointer none, .pointer none, .pointer none, .pointer none, .pointer none] 107)).drew = W2 at *
  have H2 := Lib.hid (And.intro hB2 hb2)
  clear hB2 hb2 HB
  go_wp2_with (refine wpList_store_row rfl 107 _ _ rfl w.heap.size _ rfl rfl 107 _ H2.out.1 infoParts rfl (by simp [Value.oneCell']) ?_)
  exact bodyPost_ret (results_cell_row rfl _ _ w.heap.size 107 (partsV g) (0, 0) _ rfl (setRow_heap _ w.heap.size _ _ _ _ H2.out.1) Try.underlying107 rfl infoParts) rfl ⟨rfl, H2.out.2.trans (Iter.below_setRow _ (Nat.le_refl _))⟩
end Go.Proofs.Ytpdgeanicciaiaa

/-! SchedC -/
namespace Go.Proofs.Ytpdgeanicciaiaa
set_option linter.unusedVariables false
set_option linter.unusedSimpArgs false
open Go.RowKit Go.Proofs.YtpdgeanicciaiaaW.PrintWords Go.Proofs.YtpdgeanicciaiaaW.PrintLast Go.Proofs.YtpdgeanicciaiaaW.PrintMore Iter
namespace P
def bytes_Equal.f (l0 : List Int) (l1 : List Int) : Option (Bool) := if byteOk l0 = true ∧ byteOk l1 = true then some (l0 == l1) else none
theorem bytes_Equal.calls (A0 : Option Addr) (c0 : Nat) (l0 : List Int) (A1 : Option Addr) (c1 : Nat) (l1 : List Int) (r : Bool) (w : World) (hr0 : Kd.C (Kd.int .u8) w A0 l0.length l0) (hc0 : l0.length ≤ c0) (hr1 : Kd.C (Kd.int .u8) w A1 l1.length l1) (hc1 : l1.length ≤ c1) (h : bytes_Equal.f l0 l1 = some r) :
    Calls Try.prog 73 #[.slice A0 l0.length c0, .slice A1 l1.length c1] w fun e w' => e = .returned (.bool r) ∧ Drawn0 w w' := by
  unfold bytes_Equal.f at h
  split at h
  case isFalse => cases h
  case isTrue hok =>
  exact F.bytes_Equal.calls A0 c0 l0 A1 c1 l1 r w hr0 hc0 hr1 hc1 (by rw [← h]; exact congrArg some (strOfNums_inj l0 l1 hok.1 hok.2))
end P
theorem equal_quiet (A : Option Addr) (c : Nat) (x : List Int) (B : Option Addr) (d : Nat) (y : List Int) (w : World) (n : Nat) (h1 : Kd.C (Kd.int .u8) w A x.length x) (h2 : x.length ≤ c) (h3 : Kd.C (Kd.int .u8) w B y.length y) (h4 : y.length ≤ d) (h : P.bytes_Equal.f x y = some (x == y)) :
    Calls Try.prog 73 #[.slice A x.length c, .slice B y.length d] (w.drewN n) fun e w' => e = .returned (.bool (x == y)) ∧ ∃ m, w' = (w.drewN n).drewN m :=
  (P.bytes_Equal.calls A c x B d y (x == y) (w.drewN n) (Kd.C_drewN h1 n) h2 (Kd.C_drewN h3 n) h4 h).mono fun _ _ h => ⟨h.1, h.2.out⟩
def nil5 : Array Value := #[.slice none 0 0, .slice none 0 0, .slice none 0 0, .slice none 0 0, .slice none 0 0]
def ptr5 : Array Value := #[.pointer none, .pointer none, .pointer none, .pointer none, .pointer none]
theorem partsV_get (g k : Nat) (h : k < 5) : (partsV g)[k]? = some (.pointer (some ⟨g, k, none⟩)) := by
  rcases k with _ | _ | _ | _ | _ | k
  · rfl
  · rfl
  · rfl
  · rfl
  · rfl
  · omega
/-- The five rows of an epoch, as they lie. -/
def Five (W : World) (g : Nat) (ls : List (List Int)) : Prop := ∀ k, k < 5 → ∃ A c x, W.cell? ⟨g, k, none⟩ = some (.slice A x.length c) ∧ x.length ≤ c ∧ Kd.C (Kd.int .u8) W A x.length x ∧ ls[k]? = some x ∧ byteOk x = true
theorem Five.drewN {W : World} {g : Nat} {ls : List (List Int)} (h : Five W g ls) (n : Nat) : Five (W.drewN n) g ls := fun k hk => by
  obtain ⟨A, c, x, h1, h2, h3, h4⟩ := h k hk
  exact ⟨A, c, x, h1, h2, Kd.C_drewN h3 n, h4⟩
set_option maxRecDepth 100000 in
set_option maxHeartbeats 2000000 in
theorem same_walk (U V : Array Value) (ls ms : List (List Int)) (w : World) (hl : ls.length = 5) (hm : ms.length = 5)
    (hU : ∀ W g, Below w.heap.size w W → Blk W g 60 U → Five W g ls) (hV : ∀ W g, Below w.heap.size w W → Blk W g 60 V → Five W g ms) :
    Calls Try.prog 47 #[.agg U, .agg V] w fun e w' => e = .returned (.bool (ls == ms)) ∧ Below w.heap.size w w' := by
  have b0 := (Blk.new w 60 U).alloc (Obj.cells V 60)
  have b1 := Blk.new (w.alloc (Obj.cells U 60)) 60 V
  rw [World.size_alloc] at b1
  have hb := ((Below.refl w.heap.size w).alloc (Nat.le_refl _) (Obj.cells U 60)).alloc (by rw [World.size_alloc]; omega) (Obj.cells V 60)
  have hsz : ((w.alloc (Obj.cells U 60)).alloc (Obj.cells V 60)).heap.size = w.heap.size + 2 := by simp
  have H0 := Lib.hid (And.intro b0 (And.intro b1 (And.intro hb hsz)))
  clear b0 b1 hb hsz
  go_enter Try.func47, Try.ntmps47
  go_wp2_with fail
  generalize (w.alloc (Obj.cells U 60)).alloc (Obj.cells V 60) = W0 at *
  refine (parts_calls w.heap.size W0).mono ?_
  rintro e W1 ⟨rfl, hb1⟩
  go_wp2_with fail
  refine (parts_calls (w.heap.size + 1) W1).mono ?_
  rintro e W2 ⟨rfl, hb2⟩
  have c0 := (H0.out.1.below hb1 H0.out.1.lt).below hb2 (by have := hb1.size; have := H0.out.1.lt; omega)
  have c1 := (H0.out.2.1.below hb1 H0.out.2.1.lt).below hb2 (by have := hb1.size; have := H0.out.2.1.lt; omega)
  have hb3 := (H0.out.2.2.1.trans (hb1.mono H0.out.2.2.1.size)).trans (hb2.mono (by have := hb1.size; have := H0.out.2.2.1.size; omega))
  have hs2 : w.heap.size + 2 ≤ W2.heap.size := by have := hb1.size; have := hb2.size; have := H0.out.2.2.2; omega
  have d0 := (c0.alloc (Obj.cells ptr5 107)).alloc (Obj.cells ptr5 107)
  have d1 := (c1.alloc (Obj.cells ptr5 107)).alloc (Obj.cells ptr5 107)
  have e0 := (Blk.new W2 107 ptr5).alloc (Obj.cells ptr5 107)
  have e1 := Blk.new (W2.alloc (Obj.cells ptr5 107)) 107 ptr5
  rw [World.size_alloc] at e1
  have hb4 := (hb3.alloc hb3.size (Obj.cells ptr5 107)).alloc (by rw [World.size_alloc]; have := hb3.size; omega) (Obj.cells ptr5 107)
  have H2 := Lib.hid (And.intro d0 (And.intro d1 (And.intro e0 (And.intro e1 hb4))))
  clear c0 c1 d0 d1 e0 e1 hb4 hb1 hb2 hb3 H0
  go_wp2_with (first
    | (refine wpList_store_row rfl 107 (.tmp 5) (.tmp 8) rfl W2.heap.size (partsV w.heap.size) rfl rfl 107 ptr5 H2.out.2.2.1 infoParts rfl (by simp [partsV, Value.oneCell']) ?_)
    | (refine wpList_store_row rfl 107 (.tmp 6) (.tmp 9) rfl (W2.heap.size + 1) (partsV (w.heap.size + 1)) rfl rfl 107 ptr5 (H2.out.2.2.2.1.farRow (by omega) _) infoParts rfl (by simp [partsV, Value.oneCell']) ?_))
  have x0 := (H2.out.1.farRow (g' := W2.heap.size) (by omega) (partsV w.heap.size)).farRow (g' := W2.heap.size + 1) (by omega) (partsV (w.heap.size + 1))
  have x1 := (H2.out.2.1.farRow (g' := W2.heap.size) (by omega) (partsV w.heap.size)).farRow (g' := W2.heap.size + 1) (by omega) (partsV (w.heap.size + 1))
  have x2 := (H2.out.2.2.1.setRow_ (partsV w.heap.size)).farRow (g' := W2.heap.size + 1) (by omega) (partsV (w.heap.size + 1))
  have x3 := (H2.out.2.2.2.1.farRow (g' := W2.heap.size) (by omega) (partsV w.heap.size)).setRow_ (partsV (w.heap.size + 1))
  have x4 := (H2.out.2.2.2.2.trans (Iter.below_setRow (partsV w.heap.size) (show w.heap.size ≤ W2.heap.size by omega))).trans (Iter.below_setRow (partsV (w.heap.size + 1)) (show w.heap.size ≤ W2.heap.size + 1 by omega))
  change Code.wp Try.prog _ _ _ ((((W2.alloc (Obj.cells ptr5 107)).alloc (Obj.cells ptr5 107)).setRow W2.heap.size (partsV w.heap.size)).setRow (W2.heap.size + 1) (partsV (w.heap.size + 1)))
  generalize (((W2.alloc (Obj.cells ptr5 107)).alloc (Obj.cells ptr5 107)).setRow W2.heap.size (partsV w.heap.size)).setRow (W2.heap.size + 1) (partsV (w.heap.size + 1)) = WL at *
  have f0 := hU WL w.heap.size x4 x0
  have f1 := hV WL (w.heap.size + 1) x4 x1
  have HL := Lib.hid (And.intro f0 (And.intro f1 (And.intro x2 (And.intro x3 x4))))
  have HLS := Lib.hid (And.intro hl hm)
  clear f0 f1 x0 x1 x2 x3 x4 H2 hU hV hl hm
  go_loopw [10] (fun i wr => ∃ k : Nat, k ≤ 5 ∧ i = .int .i64 (k : Int) ∧ Aside0 (∃ n, wr = WL.drewN n) ∧ Aside0 (∀ j, j < k → ls[j]? = ms[j]?)) (fun i _ => 5 - (intOf i).toNat)
  case atStart => exact ⟨0, by omega, rfl, ⟨0, rfl⟩, ⟨fun j hj => by omega⟩⟩
  case round =>
    obtain ⟨k, hk, rfl, hn, he⟩ := hrel
    by_cases hlt : k < 5
    · obtain ⟨A, c, x, g1, g2, g3, g4, g5⟩ : ∃ A c x, wr.cell? ⟨w.heap.size, k, none⟩ = some (.slice A x.length c) ∧ x.length ≤ c ∧ Kd.C (Kd.int .u8) wr A x.length x ∧ ls[k]? = some x ∧ byteOk x = true := by
        obtain ⟨n, e⟩ := hn.out
        rw [e]
        exact HL.out.1.drewN n k hlt
      obtain ⟨B, d, y, h1, h2, h3, h4, h5⟩ : ∃ A c x, wr.cell? ⟨w.heap.size + 1, k, none⟩ = some (.slice A x.length c) ∧ x.length ≤ c ∧ Kd.C (Kd.int .u8) wr A x.length x ∧ ms[k]? = some x ∧ byteOk x = true := by
        obtain ⟨n, e⟩ := hn.out
        rw [e]
        exact HL.out.2.1.drewN n k hlt
      have p1 : wr.cell? ⟨W2.heap.size, k, none⟩ = some (.pointer (some ⟨w.heap.size, k, none⟩)) := by
        obtain ⟨n, e⟩ := hn.out
        rw [e]
        exact (HL.out.2.2.1.cell k).trans (partsV_get _ k hlt)
      have p2 : wr.cell? ⟨W2.heap.size + 1, k, none⟩ = some (.pointer (some ⟨w.heap.size + 1, k, none⟩)) := by
        obtain ⟨n, e⟩ := hn.out
        rw [e]
        exact (HL.out.2.2.2.1.cell k).trans (partsV_get _ k hlt)
      have hE : P.bytes_Equal.f x y = some (x == y) := by unfold P.bytes_Equal.f; rw [if_pos ⟨g5, h5⟩]
      have CE := Lib.hid (fun n => equal_quiet A c x B d y wr n g3 g2 h3 h2 hE)
      have HE := Lib.hid (And.intro g4 h4)
      have i1 : (k : Int) < 5 := by omega
      clear g3 g4 g5 h3 h4 h5 hE
      go_wp2_with fail
      go_quiet ((go_at_call 73; exact Calls.quiet_of (CE.out _)))
      by_cases hxy : x = y
      · have d1 : (x == y) = true := by rw [hxy]; exact beq_self_eq_true y
        have HX := Lib.hid (show ls[k]? = ms[k]? by rw [HE.out.1, HE.out.2, hxy])
        rw [d1]
        clear hxy d1
        go_wp2
        go_roundw
        case rel =>
          refine ⟨k + 1, by omega, by go_num, ?_, ⟨fun j hj => ?_⟩⟩
          · obtain ⟨n, e⟩ := hn.out
            exact ⟨n + nq, by rw [e, World.drewN_drewN]⟩
          · rcases Nat.lt_or_ge j k with h | h
            · exact he.out j h
            · rw [show j = k by omega]
              exact HX.out
        case measure => simp [intOf]; omega
      · have d1 : (x == y) = false := by rw [beq_eq_false_iff_ne]; exact hxy
        have hfin : (ls == ms) = false := by
          rw [beq_eq_false_iff_ne]
          intro e
          have h1 := HE.out.1
          rw [e, HE.out.2] at h1
          exact hxy (Option.some.inj h1).symm
        have HF := Lib.hid hfin
        rw [d1]
        clear hxy d1 hfin
        have hbf : Aside0 (Below w.heap.size w (wr.drewN nq)) := by
          obtain ⟨n, e⟩ := hn.out
          exact ⟨by rw [e]; exact pw_below_drewN (pw_below_drewN HL.out.2.2.2.2 n) nq⟩
        go_wp2
        go_ret
        exact ⟨by rw [HF.out]; rfl, hbf.out⟩
    · obtain rfl : k = 5 := by omega
      have hfin : (ls == ms) = true := by
        rw [beq_iff_eq]
        apply List.ext_getElem?
        intro j
        rcases Nat.lt_or_ge j 5 with h | h
        · exact he.out j h
        · rw [List.getElem?_eq_none (by rw [HLS.out.1]; exact h), List.getElem?_eq_none (by rw [HLS.out.2]; exact h)]
      have HF := Lib.hid hfin
      clear hfin
      have hbf : Aside0 (Below w.heap.size w wr) := by
        obtain ⟨n, e⟩ := hn.out
        exact ⟨by rw [e]; exact pw_below_drewN HL.out.2.2.2.2 n⟩
      go_wp2
      go_ret
      exact ⟨by rw [HF.out]; rfl, hbf.out⟩
theorem five_of (w W : World) (g : Nat) (A0_0 : Option Addr) (c0_0 : Nat) (l0_0 : List Int) (A0_1 : Option Addr) (c0_1 : Nat) (l0_1 : List Int) (A0_2 : Option Addr) (c0_2 : Nat) (l0_2 : List Int) (A0_3 : Option Addr) (c0_3 : Nat) (l0_3 : List Int) (A0_4 : Option Addr) (c0_4 : Nat) (l0_4 : List Int) (hb : Below w.heap.size w W) (hr0_0 : Kd.C (Kd.int .u8) w A0_0 l0_0.length l0_0) (hc0_0 : l0_0.length ≤ c0_0) (hr0_1 : Kd.C (Kd.int .u8) w A0_1 l0_1.length l0_1) (hc0_1 : l0_1.length ≤ c0_1) (hr0_2 : Kd.C (Kd.int .u8) w A0_2 l0_2.length l0_2) (hc0_2 : l0_2.length ≤ c0_2) (hr0_3 : Kd.C (Kd.int .u8) w A0_3 l0_3.length l0_3) (hc0_3 : l0_3.length ≤ c0_3) (hr0_4 : Kd.C (Kd.int .u8) w A0_4 l0_4.length l0_4) (hc0_4 : l0_4.length ≤ c0_4) (ok : [l0_0, l0_1, l0_2, l0_3, l0_4].all byteOk = true)
    (B : Blk W g 60 #[.slice A0_0 l0_0.length c0_0, .slice A0_1 l0_1.length c0_1, .slice A0_2 l0_2.length c0_2, .slice A0_3 l0_3.length c0_3, .slice A0_4 l0_4.length c0_4]) : Five W g [l0_0, l0_1, l0_2, l0_3, l0_4] := by
  simp only [List.all_cons, List.all_nil, Bool.and_true, Bool.and_eq_true] at ok
  obtain ⟨o0, o1, o2, o3, o4⟩ := ok
  intro k hk
  rcases k with _ | _ | _ | _ | _ | k
  · exact ⟨A0_0, c0_0, l0_0, (B.cell 0).trans rfl, hc0_0, Kd.C_below hr0_0 hb, rfl, o0⟩
  · exact ⟨A0_1, c0_1, l0_1, (B.cell 1).trans rfl, hc0_1, Kd.C_below hr0_1 hb, rfl, o1⟩
  · exact ⟨A0_2, c0_2, l0_2, (B.cell 2).trans rfl, hc0_2, Kd.C_below hr0_2 hb, rfl, o2⟩
  · exact ⟨A0_3, c0_3, l0_3, (B.cell 3).trans rfl, hc0_3, Kd.C_below hr0_3 hb, rfl, o3⟩
  · exact ⟨A0_4, c0_4, l0_4, (B.cell 4).trans rfl, hc0_4, Kd.C_below hr0_4 hb, rfl, o4⟩
  · omega
namespace P
def sched_Same.f (l0_0 l0_1 l0_2 l0_3 l0_4 l1_0 l1_1 l1_2 l1_3 l1_4 : List Int) : Option Bool := if [l0_0, l0_1, l0_2, l0_3, l0_4].all byteOk = true ∧ [l1_0, l1_1, l1_2, l1_3, l1_4].all byteOk = true then some ([l0_0, l0_1, l0_2, l0_3, l0_4] == [l1_0, l1_1, l1_2, l1_3, l1_4]) else none
set_option maxRecDepth 100000 in
theorem sched_Same.calls (A0_0 : Option Addr) (c0_0 : Nat) (l0_0 : List Int) (A0_1 : Option Addr) (c0_1 : Nat) (l0_1 : List Int) (A0_2 : Option Addr) (c0_2 : Nat) (l0_2 : List Int) (A0_3 : Option Addr) (c0_3 : Nat) (l0_3 : List Int) (A0_4 : Option Addr) (c0_4 : Nat) (l0_4 : List Int) (A1_0 : Option Addr) (c1_0 : Nat) (l1_0 : List Int) (A1_1 : Option Addr) (c1_1 : Nat) (l1_1 : List Int) (A1_2 : Option Addr) (c1_2 : Nat) (l1_2 : List Int) (A1_3 : Option Addr) (c1_3 : Nat) (l1_3 : List Int) (A1_4 : Option Addr) (c1_4 : Nat) (l1_4 : List Int) (r : Bool) (w : World) (hr0_0 : Kd.C (Kd.int .u8) w A0_0 l0_0.length l0_0) (hc0_0 : l0_0.length ≤ c0_0) (hr0_1 : Kd.C (Kd.int .u8) w A0_1 l0_1.length l0_1) (hc0_1 : l0_1.length ≤ c0_1) (hr0_2 : Kd.C (Kd.int .u8) w A0_2 l0_2.length l0_2) (hc0_2 : l0_2.length ≤ c0_2) (hr0_3 : Kd.C (Kd.int .u8) w A0_3 l0_3.length l0_3) (hc0_3 : l0_3.length ≤ c0_3) (hr0_4 : Kd.C (Kd.int .u8) w A0_4 l0_4.length l0_4) (hc0_4 : l0_4.length ≤ c0_4) (hr1_0 : Kd.C (Kd.int .u8) w A1_0 l1_0.length l1_0) (hc1_0 : l1_0.length ≤ c1_0) (hr1_1 : Kd.C (Kd.int .u8) w A1_1 l1_1.length l1_1) (hc1_1 : l1_1.length ≤ c1_1) (hr1_2 : Kd.C (Kd.int .u8) w A1_2 l1_2.length l1_2) (hc1_2 : l1_2.length ≤ c1_2) (hr1_3 : Kd.C (Kd.int .u8) w A1_3 l1_3.length l1_3) (hc1_3 : l1_3.length ≤ c1_3) (hr1_4 : Kd.C (Kd.int .u8) w A1_4 l1_4.length l1_4) (hc1_4 : l1_4.length ≤ c1_4) (h : sched_Same.f l0_0 l0_1 l0_2 l0_3 l0_4 l1_0 l1_1 l1_2 l1_3 l1_4 = some r) :
    Calls Try.prog 47 #[.agg #[.slice A0_0 l0_0.length c0_0, .slice A0_1 l0_1.length c0_1, .slice A0_2 l0_2.length c0_2, .slice A0_3 l0_3.length c0_3, .slice A0_4 l0_4.length c0_4], .agg #[.slice A1_0 l1_0.length c1_0, .slice A1_1 l1_1.length c1_1, .slice A1_2 l1_2.length c1_2, .slice A1_3 l1_3.length c1_3, .slice A1_4 l1_4.length c1_4]] w fun e w' => e = .returned (.bool r) ∧ Below w.heap.size w w' := by
  unfold sched_Same.f at h
  split at h
  case isFalse => cases h
  case isTrue hok =>
  injection h with h
  subst h
  exact same_walk _ _ [l0_0, l0_1, l0_2, l0_3, l0_4] [l1_0, l1_1, l1_2, l1_3, l1_4] w rfl rfl (fun W g hb B => five_of w W g A0_0 c0_0 l0_0 A0_1 c0_1 l0_1 A0_2 c0_2 l0_2 A0_3 c0_3 l0_3 A0_4 c0_4 l0_4 hb hr0_0 hc0_0 hr0_1 hc0_1 hr0_2 hc0_2 hr0_3 hc0_3 hr0_4 hc0_4 hok.1 B) (fun W g hb B => five_of w W g A1_0 c1_0 l1_0 A1_1 c1_1 l1_1 A1_2 c1_2 l1_2 A1_3 c1_3 l1_3 A1_4 c1_4 l1_4 hb hr1_0 hc1_0 hr1_1 hc1_1 hr1_2 hc1_2 hr1_3 hc1_3 hr1_4 hc1_4 hok.2 B)
end P
end Go.Proofs.Ytpdgeanicciaiaa

/-! E0 -/
namespace Go.Proofs.Ytpdgeanicciaiaa.E
open Go.Proofs.Ytpdgeanicciaiaa.P
open Go.RowKit Go.Proofs.YtpdgeanicciaiaaW.PrintWords Go.Proofs.YtpdgeanicciaiaaW.PrintLast Go.Proofs.YtpdgeanicciaiaaW.PrintMore
attribute [local go_sem] max2_int min2_int max_two min_two max_three min_three max_four min_four   -- for this text's walks alone
set_option linter.unusedVariables false
set_option linter.unusedSimpArgs false
def errW : Option Int → Value
  | none => .nilIface
  | some c => .iface 0 (.int .i64 c)
theorem errW_none : errW none = .nilIface := rfl
theorem errW_some (c : Int) : errW (some c) = .iface 0 (.int .i64 c) := rfl
theorem info5 : (Try.prog.info? 5).map (fun i => (i.zero, i.size, i.bytes)) = some (some (.int .u8 0), 1, 1) := by kernel_rfl
-- the values' own types
def rd_L1 (xs : List (List Int)) (i : Int) : (List Int) := xs.getD i.toNat ([] : List Int)
theorem at_L1 {w : World} {A : Option Addr} {n : Nat} {xs : List (List Int)} (h : Kd.C (Kd.slice 5 (Kd.int .u8)) w A n xs) (i : Int) (h0 : 0 ≤ i) (h1 : i < n) : ∃ ad A0 c0, A = some ad ∧ w.cell? (ad.add i.toNat) = some (.slice A0 (rd_L1 xs i).length c0) ∧ (rd_L1 xs i).length ≤ c0 ∧ (Kd.int .u8).C w A0 (rd_L1 xs i).length (rd_L1 xs i) := by
  obtain ⟨ad, c, e, _, hK, hc0⟩ := Kd.C_get h ([] : List Int) i h0 h1
  have hc : ∀ j u, c[j]? = some u → w.cell? (ad.add (i.toNat * 1 + j)) = some u := hc0
  obtain ⟨A0, c0, rfl, l0, g0⟩ := hK
  exact ⟨ad, A0, c0, e, by have hq := hc 0 _ rfl; rwa [Nat.mul_one, Nat.add_zero] at hq, l0, g0⟩
end Go.Proofs.Ytpdgeanicciaiaa.E

/-! E1 -/
namespace Go.Proofs.Ytpdgeanicciaiaa.E
open Go.Proofs.Ytpdgeanicciaiaa.P
open Go.RowKit Go.Proofs.YtpdgeanicciaiaaW.PrintWords Go.Proofs.YtpdgeanicciaiaaW.PrintLast Go.Proofs.YtpdgeanicciaiaaW.PrintMore
attribute [local go_sem] max2_int min2_int max_two min_two max_three min_three max_four min_four   -- for this text's walks alone
set_option linter.unusedVariables false
set_option linter.unusedSimpArgs false
-- NOT PRINTED: function 96 (slices_IndexFunc_byte_byte)
-- NOT PRINTED: function 86 (slices_ContainsFunc_byte_byte)
-- NOT PRINTED: function 63 (sched_whole)
-- NOT PRINTED: function 95 (byt_wide)
-- NOT PRINTED: function 81 (byt_Len)
/-! ### sched_rows: function 65 -/
def sched_rows.l0 : Nat → List Int → List (List Int) → Int → Int → Option (List Int)
  | 0, _, _, _, _ => none
  | k + 1, x3, x8, x9, x10 => if x10 < x9 then (if 0 ≤ x10 then (if x10 < (x8.length : Int) then ((byt_Row.f (rd_L1 x8 x10)).bind fun bt102 => (if x3.length + bt102.1.length < 140737488355328 then (sched_rows.l0 k (x3 ++ bt102.1) x8 x9 (wrap64 (x10 + 1))) else (none))) else (none)) else (none)) else (some x3)
def sched_rows.f (k : Nat) (l0 : List (List Int)) : Option (List Int) := sched_rows.l0 k ([] : List Int) l0 (l0.length : Int) 0
theorem sched_rows.mono_l : ∀ k, (∀ y0 y1 y2 y3, LeO (sched_rows.l0 k y0 y1 y2 y3) (sched_rows.l0 (k + 1) y0 y1 y2 y3))
  | 0 => fun _ _ _ _ r h => by simp [sched_rows.l0] at h
  | k + 1 => by
    have ih0 := sched_rows.mono_l k
    · intro y0 y1 y2 y3
      unfold sched_rows.l0
      repeat' first
      | (with_reducible exact ih0 _ _ _ _)
      | (with_reducible exact LeO.refl _)
      | (with_reducible exact LeO.none _)
      | (with_reducible refine LeO.ite ?_ ?_)
      | (with_reducible refine LeO.bind ?_ (fun _ => ?_))
      | exact ih0 _ _ _ _
      | exact LeO.none _
      | refine LeO.ite ?_ ?_
      | refine LeO.bind ?_ (fun _ => ?_)
theorem sched_rows.mono : ∀ a0 k, LeO (sched_rows.f k a0) (sched_rows.f (k + 1) a0) := by
  intro a0 k
  have ih0 := sched_rows.mono_l k
  unfold sched_rows.f
  repeat' first
      | (with_reducible exact ih0 _ _ _ _)
      | (with_reducible exact LeO.refl _)
      | (with_reducible exact LeO.none _)
      | (with_reducible refine LeO.ite ?_ ?_)
      | (with_reducible refine LeO.bind ?_ (fun _ => ?_))
      | exact ih0 _ _ _ _
      | exact LeO.none _
      | refine LeO.ite ?_ ?_
      | refine LeO.bind ?_ (fun _ => ?_)
set_option maxHeartbeats 8000000 in
set_option maxRecDepth 100000 in
theorem sched_rows.calls (k : Nat) (A0 : Option Addr) (c0 : Nat) (l0 : List (List Int)) (r : List Int) (w : World) (hr0 : Kd.C (Kd.slice 5 (Kd.int .u8)) w A0 l0.length l0) (hc0 : l0.length ≤ c0) (h : sched_rows.f k l0 = some r) :
    Calls Try.prog 65 #[.slice A0 l0.length c0] w fun e w' => ∃ v0_ : Value, e = .returned (v0_) ∧ Kd.R (Kd.int .u8) 5 w' w.heap.size (fun _ => True) v0_ r ∧ Below w.heap.size w w' := by
  have HR0 := Aside0.mk hr0
  have HC0 := Aside0.mk hc0
  clear hr0 hc0
  have HB := Aside0.mk (Below.refl w.heap.size w)
  have H : (sched_rows.l0 k ([] : List Int) l0 (l0.length : Int) 0) = some r := h
  clear h
  have H' := Aside0.mk H
  clear H
  go_enter Try.func65, Try.ntmps65
  go_wp2
  go_loopg [3, 10] k (fun kq v3 v10 w' => ∃ (x3_1 : List Int) (x10_1 : Int), v10 = .int .i64 x10_1 ∧ Aside0 (sched_rows.l0 kq x3_1 l0 (l0.length : Int) x10_1 = some r) ∧ Aside0 (kq ≤ k) ∧ Aside0 (Kd.R (Kd.int .u8) 5 w' w.heap.size (fun _ => True) v3 x3_1) ∧ Aside0 (Below w.heap.size w w'))
  case atStart => exact ⟨(([] : List Int)), (0), (by first | rfl | (simp; done) | (simp [*]; done)), H', ⟨Nat.le_refl _⟩, ⟨by first | exact Kd.R_nil _ _ _ _ _ | exact Kd.N_nil _ _ _ _ _ | exact Kd.V_nil _ _ _ _ _ | exact Kd.Q_nil _ _ _ _ _ | exact Kd.S_nil _ _ _ _ _⟩, ⟨by repeat (first | (with_reducible first | exact HB.out | apply below_alloc | apply pw_below_drewN | apply below_drew1) | exact HB.out)⟩⟩
  case round =>
    clear H'
    obtain ⟨x3_1, x10_1, rfl, HA, HK1, HO_3, HB⟩ := hrel
    cases gk with
    | zero => exact absurd HA.out (by simp [sched_rows.l0])
    | succ k1 =>
      have H := HA.out
      clear HA
      simp only [sched_rows.l0] at H
      by_cases c2 : x10_1 < (l0.length : Int)
      · rw [if_pos c2] at H
        have c2b0 : decide (x10_1 < (l0.length : Int)) = true := decide_eq_true c2
        clear c2
        by_cases c3 : 0 ≤ x10_1
        · rw [if_pos c3] at H
          have c3b0 : decide (0 ≤ x10_1) = true := decide_eq_true c3
          clear c3
          by_cases c4 : x10_1 < (l0.length : Int)
          · rw [if_pos c4] at H
            have c4b0 : decide (x10_1 < (l0.length : Int)) = true := decide_eq_true c4
            clear c4
            replace H := Option.bind_eq_some_iff.mp H
            obtain ⟨⟨t102, t103⟩, A50, H⟩ := H
            replace H : (if x3_1.length + t102.length < 140737488355328 then (sched_rows.l0 k1 (x3_1 ++ t102) l0 (l0.length : Int) (wrap64 (x10_1 + 1))) else (none)) = some r := H
            have A5 := Aside0.mk A50
            clear A50
            by_cases c6 : x3_1.length + t102.length < 140737488355328
            · rw [if_pos c6] at H
              have LMc6 := Aside0.mk c6
              clear c6
              obtain ⟨y106, hy106⟩ : ∃ y_ : List Int, y_ = (x3_1 ++ t102) := ⟨_, rfl⟩
              replace H : (sched_rows.l0 k1 y106 l0 (l0.length : Int) (wrap64 (x10_1 + 1))) = some r := by first | (rw [hy106]; with_reducible exact H) | (have H2_ := (Option.bind_some _ _).symm.trans H; rw [hy106]; with_reducible exact H2_) | (have H2_ := (Option.bind_some _ _).symm.trans H; with_reducible exact H2_) | with_reducible exact H | (rw [hy106]; exact H) | exact H
              have Ny106 := Aside0.mk hy106
              clear hy106
              have H' := Aside0.mk H
              clear H
              have p101 : 0 ≤ (x10_1 : Int) := of_decide_eq_true (by first | (with_reducible assumption) | assumption)
              have q101 : x10_1 < (l0.length : Int) := of_decide_eq_true (by first | (with_reducible assumption) | assumption)
              obtain ⟨ad101, A101_0, c101_0, e101, hx101_0, hl101_0, hi101_0⟩ := at_L1 HR0.out x10_1 p101 q101
              cases e101
              replace hx101_0 := (HB.out.cell (World.block_lt_of_cell? w _ hx101_0)).trans hx101_0
              have HR101_0 := Aside0.mk hi101_0
              have HC101_0 := Aside0.mk hl101_0
              clear hi101_0 hl101_0
              replace p101 := eq_true p101
              replace q101 := eq_true q101
              go_wp2_with (first | ((with_reducible refine gate_callee (f := 57) rfl ?_); refine goesL_ (some 16) rfl rfl Try.func57 (by kernel_rfl) rfl #[.slice A101_0 (rd_L1 l0 x10_1).length c101_0] rfl (by (try simp only [List.map_toArray, List.map_cons, List.map_nil]); first | done | rfl | (simp only [List.length_drop, List.length_take]; rfl)) ?_; (with_reducible refine (byt_Row.calls _ _ (rd_L1 l0 x10_1) t102 t103 _ ?side1 ?side2 A5.out).mono ?_); (case side1 => repeat (first | exact (Kd.C_below HR101_0.out HB.out) | (with_reducible refine Kd.C_alloc ?_ _) | (with_reducible refine Kd.C_drewN ?_ _) | (with_reducible refine Kd.C_drew ?_))); (case side2 => exact HC101_0.out); rintro e w7 ⟨v104, rfl, ho0, hb⟩; refine ⟨_, rfl, ?_⟩; have n0_ := Aside0.mk (Kd.R_elder' (by (with_reducible repeat (first | apply Kd.R_alloc | apply Kd.R_drewN | apply Kd.R_drew)); exact HO_3.out) (Kd.R_base ho0) hb); have n1_ := Aside0.mk (Kd.R_lower (Kd.R_new' ho0 (Kd.R_lt (by (with_reducible repeat (first | apply Kd.R_alloc | apply Kd.R_drewN | apply Kd.R_drew)); exact HO_3.out))) (below_size (by repeat (first | (with_reducible first | exact HB.out | apply below_alloc | apply pw_below_drewN | apply below_drew1) | exact HB.out)))); have n2_ := Aside0.mk (below_step (by repeat (first | (with_reducible first | exact HB.out | apply below_alloc | apply pw_below_drewN | apply below_drew1) | exact HB.out)) hb); clear HO_3; clear HB; have HO_3 := n0_; have HO105 := n1_; have HB := n2_; clear n0_ n1_ n2_; (try clear hb); (try clear hb2); (try clear hk); (try clear hi); (try clear ho0); obtain ⟨Ao9, co9, eo9⟩ := Kd.R_slice HO105.out; subst eo9) | ((with_reducible refine gate_builtin (b := .append) (xs := #[.tmp 19, .tmp 20]) rfl ?_); at_builtin; refine Kd.R_append_rows (Kd.int .u8) (w0 := w) w.heap.size rfl (.tmp 19) (.tmp 20) 22 5 (.int .u8 0) 1 rfl Try.underlying22 info5 rfl (by decide) (by omega) u3 x3_1 t102 _ _ _ (fun k_ => some k_ ≠ (.slice Ao9 t102.length co9 : Value).ownBlock) (fun _ => False) rfl rfl ?aO ?aR (fun _ _ h => h) (fun _ h => h.elim) ?aF ?aB ?aS ?aL ?_; (case aR => repeat (first | exact (Kd.R_reads' HO105.out).2.2 | (with_reducible refine Kd.C_alloc ?_ _) | (with_reducible refine Kd.C_drewN ?_ _) | (with_reducible refine Kd.C_drew ?_))); (case aB => exact (by repeat (first | (with_reducible first | exact HB.out | apply below_alloc | apply pw_below_drewN | apply below_drew1) | exact HB.out))); (case aF => exact (fun k_ hk => Kd.fresh' (Kd.R_lt (by (with_reducible repeat (first | apply Kd.R_alloc | apply Kd.R_drewN | apply Kd.R_drew)); exact HO105.out)) k_ hk)); (case aO => exact (by (with_reducible repeat (first | apply Kd.R_alloc | apply Kd.R_drewN | apply Kd.R_drew)); exact Kd.R_mono HO_3.out (fun _ hk => hk.2))); (case aS => exact (below_size (by repeat (first | (with_reducible first | exact HB.out | apply below_alloc | apply pw_below_drewN | apply below_drew1) | exact HB.out)))); (case aL => have := LMc6.out; omega); intro v107 w8 ho hb hg hat; rw [← Ny106.out] at ho; have n0_ := Aside0.mk (Kd.R_after (ok := (fun _ => True)) (by (with_reducible repeat (first | apply Kd.R_alloc | apply Kd.R_drewN | apply Kd.R_drew)); exact HO105.out) hg hat); have n1_ := Aside0.mk (hb); have n2_ := Aside0.mk (ho); clear HO105; clear HB; clear HO_3; have HO105 := n0_; have HB := n1_; have HO108 := n2_; clear n0_ n1_ n2_; clear ho hb hg hat))
              go_roundg k1
              case measure => have := HK1.out; omega
              case rel => exact ⟨(y106), (wrap64 (x10_1 + 1)), (by first | rfl | (simp; done) | (simp [*]; done)), H', ⟨by have := HK1.out; omega⟩, ⟨by (with_reducible repeat (first | apply Kd.R_alloc | apply Kd.R_drewN | apply Kd.R_drew)); exact Kd.R_mono HO108.out (fun _ hk => trivial)⟩, ⟨by repeat (first | (with_reducible first | exact HB.out | apply below_alloc | apply pw_below_drewN | apply below_drew1) | exact HB.out)⟩⟩
            · rw [if_neg c6] at H
              exact absurd H (by simp)
          · rw [if_neg c4] at H
            exact absurd H (by simp)
        · rw [if_neg c3] at H
          exact absurd H (by simp)
      · rw [if_neg c2] at H
        have c2b0 : decide (x10_1 < (l0.length : Int)) = false := decide_eq_false c2
        clear c2
        obtain rfl := Option.some.inj H
        go_wp2
        go_ret
        exact ⟨_, by first | rfl | (simp [errW_none, errW_some] <;> rfl) | (simp [*, errW_none, errW_some] <;> rfl), by (with_reducible repeat (first | apply Kd.R_alloc | apply Kd.R_drewN | apply Kd.R_drew)); exact HO_3.out, by repeat (first | (with_reducible first | exact HB.out | apply below_alloc | apply pw_below_drewN | apply below_drew1) | exact HB.out)⟩
-- NOT PRINTED: function 88 (slices_Grow_byte_byte)
-- NOT PRINTED: function 31 (sched_Context)
-- NOT PRINTED: function 53 (kdf_first)
-- NOT PRINTED: function 16 (kdf_Expand)
/-! ### sched_label: function 67 -/
def sched_label.f (l0 : List Int) (a1 : ByteArray) (l2 : List Int) : Option (List Int) := (kdf_Label.f l0 a1 l2 32).bind fun bt112 => (some bt112.1)
set_option maxHeartbeats 8000000 in
set_option maxRecDepth 100000 in
theorem sched_label.calls (A0 : Option Addr) (c0 : Nat) (l0 : List Int) (a1 : ByteArray) (A2 : Option Addr) (c2 : Nat) (l2 : List Int) (r : List Int) (w : World) (hr0 : Kd.C (Kd.int .u8) w A0 l0.length l0) (hc0 : l0.length ≤ c0) (hr2 : Kd.C (Kd.int .u8) w A2 l2.length l2) (hc2 : l2.length ≤ c2) (h : sched_label.f l0 a1 l2 = some r) :
    Calls Try.prog 67 #[.slice A0 l0.length c0, .string a1, .slice A2 l2.length c2] w fun e w' => ∃ v0_ : Value, e = .returned (v0_) ∧ Kd.R (Kd.int .u8) 5 w' w.heap.size (fun _ => True) v0_ r ∧ Below w.heap.size w w' := by
  have HR0 := Aside0.mk hr0
  have HC0 := Aside0.mk hc0
  clear hr0 hc0
  have HR2 := Aside0.mk hr2
  have HC2 := Aside0.mk hc2
  clear hr2 hc2
  have HB := Aside0.mk (Below.refl w.heap.size w)
  have H : ((kdf_Label.f l0 a1 l2 32).bind fun bt112 => (some bt112.1)) = some r := h
  clear h
  replace H := Option.bind_eq_some_iff.mp H
  obtain ⟨⟨t112, t113⟩, A40, H⟩ := H
  replace H : (some t112) = some r := H
  have A4 := Aside0.mk A40
  clear A40
  obtain rfl := Option.some.inj H
  go_enter Try.func67, Try.ntmps67
  go_wp2_with (first | ((with_reducible refine gate_callee (f := 18) rfl ?_); refine goesL_ (some 13) rfl rfl Try.func18 (by kernel_rfl) rfl #[.slice A0 l0.length c0, .string a1, .slice A2 l2.length c2, .int .i64 32] rfl (by (try simp only [List.map_toArray, List.map_cons, List.map_nil]); first | done | rfl | (simp only [List.length_drop, List.length_take]; rfl)) ?_; (with_reducible refine (kdf_Label.calls _ _ l0 a1 _ _ l2 32 t112 t113 _ ?side1 ?side2 ?side3 ?side4 A4.out).mono ?_); (case side1 => repeat (first | exact HR0.out | (with_reducible refine Kd.C_alloc ?_ _) | (with_reducible refine Kd.C_drewN ?_ _) | (with_reducible refine Kd.C_drew ?_))); (case side2 => exact HC0.out); (case side3 => repeat (first | exact HR2.out | (with_reducible refine Kd.C_alloc ?_ _) | (with_reducible refine Kd.C_drewN ?_ _) | (with_reducible refine Kd.C_drew ?_))); (case side4 => exact HC2.out); rintro e w5 ⟨v114, rfl, ho0, hb⟩; refine ⟨_, rfl, ?_⟩; have n0_ := Aside0.mk (Kd.R_lower ho0 (below_size (by repeat (first | (with_reducible first | exact HB.out | apply below_alloc | apply pw_below_drewN | apply below_drew1) | exact HB.out)))); have n1_ := Aside0.mk (below_step (by repeat (first | (with_reducible first | exact HB.out | apply below_alloc | apply pw_below_drewN | apply below_drew1) | exact HB.out)) hb); clear HB; have HO115 := n0_; have HB := n1_; clear n0_ n1_; (try clear hb); (try clear hb2); (try clear hk); (try clear hi); (try clear ho0)))
  go_ret
  exact ⟨_, by first | rfl | (simp [errW_none, errW_some] <;> rfl) | (simp [*, errW_none, errW_some] <;> rfl), by (with_reducible repeat (first | apply Kd.R_alloc | apply Kd.R_drewN | apply Kd.R_drew)); exact HO115.out, by repeat (first | (with_reducible first | exact HB.out | apply below_alloc | apply pw_below_drewN | apply below_drew1) | exact HB.out)⟩
-- NOT PRINTED: function 97 (sha_primes)
-- NOT PRINTED: function 104 (bits_Mul64)
-- NOT PRINTED: function 105 (bits_Add64)
-- NOT PRINTED: function 102 (sha_above)
-- NOT PRINTED: function 98 (sha_root)
-- NOT PRINTED: function 89 (sha_keys)
-- NOT PRINTED: function 90 (sha_Start)
-- NOT PRINTED: function 103 (bits_RotateLeft32)
-- NOT PRINTED: function 100 (sha_turned)
-- NOT PRINTED: function 99 (sha_words)
-- NOT PRINTED: function 91 (sha_mixed)
-- NOT PRINTED: function 92 (sha_Pad)
-- NOT PRINTED: function 80 (mac_joined)
-- NOT PRINTED: function 83 (mac_Key)
-- NOT PRINTED: function 33 (sched_Joiner)
/-! ### sched_Shared: function 38 -/
def sched_Shared.l0 : Nat → List Int → List (List Int) → Int → Int → Option (List Int)
  | 0, _, _, _, _ => none
  | k + 1, x3, x9, x10, x11 => if x11 < x10 then (if 0 ≤ x11 then (if x11 < (x9.length : Int) then ((byt_Num.f x11 2).bind fun bt123 => ((sched_label.f (rd_L1 x9 x11) (⟨#[115, 104, 97, 114, 101, 100]⟩ : ByteArray) bt123.1).bind fun t127 => ((kdf_Extract.f x3 t127).bind fun t130 => (sched_Shared.l0 k t130 x9 x10 (wrap64 (x11 + 1)))))) else (none)) else (none)) else (some x3)
def sched_Shared.f (k : Nat) (l0 : List (List Int)) : Option (List Int) := if 32 ≤ 281474976710656 then (sched_Shared.l0 k (List.replicate 32 0) l0 (l0.length : Int) 0) else (none)
theorem sched_Shared.mono_l : ∀ k, (∀ y0 y1 y2 y3, LeO (sched_Shared.l0 k y0 y1 y2 y3) (sched_Shared.l0 (k + 1) y0 y1 y2 y3))
  | 0 => fun _ _ _ _ r h => by simp [sched_Shared.l0] at h
  | k + 1 => by
    have ih0 := sched_Shared.mono_l k
    · intro y0 y1 y2 y3
      unfold sched_Shared.l0
      repeat' first
      | (with_reducible exact ih0 _ _ _ _)
      | (with_reducible exact LeO.refl _)
      | (with_reducible exact LeO.none _)
      | (with_reducible refine LeO.ite ?_ ?_)
      | (with_reducible refine LeO.bind ?_ (fun _ => ?_))
      | exact ih0 _ _ _ _
      | exact LeO.none _
      | refine LeO.ite ?_ ?_
      | refine LeO.bind ?_ (fun _ => ?_)
theorem sched_Shared.mono : ∀ a0 k, LeO (sched_Shared.f k a0) (sched_Shared.f (k + 1) a0) := by
  intro a0 k
  have ih0 := sched_Shared.mono_l k
  unfold sched_Shared.f
  repeat' first
      | (with_reducible exact ih0 _ _ _ _)
      | (with_reducible exact LeO.refl _)
      | (with_reducible exact LeO.none _)
      | (with_reducible refine LeO.ite ?_ ?_)
      | (with_reducible refine LeO.bind ?_ (fun _ => ?_))
      | exact ih0 _ _ _ _
      | exact LeO.none _
      | refine LeO.ite ?_ ?_
      | refine LeO.bind ?_ (fun _ => ?_)
set_option maxHeartbeats 8000000 in
set_option maxRecDepth 100000 in
theorem sched_Shared.calls (k : Nat) (A0 : Option Addr) (c0 : Nat) (l0 : List (List Int)) (r : List Int) (w : World) (hr0 : Kd.C (Kd.slice 5 (Kd.int .u8)) w A0 l0.length l0) (hc0 : l0.length ≤ c0) (h : sched_Shared.f k l0 = some r) :
    Calls Try.prog 38 #[.slice A0 l0.length c0] w fun e w' => ∃ v0_ : Value, e = .returned (v0_) ∧ Kd.R (Kd.int .u8) 5 w' w.heap.size (fun _ => True) v0_ r ∧ Below w.heap.size w w' := by
  have HR0 := Aside0.mk hr0
  have HC0 := Aside0.mk hc0
  clear hr0 hc0
  have HB := Aside0.mk (Below.refl w.heap.size w)
  have H : (if 32 ≤ 281474976710656 then (sched_Shared.l0 k (List.replicate 32 0) l0 (l0.length : Int) 0) else (none)) = some r := h
  clear h
  by_cases c2 : 32 ≤ 281474976710656
  · rw [if_pos c2] at H
    have c2b0 := eq_true c2
    have c2b1 : decide (32 ≤ 281474976710656) = true := decide_eq_true c2
    clear c2
    obtain ⟨y119, hy119⟩ : ∃ y_ : List Int, y_ = (List.replicate 32 0) := ⟨_, rfl⟩
    replace H : (sched_Shared.l0 k y119 l0 (l0.length : Int) 0) = some r := by first | (rw [hy119]; with_reducible exact H) | (have H2_ := (Option.bind_some _ _).symm.trans H; rw [hy119]; with_reducible exact H2_) | (have H2_ := (Option.bind_some _ _).symm.trans H; with_reducible exact H2_) | with_reducible exact H | (rw [hy119]; exact H) | exact H
    have Ny119 := Aside0.mk hy119
    clear hy119
    have H' := Aside0.mk H
    clear H
    go_enter Try.func38, Try.ntmps38
    go_wp2_with (first | ((with_reducible refine gate_dst (N := 8) rfl ?_); refine Kd.R_make (Kd.int .u8) _ 5 rfl (N := 8) rfl 22 _ _ rfl 32 rfl rfl Try.underlying22 (.int .u8 0) 1 info5 rfl (by decide) (by omega) 0 (ok := fun _ => True) (okp := fun _ => True) rfl (fun _ hk => hk) trivial (by omega) (by omega) (Below.refl _ _) (Nat.le_refl _) ?_; intro v120 w3 ho4 hb hg_ hnew_; clear hg_ hnew_; (first | rw [← Ny119.out] at ho4 | (simp only [Int.reduceToNat] at ho4; rw [← Ny119.out] at ho4)); have n0_ := Aside0.mk (Kd.R_lower ho4 (below_size (by repeat (first | (with_reducible first | exact HB.out | apply below_alloc | apply pw_below_drewN | apply below_drew1) | exact HB.out)))); have n1_ := Aside0.mk (below_step (by repeat (first | (with_reducible first | exact HB.out | apply below_alloc | apply pw_below_drewN | apply below_drew1) | exact HB.out)) hb); clear HB; have HO121 := n0_; have HB := n1_; clear n0_ n1_; clear hb ho4))
    go_loopg [3, 11] k (fun kq v3 v11 w' => ∃ (x3_1 : List Int) (x11_1 : Int), v11 = .int .i64 x11_1 ∧ Aside0 (sched_Shared.l0 kq x3_1 l0 (l0.length : Int) x11_1 = some r) ∧ Aside0 (kq ≤ k) ∧ Aside0 (Kd.R (Kd.int .u8) 5 w' w.heap.size (fun _ => True) v3 x3_1) ∧ Aside0 (Below w.heap.size w w'))
    case atStart => exact ⟨(y119), (0), (by first | rfl | (simp; done) | (simp [*]; done)), H', ⟨Nat.le_refl _⟩, ⟨by (with_reducible repeat (first | apply Kd.R_alloc | apply Kd.R_drewN | apply Kd.R_drew)); exact HO121.out⟩, ⟨by repeat (first | (with_reducible first | exact HB.out | apply below_alloc | apply pw_below_drewN | apply below_drew1) | exact HB.out)⟩⟩
    case round =>
      clear H'
      try clear c2
      try clear c2b0
      try clear c2b1
      try clear p2
      try clear c3
      obtain ⟨x3_1, x11_1, rfl, HA, HK1, HO_3, HB⟩ := hrel
      cases gk with
      | zero => exact absurd HA.out (by simp [sched_Shared.l0])
      | succ k1 =>
        have H := HA.out
        clear HA
        simp only [sched_Shared.l0] at H
        by_cases c5 : x11_1 < (l0.length : Int)
        · rw [if_pos c5] at H
          have c5b0 : decide (x11_1 < (l0.length : Int)) = true := decide_eq_true c5
          clear c5
          by_cases c6 : 0 ≤ x11_1
          · rw [if_pos c6] at H
            have c6b0 : decide (0 ≤ x11_1) = true := decide_eq_true c6
            clear c6
            by_cases c7 : x11_1 < (l0.length : Int)
            · rw [if_pos c7] at H
              have c7b0 : decide (x11_1 < (l0.length : Int)) = true := decide_eq_true c7
              clear c7
              replace H := Option.bind_eq_some_iff.mp H
              obtain ⟨⟨t123, t124⟩, A80, H⟩ := H
              replace H : ((sched_label.f (rd_L1 l0 x11_1) (⟨#[115, 104, 97, 114, 101, 100]⟩ : ByteArray) t123).bind fun t127 => ((kdf_Extract.f x3_1 t127).bind fun t130 => (sched_Shared.l0 k1 t130 l0 (l0.length : Int) (wrap64 (x11_1 + 1))))) = some r := H
              have A8 := Aside0.mk A80
              clear A80
              replace H := Option.bind_eq_some_iff.mp H
              obtain ⟨t127, A90, H⟩ := H
              replace H : ((kdf_Extract.f x3_1 t127).bind fun t130 => (sched_Shared.l0 k1 t130 l0 (l0.length : Int) (wrap64 (x11_1 + 1)))) = some r := H
              have A9 := Aside0.mk A90
              clear A90
              replace H := Option.bind_eq_some_iff.mp H
              obtain ⟨t130, A100, H⟩ := H
              replace H : (sched_Shared.l0 k1 t130 l0 (l0.length : Int) (wrap64 (x11_1 + 1))) = some r := H
              have A10 := Aside0.mk A100
              clear A100
              have H' := Aside0.mk H
              clear H
              have p122 : 0 ≤ (x11_1 : Int) := of_decide_eq_true (by first | (with_reducible assumption) | assumption)
              have q122 : x11_1 < (l0.length : Int) := of_decide_eq_true (by first | (with_reducible assumption) | assumption)
              obtain ⟨ad122, A122_0, c122_0, e122, hx122_0, hl122_0, hi122_0⟩ := at_L1 HR0.out x11_1 p122 q122
              cases e122
              replace hx122_0 := (HB.out.cell (World.block_lt_of_cell? w _ hx122_0)).trans hx122_0
              have HR122_0 := Aside0.mk hi122_0
              have HC122_0 := Aside0.mk hl122_0
              clear hi122_0 hl122_0
              replace p122 := eq_true p122
              replace q122 := eq_true q122
              go_wp2_with (first | ((with_reducible refine gate_callee (f := 56) rfl ?_); refine goesL_ (some 18) rfl rfl Try.func56 (by kernel_rfl) rfl #[.int .i64 x11_1, .int .i64 2] rfl (by (try simp only [List.map_toArray, List.map_cons, List.map_nil]); first | done | rfl | (simp only [List.length_drop, List.length_take]; rfl)) ?_; (with_reducible refine (byt_Num.calls x11_1 2 t123 t124 _ A8.out).mono ?_); rintro e w11 ⟨v125, rfl, ho0, hb⟩; refine ⟨_, rfl, ?_⟩; have n0_ := Aside0.mk (Kd.R_elder' (by (with_reducible repeat (first | apply Kd.R_alloc | apply Kd.R_drewN | apply Kd.R_drew)); exact HO_3.out) (Kd.R_base ho0) hb); have n1_ := Aside0.mk (Kd.R_lower (Kd.R_new' ho0 (Kd.R_lt (by (with_reducible repeat (first | apply Kd.R_alloc | apply Kd.R_drewN | apply Kd.R_drew)); exact HO_3.out))) (below_size (by repeat (first | (with_reducible first | exact HB.out | apply below_alloc | apply pw_below_drewN | apply below_drew1) | exact HB.out)))); have n2_ := Aside0.mk (below_step (by repeat (first | (with_reducible first | exact HB.out | apply below_alloc | apply pw_below_drewN | apply below_drew1) | exact HB.out)) hb); clear HO_3; clear HB; have HO_3 := n0_; have HO126 := n1_; have HB := n2_; clear n0_ n1_ n2_; (try clear hb); (try clear hb2); (try clear hk); (try clear hi); (try clear ho0); obtain ⟨Ao12, co12, eo12⟩ := Kd.R_slice HO126.out; subst eo12) | ((with_reducible refine gate_callee (f := 67) rfl ?_); refine goesL_ (some 24) rfl rfl Try.func67 (by kernel_rfl) rfl #[.slice A122_0 (rd_L1 l0 x11_1).length c122_0, .string (⟨#[115, 104, 97, 114, 101, 100]⟩ : ByteArray), .slice Ao12 t123.length co12] rfl (by (try simp only [List.map_toArray, List.map_cons, List.map_nil]); first | done | rfl | (simp only [List.length_drop, List.length_take]; rfl)) ?_; (with_reducible refine (sched_label.calls _ _ (rd_L1 l0 x11_1) (⟨#[115, 104, 97, 114, 101, 100]⟩ : ByteArray) _ _ t123 t127 _ ?side1 ?side2 ?side3 ?side4 A9.out).mono ?_); (case side1 => repeat (first | exact (Kd.C_below HR122_0.out HB.out) | (with_reducible refine Kd.C_alloc ?_ _) | (with_reducible refine Kd.C_drewN ?_ _) | (with_reducible refine Kd.C_drew ?_))); (case side2 => exact HC122_0.out); (case side3 => repeat (first | exact (Kd.R_reads' HO126.out).2.2 | (with_reducible refine Kd.C_alloc ?_ _) | (with_reducible refine Kd.C_drewN ?_ _) | (with_reducible refine Kd.C_drew ?_))); (case side4 => exact (Kd.R_reads' HO126.out).2.1); rintro e w13 ⟨v128, rfl, ho0, hb⟩; refine ⟨_, rfl, ?_⟩; have n0_ := Aside0.mk (Kd.R_elder' (by (with_reducible repeat (first | apply Kd.R_alloc | apply Kd.R_drewN | apply Kd.R_drew)); exact HO_3.out) (Kd.R_base ho0) hb); have n1_ := Aside0.mk (Kd.R_elder' (by (with_reducible repeat (first | apply Kd.R_alloc | apply Kd.R_drewN | apply Kd.R_drew)); exact HO126.out) (Kd.R_base ho0) hb); have n2_ := Aside0.mk (Kd.R_lower (Kd.R_new' (Kd.R_new' ho0 (Kd.R_lt (by (with_reducible repeat (first | apply Kd.R_alloc | apply Kd.R_drewN | apply Kd.R_drew)); exact HO_3.out))) (Kd.R_lt (by (with_reducible repeat (first | apply Kd.R_alloc | apply Kd.R_drewN | apply Kd.R_drew)); exact HO126.out))) (below_size (by repeat (first | (with_reducible first | exact HB.out | apply below_alloc | apply pw_below_drewN | apply below_drew1) | exact HB.out)))); have n3_ := Aside0.mk (below_step (by repeat (first | (with_reducible first | exact HB.out | apply below_alloc | apply pw_below_drewN | apply below_drew1) | exact HB.out)) hb); clear HO_3; clear HO126; clear HB; have HO_3 := n0_; have HO126 := n1_; have HO129 := n2_; have HB := n3_; clear n0_ n1_ n2_ n3_; (try clear hb); (try clear hb2); (try clear hk); (try clear hi); (try clear ho0); obtain ⟨Ao14, co14, eo14⟩ := Kd.R_slice HO_3.out; subst eo14; obtain ⟨Ao15, co15, eo15⟩ := Kd.R_slice HO129.out; subst eo15) | ((with_reducible refine gate_callee (f := 23) rfl ?_); refine goesL_ (some 25) rfl rfl Try.func23 (by kernel_rfl) rfl #[.slice Ao14 x3_1.length co14, .slice Ao15 t127.length co15] rfl (by (try simp only [List.map_toArray, List.map_cons, List.map_nil]); first | done | rfl | (simp only [List.length_drop, List.length_take]; rfl)) ?_; (with_reducible refine (kdf_Extract.calls _ _ x3_1 _ _ t127 t130 _ ?side1 ?side2 ?side3 ?side4 A10.out).mono ?_); (case side1 => repeat (first | exact (Kd.R_reads' HO_3.out).2.2 | (with_reducible refine Kd.C_alloc ?_ _) | (with_reducible refine Kd.C_drewN ?_ _) | (with_reducible refine Kd.C_drew ?_))); (case side2 => exact (Kd.R_reads' HO_3.out).2.1); (case side3 => repeat (first | exact (Kd.R_reads' HO129.out).2.2 | (with_reducible refine Kd.C_alloc ?_ _) | (with_reducible refine Kd.C_drewN ?_ _) | (with_reducible refine Kd.C_drew ?_))); (case side4 => exact (Kd.R_reads' HO129.out).2.1); rintro e w16 ⟨v131, rfl, ho0, hb⟩; refine ⟨_, rfl, ?_⟩; have n0_ := Aside0.mk (Kd.R_elder' (by (with_reducible repeat (first | apply Kd.R_alloc | apply Kd.R_drewN | apply Kd.R_drew)); exact HO_3.out) (Kd.R_base ho0) hb); have n1_ := Aside0.mk (Kd.R_elder' (by (with_reducible repeat (first | apply Kd.R_alloc | apply Kd.R_drewN | apply Kd.R_drew)); exact HO126.out) (Kd.R_base ho0) hb); have n2_ := Aside0.mk (Kd.R_elder' (by (with_reducible repeat (first | apply Kd.R_alloc | apply Kd.R_drewN | apply Kd.R_drew)); exact HO129.out) (Kd.R_base ho0) hb); have n3_ := Aside0.mk (Kd.R_lower (Kd.R_new' (Kd.R_new' (Kd.R_new' ho0 (Kd.R_lt (by (with_reducible repeat (first | apply Kd.R_alloc | apply Kd.R_drewN | apply Kd.R_drew)); exact HO_3.out))) (Kd.R_lt (by (with_reducible repeat (first | apply Kd.R_alloc | apply Kd.R_drewN | apply Kd.R_drew)); exact HO126.out))) (Kd.R_lt (by (with_reducible repeat (first | apply Kd.R_alloc | apply Kd.R_drewN | apply Kd.R_drew)); exact HO129.out))) (below_size (by repeat (first | (with_reducible first | exact HB.out | apply below_alloc | apply pw_below_drewN | apply below_drew1) | exact HB.out)))); have n4_ := Aside0.mk (below_step (by repeat (first | (with_reducible first | exact HB.out | apply below_alloc | apply pw_below_drewN | apply below_drew1) | exact HB.out)) hb); clear HO_3; clear HO126; clear HO129; clear HB; have HO_3 := n0_; have HO126 := n1_; have HO129 := n2_; have HO132 := n3_; have HB := n4_; clear n0_ n1_ n2_ n3_ n4_; (try clear hb); (try clear hb2); (try clear hk); (try clear hi); (try clear ho0)))
              go_roundg k1
              case measure => have := HK1.out; omega
              case rel => exact ⟨(t130), (wrap64 (x11_1 + 1)), (by first | rfl | (simp; done) | (simp [*]; done)), H', ⟨by have := HK1.out; omega⟩, ⟨by (with_reducible repeat (first | apply Kd.R_alloc | apply Kd.R_drewN | apply Kd.R_drew)); exact Kd.R_mono HO132.out (fun _ hk => trivial)⟩, ⟨by repeat (first | (with_reducible first | exact HB.out | apply below_alloc | apply pw_below_drewN | apply below_drew1) | exact HB.out)⟩⟩
            · rw [if_neg c7] at H
              exact absurd H (by simp)
          · rw [if_neg c6] at H
            exact absurd H (by simp)
        · rw [if_neg c5] at H
          have c5b0 : decide (x11_1 < (l0.length : Int)) = false := decide_eq_false c5
          clear c5
          obtain rfl := Option.some.inj H
          go_wp2
          go_ret
          exact ⟨_, by first | rfl | (simp [errW_none, errW_some] <;> rfl) | (simp [*, errW_none, errW_some] <;> rfl), by (with_reducible repeat (first | apply Kd.R_alloc | apply Kd.R_drewN | apply Kd.R_drew)); exact HO_3.out, by repeat (first | (with_reducible first | exact HB.out | apply below_alloc | apply pw_below_drewN | apply below_drew1) | exact HB.out)⟩
  · rw [if_neg c2] at H
    exact absurd H (by simp)
-- NOT PRINTED: function 72 (sched_parts)
-- NOT PRINTED: function 69 (sched_fill)
-- NOT PRINTED: function 35 (sched_Epoch)
-- NOT PRINTED: function 41 (sched_Log)
-- NOT PRINTED: function 71 (sched_right)
-- NOT PRINTED: function 43 (sched_Proof)
-- NOT PRINTED: function 45 (sched_Export)
/-! ### bytes_Equal: function 73 -/
def bytes_Equal.f (l0 : List Int) (l1 : List Int) : Option (Bool) := some ((strOfNums l0).toList == (strOfNums l1).toList)
set_option maxHeartbeats 8000000 in
set_option maxRecDepth 100000 in
theorem bytes_Equal.calls (A0 : Option Addr) (c0 : Nat) (l0 : List Int) (A1 : Option Addr) (c1 : Nat) (l1 : List Int) (r : Bool) (w : World) (hr0 : Kd.C (Kd.int .u8) w A0 l0.length l0) (hc0 : l0.length ≤ c0) (hr1 : Kd.C (Kd.int .u8) w A1 l1.length l1) (hc1 : l1.length ≤ c1) (h : bytes_Equal.f l0 l1 = some r) :
    Calls Try.prog 73 #[.slice A0 l0.length c0, .slice A1 l1.length c1] w fun e w' => e = .returned (.bool r) ∧ Drawn0 w w' := by
  have HR0 := Aside0.mk hr0
  have HC0 := Aside0.mk hc0
  clear hr0 hc0
  have HR1 := Aside0.mk hr1
  have HC1 := Aside0.mk hc1
  clear hr1 hc1
  have H : (some ((strOfNums l0).toList == (strOfNums l1).toList)) = some r := h
  clear h
  obtain rfl := Option.some.inj H
  have hcv3 := Kd.C_string (P := Try.prog) (A := A0) (c := c0) Try.underlying22 Try.underlying5 Try.underlying9 HR0.out
  have hcv4 := Kd.C_string (P := Try.prog) (A := A1) (c := c1) Try.underlying22 Try.underlying5 Try.underlying9 HR1.out
  go_enter Try.func73, Try.ntmps73
  go_wp2
  go_ret
  exact ⟨by first | rfl | (simp; done) | (simp [*]; done), by repeat (first | exact Drawn0.refl _ | apply Drawn0.step)⟩
-- NOT PRINTED: function 47 (sched_Same)
-- NOT PRINTED: function 82 (pyxref01_power)
-- NOT PRINTED: function 78 (pyxref01_Len)
-- NOT PRINTED: function 74 (pyxref02_Pad)
-- NOT PRINTED: function 75 (pyxref02_keys)
-- NOT PRINTED: function 76 (pyxref02_Start)
-- NOT PRINTED: function 93 (pyxref02_word)
-- NOT PRINTED: function 94 (pyxref02_turn)
-- NOT PRINTED: function 77 (pyxref02_step)
-- NOT PRINTED: function 61 (pyxref03_Key)
-- NOT PRINTED: function 62 (pyxref03_with)
-- NOT PRINTED: function 17 (pyxref04_Expand)
end Go.Proofs.Ytpdgeanicciaiaa.E

/-! SchedD -/
namespace Go.Proofs.Ytpdgeanicciaiaa
set_option linter.unusedVariables false
set_option linter.unusedSimpArgs false
open Go.RowKit Go.Proofs.YtpdgeanicciaiaaW.PrintWords Go.Proofs.YtpdgeanicciaiaaW.PrintLast Go.Proofs.YtpdgeanicciaiaaW.PrintMore Iter
def labInit : ByteArray := ⟨#[105, 110, 105, 116]⟩
def labSend : ByteArray := ⟨#[115, 101, 110, 100]⟩
def labExport : ByteArray := ⟨#[101, 120, 112, 111, 114, 116]⟩
def labConfirm : ByteArray := ⟨#[99, 111, 110, 102, 105, 114, 109]⟩
def labResume : ByteArray := ⟨#[114, 101, 115, 117, 109, 101]⟩
def labs : Nat → ByteArray
  | 0 => labInit
  | 1 => labSend
  | 2 => labExport
  | 3 => labConfirm
  | _ => labResume
theorem labs_size (k : Nat) : (labs k).size ≤ 100000 := by
  rcases k with _ | _ | _ | _ | k
  · decide
  · decide
  · decide
  · decide
  · show labResume.size ≤ _
    decide
def labsV : Array Value := #[.string labInit, .string labSend, .string labExport, .string labConfirm, .string labResume]
theorem labsV_get (k : Nat) (h : k < 5) : labsV[k]? = some (.string (labs k)) := by
  rcases k with _ | _ | _ | _ | _ | k
  · rfl
  · rfl
  · rfl
  · rfl
  · rfl
  · omega
/-- An epoch's cells, the first k of them filled. -/
def epV (V : Nat → Value) (k : Nat) : Array Value := #[if 0 < k then V 0 else .slice none 0 0, if 1 < k then V 1 else .slice none 0 0, if 2 < k then V 2 else .slice none 0 0, if 3 < k then V 3 else .slice none 0 0, if 4 < k then V 4 else .slice none 0 0]
theorem epV_set (V : Nat → Value) (k : Nat) (v : Value) (h : k < 5) : (epV V k).setIfInBounds k v = epV (fun j => if j = k then v else V j) (k + 1) := by
  rcases k with _ | _ | _ | _ | _ | k
  · rfl
  · rfl
  · rfl
  · rfl
  · rfl
  · omega
def epRow (s : List Int) (k : Nat) : List Int := labelOf s (labs k) [] 32
theorem epRow_some (s : List Int) (k : Nat) (h : byteOk s = true) (hl : s.length ≤ 900000) : P.kdf_Derive.f s (labs k) = some (epRow s k, 0) := by
  unfold P.kdf_Derive.f
  rw [if_pos ⟨h, hl, labs_size k⟩]
  rfl
theorem infoEp : (Try.prog.info? 60).map (·.size) = some 5 := by kernel_rfl
theorem heap_setRow_other (w : World) (g : Nat) (cs : Array Value) (b : Nat) (h : b ≠ g) : (w.setRow g cs).heap[b]? = w.heap[b]? := by
  show (w.heap.modify g _)[b]? = _
  rw [Array.getElem?_modify, if_neg (by omega)]
theorem index_p5 (g k : Nat) (hk : k < 5) (W : World) : (Instr.index 107 (.agg (partsV g)) (.int .i64 (k : Int))).run Try.prog W = .ok (.pointer (some ⟨g, k, none⟩)) W := by
  have hv := partsV_get g k hk
  unfold Instr.index
  simp [go_sem, part, hv, Try.isAgg106, Try.sizeOf106, hk]
set_option maxRecDepth 100000 in
set_option maxHeartbeats 2000000 in
theorem fill_walk (A : Option Addr) (c : Nat) (s : List Int) (gl : Nat) (w : World) (hr : Kd.C (Kd.int .u8) w A s.length s) (hc : s.length ≤ c) (ok : byteOk s = true) (hl : s.length ≤ 900000) (bl : Blk w gl 9 labsV) :
    Calls Try.prog 69 #[.slice A s.length c, .slice (some ⟨gl, 0, none⟩) 5 5] w fun e w' => ∃ v0 v1 v2 v3 v4 : Value, e = .returned (.agg #[v0, v1, v2, v3, v4]) ∧
      (∃ M : Nat → Nat, (∀ j, j < 5 → M j ≤ M (j + 1)) ∧ Kd.R (Kd.int .u8) 5 w' w.heap.size (fun b => M 0 ≤ b ∧ b < M 1) v0 (epRow s 0) ∧ Kd.R (Kd.int .u8) 5 w' w.heap.size (fun b => M 1 ≤ b ∧ b < M 2) v1 (epRow s 1) ∧ Kd.R (Kd.int .u8) 5 w' w.heap.size (fun b => M 2 ≤ b ∧ b < M 3) v2 (epRow s 2) ∧ Kd.R (Kd.int .u8) 5 w' w.heap.size (fun b => M 3 ≤ b ∧ b < M 4) v3 (epRow s 3) ∧ Kd.R (Kd.int .u8) 5 w' w.heap.size (fun b => M 4 ≤ b ∧ b < M 5) v4 (epRow s 4)) ∧ Below w.heap.size w w' := by
  have b4 := (Blk.new w 60 nil5).alloc (Obj.cells nil5 60)
  have b5 := Blk.new (w.alloc (Obj.cells nil5 60)) 60 nil5
  rw [World.size_alloc] at b5
  have hb := ((Below.refl w.heap.size w).alloc (Nat.le_refl _) (Obj.cells nil5 60)).alloc (by rw [World.size_alloc]; omega) (Obj.cells nil5 60)
  have hsz : ((w.alloc (Obj.cells nil5 60)).alloc (Obj.cells nil5 60)).heap.size = w.heap.size + 2 := by simp
  have H0 := Lib.hid (And.intro b4 (And.intro b5 (And.intro hb hsz)))
  have HA := Lib.hid (And.intro hr (And.intro hc (And.intro ok (And.intro hl bl))))
  clear b4 b5 hb hsz hr hc ok hl bl
  go_enter Try.func69, Try.ntmps69
  go_wp2_with fail
  change Calls Try.prog 72 _ ((w.alloc (Obj.cells nil5 60)).alloc (Obj.cells nil5 60)) _
  generalize (w.alloc (Obj.cells nil5 60)).alloc (Obj.cells nil5 60) = W0 at *
  refine (parts_calls (w.heap.size + 1) W0).mono ?_
  rintro e W1 ⟨rfl, hb1⟩
  have c4 := H0.out.1.below hb1 H0.out.1.lt
  have c5 := H0.out.2.1.below hb1 H0.out.2.1.lt
  have hw1 := H0.out.2.2.1.trans (hb1.mono H0.out.2.2.1.size)
  have hs1 : w.heap.size + 2 ≤ W1.heap.size := by have := hb1.size; have := H0.out.2.2.2; omega
  have H1 := Lib.hid (And.intro c4 (And.intro c5 hw1))
  clear c4 c5 hw1 hb1 H0
  have hgl : gl < w.heap.size := HA.out.2.2.2.2.lt
  go_wp2_with fail
  go_loopw [9] (fun i wr => ∃ (k : Nat) (V : Nat → Value) (M : Nat → Nat), k ≤ 5 ∧ i = .int .i64 (k : Int) ∧ Aside0 (Blk wr w.heap.size 60 nil5) ∧ Aside0 (Blk wr (w.heap.size + 1) 60 (epV V k)) ∧ Aside0 (∀ j, j < k → Kd.R (Kd.int .u8) 5 wr w.heap.size (fun b => M j ≤ b ∧ b < M (j + 1)) (V j) (epRow s j)) ∧ Aside0 (∀ j, j < k → M j ≤ M (j + 1)) ∧ Aside0 (∀ j, j ≤ k → w.heap.size + 2 ≤ M j) ∧ M k ≤ wr.heap.size ∧ Below w.heap.size w wr) (fun i _ => 5 - (intOf i).toNat)
  case atStart => exact ⟨0, fun _ => .slice none 0 0, fun _ => W1.heap.size, by omega, rfl, ⟨H1.out.1⟩, ⟨H1.out.2.1⟩, ⟨fun j hj => by omega⟩, ⟨fun j hj => by omega⟩, ⟨fun j hj => hs1⟩, Nat.le_refl _, H1.out.2.2⟩
  case round =>
    clear H1
    obtain ⟨k, V, M, hk, rfl, h4, h5, hR, hM, hM0, hMk, hb⟩ := hrel
    by_cases hlt : k < 5
    · have hD := P.kdf_Derive.calls A c s (labs k) (epRow s k) 0 wr (Kd.C_below HA.out.1 hb) HA.out.2.1 (epRow_some s k HA.out.2.2.1 HA.out.2.2.2.1)
      have hcell : wr.cell? ⟨gl, k, none⟩ = some (.string (labs k)) := ((HA.out.2.2.2.2.below hb hgl).cell k).trans (labsV_get k hlt)
      have hp := index_p5 (w.heap.size + 1) k hlt wr
      have HD := Lib.hid hD
      have i1 : (k : Int) < 5 := by omega
      clear hD
      go_wp2_with fail
      refine HD.out.mono ?_
      rintro e W' ⟨v, rfl, hRv, hbv⟩
      obtain ⟨g6, c6, rfl, -, -⟩ := Kd.R_form hRv (by rw [show (epRow s k).length = 32 from labelOf_length _ _ _ _]; omega)
      obtain ⟨v, hv⟩ : ∃ v, Value.slice (some ⟨g6, 0, none⟩) (epRow s k).length c6 = v := ⟨_, rfl⟩
      rw [hv] at hRv
      have HV := Lib.hid hv
      clear hv
      have q4 := h4.out.below hbv h4.out.lt
      have q5 := h5.out.below hbv h5.out.lt
      have hfz := q5.frozen k
      obtain ⟨old, hold⟩ : ∃ u, W'.cell? ⟨w.heap.size + 1, k, none⟩ = some u := by
        rw [q5.cell]
        rcases k with _ | _ | _ | _ | _ | k
        · exact ⟨_, rfl⟩
        · exact ⟨_, rfl⟩
        · exact ⟨_, rfl⟩
        · exact ⟨_, rfl⟩
        · exact ⟨_, rfl⟩
        · omega
      have z4 := q4.far (p := ⟨w.heap.size + 1, k, none⟩) (by show w.heap.size ≠ w.heap.size + 1; omega) v
      have z5 := q5.set_ k v
      rw [epV_set V k v hlt] at z5
      have zb := (hb.trans (hbv.mono hb.size)).setCell (p := ⟨w.heap.size + 1, k, none⟩) (show w.heap.size ≤ w.heap.size + 1 by omega) v
      have hsv := hbv.size
      have zR : ∀ j, j < k + 1 → Kd.R (Kd.int .u8) 5 (W'.setCell ⟨w.heap.size + 1, k, none⟩ v) w.heap.size (fun b => (if j = k + 1 then W'.heap.size else M j) ≤ b ∧ b < (if j + 1 = k + 1 then W'.heap.size else M (j + 1))) (if j = k then v else V j) (epRow s j) := fun j hj => by
        by_cases hjk : j = k
        · subst hjk
          rw [if_pos rfl, if_neg (by omega), if_pos rfl]
          refine Kd.R_far (p := ⟨w.heap.size + 1, j, none⟩) (Kd.R_lower (Kd.R_mono (Kd.R_bound hRv) (fun b hb => ⟨by have := hb.2.1; omega, hb.2.2.1⟩)) hb.size) (fun b hb => ?_) v
          have := hM0.out j (Nat.le_refl _)
          show b ≠ w.heap.size + 1
          omega
        · rw [if_neg hjk, if_neg (by omega), if_neg (by omega)]
          refine Kd.R_far (p := ⟨w.heap.size + 1, k, none⟩) (Kd.R_below (hR.out j (by omega)) hbv) (fun b hb => ?_) v
          have := hM0.out j (by omega)
          show b ≠ w.heap.size + 1
          omega
      have zM : ∀ j, j < k + 1 → (if j = k + 1 then W'.heap.size else M j) ≤ (if j + 1 = k + 1 then W'.heap.size else M (j + 1)) := fun j hj => by
        rw [if_neg (by omega)]
        by_cases hjk : j = k
        · rw [if_pos (by omega), hjk]
          omega
        · rw [if_neg (by omega)]
          exact hM.out j (by omega)
      have zM0 : ∀ j, j ≤ k + 1 → w.heap.size + 2 ≤ (if j = k + 1 then W'.heap.size else M j) := fun j hj => by
        by_cases hjk : j = k + 1
        · rw [if_pos hjk]
          have := hM0.out k (Nat.le_refl _)
          omega
        · rw [if_neg hjk]
          exact hM0.out j (by omega)
      have zMk : (if k + 1 = k + 1 then W'.heap.size else M (k + 1)) ≤ W'.heap.size := by rw [if_pos rfl]; exact Nat.le_refl _
      have HZ := Lib.hid (And.intro z4 (And.intro z5 (And.intro zR (And.intro zM (And.intro zM0 (And.intro zMk zb))))))
      rw [← HV.out] at HZ
      clear HV
      clear q4 q5 z4 z5 zR zM zM0 zMk zb hRv hbv h4 h5 hR hM hM0 hcell hp HD
      go_wp2
      go_roundw
      case rel => exact ⟨k + 1, fun j => if j = k then Value.slice (some ⟨g6, 0, none⟩) (epRow s k).length c6 else V j, fun j => if j = k + 1 then W'.heap.size else M j, by omega, by go_num, ⟨HZ.out.1⟩, ⟨HZ.out.2.1⟩, ⟨HZ.out.2.2.1⟩, ⟨HZ.out.2.2.2.1⟩, ⟨HZ.out.2.2.2.2.1⟩, (by simp only [World.size_setCell]; exact HZ.out.2.2.2.2.2.1), HZ.out.2.2.2.2.2.2⟩
      case measure => simp [intOf]; omega
    · obtain rfl : k = 5 := by omega
      have r0 := hR.out 0 (by omega)
      have r1 := hR.out 1 (by omega)
      have r2 := hR.out 2 (by omega)
      have r3 := hR.out 3 (by omega)
      have r4 := hR.out 4 (by omega)
      have he : epV V 5 = #[V 0, V 1, V 2, V 3, V 4] := rfl
      have hB5 : Blk wr (w.heap.size + 1) 60 #[V 0, V 1, V 2, V 3, V 4] := by rw [← he]; exact h5.out
      have hkeep : ∀ j, j < 5 → ∀ cs, Kd.R (Kd.int .u8) 5 (wr.setRow w.heap.size cs) w.heap.size (fun b => M j ≤ b ∧ b < M (j + 1)) (V j) (epRow s j) := fun j hj cs =>
        Kd.R_step (hR.out j hj) (fun b hb _ => heap_setRow_other wr w.heap.size cs b (by have := hM0.out j (by omega); omega))
      have hone : ∀ j, j < 5 → (V j).oneCell' = true := fun j hj => by
        obtain ⟨g, c, e, -, -⟩ := Kd.R_form (hR.out j hj) (by rw [show (epRow s j).length = 32 from labelOf_length _ _ _ _]; omega)
        rw [e]
        rfl
      have hall : (#[V 0, V 1, V 2, V 3, V 4] : Array Value).all (·.oneCell') = true := by
        simp [hone 0 (by omega), hone 1 (by omega), hone 2 (by omega), hone 3 (by omega), hone 4 (by omega)]
      clear hone
      have HF := Lib.hid (And.intro h4.out (And.intro hB5 (And.intro hkeep (And.intro hM.out (And.intro hb hall)))))
      clear h4 h5 hR hM hM0 r0 r1 r2 r3 r4 he hB5 hkeep hb hall
      go_wp2_with (first
        | (refine wpList_load_row rfl 60 (.tmp 5) rfl (w.heap.size + 1) rfl 60 _ (0, 0) _ HF.out.2.1 Try.underlying60 rfl infoEp ?_)
        | (refine wpList_store_row rfl 60 (.tmp 4) (.tmp 25) rfl w.heap.size _ rfl rfl 60 nil5 HF.out.1 infoEp rfl HF.out.2.2.2.2.2 ?_))
      refine bodyPost_ret (results_cell_row rfl _ _ w.heap.size 60 #[V 0, V 1, V 2, V 3, V 4] (0, 0) _ rfl (setRow_heap wr w.heap.size _ _ _ _ HF.out.1) Try.underlying60 rfl infoEp) rfl ?_
      exact ⟨V 0, V 1, V 2, V 3, V 4, rfl, ⟨M, HF.out.2.2.2.1, HF.out.2.2.1 0 (by omega) _, HF.out.2.2.1 1 (by omega) _, HF.out.2.2.1 2 (by omega) _, HF.out.2.2.1 3 (by omega) _, HF.out.2.2.1 4 (by omega) _⟩, HF.out.2.2.2.2.1.trans (Iter.below_setRow _ (Nat.le_refl _))⟩
end Go.Proofs.Ytpdgeanicciaiaa

/-! SchedE -/
namespace Go.Proofs.Ytpdgeanicciaiaa
set_option linter.unusedVariables false
set_option linter.unusedSimpArgs false
open Go.RowKit Go.Proofs.YtpdgeanicciaiaaW.PrintWords Go.Proofs.YtpdgeanicciaiaaW.PrintLast Go.Proofs.YtpdgeanicciaiaaW.PrintMore Iter
theorem wrap_up (i : Nat) (h : i ≤ 1000000) : wrap64 ((i : Int) + 1) = ((i + 1 : Nat) : Int) := by unfold wrap64; omega
/-- Rows, each with its length ahead. -/
def rowsB : List (List Int) → List Int
  | [] => []
  | x :: l => rowB x ++ rowsB l
theorem rowsB_append : ∀ (l m : List (List Int)), rowsB (l ++ m) = rowsB l ++ rowsB m
  | [], m => rfl
  | x :: l, m => by rw [List.cons_append, rowsB, rowsB, rowsB_append l m, List.append_assoc]
theorem rowsB_length (l : List (List Int)) (h : ∀ x ∈ l, x.length ≤ 100000) : (rowsB l).length ≤ l.length * 100004 := by
  induction l with
  | nil => simp [rowsB]
  | cons x l ih =>
    have h1 := rowB_length x
    have h2 := h x (by simp)
    have h3 := ih (fun y hy => h y (by simp [hy]))
    rw [rowsB, List.length_append, List.length_cons]
    omega
def smallRows (l : List (List Int)) : Prop := l.length ≤ 1000 ∧ ∀ x ∈ l, x.length ≤ 100000
theorem rows_l0 (l : List (List Int)) (hs : smallRows l) : ∀ (d i : Nat), i + d = l.length → EvS (fun k => E.sched_rows.l0 k (rowsB (l.take i)) l (l.length : Int) (i : Int)) (rowsB l)
  | 0, i, h => EvS.now fun k => by
    rw [E.sched_rows.l0, if_neg (by omega), List.take_of_length_le (by omega)]
  | d + 1, i, h => EvS.step (fun k => by
    have hlt : i < l.length := by omega
    have e : E.rd_L1 l (i : Int) = l[i] := by unfold E.rd_L1; rw [Int.toNat_natCast]; simp [hlt]
    have hx := hs.2 l[i] (List.getElem_mem hlt)
    have hr : P.byt_Row.f l[i] = some (rowB l[i], 0) := congrArg some (rowOf_small l[i] (by omega))
    have hl1 := rowsB_length (l.take i) (fun x hx => hs.2 x (List.mem_of_mem_take hx))
    have hl2 := rowB_length l[i]
    have hl3 : (l.take i).length ≤ 1000 := by rw [List.length_take]; have := hs.1; omega
    have hle : (l.take i).length * 100004 ≤ 1000 * 100004 := Nat.mul_le_mul_right _ hl3
    have hn : rowsB (l.take i) ++ rowB l[i] = rowsB (l.take (i + 1)) := by
      rw [List.take_succ_eq_append_getElem hlt, rowsB_append]
      simp [rowsB]
    have hw := wrap_up i (by have := hs.1; omega)
    rw [E.sched_rows.l0, if_pos (by omega), if_pos (by omega), if_pos (by omega), e, hr, Option.bind_some]
    dsimp only
    rw [if_pos (by omega), hn, hw]) (rows_l0 l hs d (i + 1) (by omega))
theorem rows_eq (l : List (List Int)) (hs : smallRows l) : EvS (fun k => E.sched_rows.f k l) (rowsB l) := rows_l0 l hs l.length 0 (by omega)
def labShared : ByteArray := ⟨#[115, 104, 97, 114, 101, 100]⟩
/-- One secret of the first k that are shared. -/
def sharedTo (l : List (List Int)) : Nat → List Int
  | 0 => List.replicate 32 0
  | k + 1 => macSum (sharedTo l k) (labelOf (l.getD k []) labShared (numB k 2) 32)
theorem sharedTo_ok (l : List (List Int)) : ∀ k, byteOk (sharedTo l k) = true ∧ (sharedTo l k).length = 32
  | 0 => by
    rw [sharedTo]
    exact ⟨by decide, rfl⟩
  | k + 1 => by
    rw [sharedTo]
    exact ⟨byteOk_macSum _ _, macSum_length _ _⟩
theorem mac_some (key b : List Int) (hk : byteOk key = true) (hb : byteOk b = true) (lk : key.length ≤ 900000) (lb : b.length ≤ 800000) : P.mac_Sum.f key b = some (macSum key b) := by
  unfold P.mac_Sum.f
  rw [if_pos ⟨hk, hb, lk, lb⟩]
theorem e_label (s : List Int) (a : ByteArray) (c : List Int) (o1 : byteOk s = true) (o2 : byteOk c = true) (l1 : s.length ≤ 900000) (l2 : a.size ≤ 100000) (l3 : c.length ≤ 100000) : E.sched_label.f s a c = some (labelOf s a c 32) := by
  unfold E.sched_label.f
  rw [show (32 : Int) = ((32 : Nat) : Int) from rfl, label_some s a c 32 (by omega) o1 o2 l1 l2 l3, Option.bind_some]
theorem num2_some (i : Nat) (h : i ≤ 1000) : numOf (i : Int) 2 = (numB i 2, 0) := numOf_small i 2 (by omega) (by omega) (by omega)
section
variable (l : List (List Int)) (hs : smallRows l) (hok : ∀ x ∈ l, byteOk x = true)
include hs hok
theorem shared_l0 : ∀ (d i : Nat), i + d = l.length → EvS (fun k => E.sched_Shared.l0 k (sharedTo l i) l (l.length : Int) (i : Int)) (sharedTo l l.length)
  | 0, i, h => EvS.now fun k => by
    rw [E.sched_Shared.l0, if_neg (by omega), show i = l.length by omega]
  | d + 1, i, h => EvS.step (fun k => by
    have hlt : i < l.length := by omega
    have e : E.rd_L1 l (i : Int) = l[i] := by unfold E.rd_L1; rw [Int.toNat_natCast]; simp [hlt]
    have hx := hs.2 l[i] (List.getElem_mem hlt)
    have hl := hs.1
    have hn : P.byt_Num.f (i : Int) 2 = some (numB i 2, 0) := congrArg some (num2_some i (by omega))
    have hlab := e_label l[i] labShared (numB i 2) (hok _ (List.getElem_mem hlt)) (byteOk_numB _ _) (by omega) (by decide) (by rw [numB_length]; omega)
    have hss := sharedTo_ok l i
    have hm : P.kdf_Extract.f (sharedTo l i) (labelOf l[i] labShared (numB i 2) 32) = some (sharedTo l (i + 1)) := by
      unfold P.kdf_Extract.f
      rw [mac_some _ _ hss.1 (byteOk_labelOf _ _ _ _) (by omega) (by rw [labelOf_length]; omega), sharedTo]
      simp [hlt]
    have hw := wrap_up i (by omega)
    rw [E.sched_Shared.l0, if_pos (by omega), if_pos (by omega), if_pos (by omega), hn, Option.bind_some, e]
    dsimp only
    rw [show (⟨#[115, 104, 97, 114, 101, 100]⟩ : ByteArray) = labShared from rfl, hlab, Option.bind_some, hm, Option.bind_some, hw]) (shared_l0 d (i + 1) (by omega))
end
instance (l : List (List Int)) : Decidable (smallRows l) := by unfold smallRows; infer_instance
namespace P
def sched_rows.f (l : List (List Int)) : Option (List Int) := if smallRows l then some (rowsB l) else none
theorem sched_rows.calls (A0 : Option Addr) (c0 : Nat) (l0 : List (List Int)) (r : List Int) (w : World) (hr0 : Kd.C (Kd.slice 5 (Kd.int .u8)) w A0 l0.length l0) (hc0 : l0.length ≤ c0) (h : sched_rows.f l0 = some r) :
    Calls Try.prog 65 #[.slice A0 l0.length c0] w fun e w' => ∃ v0_ : Value, e = .returned (v0_) ∧ Kd.R (Kd.int .u8) 5 w' w.heap.size (fun _ => True) v0_ r ∧ Below w.heap.size w w' := by
  unfold sched_rows.f at h
  split at h
  case isFalse => cases h
  case isTrue hok =>
  obtain ⟨k0, hk⟩ := rows_eq l0 hok
  exact E.sched_rows.calls k0 A0 c0 l0 r w hr0 hc0 ((hk k0 (Nat.le_refl _)).trans h)
def labelOk (s : List Int) (a : ByteArray) (c : List Int) : Prop := byteOk s = true ∧ byteOk c = true ∧ s.length ≤ 900000 ∧ a.size ≤ 100000 ∧ c.length ≤ 100000
instance (s : List Int) (a : ByteArray) (c : List Int) : Decidable (labelOk s a c) := by unfold labelOk; infer_instance
def sched_label.f (s : List Int) (a : ByteArray) (c : List Int) : Option (List Int) := if labelOk s a c then some (labelOf s a c 32) else none
theorem sched_label.calls (A0 : Option Addr) (c0 : Nat) (l0 : List Int) (a1 : ByteArray) (A2 : Option Addr) (c2 : Nat) (l2 : List Int) (r : List Int) (w : World) (hr0 : Kd.C (Kd.int .u8) w A0 l0.length l0) (hc0 : l0.length ≤ c0) (hr2 : Kd.C (Kd.int .u8) w A2 l2.length l2) (hc2 : l2.length ≤ c2) (h : sched_label.f l0 a1 l2 = some r) :
    Calls Try.prog 67 #[.slice A0 l0.length c0, .string a1, .slice A2 l2.length c2] w fun e w' => ∃ v0_ : Value, e = .returned (v0_) ∧ Kd.R (Kd.int .u8) 5 w' w.heap.size (fun _ => True) v0_ r ∧ Below w.heap.size w w' := by
  unfold sched_label.f at h
  split at h
  case isFalse => cases h
  case isTrue hok =>
  exact E.sched_label.calls A0 c0 l0 a1 A2 c2 l2 r w hr0 hc0 hr2 hc2 ((e_label l0 a1 l2 hok.1 hok.2.1 hok.2.2.1 hok.2.2.2.1 hok.2.2.2.2).trans h)
def sched_Shared.f (l : List (List Int)) : Option (List Int) := if smallRows l ∧ l.all byteOk = true then some (sharedTo l l.length) else none
theorem sched_Shared.calls (A0 : Option Addr) (c0 : Nat) (l0 : List (List Int)) (r : List Int) (w : World) (hr0 : Kd.C (Kd.slice 5 (Kd.int .u8)) w A0 l0.length l0) (hc0 : l0.length ≤ c0) (h : sched_Shared.f l0 = some r) :
    Calls Try.prog 38 #[.slice A0 l0.length c0] w fun e w' => ∃ v0_ : Value, e = .returned (v0_) ∧ Kd.R (Kd.int .u8) 5 w' w.heap.size (fun _ => True) v0_ r ∧ Below w.heap.size w w' := by
  unfold sched_Shared.f at h
  split at h
  case isFalse => cases h
  case isTrue hok =>
  obtain ⟨k0, hk⟩ := shared_l0 l0 hok.1 (fun x hx => List.all_eq_true.1 hok.2 x hx) l0.length 0 (by omega)
  refine E.sched_Shared.calls k0 A0 c0 l0 r w hr0 hc0 ?_
  unfold E.sched_Shared.f
  rw [if_pos (by omega)]
  exact (hk k0 (Nat.le_refl _)).trans h
end P
end Go.Proofs.Ytpdgeanicciaiaa

/-! SchedF -/
namespace Go.Proofs.Ytpdgeanicciaiaa
set_option linter.unusedVariables false
set_option linter.unusedSimpArgs false
open Go.RowKit Go.Proofs.YtpdgeanicciaiaaW.PrintWords Go.Proofs.YtpdgeanicciaiaaW.PrintLast Go.Proofs.YtpdgeanicciaiaaW.PrintMore Iter
theorem results_struct_tmp {P : Program} {fn : Func} {p u : Tmp} {ty : TypeId} (h : fn.results = #[.cell p ty, .tmp u]) (tmps : Array Value) (w : World) (g : Nat) (t : TypeId) (cs : Array Value) (fr : Nat × Nat) (d : TypeDesc)
    (hp : tmps.getD p undef = .pointer (some ⟨g, 0, none⟩)) (hg : w.heap[g]? = some (.cells cs t fr))
    (hu : P.underlying ty = some d) (hd : (match d with | .struct _ | .array _ _ => true | _ => false) = true) (hi : (P.info? ty).map (·.size) = some cs.size) :
    (results fn tmps).run P w = .ok (.tuple #[.agg cs, tmps.getD u undef]) w := by
  rw [results_cell_tmp h, hp]
  simp [asAddr, run_loadVar_row w g t ty cs fr d hg hu hd hi, Result.andThen]
def labEpoch : ByteArray := ⟨#[101, 112, 111, 99, 104]⟩
/-- What an epoch's secrets are made of. -/
def ownOf (joiner shared context : List Int) : List Int := labelOf (macSum joiner shared) labEpoch context 32
namespace P
def epochOk (a b c : List Int) : Prop := byteOk a = true ∧ byteOk b = true ∧ byteOk c = true ∧ a.length ≤ 100000 ∧ b.length ≤ 100000 ∧ c.length ≤ 100000
instance (a b c : List Int) : Decidable (epochOk a b c) := by unfold epochOk; infer_instance
def epochRows (a b c : List Int) : List Int × List Int × List Int × List Int × List Int × Int :=
  if a.length = 32 ∧ b.length = 32 then (epRow (ownOf a b c) 0, epRow (ownOf a b c) 1, epRow (ownOf a b c) 2, epRow (ownOf a b c) 3, epRow (ownOf a b c) 4, 0) else ([], [], [], [], [], 1)
def sched_Epoch.f (a b c : List Int) : Option (List Int × List Int × List Int × List Int × List Int × Int) := if epochOk a b c then some (epochRows a b c) else none
set_option maxRecDepth 100000 in
set_option maxHeartbeats 2000000 in
theorem sched_Epoch.calls (A0 : Option Addr) (c0 : Nat) (l0 : List Int) (A1 : Option Addr) (c1 : Nat) (l1 : List Int) (A2 : Option Addr) (c2 : Nat) (l2 : List Int) (r1 : List Int) (r2 : List Int) (r3 : List Int) (r4 : List Int) (r5 : List Int) (r6 : Int) (w : World) (hr0 : Kd.C (Kd.int .u8) w A0 l0.length l0) (hc0 : l0.length ≤ c0) (hr1 : Kd.C (Kd.int .u8) w A1 l1.length l1) (hc1 : l1.length ≤ c1) (hr2 : Kd.C (Kd.int .u8) w A2 l2.length l2) (hc2 : l2.length ≤ c2) (h : sched_Epoch.f l0 l1 l2 = some (r1, r2, r3, r4, r5, r6)) :
    Calls Try.prog 35 #[.slice A0 l0.length c0, .slice A1 l1.length c1, .slice A2 l2.length c2] w fun e w' => ∃ v0_ v1_ v2_ v3_ v4_ : Value, e = .returned (.tuple #[.agg #[v0_, v1_, v2_, v3_, v4_], .int .i64 r6]) ∧ Kd.R (Kd.int .u8) 5 w' w.heap.size (fun k_ => some k_ ≠ (v1_ : Value).ownBlock ∧ some k_ ≠ (v2_ : Value).ownBlock ∧ some k_ ≠ (v3_ : Value).ownBlock ∧ some k_ ≠ (v4_ : Value).ownBlock) v0_ r1 ∧ Kd.R (Kd.int .u8) 5 w' w.heap.size (fun k_ => some k_ ≠ (v0_ : Value).ownBlock ∧ some k_ ≠ (v2_ : Value).ownBlock ∧ some k_ ≠ (v3_ : Value).ownBlock ∧ some k_ ≠ (v4_ : Value).ownBlock) v1_ r2 ∧ Kd.R (Kd.int .u8) 5 w' w.heap.size (fun k_ => some k_ ≠ (v0_ : Value).ownBlock ∧ some k_ ≠ (v1_ : Value).ownBlock ∧ some k_ ≠ (v3_ : Value).ownBlock ∧ some k_ ≠ (v4_ : Value).ownBlock) v2_ r3 ∧ Kd.R (Kd.int .u8) 5 w' w.heap.size (fun k_ => some k_ ≠ (v0_ : Value).ownBlock ∧ some k_ ≠ (v1_ : Value).ownBlock ∧ some k_ ≠ (v2_ : Value).ownBlock ∧ some k_ ≠ (v4_ : Value).ownBlock) v3_ r4 ∧ Kd.R (Kd.int .u8) 5 w' w.heap.size (fun k_ => some k_ ≠ (v0_ : Value).ownBlock ∧ some k_ ≠ (v1_ : Value).ownBlock ∧ some k_ ≠ (v2_ : Value).ownBlock ∧ some k_ ≠ (v3_ : Value).ownBlock) v4_ r5 ∧ Below w.heap.size w w' := by
  unfold sched_Epoch.f at h
  split at h
  case isFalse => cases h
  case isTrue hok =>
  injection h with h
  obtain ⟨o0, o1, o2, n0, n1, n2⟩ := hok
  have b6 := (Blk.new w 60 nil5).alloc (Obj.cells #[.slice A0 l0.length c0, .slice A1 l1.length c1] 22)
  have hcw := c_two (w.alloc (Obj.cells nil5 60)) 22 A0 A1 c0 c1 l0 l1 (Kd.C_alloc hr0 _) hc0 (Kd.C_alloc hr1 _) hc1
  rw [World.size_alloc] at hcw
  have hb := ((Below.refl w.heap.size w).alloc (Nat.le_refl _) (Obj.cells nil5 60)).alloc (by rw [World.size_alloc]; omega) (Obj.cells #[.slice A0 l0.length c0, .slice A1 l1.length c1] 22)
  have hwh : sched_whole.f [l0, l1] = some (row32 l0 && row32 l1) := by
    unfold sched_whole.f
    rw [if_pos (by simp)]
    simp
  have hsz : ((w.alloc (Obj.cells nil5 60)).alloc (Obj.cells #[.slice A0 l0.length c0, .slice A1 l1.length c1] 22)).heap.size = w.heap.size + 2 := by simp
  have H0 := Lib.hid (And.intro b6 (And.intro hcw (And.intro hb (And.intro hwh hsz))))
  have HR := Lib.hid (And.intro hr0 (And.intro hr1 hr2))
  clear b6 hcw hb hwh hsz hr0 hr1 hr2
  by_cases h32 : l0.length = 32 ∧ l1.length = 32
  · have hbool : (row32 l0 && row32 l1) = true := by unfold row32; simp [h32.1, h32.2]
    have hres : epochRows l0 l1 l2 = (epRow (ownOf l0 l1 l2) 0, epRow (ownOf l0 l1 l2) 1, epRow (ownOf l0 l1 l2) 2, epRow (ownOf l0 l1 l2) 3, epRow (ownOf l0 l1 l2) 4, 0) := if_pos h32
    rw [hres] at h
    simp only [Prod.mk.injEq] at h
    obtain ⟨rfl, rfl, rfl, rfl, rfl, rfl⟩ := h
    have hm : kdf_Extract.f l0 l1 = some (macSum l0 l1) := mac_some l0 l1 o0 o1 (by omega) (by omega)
    have hml := macSum_length l0 l1
    have hmo := byteOk_macSum l0 l1
    have hown : ownOf l0 l1 l2 = labelOf (macSum l0 l1) labEpoch l2 32 := rfl
    generalize macSum l0 l1 = q at *
    have hlab : sched_label.f q labEpoch l2 = some (labelOf q labEpoch l2 32) := by
      unfold sched_label.f
      rw [if_pos ⟨hmo, o2, by omega, by decide, n2⟩]
    rw [← hown] at hlab
    have hol : (ownOf l0 l1 l2).length = 32 := labelOf_length _ _ _ _
    have hoo : byteOk (ownOf l0 l1 l2) = true := byteOk_labelOf _ _ _ _
    clear hown hres
    generalize ownOf l0 l1 l2 = own at *
    have HQ := Lib.hid (And.intro hm (And.intro hlab (And.intro hol (And.intro hoo hml))))
    have hw1 := H0.out.2.2.2.1
    rw [hbool] at hw1
    have HW := Lib.hid hw1
    clear hm hlab hol hoo hml hmo hw1 hbool h32 o0 o1 o2 n0 n1 n2
    go_enter Try.func35, Try.ntmps35
    go_wp2_with fail
    change Calls Try.prog 63 _ ((w.alloc (Obj.cells nil5 60)).alloc (Obj.cells #[.slice A0 l0.length c0, .slice A1 l1.length c1] 22)) _
    generalize (w.alloc (Obj.cells nil5 60)).alloc (Obj.cells #[.slice A0 l0.length c0, .slice A1 l1.length c1] 22) = W0 at *
    refine (sched_whole.calls _ 2 [l0, l1] true W0 H0.out.2.1 (Nat.le_refl _) HW.out).mono ?_
    rintro e w' ⟨rfl, ⟨nd, rfl⟩⟩
    go_wp2_with fail
    refine (kdf_Extract.calls A0 c0 l0 A1 c1 l1 q _ (Kd.C_drewN (Kd.C_below HR.out.1 H0.out.2.2.1) nd) hc0 (Kd.C_drewN (Kd.C_below HR.out.2.1 H0.out.2.2.1) nd) hc1 HQ.out.1).mono ?_
    rintro e W2 ⟨v2, rfl, hR2, hb2⟩
    have hbw2 := (pw_below_drewN H0.out.2.2.1 nd).trans (hb2.mono (by have := H0.out.2.2.2.2; show w.heap.size ≤ W0.heap.size; omega))
    have hB2 : Blk W2 w.heap.size 60 nil5 := Blk.below (w := W0.drewN nd) H0.out.1 hb2 H0.out.1.lt
    obtain ⟨A3, c3, rfl, hl3, hC3⟩ := Kd.R_reads hR2
    have H2 := Lib.hid (And.intro hbw2 (And.intro hB2 hC3))
    clear hbw2 hB2 hC3 hR2 hb2 HW H0
    go_wp2_with fail
    refine (sched_label.calls A3 c3 q labEpoch A2 c2 l2 own _ H2.out.2.2 hl3 (Kd.C_below HR.out.2.2 H2.out.1) hc2 HQ.out.2.1).mono ?_
    rintro e W4 ⟨v4, rfl, hR4, hb4⟩
    have hbw4 := H2.out.1.trans (hb4.mono H2.out.1.size)
    have hB4 := (H2.out.2.1.below hb4 H2.out.2.1.lt).alloc (Obj.cells labsV 9)
    obtain ⟨A5, c5, rfl, hl5, hC5⟩ := Kd.R_reads hR4
    have hC5' := Kd.C_alloc hC5 (Obj.cells labsV 9)
    have hbl := Blk.new W4 9 labsV
    have hbw5 := hbw4.alloc hbw4.size (Obj.cells labsV 9)
    have hF := fill_walk A5 c5 own W4.heap.size (W4.alloc (Obj.cells labsV 9)) hC5' hl5 HQ.out.2.2.2.1 (by rw [HQ.out.2.2.1]; omega) hbl
    have H4 := Lib.hid (And.intro hF (And.intro hB4 hbw5))
    clear hbw4 hB4 hC5 hC5' hbl hbw5 hF hR4 hb4 H2
    go_wp2_with fail
    change Calls Try.prog 69 _ (W4.alloc (Obj.cells labsV 9)) _
    generalize W4.alloc (Obj.cells labsV 9) = W5 at *
    refine H4.out.1.mono ?_
    rintro e W6 ⟨v0, v1, v2, v3, v4, rfl, ⟨M, hM, r0, r1, r2, r3, r4⟩, hb6⟩
    have hB6 := H4.out.2.1.below hb6 H4.out.2.1.lt
    have hbw6 := H4.out.2.2.trans (hb6.mono H4.out.2.2.size)
    have m0 : M 0 ≤ M 1 := hM 0 (by omega)
    have m1 : M 1 ≤ M 2 := hM 1 (by omega)
    have m2 : M 2 ≤ M 3 := hM 2 (by omega)
    have m3 : M 3 ≤ M 4 := hM 3 (by omega)
    have m4 : M 4 ≤ M 5 := hM 4 (by omega)
    have hlt := H4.out.2.1.lt
    have low : ∀ {i j : Nat} {v : Value} {x : List Int}, Kd.R (Kd.int .u8) 5 W6 W5.heap.size (fun b => M i ≤ b ∧ b < M j) v x → ∀ cs, Kd.R (Kd.int .u8) 5 (W6.setRow w.heap.size cs) w.heap.size (fun b => M i ≤ b ∧ b < M j) v x := fun hr cs =>
      Kd.R_lower (Kd.R_mono (Kd.R_step (Kd.R_bound hr) (fun b hb _ => heap_setRow_other W6 w.heap.size cs b (by have := hb.2.1; omega))) (fun b hb => hb.1)) (by omega)
    have hone : ∀ {i j : Nat} {v : Value} {n : Nat}, Kd.R (Kd.int .u8) 5 W6 W5.heap.size (fun b => M i ≤ b ∧ b < M j) v (epRow own n) → v.oneCell' = true := fun hr => by
      obtain ⟨g, c, e, -, -⟩ := Kd.R_form hr (by rw [show (epRow own _).length = 32 from labelOf_length _ _ _ _]; omega)
      rw [e]
      rfl
    have hall : (#[v0, v1, v2, v3, v4] : Array Value).all (·.oneCell') = true := by
      simp [hone r0, hone r1, hone r2, hone r3, hone r4]
    have HZ := Lib.hid (And.intro hB6 (And.intro hbw6 hall))
    have q0 := low r0
    have q1 := low r1
    have q2 := low r2
    have q3 := low r3
    have q4 := low r4
    have HL := Lib.hid (And.intro q0 (And.intro q1 (And.intro q2 (And.intro q3 q4))))
    have HO := Lib.hid (And.intro r0.1 (And.intro r1.1 (And.intro r2.1 (And.intro r3.1 r4.1))))
    clear hB6 hbw6 hall q0 q1 q2 q3 q4 r0 r1 r2 r3 r4 low hone hM hb6
    go_wp2_with (refine wpList_store_row rfl 60 (.tmp 6) (.tmp 22) rfl w.heap.size _ rfl rfl 60 nil5 HZ.out.1 infoEp rfl HZ.out.2.2 ?_)
    refine bodyPost_ret (results_struct_tmp rfl _ _ w.heap.size 60 #[v0, v1, v2, v3, v4] (0, 0) _ rfl (setRow_heap W6 w.heap.size _ _ _ _ HZ.out.1) Try.underlying60 rfl infoEp) rfl ?_
    obtain ⟨w0, w1, w2, w3, w4⟩ := HO.out
    refine ⟨v0, v1, v2, v3, v4, rfl, Kd.R_mono (HL.out.1 _) ?_, Kd.R_mono (HL.out.2.1 _) ?_, Kd.R_mono (HL.out.2.2.1 _) ?_, Kd.R_mono (HL.out.2.2.2.1 _) ?_, Kd.R_mono (HL.out.2.2.2.2 _) ?_, HZ.out.2.1.trans (Iter.below_setRow _ (Nat.le_refl _))⟩
    · exact fun b hb => ⟨fun e => by have := w1 b e.symm; omega, fun e => by have := w2 b e.symm; omega, fun e => by have := w3 b e.symm; omega, fun e => by have := w4 b e.symm; omega⟩
    · exact fun b hb => ⟨fun e => by have := w0 b e.symm; omega, fun e => by have := w2 b e.symm; omega, fun e => by have := w3 b e.symm; omega, fun e => by have := w4 b e.symm; omega⟩
    · exact fun b hb => ⟨fun e => by have := w0 b e.symm; omega, fun e => by have := w1 b e.symm; omega, fun e => by have := w3 b e.symm; omega, fun e => by have := w4 b e.symm; omega⟩
    · exact fun b hb => ⟨fun e => by have := w0 b e.symm; omega, fun e => by have := w1 b e.symm; omega, fun e => by have := w2 b e.symm; omega, fun e => by have := w4 b e.symm; omega⟩
    · exact fun b hb => ⟨fun e => by have := w0 b e.symm; omega, fun e => by have := w1 b e.symm; omega, fun e => by have := w2 b e.symm; omega, fun e => by have := w3 b e.symm; omega⟩
  · have hbool : (row32 l0 && row32 l1) = false := by
      unfold row32
      rw [Bool.and_eq_false_iff]
      by_cases h1 : l0.length = 32
      · exact .inr (by simpa using fun h2 => h32 ⟨h1, h2⟩)
      · exact .inl (by simpa using h1)
    have hres : epochRows l0 l1 l2 = ([], [], [], [], [], 1) := if_neg h32
    rw [hres] at h
    simp only [Prod.mk.injEq] at h
    obtain ⟨rfl, rfl, rfl, rfl, rfl, rfl⟩ := h
    have hw1 := H0.out.2.2.2.1
    rw [hbool] at hw1
    have HW := Lib.hid hw1
    clear hw1 hbool h32 o0 o1 o2 n0 n1 n2 hres HR
    go_enter Try.func35, Try.ntmps35
    go_wp2_with fail
    change Calls Try.prog 63 _ ((w.alloc (Obj.cells nil5 60)).alloc (Obj.cells #[.slice A0 l0.length c0, .slice A1 l1.length c1] 22)) _
    generalize (w.alloc (Obj.cells nil5 60)).alloc (Obj.cells #[.slice A0 l0.length c0, .slice A1 l1.length c1] 22) = W0 at *
    refine (sched_whole.calls _ 2 [l0, l1] false W0 H0.out.2.1 (Nat.le_refl _) HW.out).mono ?_
    rintro e w' ⟨rfl, ⟨nd, rfl⟩⟩
    have hB : Blk (W0.drewN nd) w.heap.size 60 nil5 := H0.out.1
    have hbw := pw_below_drewN H0.out.2.2.1 nd
    have HZ := Lib.hid (And.intro hB hbw)
    clear hB hbw
    go_wp2_with (refine wpList_store_row rfl 60 (.tmp 6) (.tmp 14) rfl w.heap.size nil5 rfl rfl 60 nil5 HZ.out.1 infoEp rfl (by simp [nil5, Value.oneCell']) ?_)
    refine bodyPost_ret (results_struct_tmp rfl _ _ w.heap.size 60 nil5 (0, 0) _ rfl (setRow_heap _ w.heap.size _ _ _ _ HZ.out.1) Try.underlying60 rfl infoEp) rfl ?_
    exact ⟨_, _, _, _, _, rfl, Kd.R_nil _ _ _ _ _, Kd.R_nil _ _ _ _ _, Kd.R_nil _ _ _ _ _, Kd.R_nil _ _ _ _ _, Kd.R_nil _ _ _ _ _, HZ.out.2.trans (Iter.below_setRow _ (Nat.le_refl _))⟩
end P
end Go.Proofs.Ytpdgeanicciaiaa

/-! SchedG -/
namespace Go.Proofs.Ytpdgeanicciaiaa
set_option linter.unusedVariables false
set_option linter.unusedSimpArgs false
open Go.RowKit Go.Proofs.YtpdgeanicciaiaaW.PrintWords Go.Proofs.YtpdgeanicciaiaaW.PrintLast Go.Proofs.YtpdgeanicciaiaaW.PrintMore Iter
theorem c_one (W : World) (T : Nat) (A : Option Addr) (c : Nat) (x : List Int) (hx : Kd.C (Kd.int .u8) W A x.length x) (hcx : x.length ≤ c) :
    Kd.C (Kd.slice 5 (Kd.int .u8)) (W.alloc (.cells #[.slice A x.length c] T)) (some ⟨W.heap.size, 0, none⟩) 1 [x] := by
  refine ⟨rfl, by omega, fun _ => ⟨_, rfl, fun j p hj => ?_⟩⟩
  have hcell : ∀ j, (W.alloc (.cells #[.slice A x.length c] T)).cell? ((⟨W.heap.size, 0, none⟩ : Addr).add j) = (#[Value.slice A x.length c] : Array Value)[j]? := fun j => by
    rw [add_plain]
    exact cell_of_row _ _ _ _ _ _ (heap_alloc_new W _)
  rcases j with _ | j
  · injection hj with hj
    subst hj
    refine ⟨[.slice A x.length c], rfl, ⟨A, c, rfl, hcx, Kd.C_alloc hx _⟩, fun i u hu => ?_⟩
    rcases i with _ | i
    · exact (hcell 0).trans hu
    · cases hu
  · cases hj
/-- A log with something more. -/
def logOf (log confirm b : List Int) : List Int := dig (rowB log ++ rowB confirm ++ rowB b)
theorem logOf_length (log confirm b : List Int) : (logOf log confirm b).length = 32 := dig_length _
theorem byteOk_logOf (log confirm b : List Int) : byteOk (logOf log confirm b) = true := byteOk_dig _
theorem row32_true {x : List Int} (h : x.length = 32) : row32 x = true := by unfold row32; simpa using h
theorem row32_false {x : List Int} (h : ¬ x.length = 32) : row32 x = false := by unfold row32; simpa using h
theorem whole_some (l : List (List Int)) (h : l.length ≤ 1000000) : P.sched_whole.f l = some (l.all row32) := by
  unfold P.sched_whole.f
  rw [if_pos h]
theorem three_ok (a b c : List Int) (oa : byteOk a = true) (ob : byteOk b = true) (oc : byteOk c = true) (la : a.length ≤ 100000) (lb : b.length ≤ 100000) (lc : c.length ≤ 100000) :
    byteOk (rowB a ++ rowB b ++ rowB c) = true ∧ (rowB a ++ rowB b ++ rowB c).length ≤ 300012 := by
  refine ⟨?_, ?_⟩
  · rw [byteOk_append, byteOk_append]
    exact ⟨⟨byteOk_rowB _ oa, byteOk_rowB _ ob⟩, byteOk_rowB _ oc⟩
  · have h1 := rowB_length a
    have h2 := rowB_length b
    have h3 := rowB_length c
    rw [List.length_append, List.length_append]
    omega
namespace P
def okThree (a b c : List Int) : Prop := byteOk a = true ∧ byteOk b = true ∧ byteOk c = true ∧ a.length ≤ 100000 ∧ b.length ≤ 100000 ∧ c.length ≤ 100000
instance (a b c : List Int) : Decidable (okThree a b c) := by unfold okThree; infer_instance
def sched_Log.f (a b c : List Int) : Option (List Int × Int) := if okThree a b c then some (if a.length = 32 then (logOf a b c, 0) else ([], 1)) else none
set_option maxRecDepth 100000 in
set_option maxHeartbeats 2000000 in
theorem sched_Log.calls (A0 : Option Addr) (c0 : Nat) (l0 : List Int) (A1 : Option Addr) (c1 : Nat) (l1 : List Int) (A2 : Option Addr) (c2 : Nat) (l2 : List Int) (r1 : List Int) (r2 : Int) (w : World) (hr0 : Kd.C (Kd.int .u8) w A0 l0.length l0) (hc0 : l0.length ≤ c0) (hr1 : Kd.C (Kd.int .u8) w A1 l1.length l1) (hc1 : l1.length ≤ c1) (hr2 : Kd.C (Kd.int .u8) w A2 l2.length l2) (hc2 : l2.length ≤ c2) (h : sched_Log.f l0 l1 l2 = some (r1, r2)) :
    Calls Try.prog 41 #[.slice A0 l0.length c0, .slice A1 l1.length c1, .slice A2 l2.length c2] w fun e w' => ∃ v0_ : Value, e = .returned (.tuple #[v0_, .int .i64 r2]) ∧ Kd.R (Kd.int .u8) 5 w' w.heap.size (fun _ => True) v0_ r1 ∧ Below w.heap.size w w' := by
  unfold sched_Log.f at h
  split at h
  case isFalse => cases h
  case isTrue hok =>
  injection h with h
  obtain ⟨o0, o1, o2, n0, n1, n2⟩ := hok
  have hcw := c_one w 22 A0 c0 l0 hr0 hc0
  have hb := (Below.refl w.heap.size w).alloc (Nat.le_refl _) (Obj.cells #[.slice A0 l0.length c0] 22)
  have hwh := whole_some [l0] (by simp)
  by_cases h32 : l0.length = 32
  · rw [if_pos h32] at h
    injection h with h1 h2
    subst h1 h2
    rw [show [l0].all row32 = true by simp [row32_true h32]] at hwh
    have hrs : sched_rows.f [l0, l1, l2] = some (rowB l0 ++ rowB l1 ++ rowB l2) := by
      unfold sched_rows.f
      rw [if_pos ⟨by simp, by simp; omega⟩]
      simp [rowsB]
    obtain ⟨t1, t2⟩ := three_ok l0 l1 l2 o0 o1 o2 n0 n1 n2
    have hsm : sha_Sum.f (rowB l0 ++ rowB l1 ++ rowB l2) = some (logOf l0 l1 l2) := by
      unfold sha_Sum.f
      rw [if_pos ⟨t1, by omega⟩]
      rfl
    generalize rowB l0 ++ rowB l1 ++ rowB l2 = x at *
    have H0 := Lib.hid (And.intro hcw (And.intro hb (And.intro hwh (And.intro hrs hsm))))
    have HR := Lib.hid (And.intro hr0 (And.intro hr1 hr2))
    clear hcw hb hwh hrs hsm hr0 hr1 hr2 h32 o0 o1 o2 n0 n1 n2 t1 t2
    go_enter Try.func41, Try.ntmps41
    go_wp2_with fail
    refine (sched_whole.calls _ 1 [l0] true _ H0.out.1 (Nat.le_refl _) H0.out.2.2.1).mono ?_
    rintro e w' ⟨rfl, ⟨nd, rfl⟩⟩
    have hb1 := pw_below_drewN H0.out.2.1 nd
    generalize (w.alloc (Obj.cells #[.slice A0 l0.length c0] 22)).drewN nd = W1 at *
    have hcw2 := c_three W1 22 A0 A1 A2 c0 c1 c2 l0 l1 l2 (Kd.C_below HR.out.1 hb1) hc0 (Kd.C_below HR.out.2.1 hb1) hc1 (Kd.C_below HR.out.2.2 hb1) hc2
    have hb2 := hb1.alloc hb1.size (Obj.cells #[.slice A0 l0.length c0, .slice A1 l1.length c1, .slice A2 l2.length c2] 22)
    have H1 := Lib.hid (And.intro hcw2 hb2)
    clear hcw2 hb2 hb1
    go_wp2_with fail
    refine (sched_rows.calls _ 3 [l0, l1, l2] x _ H1.out.1 (Nat.le_refl _) H0.out.2.2.2.1).mono ?_
    rintro e W3 ⟨v3, rfl, hR3, hb3⟩
    have hb4 := H1.out.2.trans (hb3.mono H1.out.2.size)
    obtain ⟨A3, c3, rfl, hl3, hC3⟩ := Kd.R_reads hR3
    have H3 := Lib.hid (And.intro hC3 hb4)
    clear hC3 hb4 hR3 hb3 H1
    go_wp2_with fail
    refine (sha_Sum.calls A3 c3 x (logOf l0 l1 l2) _ H3.out.1 hl3 H0.out.2.2.2.2).mono ?_
    rintro e W5 ⟨v5, rfl, hR5, hb5⟩
    go_wp2
    go_ret2
    exact ⟨_, rfl, Kd.R_lower hR5 H3.out.2.size, H3.out.2.trans (hb5.mono H3.out.2.size)⟩
  · rw [if_neg h32] at h
    injection h with h1 h2
    subst h1 h2
    rw [show [l0].all row32 = false by simp [row32_false h32]] at hwh
    have H0 := Lib.hid (And.intro hcw (And.intro hb hwh))
    clear hcw hb hwh hr0 hr1 hr2 h32 o0 o1 o2 n0 n1 n2
    go_enter Try.func41, Try.ntmps41
    go_wp2_with fail
    refine (sched_whole.calls _ 1 [l0] false _ H0.out.1 (Nat.le_refl _) H0.out.2.2).mono ?_
    rintro e w' ⟨rfl, ⟨nd, rfl⟩⟩
    have hb1 := pw_below_drewN H0.out.2.1 nd
    have HB := Lib.hid hb1
    clear hb1
    go_wp2
    go_ret2
    exact ⟨_, rfl, Kd.R_nil _ _ _ _ _, HB.out⟩
end P
end Go.Proofs.Ytpdgeanicciaiaa

/-! SchedK -/
namespace Go.Proofs.Ytpdgeanicciaiaa
set_option linter.unusedVariables false
set_option linter.unusedSimpArgs false
open Go.RowKit Go.Proofs.YtpdgeanicciaiaaW.PrintWords Go.Proofs.YtpdgeanicciaiaaW.PrintLast Go.Proofs.YtpdgeanicciaiaaW.PrintMore Iter
theorem c_five (W : World) (T : Nat) (A B D E F : Option Addr) (c d e f g : Nat) (x y z u v : List Int) (hx : Kd.C (Kd.int .u8) W A x.length x) (hcx : x.length ≤ c) (hy : Kd.C (Kd.int .u8) W B y.length y) (hcy : y.length ≤ d) (hz : Kd.C (Kd.int .u8) W D z.length z) (hcz : z.length ≤ e) (hu : Kd.C (Kd.int .u8) W E u.length u) (hcu : u.length ≤ f) (hv : Kd.C (Kd.int .u8) W F v.length v) (hcv : v.length ≤ g) :
    Kd.C (Kd.slice 5 (Kd.int .u8)) (W.alloc (.cells #[.slice A x.length c, .slice B y.length d, .slice D z.length e, .slice E u.length f, .slice F v.length g] T)) (some ⟨W.heap.size, 0, none⟩) 5 [x, y, z, u, v] := by
  refine ⟨rfl, by omega, fun _ => ⟨_, rfl, fun j p hj => ?_⟩⟩
  have hcell : ∀ j, (W.alloc (.cells #[.slice A x.length c, .slice B y.length d, .slice D z.length e, .slice E u.length f, .slice F v.length g] T)).cell? ((⟨W.heap.size, 0, none⟩ : Addr).add j) = (#[.slice A x.length c, .slice B y.length d, .slice D z.length e, .slice E u.length f, .slice F v.length g] : Array Value)[j]? := fun j => by
    rw [add_plain]
    exact cell_of_row _ _ _ _ _ _ (heap_alloc_new W _)
  rcases j with _ | j
  · injection hj with hj
    subst hj
    refine ⟨[.slice A x.length c], rfl, ⟨A, c, rfl, hcx, Kd.C_alloc hx _⟩, fun i u hu => ?_⟩
    rcases i with _ | i
    · exact (hcell 0).trans hu
    · cases hu
  rcases j with _ | j
  · injection hj with hj
    subst hj
    refine ⟨[.slice B y.length d], rfl, ⟨B, d, rfl, hcy, Kd.C_alloc hy _⟩, fun i u hu => ?_⟩
    rcases i with _ | i
    · exact (hcell 1).trans hu
    · cases hu
  rcases j with _ | j
  · injection hj with hj
    subst hj
    refine ⟨[.slice D z.length e], rfl, ⟨D, e, rfl, hcz, Kd.C_alloc hz _⟩, fun i u hu => ?_⟩
    rcases i with _ | i
    · exact (hcell 2).trans hu
    · cases hu
  rcases j with _ | j
  · injection hj with hj
    subst hj
    refine ⟨[.slice E u.length f], rfl, ⟨E, f, rfl, hcu, Kd.C_alloc hu _⟩, fun i u hu => ?_⟩
    rcases i with _ | i
    · exact (hcell 3).trans hu
    · cases hu
  rcases j with _ | j
  · injection hj with hj
    subst hj
    refine ⟨[.slice F v.length g], rfl, ⟨F, g, rfl, hcv, Kd.C_alloc hv _⟩, fun i u hu => ?_⟩
    rcases i with _ | i
    · exact (hcell 4).trans hu
    · cases hu
  cases hj
theorem num6_in (n : Nat) (h : n < 281474976710656) : numOf (n : Int) 6 = (numB n 6, 0) := numOf_small n 6 (by omega) (by omega) (by simpa using h)
/-- What an epoch belongs to. -/
def ctxOf (own : List Int) (n : Nat) (tree log : List Int) : List Int := rowB own ++ numB n 6 ++ rowB tree ++ rowB log
def ctxIs (own : List Int) (epoch : Int) (tree log : List Int) : Prop := 0 ≤ epoch ∧ epoch < 281474976710656 ∧ own.length ≤ 255 ∧ tree.length = 32 ∧ log.length = 32
instance (own : List Int) (epoch : Int) (tree log : List Int) : Decidable (ctxIs own epoch tree log) := by unfold ctxIs; infer_instance
def ctxRes (own : List Int) (epoch : Int) (tree log : List Int) : List Int × Int := if ctxIs own epoch tree log then (ctxOf own epoch.toNat tree log, 0) else ([], 1)
theorem ctx_ok (own : List Int) (n : Nat) (tree log : List Int) (o0 : byteOk own = true) (o1 : byteOk tree = true) (o2 : byteOk log = true) (h0 : own.length ≤ 255) (h1 : tree.length = 32) (h2 : log.length = 32) :
    byteOk (ctxOf own n tree log) = true ∧ (ctxOf own n tree log).length ≤ 400 := by
  unfold ctxOf
  refine ⟨?_, ?_⟩
  · rw [byteOk_append, byteOk_append, byteOk_append]
    exact ⟨⟨⟨byteOk_rowB _ o0, byteOk_numB _ _⟩, byteOk_rowB _ o1⟩, byteOk_rowB _ o2⟩
  · have a := rowB_length own
    have b := rowB_length tree
    have c := rowB_length log
    rw [List.length_append, List.length_append, List.length_append, numB_length]
    omega
theorem ctxRes_no (own : List Int) (epoch : Int) (tree log : List Int) (h : ¬ ctxIs own epoch tree log) : ctxRes own epoch tree log = ([], 1) := if_neg h
theorem ctxRes_yes (own : List Int) (n : Nat) (tree log : List Int) (h : ctxIs own (n : Int) tree log) : ctxRes own (n : Int) tree log = (ctxOf own n tree log, 0) := if_pos h
theorem rows_some (l : List (List Int)) (h : l.length ≤ 1000) (h2 : ∀ x ∈ l, x.length ≤ 100000) : P.sched_rows.f l = some (rowsB l) := by
  unfold P.sched_rows.f
  rw [if_pos ⟨h, h2⟩]
def labJoiner : ByteArray := ⟨#[106, 111, 105, 110, 101, 114]⟩
def labExported : ByteArray := ⟨#[101, 120, 112, 111, 114, 116, 101, 100]⟩
def joinerOf (a b c : List Int) : List Int := labelOf (macSum a b) labJoiner c 32
def joinerRes (a b c : List Int) : List Int × Int := if a.length = 32 ∧ b.length = 32 then (joinerOf a b c, 0) else ([], 1)
theorem lab_some (s : List Int) (a : ByteArray) (c : List Int) (o1 : byteOk s = true) (o2 : byteOk c = true) (l1 : s.length ≤ 900000) (l2 : a.size ≤ 100000) (l3 : c.length ≤ 100000) : P.sched_label.f s a c = some (labelOf s a c 32) := by
  unfold P.sched_label.f
  rw [if_pos ⟨o1, o2, l1, l2, l3⟩]
def proofRes (r : Bool) (confirm log : List Int) : List Int × Int := if r = true ∧ log.length = 32 then (macSum confirm log, 0) else ([], 1)
def exportRes (r : Bool) (s : List Int) (a : ByteArray) (c : List Int) (n : Int) : List Int × Int := if r = true ∧ 0 ≤ n ∧ n ≤ 8160 then (labelOf (labelOf s a [] 32) labExported (dig c) n.toNat, 0) else ([], 1)
theorem sha_some (x : List Int) (h : byteOk x = true) (hl : x.length ≤ 900000) : P.sha_Sum.f x = some (dig x) := by
  unfold P.sha_Sum.f
  rw [if_pos ⟨h, by omega⟩]
  rfl
namespace P
set_option maxRecDepth 100000 in
set_option maxHeartbeats 1000000 in
theorem right_calls (A0_0 : Option Addr) (c0_0 : Nat) (l0_0 : List Int) (A0_1 : Option Addr) (c0_1 : Nat) (l0_1 : List Int) (A0_2 : Option Addr) (c0_2 : Nat) (l0_2 : List Int) (A0_3 : Option Addr) (c0_3 : Nat) (l0_3 : List Int) (A0_4 : Option Addr) (c0_4 : Nat) (l0_4 : List Int) (w : World) (hr0_0 : Kd.C (Kd.int .u8) w A0_0 l0_0.length l0_0) (hc0_0 : l0_0.length ≤ c0_0) (hr0_1 : Kd.C (Kd.int .u8) w A0_1 l0_1.length l0_1) (hc0_1 : l0_1.length ≤ c0_1) (hr0_2 : Kd.C (Kd.int .u8) w A0_2 l0_2.length l0_2) (hc0_2 : l0_2.length ≤ c0_2) (hr0_3 : Kd.C (Kd.int .u8) w A0_3 l0_3.length l0_3) (hc0_3 : l0_3.length ≤ c0_3) (hr0_4 : Kd.C (Kd.int .u8) w A0_4 l0_4.length l0_4) (hc0_4 : l0_4.length ≤ c0_4) :
    Calls Try.prog 71 #[.agg #[.slice A0_0 l0_0.length c0_0, .slice A0_1 l0_1.length c0_1, .slice A0_2 l0_2.length c0_2, .slice A0_3 l0_3.length c0_3, .slice A0_4 l0_4.length c0_4]] w fun e w' => e = .returned (.bool ([l0_0, l0_1, l0_2, l0_3, l0_4].all row32)) ∧ Below w.heap.size w w' := by
  have hB := Blk.new w 60 #[.slice A0_0 l0_0.length c0_0, .slice A0_1 l0_1.length c0_1, .slice A0_2 l0_2.length c0_2, .slice A0_3 l0_3.length c0_3, .slice A0_4 l0_4.length c0_4]
  have hw := c_five (w.alloc (Obj.cells #[.slice A0_0 l0_0.length c0_0, .slice A0_1 l0_1.length c0_1, .slice A0_2 l0_2.length c0_2, .slice A0_3 l0_3.length c0_3, .slice A0_4 l0_4.length c0_4] 60)) 22 A0_0 A0_1 A0_2 A0_3 A0_4 c0_0 c0_1 c0_2 c0_3 c0_4 l0_0 l0_1 l0_2 l0_3 l0_4 (Kd.C_alloc hr0_0 _) hc0_0 (Kd.C_alloc hr0_1 _) hc0_1 (Kd.C_alloc hr0_2 _) hc0_2 (Kd.C_alloc hr0_3 _) hc0_3 (Kd.C_alloc hr0_4 _) hc0_4
  rw [World.size_alloc] at hw
  have hb := ((Below.refl w.heap.size w).alloc (Nat.le_refl _) (Obj.cells #[.slice A0_0 l0_0.length c0_0, .slice A0_1 l0_1.length c0_1, .slice A0_2 l0_2.length c0_2, .slice A0_3 l0_3.length c0_3, .slice A0_4 l0_4.length c0_4] 60)).alloc (by rw [World.size_alloc]; omega) (Obj.cells #[.slice A0_0 l0_0.length c0_0, .slice A0_1 l0_1.length c0_1, .slice A0_2 l0_2.length c0_2, .slice A0_3 l0_3.length c0_3, .slice A0_4 l0_4.length c0_4] 22)
  have k0 : (w.alloc (Obj.cells #[.slice A0_0 l0_0.length c0_0, .slice A0_1 l0_1.length c0_1, .slice A0_2 l0_2.length c0_2, .slice A0_3 l0_3.length c0_3, .slice A0_4 l0_4.length c0_4] 60)).cell? ⟨w.heap.size, 0, none⟩ = some (.slice A0_0 l0_0.length c0_0) := (hB.cell 0).trans rfl
  have k1 : (w.alloc (Obj.cells #[.slice A0_0 l0_0.length c0_0, .slice A0_1 l0_1.length c0_1, .slice A0_2 l0_2.length c0_2, .slice A0_3 l0_3.length c0_3, .slice A0_4 l0_4.length c0_4] 60)).cell? ⟨w.heap.size, 1, none⟩ = some (.slice A0_1 l0_1.length c0_1) := (hB.cell 1).trans rfl
  have k2 : (w.alloc (Obj.cells #[.slice A0_0 l0_0.length c0_0, .slice A0_1 l0_1.length c0_1, .slice A0_2 l0_2.length c0_2, .slice A0_3 l0_3.length c0_3, .slice A0_4 l0_4.length c0_4] 60)).cell? ⟨w.heap.size, 2, none⟩ = some (.slice A0_2 l0_2.length c0_2) := (hB.cell 2).trans rfl
  have k3 : (w.alloc (Obj.cells #[.slice A0_0 l0_0.length c0_0, .slice A0_1 l0_1.length c0_1, .slice A0_2 l0_2.length c0_2, .slice A0_3 l0_3.length c0_3, .slice A0_4 l0_4.length c0_4] 60)).cell? ⟨w.heap.size, 3, none⟩ = some (.slice A0_3 l0_3.length c0_3) := (hB.cell 3).trans rfl
  have k4 : (w.alloc (Obj.cells #[.slice A0_0 l0_0.length c0_0, .slice A0_1 l0_1.length c0_1, .slice A0_2 l0_2.length c0_2, .slice A0_3 l0_3.length c0_3, .slice A0_4 l0_4.length c0_4] 60)).cell? ⟨w.heap.size, 4, none⟩ = some (.slice A0_4 l0_4.length c0_4) := (hB.cell 4).trans rfl
  have hwh := whole_some [l0_0, l0_1, l0_2, l0_3, l0_4] (by simp)
  generalize [l0_0, l0_1, l0_2, l0_3, l0_4].all row32 = r at *
  have H := Lib.hid (And.intro hw (And.intro hb hwh))
  clear hB hw hb hwh
  go_enter Try.func71, Try.ntmps71
  go_wp2_with fail
  refine (sched_whole.calls _ 5 [l0_0, l0_1, l0_2, l0_3, l0_4] _ _ H.out.1 (Nat.le_refl _) H.out.2.2).mono ?_
  rintro e w' ⟨rfl, ⟨nd, rfl⟩⟩
  go_wp2
  go_ret
  exact ⟨rfl, pw_below_drewN H.out.2.1 nd⟩
def sched_Proof.f (l0_0 l0_1 l0_2 l0_3 l0_4 l1 : List Int) : Option (List Int × Int) := if byteOk l0_3 = true ∧ byteOk l1 = true ∧ l0_3.length ≤ 100000 ∧ l1.length ≤ 100000 then some (proofRes ([l0_0, l0_1, l0_2, l0_3, l0_4].all row32) l0_3 l1) else none
set_option maxRecDepth 100000 in
set_option maxHeartbeats 2000000 in
theorem sched_Proof.calls (A0_0 : Option Addr) (c0_0 : Nat) (l0_0 : List Int) (A0_1 : Option Addr) (c0_1 : Nat) (l0_1 : List Int) (A0_2 : Option Addr) (c0_2 : Nat) (l0_2 : List Int) (A0_3 : Option Addr) (c0_3 : Nat) (l0_3 : List Int) (A0_4 : Option Addr) (c0_4 : Nat) (l0_4 : List Int) (A1 : Option Addr) (c1 : Nat) (l1 : List Int) (r1 : List Int) (r2 : Int) (w : World) (hr0_0 : Kd.C (Kd.int .u8) w A0_0 l0_0.length l0_0) (hc0_0 : l0_0.length ≤ c0_0) (hr0_1 : Kd.C (Kd.int .u8) w A0_1 l0_1.length l0_1) (hc0_1 : l0_1.length ≤ c0_1) (hr0_2 : Kd.C (Kd.int .u8) w A0_2 l0_2.length l0_2) (hc0_2 : l0_2.length ≤ c0_2) (hr0_3 : Kd.C (Kd.int .u8) w A0_3 l0_3.length l0_3) (hc0_3 : l0_3.length ≤ c0_3) (hr0_4 : Kd.C (Kd.int .u8) w A0_4 l0_4.length l0_4) (hc0_4 : l0_4.length ≤ c0_4) (hr1 : Kd.C (Kd.int .u8) w A1 l1.length l1) (hc1 : l1.length ≤ c1) (h : sched_Proof.f l0_0 l0_1 l0_2 l0_3 l0_4 l1 = some (r1, r2)) :
    Calls Try.prog 43 #[.agg #[.slice A0_0 l0_0.length c0_0, .slice A0_1 l0_1.length c0_1, .slice A0_2 l0_2.length c0_2, .slice A0_3 l0_3.length c0_3, .slice A0_4 l0_4.length c0_4], .slice A1 l1.length c1] w fun e w' => ∃ v0_ : Value, e = .returned (.tuple #[v0_, .int .i64 r2]) ∧ Kd.R (Kd.int .u8) 5 w' w.heap.size (fun _ => True) v0_ r1 ∧ Below w.heap.size w w' := by
  unfold sched_Proof.f at h
  split at h
  case isFalse => cases h
  case isTrue hok =>
  injection h with h
  obtain ⟨o0, o1, n0, n1⟩ := hok
  have hB := Blk.new w 60 #[.slice A0_0 l0_0.length c0_0, .slice A0_1 l0_1.length c0_1, .slice A0_2 l0_2.length c0_2, .slice A0_3 l0_3.length c0_3, .slice A0_4 l0_4.length c0_4]
  have hb := (Below.refl w.heap.size w).alloc (Nat.le_refl _) (Obj.cells #[.slice A0_0 l0_0.length c0_0, .slice A0_1 l0_1.length c0_1, .slice A0_2 l0_2.length c0_2, .slice A0_3 l0_3.length c0_3, .slice A0_4 l0_4.length c0_4] 60)
  have hR := right_calls A0_0 c0_0 l0_0 A0_1 c0_1 l0_1 A0_2 c0_2 l0_2 A0_3 c0_3 l0_3 A0_4 c0_4 l0_4 (w.alloc (Obj.cells #[.slice A0_0 l0_0.length c0_0, .slice A0_1 l0_1.length c0_1, .slice A0_2 l0_2.length c0_2, .slice A0_3 l0_3.length c0_3, .slice A0_4 l0_4.length c0_4] 60)) (Kd.C_alloc hr0_0 _) hc0_0 (Kd.C_alloc hr0_1 _) hc0_1 (Kd.C_alloc hr0_2 _) hc0_2 (Kd.C_alloc hr0_3 _) hc0_3 (Kd.C_alloc hr0_4 _) hc0_4
  obtain ⟨r, hr⟩ : ∃ r, [l0_0, l0_1, l0_2, l0_3, l0_4].all row32 = r := ⟨_, rfl⟩
  rw [hr] at hR h
  have hm := mac_some l0_3 l1 o0 o1 (by omega) (by omega)
  have H := Lib.hid (And.intro hB (And.intro hb (And.intro hR (And.intro hr0_3 (And.intro hr1 hm)))))
  clear hB hb hR hr hm hr0_0 hr0_1 hr0_2 hr0_3 hr0_4 hr1 o0 o1 n0 n1
  cases r with
  | false =>
    have hres : proofRes false l0_3 l1 = ([], 1) := if_neg (by simp)
    rw [hres] at h
    injection h with h1 h2
    subst h1 h2
    clear hres
    go_enter Try.func43, Try.ntmps43
    go_wp2_with (refine wpList_load_row rfl 60 (.tmp 2) rfl w.heap.size rfl 60 _ (0, 0) _ H.out.1 Try.underlying60 rfl infoEp ?_)
    refine H.out.2.2.1.mono ?_
    rintro e W1 ⟨rfl, hb1⟩
    have HB := Lib.hid (H.out.2.1.trans (hb1.mono (by rw [World.size_alloc]; omega)))
    clear hb1
    go_wp2
    go_ret2
    exact ⟨_, rfl, Kd.R_nil _ _ _ _ _, HB.out⟩
  | true =>
    have hwh := whole_some [l1] (by simp)
    by_cases h32 : l1.length = 32
    · rw [show [l1].all row32 = true by simp [row32_true h32]] at hwh
      rw [show proofRes true l0_3 l1 = (macSum l0_3 l1, 0) from if_pos ⟨rfl, h32⟩] at h
      injection h with h1 h2
      subst h1 h2
      have HW := Lib.hid hwh
      clear hwh h32
      go_enter Try.func43, Try.ntmps43
      go_wp2_with (refine wpList_load_row rfl 60 (.tmp 2) rfl w.heap.size rfl 60 _ (0, 0) _ H.out.1 Try.underlying60 rfl infoEp ?_)
      refine H.out.2.2.1.mono ?_
      rintro e W1 ⟨rfl, hb1⟩
      have hw1 := H.out.2.1.trans (hb1.mono (by rw [World.size_alloc]; omega))
      have hB1 := H.out.1.below hb1 H.out.1.lt
      have hcell := ((hB1.alloc (Obj.cells #[.slice A1 l1.length c1] 22)).cell 3).trans (rfl : _ = some (Value.slice A0_3 l0_3.length c0_3))
      have hcw := c_one W1 22 A1 c1 l1 (Kd.C_below H.out.2.2.2.2.1 hw1) hc1
      have hw2 := hw1.alloc hw1.size (Obj.cells #[.slice A1 l1.length c1] 22)
      have H1 := Lib.hid (And.intro hcw (And.intro hw2 hcell))
      clear hb1 hw1 hB1 hcell hcw hw2
      go_wp2_with fail
      refine (sched_whole.calls _ 1 [l1] _ _ H1.out.1 (Nat.le_refl _) HW.out).mono ?_
      rintro e w' ⟨rfl, ⟨nd, rfl⟩⟩
      have hw3 := pw_below_drewN H1.out.2.1 nd
      have hcell := H1.out.2.2
      clear H1
      generalize W1.alloc (Obj.cells #[.slice A1 l1.length c1] 22) = W2 at *
      have hcell : (W2.drewN nd).cell? ⟨w.heap.size, 3, none⟩ = some (Value.slice A0_3 l0_3.length c0_3) := hcell
      have H2 := Lib.hid hw3
      clear hw3
      go_wp2_with fail
      refine (mac_Sum.calls A0_3 c0_3 l0_3 A1 c1 l1 (macSum l0_3 l1) _ (Kd.C_below H.out.2.2.2.1 H2.out) hc0_3 (Kd.C_below H.out.2.2.2.2.1 H2.out) hc1 H.out.2.2.2.2.2).mono ?_
      rintro e W5 ⟨v5, rfl, hR5, hb5⟩
      go_wp2
      go_ret2
      exact ⟨_, rfl, Kd.R_lower hR5 H2.out.size, H2.out.trans (hb5.mono H2.out.size)⟩
    · rw [show [l1].all row32 = false by simp [row32_false h32]] at hwh
      rw [show proofRes true l0_3 l1 = ([], 1) from if_neg (fun q => h32 q.2)] at h
      injection h with h1 h2
      subst h1 h2
      have HW := Lib.hid hwh
      clear hwh h32
      go_enter Try.func43, Try.ntmps43
      go_wp2_with (refine wpList_load_row rfl 60 (.tmp 2) rfl w.heap.size rfl 60 _ (0, 0) _ H.out.1 Try.underlying60 rfl infoEp ?_)
      refine H.out.2.2.1.mono ?_
      rintro e W1 ⟨rfl, hb1⟩
      have hw1 := H.out.2.1.trans (hb1.mono (by rw [World.size_alloc]; omega))
      have hB1 := H.out.1.below hb1 H.out.1.lt
      have hcell := ((hB1.alloc (Obj.cells #[.slice A1 l1.length c1] 22)).cell 3).trans (rfl : _ = some (Value.slice A0_3 l0_3.length c0_3))
      have hcw := c_one W1 22 A1 c1 l1 (Kd.C_below H.out.2.2.2.2.1 hw1) hc1
      have hw2 := hw1.alloc hw1.size (Obj.cells #[.slice A1 l1.length c1] 22)
      have H1 := Lib.hid (And.intro hcw (And.intro hw2 hcell))
      clear hb1 hw1 hB1 hcell hcw hw2
      go_wp2_with fail
      refine (sched_whole.calls _ 1 [l1] _ _ H1.out.1 (Nat.le_refl _) HW.out).mono ?_
      rintro e w' ⟨rfl, ⟨nd, rfl⟩⟩
      have hw3 := pw_below_drewN H1.out.2.1 nd
      have hcell := H1.out.2.2
      clear H1
      generalize W1.alloc (Obj.cells #[.slice A1 l1.length c1] 22) = W2 at *
      have hcell : (W2.drewN nd).cell? ⟨w.heap.size, 3, none⟩ = some (Value.slice A0_3 l0_3.length c0_3) := hcell
      have H2 := Lib.hid hw3
      clear hw3
      go_wp2_with fail
      go_ret2
      exact ⟨_, rfl, Kd.R_nil _ _ _ _ _, H2.out⟩
def sched_Export.f (l0_0 l0_1 l0_2 l0_3 l0_4 : List Int) (a1 : ByteArray) (l2 : List Int) (a3 : Int) : Option (List Int × Int) := if byteOk l0_2 = true ∧ byteOk l2 = true ∧ l0_2.length ≤ 100000 ∧ a1.size ≤ 100000 ∧ l2.length ≤ 100000 then some (exportRes ([l0_0, l0_1, l0_2, l0_3, l0_4].all row32) l0_2 a1 l2 a3) else none
set_option maxRecDepth 100000 in
set_option maxHeartbeats 2000000 in
theorem sched_Export.calls (A0_0 : Option Addr) (c0_0 : Nat) (l0_0 : List Int) (A0_1 : Option Addr) (c0_1 : Nat) (l0_1 : List Int) (A0_2 : Option Addr) (c0_2 : Nat) (l0_2 : List Int) (A0_3 : Option Addr) (c0_3 : Nat) (l0_3 : List Int) (A0_4 : Option Addr) (c0_4 : Nat) (l0_4 : List Int) (a1 : ByteArray) (A2 : Option Addr) (c2 : Nat) (l2 : List Int) (a3 : Int) (r1 : List Int) (r2 : Int) (w : World) (hr0_0 : Kd.C (Kd.int .u8) w A0_0 l0_0.length l0_0) (hc0_0 : l0_0.length ≤ c0_0) (hr0_1 : Kd.C (Kd.int .u8) w A0_1 l0_1.length l0_1) (hc0_1 : l0_1.length ≤ c0_1) (hr0_2 : Kd.C (Kd.int .u8) w A0_2 l0_2.length l0_2) (hc0_2 : l0_2.length ≤ c0_2) (hr0_3 : Kd.C (Kd.int .u8) w A0_3 l0_3.length l0_3) (hc0_3 : l0_3.length ≤ c0_3) (hr0_4 : Kd.C (Kd.int .u8) w A0_4 l0_4.length l0_4) (hc0_4 : l0_4.length ≤ c0_4) (hr2 : Kd.C (Kd.int .u8) w A2 l2.length l2) (hc2 : l2.length ≤ c2) (h : sched_Export.f l0_0 l0_1 l0_2 l0_3 l0_4 a1 l2 a3 = some (r1, r2)) :
    Calls Try.prog 45 #[.agg #[.slice A0_0 l0_0.length c0_0, .slice A0_1 l0_1.length c0_1, .slice A0_2 l0_2.length c0_2, .slice A0_3 l0_3.length c0_3, .slice A0_4 l0_4.length c0_4], .string a1, .slice A2 l2.length c2, .int .i64 a3] w fun e w' => ∃ v0_ : Value, e = .returned (.tuple #[v0_, .int .i64 r2]) ∧ Kd.R (Kd.int .u8) 5 w' w.heap.size (fun _ => True) v0_ r1 ∧ Below w.heap.size w w' := by
  unfold sched_Export.f at h
  split at h
  case isFalse => cases h
  case isTrue hok =>
  injection h with h
  obtain ⟨o0, o1, n0, n1, n2⟩ := hok
  have hB := Blk.new w 60 #[.slice A0_0 l0_0.length c0_0, .slice A0_1 l0_1.length c0_1, .slice A0_2 l0_2.length c0_2, .slice A0_3 l0_3.length c0_3, .slice A0_4 l0_4.length c0_4]
  have hb := (Below.refl w.heap.size w).alloc (Nat.le_refl _) (Obj.cells #[.slice A0_0 l0_0.length c0_0, .slice A0_1 l0_1.length c0_1, .slice A0_2 l0_2.length c0_2, .slice A0_3 l0_3.length c0_3, .slice A0_4 l0_4.length c0_4] 60)
  have hR := right_calls A0_0 c0_0 l0_0 A0_1 c0_1 l0_1 A0_2 c0_2 l0_2 A0_3 c0_3 l0_3 A0_4 c0_4 l0_4 (w.alloc (Obj.cells #[.slice A0_0 l0_0.length c0_0, .slice A0_1 l0_1.length c0_1, .slice A0_2 l0_2.length c0_2, .slice A0_3 l0_3.length c0_3, .slice A0_4 l0_4.length c0_4] 60)) (Kd.C_alloc hr0_0 _) hc0_0 (Kd.C_alloc hr0_1 _) hc0_1 (Kd.C_alloc hr0_2 _) hc0_2 (Kd.C_alloc hr0_3 _) hc0_3 (Kd.C_alloc hr0_4 _) hc0_4
  obtain ⟨r, hr⟩ : ∃ r, [l0_0, l0_1, l0_2, l0_3, l0_4].all row32 = r := ⟨_, rfl⟩
  rw [hr] at hR h
  have hl := lab_some l0_2 a1 [] o0 rfl (by omega) n1 (by simp)
  have hd := sha_some l2 o1 (by omega)
  have hx : 0 ≤ a3 ∧ a3 ≤ 8160 → kdf_Label.f (labelOf l0_2 a1 [] 32) labExported (dig l2) a3 = some (labelOf (labelOf l0_2 a1 [] 32) labExported (dig l2) a3.toNat, 0) := fun q => by
    obtain ⟨m, rfl⟩ := Int.eq_ofNat_of_zero_le q.1
    rw [Int.toNat_natCast]
    exact label_some _ labExported _ m (by omega) (byteOk_labelOf _ _ _ _) (byteOk_dig _) (by rw [labelOf_length]; omega) (by decide) (by rw [dig_length]; omega)
  have H := Lib.hid (And.intro hB (And.intro hb (And.intro hR (And.intro hr0_2 (And.intro hr2 (And.intro hl (And.intro hd hx)))))))
  clear hB hb hR hr hl hd hx hr0_0 hr0_1 hr0_2 hr0_3 hr0_4 hr2 o0 o1 n0 n1 n2
  cases r with
  | false =>
    rw [show exportRes false l0_2 a1 l2 a3 = ([], 1) from if_neg (by simp)] at h
    injection h with h1 h2
    subst h1 h2
    go_enter Try.func45, Try.ntmps45
    go_wp2_with (refine wpList_load_row rfl 60 (.tmp 4) rfl w.heap.size rfl 60 _ (0, 0) _ H.out.1 Try.underlying60 rfl infoEp ?_)
    refine H.out.2.2.1.mono ?_
    rintro e W1 ⟨rfl, hb1⟩
    have HB := Lib.hid (H.out.2.1.trans (hb1.mono (by rw [World.size_alloc]; omega)))
    clear hb1
    go_wp2
    go_ret2
    exact ⟨_, rfl, Kd.R_nil _ _ _ _ _, HB.out⟩
  | true =>
    by_cases h0 : a3 < 0
    · have d0 : decide (a3 < 0) = true := by simp [h0]
      rw [show exportRes true l0_2 a1 l2 a3 = ([], 1) from if_neg (fun q => by have := q.2.1; omega)] at h
      injection h with h1 h2
      subst h1 h2
      go_enter Try.func45, Try.ntmps45
      go_wp2_with (refine wpList_load_row rfl 60 (.tmp 4) rfl w.heap.size rfl 60 _ (0, 0) _ H.out.1 Try.underlying60 rfl infoEp ?_)
      refine H.out.2.2.1.mono ?_
      rintro e W1 ⟨rfl, hb1⟩
      have HB := Lib.hid (H.out.2.1.trans (hb1.mono (by rw [World.size_alloc]; omega)))
      clear hb1
      go_wp2
      go_ret2
      exact ⟨_, rfl, Kd.R_nil _ _ _ _ _, HB.out⟩
    have d0 : decide (a3 < 0) = false := by simp; omega
    by_cases h1 : 8160 < a3
    · have d1 : decide (8160 < a3) = true := by simp [h1]
      rw [show exportRes true l0_2 a1 l2 a3 = ([], 1) from if_neg (fun q => by have := q.2.2; omega)] at h
      injection h with h1 h2
      subst h1 h2
      go_enter Try.func45, Try.ntmps45
      go_wp2_with (refine wpList_load_row rfl 60 (.tmp 4) rfl w.heap.size rfl 60 _ (0, 0) _ H.out.1 Try.underlying60 rfl infoEp ?_)
      refine H.out.2.2.1.mono ?_
      rintro e W1 ⟨rfl, hb1⟩
      have HB := Lib.hid (H.out.2.1.trans (hb1.mono (by rw [World.size_alloc]; omega)))
      clear hb1
      go_wp2
      go_ret2
      exact ⟨_, rfl, Kd.R_nil _ _ _ _ _, HB.out⟩
    have d1 : decide (8160 < a3) = false := by simp; omega
    rw [show exportRes true l0_2 a1 l2 a3 = (labelOf (labelOf l0_2 a1 [] 32) labExported (dig l2) a3.toNat, 0) from if_pos ⟨rfl, by omega, by omega⟩] at h
    injection h with h1 h2
    subst h1 h2
    have HX := Lib.hid (H.out.2.2.2.2.2.2.2 ⟨by omega, by omega⟩)
    clear h0 h1
    go_enter Try.func45, Try.ntmps45
    go_wp2_with (refine wpList_load_row rfl 60 (.tmp 4) rfl w.heap.size rfl 60 _ (0, 0) _ H.out.1 Try.underlying60 rfl infoEp ?_)
    refine H.out.2.2.1.mono ?_
    rintro e W1 ⟨rfl, hb1⟩
    have hw1 := H.out.2.1.trans (hb1.mono (by rw [World.size_alloc]; omega))
    have hcell := ((H.out.1.below hb1 H.out.1.lt).cell 2).trans (rfl : _ = some (Value.slice A0_2 l0_2.length c0_2))
    have H1 := Lib.hid hw1
    clear hw1 hb1
    go_wp2_with fail
    refine (sched_label.calls A0_2 c0_2 l0_2 a1 none 0 [] _ _ (Kd.C_below H.out.2.2.2.1 H1.out) hc0_2 (Kd.C_nil _ _) (Nat.le_refl _) H.out.2.2.2.2.2.1).mono ?_
    rintro e W2 ⟨v2, rfl, hR2, hb2⟩
    obtain ⟨B2, d2, rfl, hd2, hC2⟩ := Kd.R_reads hR2
    have hw2 := H1.out.trans (hb2.mono H1.out.size)
    have H2 := Lib.hid (And.intro hC2 hw2)
    clear hC2 hw2 hR2 hb2 hcell H1
    go_wp2_with fail
    refine (sha_Sum.calls A2 c2 l2 _ _ (Kd.C_below H.out.2.2.2.2.1 H2.out.2) hc2 H.out.2.2.2.2.2.2.1).mono ?_
    rintro e W3 ⟨v3, rfl, hR3, hb3⟩
    obtain ⟨B3, d3, rfl, hd3, hC3⟩ := Kd.R_reads hR3
    have hw3 := H2.out.2.trans (hb3.mono H2.out.2.size)
    have hC2 := Kd.C_below H2.out.1 hb3
    have H3 := Lib.hid (And.intro hC2 (And.intro hC3 hw3))
    clear hC2 hC3 hw3 hR3 hb3 H2
    go_wp2_with fail
    refine (kdf_Label.calls B2 d2 _ labExported B3 d3 _ a3 _ 0 _ H3.out.1 hd2 H3.out.2.1 hd3 HX.out).mono ?_
    rintro e W5 ⟨v5, rfl, hR5, hb5⟩
    go_wp2
    go_ret2
    exact ⟨_, rfl, Kd.R_lower hR5 H3.out.2.2.size, H3.out.2.2.trans (hb5.mono H3.out.2.2.size)⟩
def sched_Joiner.f (a b c : List Int) : Option (List Int × Int) := if okThree a b c then some (joinerRes a b c) else none
set_option maxRecDepth 100000 in
set_option maxHeartbeats 2000000 in
theorem sched_Joiner.calls (A0 : Option Addr) (c0 : Nat) (l0 : List Int) (A1 : Option Addr) (c1 : Nat) (l1 : List Int) (A2 : Option Addr) (c2 : Nat) (l2 : List Int) (r1 : List Int) (r2 : Int) (w : World) (hr0 : Kd.C (Kd.int .u8) w A0 l0.length l0) (hc0 : l0.length ≤ c0) (hr1 : Kd.C (Kd.int .u8) w A1 l1.length l1) (hc1 : l1.length ≤ c1) (hr2 : Kd.C (Kd.int .u8) w A2 l2.length l2) (hc2 : l2.length ≤ c2) (h : sched_Joiner.f l0 l1 l2 = some (r1, r2)) :
    Calls Try.prog 33 #[.slice A0 l0.length c0, .slice A1 l1.length c1, .slice A2 l2.length c2] w fun e w' => ∃ v0_ : Value, e = .returned (.tuple #[v0_, .int .i64 r2]) ∧ Kd.R (Kd.int .u8) 5 w' w.heap.size (fun _ => True) v0_ r1 ∧ Below w.heap.size w w' := by
  unfold sched_Joiner.f at h
  split at h
  case isFalse => cases h
  case isTrue hok =>
  injection h with h
  obtain ⟨o0, o1, o2, n0, n1, n2⟩ := hok
  have hcw := c_two w 22 A0 A1 c0 c1 l0 l1 hr0 hc0 hr1 hc1
  have hb := (Below.refl w.heap.size w).alloc (Nat.le_refl _) (Obj.cells #[.slice A0 l0.length c0, .slice A1 l1.length c1] 22)
  have hm : kdf_Extract.f l0 l1 = some (macSum l0 l1) := mac_some l0 l1 o0 o1 (by omega) (by omega)
  have hl := lab_some (macSum l0 l1) labJoiner l2 (byteOk_macSum _ _) o2 (by rw [macSum_length]; omega) (by decide) n2
  have hwh := whole_some [l0, l1] (by simp)
  have H := Lib.hid (And.intro hcw (And.intro hb (And.intro hr0 (And.intro hr1 (And.intro hr2 (And.intro hm hl))))))
  clear hcw hb hr0 hr1 hr2 hm hl o0 o1 o2 n0 n1 n2
  by_cases h32 : l0.length = 32 ∧ l1.length = 32
  · rw [show [l0, l1].all row32 = true by simp [row32_true h32.1, row32_true h32.2]] at hwh
    rw [show joinerRes l0 l1 l2 = (joinerOf l0 l1 l2, 0) from if_pos h32] at h
    ·
      injection h with h1 h2
      subst h1 h2
      have HW := Lib.hid hwh
      clear hwh h32
      go_enter Try.func33, Try.ntmps33
      go_wp2_with fail
      refine (sched_whole.calls _ 2 [l0, l1] _ _ H.out.1 (Nat.le_refl _) HW.out).mono ?_
      rintro e w' ⟨rfl, ⟨nd, rfl⟩⟩
      have hw1 := pw_below_drewN H.out.2.1 nd
      have H1 := Lib.hid hw1
      clear hw1
      go_wp2_with fail
      refine (kdf_Extract.calls A0 c0 l0 A1 c1 l1 _ _ (Kd.C_below H.out.2.2.1 H1.out) hc0 (Kd.C_below H.out.2.2.2.1 H1.out) hc1 H.out.2.2.2.2.2.1).mono ?_
      rintro e W2 ⟨v2, rfl, hR2, hb2⟩
      obtain ⟨B2, d2, rfl, hd2, hC2⟩ := Kd.R_reads hR2
      have hw2 := H1.out.trans (hb2.mono H1.out.size)
      have H2 := Lib.hid (And.intro hC2 hw2)
      clear hC2 hw2 hR2 hb2 H1
      go_wp2_with fail
      refine (sched_label.calls B2 d2 _ labJoiner A2 c2 l2 _ _ H2.out.1 hd2 (Kd.C_below H.out.2.2.2.2.1 H2.out.2) hc2 H.out.2.2.2.2.2.2).mono ?_
      rintro e W5 ⟨v5, rfl, hR5, hb5⟩
      go_wp2
      go_ret2
      exact ⟨_, rfl, Kd.R_lower hR5 H2.out.2.size, H2.out.2.trans (hb5.mono H2.out.2.size)⟩
  · have hall : [l0, l1].all row32 = false := by
      by_cases q0 : l0.length = 32
      · simp [row32_false (fun q1 => h32 ⟨q0, q1⟩ : ¬ l1.length = 32)]
      · simp [row32_false q0]
    rw [hall] at hwh
    rw [show joinerRes l0 l1 l2 = ([], 1) from if_neg h32] at h
    clear hall
    ·
      injection h with h1 h2
      subst h1 h2
      have HW := Lib.hid hwh
      clear hwh h32
      go_enter Try.func33, Try.ntmps33
      go_wp2_with fail
      refine (sched_whole.calls _ 2 [l0, l1] _ _ H.out.1 (Nat.le_refl _) HW.out).mono ?_
      rintro e w' ⟨rfl, ⟨nd, rfl⟩⟩
      have hw1 := pw_below_drewN H.out.2.1 nd
      have H1 := Lib.hid hw1
      clear hw1
      go_wp2
      go_ret2
      exact ⟨_, rfl, Kd.R_nil _ _ _ _ _, H1.out⟩
def sched_Context.f (own : List Int) (epoch : Int) (tree log : List Int) : Option (List Int × Int) := if okThree own tree log then some (ctxRes own epoch tree log) else none
set_option maxRecDepth 100000 in
set_option maxHeartbeats 2000000 in
theorem sched_Context.calls (A0 : Option Addr) (c0 : Nat) (l0 : List Int) (a1 : Int) (A2 : Option Addr) (c2 : Nat) (l2 : List Int) (A3 : Option Addr) (c3 : Nat) (l3 : List Int) (r1 : List Int) (r2 : Int) (w : World) (hr0 : Kd.C (Kd.int .u8) w A0 l0.length l0) (hc0 : l0.length ≤ c0) (hr2 : Kd.C (Kd.int .u8) w A2 l2.length l2) (hc2 : l2.length ≤ c2) (hr3 : Kd.C (Kd.int .u8) w A3 l3.length l3) (hc3 : l3.length ≤ c3) (h : sched_Context.f l0 a1 l2 l3 = some (r1, r2)) :
    Calls Try.prog 31 #[.slice A0 l0.length c0, .int .i64 a1, .slice A2 l2.length c2, .slice A3 l3.length c3] w fun e w' => ∃ v0_ : Value, e = .returned (.tuple #[v0_, .int .i64 r2]) ∧ Kd.R (Kd.int .u8) 5 w' w.heap.size (fun _ => True) v0_ r1 ∧ Below w.heap.size w w' := by
  unfold sched_Context.f at h
  split at h
  case isFalse => cases h
  case isTrue hok =>
  injection h with h
  obtain ⟨o0, o1, o2, n0, n1, n2⟩ := hok
  have hbad : ¬ ctxIs l0 a1 l2 l3 → r1 = [] ∧ r2 = 1 := fun hn => by
    rw [ctxRes_no _ _ _ _ hn] at h
    injection h with h1 h2
    exact ⟨h1.symm, h2.symm⟩
  by_cases h0 : a1 < 0
  · obtain ⟨rfl, rfl⟩ := hbad (fun q => by have := q.1; omega)
    have d0 : decide (a1 < 0) = true := by simp [h0]
    clear hbad h
    go_enter Try.func31, Try.ntmps31
    go_wp2
    go_ret2
    exact ⟨_, rfl, Kd.R_nil _ _ _ _ _, Below.refl _ _⟩
  have d0 : decide (a1 < 0) = false := by simp; omega
  by_cases h1 : 281474976710656 ≤ a1
  · obtain ⟨rfl, rfl⟩ := hbad (fun q => by have := q.2.1; omega)
    have d1 : decide (281474976710656 ≤ a1) = true := by simp [h1]
    clear hbad h
    go_enter Try.func31, Try.ntmps31
    go_wp2
    go_ret2
    exact ⟨_, rfl, Kd.R_nil _ _ _ _ _, Below.refl _ _⟩
  have d1 : decide (281474976710656 ≤ a1) = false := by simp; omega
  by_cases h2 : 255 < l0.length
  · obtain ⟨rfl, rfl⟩ := hbad (fun q => by have := q.2.2.1; omega)
    have d2 : decide (255 < (l0.length : Int)) = true := by simp; omega
    clear hbad h
    go_enter Try.func31, Try.ntmps31
    go_wp2
    go_ret2
    exact ⟨_, rfl, Kd.R_nil _ _ _ _ _, Below.refl _ _⟩
  have d2 : decide (255 < (l0.length : Int)) = false := by simp; omega
  obtain ⟨n, rfl⟩ := Int.eq_ofNat_of_zero_le (show 0 ≤ a1 by omega)
  have hcw := c_two w 22 A2 A3 c2 c3 l2 l3 hr2 hc2 hr3 hc3
  have hb := (Below.refl w.heap.size w).alloc (Nat.le_refl _) (Obj.cells #[.slice A2 l2.length c2, .slice A3 l3.length c3] 22)
  have hwh := whole_some [l2, l3] (by simp)
  by_cases h32 : l2.length = 32 ∧ l3.length = 32
  · rw [show [l2, l3].all row32 = true by simp [row32_true h32.1, row32_true h32.2]] at hwh
    rw [ctxRes_yes _ _ _ _ ⟨by omega, by omega, by omega, h32.1, h32.2⟩] at h
    injection h with h1' h2'
    subst h1' h2'
    have hn : byt_Num.f (n : Int) 6 = some (numB n 6, 0) := congrArg some (num6_in n (by omega))
    have q1 := rows_some [l0] (by simp) (by simp; omega)
    have q2 := rows_some [l2, l3] (by simp) (by simp; omega)
    have m1 := rowB_length l0
    have m2 := rowB_length l2
    have m3 := rowB_length l3
    have m4 := numB_length n 6
    have hcc : slices_Concat.f [rowsB [l0], numB n 6, rowsB [l2, l3]] = some (ctxOf l0 n l2 l3) := by
      unfold slices_Concat.f
      have e : [rowsB [l0], numB n 6, rowsB [l2, l3]].flatten = ctxOf l0 n l2 l3 := by simp [rowsB, ctxOf]
      rw [e, if_pos (by unfold ctxOf; rw [List.length_append, List.length_append, List.length_append]; omega)]
    generalize rowsB [l0] = x1 at *
    generalize rowsB [l2, l3] = x2 at *
    generalize ctxOf l0 n l2 l3 = ctx at *
    have HN := Lib.hid (And.intro hn (And.intro q1 (And.intro q2 hcc)))
    have H := Lib.hid (And.intro hcw (And.intro hb (And.intro hr0 (And.intro hr2 (And.intro hr3 hwh)))))
    clear hbad hcw hb hr0 hr2 hr3 hwh hn q1 q2 hcc m1 m2 m3 m4 h32 o0 o1 o2 n0 n1 n2 h0 h1 h2
    go_enter Try.func31, Try.ntmps31
    go_wp2_with fail
    refine (sched_whole.calls _ 2 [l2, l3] _ _ H.out.1 (Nat.le_refl _) H.out.2.2.2.2.2).mono ?_
    rintro e w' ⟨rfl, ⟨nd, rfl⟩⟩
    have H1 := Lib.hid (pw_below_drewN H.out.2.1 nd)
    go_wp2_with fail
    refine (byt_Num.calls (n : Int) 6 _ 0 _ HN.out.1).mono ?_
    rintro e W2 ⟨v2, rfl, hR2, hb2⟩
    obtain ⟨B2, d2', rfl, hd2, hC2⟩ := Kd.R_reads hR2
    have hw2 := H1.out.trans (hb2.mono H1.out.size)
    have hcx := c_one W2 22 A0 c0 l0 (Kd.C_below H.out.2.2.1 hw2) hc0
    have hw3 := hw2.alloc hw2.size (Obj.cells #[.slice A0 l0.length c0] 22)
    have hC2 := Kd.C_alloc hC2 (Obj.cells #[.slice A0 l0.length c0] 22)
    have H2 := Lib.hid (And.intro hcx (And.intro hw3 hC2))
    clear hcx hw2 hw3 hC2 hR2 hb2 H1
    go_wp2_with fail
    refine (sched_rows.calls _ 1 [l0] x1 _ H2.out.1 (Nat.le_refl _) HN.out.2.1).mono ?_
    rintro e W3 ⟨v3, rfl, hR3, hb3⟩
    obtain ⟨B3, d3, rfl, hd3, hC3⟩ := Kd.R_reads hR3
    have hw3 := H2.out.2.1.trans (hb3.mono H2.out.2.1.size)
    have hC2 := Kd.C_alloc (Kd.C_below H2.out.2.2 hb3) (Obj.cells #[.slice A2 l2.length c2, .slice A3 l3.length c3] 22)
    have hC3 := Kd.C_alloc hC3 (Obj.cells #[.slice A2 l2.length c2, .slice A3 l3.length c3] 22)
    have hcx := c_two W3 22 A2 A3 c2 c3 l2 l3 (Kd.C_below H.out.2.2.2.1 hw3) hc2 (Kd.C_below H.out.2.2.2.2.1 hw3) hc3
    have hw4 := hw3.alloc hw3.size (Obj.cells #[.slice A2 l2.length c2, .slice A3 l3.length c3] 22)
    have H3 := Lib.hid (And.intro hcx (And.intro hw4 (And.intro hC2 hC3)))
    clear hcx hw3 hw4 hC2 hC3 hR3 hb3 H2
    go_wp2_with fail
    refine (sched_rows.calls _ 2 [l2, l3] x2 _ H3.out.1 (Nat.le_refl _) HN.out.2.2.1).mono ?_
    rintro e W5 ⟨v5, rfl, hR5, hb5⟩
    obtain ⟨B5, d5, rfl, hd5, hC5⟩ := Kd.R_reads hR5
    have hw5 := H3.out.2.1.trans (hb5.mono H3.out.2.1.size)
    have hC2 := Kd.C_below H3.out.2.2.1 hb5
    have hC3 := Kd.C_below H3.out.2.2.2 hb5
    have hcx := c_three W5 22 B3 B2 B5 d3 d2' d5 x1 (numB n 6) x2 hC3 hd3 hC2 hd2 hC5 hd5
    have hw6 := hw5.alloc hw5.size (Obj.cells #[.slice B3 x1.length d3, .slice B2 (numB n 6).length d2', .slice B5 x2.length d5] 22)
    have H5 := Lib.hid (And.intro hcx hw6)
    clear hcx hw5 hw6 hC2 hC3 hC5 hR5 hb5 H3
    go_wp2_with fail
    refine (slices_Concat.calls _ 3 [x1, numB n 6, x2] ctx _ H5.out.1 (Nat.le_refl _) HN.out.2.2.2).mono ?_
    rintro e W7 ⟨v7, rfl, hR7, hb7⟩
    go_wp2
    go_ret2
    exact ⟨_, rfl, Kd.R_lower hR7 H5.out.2.size, H5.out.2.trans (hb7.mono H5.out.2.size)⟩
  · obtain ⟨rfl, rfl⟩ := hbad (fun q => h32 ⟨q.2.2.2.1, q.2.2.2.2⟩)
    have hall : [l2, l3].all row32 = false := by
      by_cases q0 : l2.length = 32
      · simp [row32_false (fun q1 => h32 ⟨q0, q1⟩ : ¬ l3.length = 32)]
      · simp [row32_false q0]
    rw [hall] at hwh
    have H := Lib.hid (And.intro hcw (And.intro hb hwh))
    clear hbad h hcw hb hr0 hr2 hr3 hwh hall h32 o0 o1 o2 n0 n1 n2 h0 h1 h2
    go_enter Try.func31, Try.ntmps31
    go_wp2_with fail
    refine (sched_whole.calls _ 2 [l2, l3] _ _ H.out.1 (Nat.le_refl _) H.out.2.2).mono ?_
    rintro e w' ⟨rfl, ⟨nd, rfl⟩⟩
    have H1 := Lib.hid (pw_below_drewN H.out.2.1 nd)
    go_wp2
    go_ret2
    exact ⟨_, rfl, Kd.R_nil _ _ _ _ _, H1.out⟩
end P
end Go.Proofs.Ytpdgeanicciaiaa

/-! SchedH -/
namespace Go.Proofs.Ytpdgeanicciaiaa
set_option linter.unusedVariables false
set_option linter.unusedSimpArgs false
open Go.RowKit Go.Proofs.YtpdgeanicciaiaaW.PrintWords Go.Proofs.YtpdgeanicciaiaaW.PrintLast Go.Proofs.YtpdgeanicciaiaaW.PrintMore Iter
theorem refsha_some (x : List Int) (h : byteOk x = true) (hl : x.length ≤ 900000) : P.pyxref02_Sum.f x = some (dig x) := by
  unfold P.pyxref02_Sum.f
  rw [if_pos ⟨h, hl⟩]
  rfl
namespace P
end P
end Go.Proofs.Ytpdgeanicciaiaa

/-! SchedI -/
namespace Go.Proofs.Ytpdgeanicciaiaa
set_option linter.unusedVariables false
set_option linter.unusedSimpArgs false
open Go.RowKit Go.Proofs.YtpdgeanicciaiaaW.PrintWords Go.Proofs.YtpdgeanicciaiaaW.PrintLast Go.Proofs.YtpdgeanicciaiaaW.PrintMore Iter
def zero32 : List Int := List.replicate 32 0
theorem zero32_ok : byteOk zero32 = true := by decide
theorem zero32_len : zero32.length = 32 := rfl
theorem same_some (x y : List Int) (hx : byteOk x = true) (hy : byteOk y = true) : P.pyxref01_Same.f x y = some (x == y) := by
  unfold P.pyxref01_Same.f
  rw [if_pos ⟨hx, hy⟩]
theorem epRow_length (s : List Int) (k : Nat) : (epRow s k).length = 32 := labelOf_length _ _ _ _
theorem byteOk_epRow (s : List Int) (k : Nat) : byteOk (epRow s k) = true := byteOk_labelOf _ _ _ _
theorem ep_right (s : List Int) : [epRow s 0, epRow s 1, epRow s 2, epRow s 3, epRow s 4].all row32 = true := by
  simp [row32_true (epRow_length s _)]
theorem ep_ok (s : List Int) : [epRow s 0, epRow s 1, epRow s 2, epRow s 3, epRow s 4].all byteOk = true := by
  simp [byteOk_epRow]
theorem ctx_shown : P.sched_Context.f [1] 2 zero32 zero32 = some (ctxOf [1] 2 zero32 zero32, 0) := by
  unfold P.sched_Context.f
  rw [if_pos ⟨by decide, by decide, by decide, by decide, by decide, by decide⟩]
  rfl
theorem ctx_shown_len : (ctxOf [1] 2 zero32 zero32).length = 74 := by decide +kernel
theorem ctx_shown_ok : byteOk (ctxOf [1] 2 zero32 zero32) = true := by decide +kernel
theorem hs_shared : P.sched_Shared.f [] = some zero32 := by
  unfold P.sched_Shared.f
  rw [if_pos ⟨⟨by simp, by simp⟩, rfl⟩]
  rfl
namespace P
def pyxlaw12_shown.f : Option Bool := some true
set_option maxRecDepth 100000 in
set_option maxHeartbeats 4000000 in
theorem pyxlaw12_shown.calls (r : Bool) (w : World) (h : pyxlaw12_shown.f = some r) :
    Calls Try.prog 29 #[] w fun e w' => e = .returned (.bool r) ∧ Below w.heap.size w w' := by
  injection h with h
  subst h
  have z := zero32_ok
  have zl := zero32_len
  have cs := ctx_shown
  have cl := ctx_shown_len
  have co := ctx_shown_ok
  generalize ctxOf [1] 2 zero32 zero32 = ctx at *
  have hj : sched_Joiner.f zero32 zero32 ctx = some (joinerOf zero32 zero32 ctx, 0) := by
    unfold sched_Joiner.f
    rw [if_pos ⟨z, z, co, by omega, by omega, by omega⟩]
    rfl
  have jl : (joinerOf zero32 zero32 ctx).length = 32 := labelOf_length _ _ _ _
  have jo : byteOk (joinerOf zero32 zero32 ctx) = true := byteOk_labelOf _ _ _ _
  generalize joinerOf zero32 zero32 ctx = j at *
  have he : sched_Epoch.f j zero32 ctx = some (epRow (ownOf j zero32 ctx) 0, epRow (ownOf j zero32 ctx) 1, epRow (ownOf j zero32 ctx) 2, epRow (ownOf j zero32 ctx) 3, epRow (ownOf j zero32 ctx) 4, 0) := by
    unfold sched_Epoch.f
    rw [if_pos ⟨jo, z, co, by omega, by omega, by omega⟩]
    exact congrArg some (if_pos ⟨jl, zl⟩)
  generalize ownOf j zero32 ctx = own at *
  have hr := ep_right own
  have ho := ep_ok own
  have l0 := epRow_length own 0
  have l1 := epRow_length own 1
  have o2 := byteOk_epRow own 2
  have l2 := epRow_length own 2
  have o3 := byteOk_epRow own 3
  have l3 := epRow_length own 3
  have l4 := epRow_length own 4
  generalize epRow own 0 = r0 at *
  generalize epRow own 1 = r1 at *
  generalize epRow own 2 = r2 at *
  generalize epRow own 3 = r3 at *
  generalize epRow own 4 = r4 at *
  have hl : sched_Log.f zero32 [] [] = some (logOf zero32 [] [], 0) := by
    unfold sched_Log.f
    rw [if_pos ⟨z, rfl, rfl, by omega, by simp, by simp⟩]
    exact congrArg some (if_pos zl)
  have ll := logOf_length zero32 [] []
  have lo := byteOk_logOf zero32 [] []
  generalize logOf zero32 [] [] = lg at *
  have hp : sched_Proof.f r0 r1 r2 r3 r4 lg = some (macSum r3 lg, 0) := by
    unfold sched_Proof.f
    rw [if_pos ⟨o3, lo, by omega, by omega⟩, hr]
    exact congrArg some (if_pos ⟨rfl, ll⟩)
  have pl := macSum_length r3 lg
  generalize macSum r3 lg = pf at *
  have hx : ∃ x : List Int, sched_Export.f r0 r1 r2 r3 r4 (⟨#[97]⟩ : ByteArray) [] 7 = some (x, 0) ∧ x.length = 7 := by
    refine ⟨labelOf (labelOf r2 ⟨#[97]⟩ [] 32) labExported (dig []) 7, ?_, labelOf_length _ _ _ _⟩
    unfold sched_Export.f
    rw [if_pos ⟨o2, rfl, by omega, by decide, by simp⟩, hr]
    exact congrArg some (if_pos ⟨rfl, by omega, by omega⟩)
  obtain ⟨x, hx, xl⟩ := hx
  have hsame : sched_Same.f r0 r1 r2 r3 r4 r0 r1 r2 r3 r4 = some true := by
    unfold sched_Same.f
    rw [if_pos ⟨ho, ho⟩, beq_self_eq_true]
  have hdiff : sched_Same.f r0 r1 r2 r3 r4 [] [] [] [] [] = some false := by
    unfold sched_Same.f
    rw [if_pos ⟨ho, rfl⟩]
    congr 1
    rw [beq_eq_false_iff_ne]
    intro q
    simp only [List.cons.injEq] at q
    rw [q.1] at l0
    cases l0
  have hz : pyxref01_Same.f zero32 zero32 = some true := by rw [same_some _ _ z z, beq_self_eq_true]
  have HF := Lib.hid (And.intro cs (And.intro hj (And.intro he (And.intro hl (And.intro hp (And.intro hx (And.intro hsame (And.intro hdiff hz))))))))
  have HL := Lib.hid (And.intro cl (And.intro jl (And.intro l0 (And.intro l1 (And.intro l2 (And.intro l3 (And.intro l4 (And.intro ll (And.intro pl xl)))))))))
  clear cs hj he hl hp hx hsame hdiff hz cl jl l0 l1 l2 l3 l4 ll pl xl z zl co jo hr ho o2 o3 lo
  go_enter Try.func29, Try.ntmps29
  go_wp2_with (((with_reducible refine gate_dst (N := 14) rfl ?_); refine Kd.R_make (Kd.int .u8) (w0 := w) w.heap.size 5 rfl (N := 14) rfl 22 _ _ rfl 32 rfl rfl Try.underlying22 (.int .u8 0) 1 B.info5 rfl (by decide) (by omega) (0 : Int) (ok := fun _ => True) (okp := fun _ => False) ?zK (fun _ h => h.elim) trivial (by omega) (by decide) ?zB ?zS ?_; (case zK => exact (by rfl)); (case zB => exact Below.refl _ _); (case zS => exact Nat.le_refl _); intro v1 W1 hR1 hb1 hg1 hat1))
  clear hg1 hat1
  have hR1 : Kd.R (Kd.int .u8) 5 W1 w.heap.size (fun _ => True) v1 zero32 := hR1
  obtain ⟨A1, c1, rfl, hc1, hC1⟩ := Kd.R_reads hR1
  have hq := c_marked W1 5 (0, 0) [1] (by decide)
  have hC2 := Kd.C_alloc hC1 (Obj.cells #[Value.int IntKind.u8 1] 5)
  have hb2 := hb1.alloc hb1.size (Obj.cells #[Value.int IntKind.u8 1] 5)
  have H1 := Lib.hid (And.intro hq (And.intro hC2 hb2))
  clear hq hC2 hb2 hC1 hb1 hR1
  refine (sched_Context.calls _ 1 [1] 2 A1 c1 zero32 A1 c1 zero32 ctx 0 _ H1.out.1 (by decide) H1.out.2.1 hc1 H1.out.2.1 hc1 HF.out.1).mono ?_
  rintro e W2 ⟨v2, rfl, hR2, hb2⟩
  obtain ⟨A2, c2, rfl, hc2, hC2⟩ := Kd.R_reads hR2
  have hw2 := H1.out.2.2.trans (hb2.mono H1.out.2.2.size)
  have hz2 := Kd.C_below H1.out.2.1 hb2
  have H2 := Lib.hid (And.intro hz2 (And.intro hC2 hw2))
  clear hw2 hz2 hC2 hR2 hb2 H1
  go_wp2_with fail
  refine (sched_Joiner.calls A1 c1 zero32 A1 c1 zero32 A2 c2 ctx j 0 _ H2.out.1 hc1 H2.out.1 hc1 H2.out.2.1 hc2 HF.out.2.1).mono ?_
  rintro e W3 ⟨v3, rfl, hR3, hb3⟩
  obtain ⟨A3, c3, rfl, hc3, hC3⟩ := Kd.R_reads hR3
  have hw3 := H2.out.2.2.trans (hb3.mono H2.out.2.2.size)
  have hz3 := Kd.C_below H2.out.1 hb3
  have hx3 := Kd.C_below H2.out.2.1 hb3
  have H3 := Lib.hid (And.intro hz3 (And.intro hx3 (And.intro hC3 hw3)))
  clear hw3 hz3 hx3 hC3 hR3 hb3 H2
  go_wp2_with fail
  refine (sched_Shared.calls none 0 [] zero32 _ (Kd.C_nil _ _) (Nat.le_refl _) hs_shared).mono ?_
  rintro e W4 ⟨v4, rfl, hR4, hb4⟩
  obtain ⟨A4, c4, rfl, hc4, hC4⟩ := Kd.R_reads hR4
  have hw4 := H3.out.2.2.2.trans (hb4.mono H3.out.2.2.2.size)
  have hz4 := Kd.C_below H3.out.1 hb4
  have hx4 := Kd.C_below H3.out.2.1 hb4
  have hj4 := Kd.C_below H3.out.2.2.1 hb4
  have H4 := Lib.hid (And.intro hz4 (And.intro hx4 (And.intro hj4 (And.intro hC4 hw4))))
  clear hw4 hz4 hx4 hj4 hC4 hR4 hb4 H3
  go_wp2_with fail
  refine (sched_Epoch.calls A3 c3 j A4 c4 zero32 A2 c2 ctx r0 r1 r2 r3 r4 0 _ H4.out.2.2.1 hc3 H4.out.2.2.2.1 hc4 H4.out.2.1 hc2 HF.out.2.2.1).mono ?_
  rintro e W5 ⟨w0, w1, w2, w3, w4, rfl, q0, q1, q2, q3, q4, hb5⟩
  obtain ⟨B0, d0, rfl, hd0, hD0⟩ := Kd.R_reads q0
  obtain ⟨B1, d1, rfl, hd1, hD1⟩ := Kd.R_reads q1
  obtain ⟨B2, d2, rfl, hd2, hD2⟩ := Kd.R_reads q2
  obtain ⟨B3, d3, rfl, hd3, hD3⟩ := Kd.R_reads q3
  obtain ⟨B4, d4, rfl, hd4, hD4⟩ := Kd.R_reads q4
  clear q0 q1 q2 q3 q4
  have hw5 := H4.out.2.2.2.2.trans (hb5.mono H4.out.2.2.2.2.size)
  have hz5 := Kd.C_below H4.out.1 hb5
  have hnew := Blk.new W5 60 nil5
  have hbs : ∀ cs, Below W5.heap.size W5 ((W5.alloc (Obj.cells nil5 60)).setRow W5.heap.size cs) := fun cs => ((Below.refl _ W5).alloc (Nat.le_refl _) _).trans (Iter.below_setRow cs (Nat.le_refl _))
  have H5 := Lib.hid (And.intro hz5 (And.intro hw5 (And.intro hnew (And.intro hbs (And.intro hD0 (And.intro hD1 (And.intro hD2 (And.intro hD3 hD4))))))))
  clear hw5 hz5 hnew hbs hD0 hD1 hD2 hD3 hD4 hb5 H4
  go_wp2_with (refine wpList_store_row rfl 60 (.tmp 6) (.tmp 34) rfl W5.heap.size _ rfl rfl 60 nil5 H5.out.2.2.1 infoEp rfl (by simp [Value.oneCell']) ?_)
  obtain ⟨EP, hEP⟩ : ∃ EP : Array Value, EP = #[.slice B0 r0.length d0, .slice B1 r1.length d1, .slice B2 r2.length d2, .slice B3 r3.length d3, .slice B4 r4.length d4] := ⟨_, rfl⟩
  have hbE := H5.out.2.2.2.1 EP
  have hB6 := H5.out.2.2.1.setRow_ EP
  have hw6 := H5.out.2.1.trans (hbE.mono H5.out.2.1.size)
  have hz6 := Kd.C_below H5.out.1 hbE
  have hD0 := Kd.C_below H5.out.2.2.2.2.1 hbE
  have hD1 := Kd.C_below H5.out.2.2.2.2.2.1 hbE
  have hD2 := Kd.C_below H5.out.2.2.2.2.2.2.1 hbE
  have hD3 := Kd.C_below H5.out.2.2.2.2.2.2.2.1 hbE
  have hD4 := Kd.C_below H5.out.2.2.2.2.2.2.2.2 hbE
  subst hEP
  change Calls Try.prog _ _ ((W5.alloc (Obj.cells nil5 60)).setRow W5.heap.size #[.slice B0 r0.length d0, .slice B1 r1.length d1, .slice B2 r2.length d2, .slice B3 r3.length d3, .slice B4 r4.length d4]) _
  generalize (W5.alloc (Obj.cells nil5 60)).setRow W5.heap.size #[.slice B0 r0.length d0, .slice B1 r1.length d1, .slice B2 r2.length d2, .slice B3 r3.length d3, .slice B4 r4.length d4] = W6 at *
  have hgl := hB6.lt
  generalize W5.heap.size = g at *
  clear hbE H5
  refine (sched_Log.calls A1 c1 zero32 none 0 [] none 0 [] lg 0 _ hz6 hc1 (Kd.C_nil _ _) (Nat.le_refl _) (Kd.C_nil _ _) (Nat.le_refl _) HF.out.2.2.2.1).mono ?_
  rintro e W7 ⟨v7, rfl, hR7, hb7⟩
  obtain ⟨A7, c7, rfl, hc7, hC7⟩ := Kd.R_reads hR7
  have hw7 := hw6.trans (hb7.mono hw6.size)
  have hz7 := Kd.C_below hz6 hb7
  have hB7 := hB6.below hb7 hgl
  have hgl7 := hB7.lt
  have e0 := Kd.C_below hD0 hb7
  have e1 := Kd.C_below hD1 hb7
  have e2 := Kd.C_below hD2 hb7
  have e3 := Kd.C_below hD3 hb7
  have e4 := Kd.C_below hD4 hb7
  have H7 := Lib.hid (And.intro hz7 (And.intro hw7 (And.intro hB7 (And.intro hC7 (And.intro e0 (And.intro e1 (And.intro e2 (And.intro e3 e4))))))))
  clear hw7 hz7 hB7 hC7 e0 e1 e2 e3 e4 hD0 hD1 hD2 hD3 hD4 hw6 hz6 hB6 hgl hR7 hb7
  go_wp2_with (refine wpList_load_row rfl 60 (.tmp 6) rfl g rfl 60 _ (0, 0) _ H7.out.2.2.1 Try.underlying60 rfl infoEp ?_)
  refine (sched_Proof.calls B0 d0 r0 B1 d1 r1 B2 d2 r2 B3 d3 r3 B4 d4 r4 A7 c7 lg pf 0 _ (H7.out.2.2.2.2.1) hd0 (H7.out.2.2.2.2.2.1) hd1 (H7.out.2.2.2.2.2.2.1) hd2 (H7.out.2.2.2.2.2.2.2.1) hd3 (H7.out.2.2.2.2.2.2.2.2) hd4 H7.out.2.2.2.1 hc7 HF.out.2.2.2.2.1).mono ?_
  rintro e W8 ⟨v8, rfl, hR8, hb8⟩
  obtain ⟨A8, c8, rfl, hc8, -⟩ := Kd.R_reads hR8
  have hw8 := H7.out.2.1.trans (hb8.mono H7.out.2.1.size)
  have hz8 := Kd.C_below H7.out.1 hb8
  have hB8 := H7.out.2.2.1.below hb8 hgl7
  have hgl8 := hB8.lt
  have e0 := Kd.C_below H7.out.2.2.2.2.1 hb8
  have e1 := Kd.C_below H7.out.2.2.2.2.2.1 hb8
  have e2 := Kd.C_below H7.out.2.2.2.2.2.2.1 hb8
  have e3 := Kd.C_below H7.out.2.2.2.2.2.2.2.1 hb8
  have e4 := Kd.C_below H7.out.2.2.2.2.2.2.2.2 hb8
  have H8 := Lib.hid (And.intro hz8 (And.intro hw8 (And.intro hB8 (And.intro e0 (And.intro e1 (And.intro e2 (And.intro e3 e4)))))))
  clear hw8 hz8 hB8 e0 e1 e2 e3 e4 hR8 hb8 H7
  go_wp2_with (refine wpList_load_row rfl 60 (.tmp 6) rfl g rfl 60 _ (0, 0) _ H8.out.2.2.1 Try.underlying60 rfl infoEp ?_)
  refine (sched_Export.calls B0 d0 r0 B1 d1 r1 B2 d2 r2 B3 d3 r3 B4 d4 r4 ⟨#[97]⟩ none 0 [] 7 x 0 _ (H8.out.2.2.2.1) hd0 (H8.out.2.2.2.2.1) hd1 (H8.out.2.2.2.2.2.1) hd2 (H8.out.2.2.2.2.2.2.1) hd3 (H8.out.2.2.2.2.2.2.2) hd4 (Kd.C_nil _ _) (Nat.le_refl _) HF.out.2.2.2.2.2.1).mono ?_
  rintro e W9 ⟨v9, rfl, hR9, hb9⟩
  obtain ⟨A9, c9, rfl, hc9, -⟩ := Kd.R_reads hR9
  have hw9 := H8.out.2.1.trans (hb9.mono H8.out.2.1.size)
  have hz9 := Kd.C_below H8.out.1 hb9
  have hB9 := H8.out.2.2.1.below hb9 hgl8
  have hgl9 := hB9.lt
  have e0 := Kd.C_below H8.out.2.2.2.1 hb9
  have e1 := Kd.C_below H8.out.2.2.2.2.1 hb9
  have e2 := Kd.C_below H8.out.2.2.2.2.2.1 hb9
  have e3 := Kd.C_below H8.out.2.2.2.2.2.2.1 hb9
  have e4 := Kd.C_below H8.out.2.2.2.2.2.2.2 hb9
  have H9 := Lib.hid (And.intro hz9 (And.intro hw9 (And.intro hB9 (And.intro e0 (And.intro e1 (And.intro e2 (And.intro e3 e4)))))))
  clear hw9 hz9 hB9 e0 e1 e2 e3 e4 hR9 hb9 H8
  have t1 : ((ctx.length : Int) == 74) = true := beq_iff_eq.2 (by have := HL.out.1; omega)
  have t2 : ((r0.length : Int) == 32) = true := beq_iff_eq.2 (by have := HL.out.2.2.1; omega)
  have t3 : ((pf.length : Int) == 32) = true := beq_iff_eq.2 (by have := HL.out.2.2.2.2.2.2.2.2.1; omega)
  have t4 : ((x.length : Int) == 7) = true := beq_iff_eq.2 (by have := HL.out.2.2.2.2.2.2.2.2.2; omega)
  go_wp2_with fail
  refine (sched_Shared.calls none 0 [] zero32 _ (Kd.C_nil _ _) (Nat.le_refl _) hs_shared).mono ?_
  rintro e W10 ⟨v10, rfl, hR10, hb10⟩
  obtain ⟨A10, c10, rfl, hc10, hC10⟩ := Kd.R_reads hR10
  go_wp2_with fail
  refine (pyxref01_Same.calls A10 c10 zero32 A1 c1 zero32 true _ hC10 hc10 (Kd.C_below H9.out.1 hb10) hc1 HF.out.2.2.2.2.2.2.2.2).mono ?_
  rintro e w' ⟨rfl, ⟨n1, rfl⟩⟩
  have hw11 := pw_below_drewN (H9.out.2.1.trans (hb10.mono H9.out.2.1.size)) n1
  have hB10 := H9.out.2.2.1.below hb10 hgl9
  have hB11 : Blk (W10.drewN n1) g 60 #[.slice B0 r0.length d0, .slice B1 r1.length d1, .slice B2 r2.length d2, .slice B3 r3.length d3, .slice B4 r4.length d4] := hB10
  have e0 := Kd.C_drewN (Kd.C_below H9.out.2.2.2.1 hb10) n1
  have e1 := Kd.C_drewN (Kd.C_below H9.out.2.2.2.2.1 hb10) n1
  have e2 := Kd.C_drewN (Kd.C_below H9.out.2.2.2.2.2.1 hb10) n1
  have e3 := Kd.C_drewN (Kd.C_below H9.out.2.2.2.2.2.2.1 hb10) n1
  have e4 := Kd.C_drewN (Kd.C_below H9.out.2.2.2.2.2.2.2 hb10) n1
  generalize W10.drewN n1 = W11 at *
  have hgl11 := hB11.lt
  have hcell : W11.cell? ⟨g, 0, none⟩ = some (.slice B0 r0.length d0) := (hB11.cell 0).trans rfl
  have H11 := Lib.hid (And.intro hw11 (And.intro hB11 (And.intro e0 (And.intro e1 (And.intro e2 (And.intro e3 e4))))))
  clear hw11 hB11 hB10 e0 e1 e2 e3 e4 hC10 hR10 hb10 H9
  go_wp2_with ((refine gate_guard (by rfl) ?_; dsimp only); refine wpList_load_row rfl 60 (.tmp 6) rfl g rfl 60 _ (0, 0) _ H11.out.2.1 Try.underlying60 rfl infoEp ?_)
  refine (sched_Same.calls B0 d0 r0 B1 d1 r1 B2 d2 r2 B3 d3 r3 B4 d4 r4 B0 d0 r0 B1 d1 r1 B2 d2 r2 B3 d3 r3 B4 d4 r4 true _ (H11.out.2.2.1) hd0 (H11.out.2.2.2.1) hd1 (H11.out.2.2.2.2.1) hd2 (H11.out.2.2.2.2.2.1) hd3 (H11.out.2.2.2.2.2.2) hd4 (H11.out.2.2.1) hd0 (H11.out.2.2.2.1) hd1 (H11.out.2.2.2.2.1) hd2 (H11.out.2.2.2.2.2.1) hd3 (H11.out.2.2.2.2.2.2) hd4 HF.out.2.2.2.2.2.2.1).mono ?_
  rintro e W12 ⟨rfl, hb12⟩
  have hw12 := H11.out.1.trans (hb12.mono H11.out.1.size)
  have hB12 := H11.out.2.1.below hb12 hgl11
  have e0 := Kd.C_below H11.out.2.2.1 hb12
  have e1 := Kd.C_below H11.out.2.2.2.1 hb12
  have e2 := Kd.C_below H11.out.2.2.2.2.1 hb12
  have e3 := Kd.C_below H11.out.2.2.2.2.2.1 hb12
  have e4 := Kd.C_below H11.out.2.2.2.2.2.2 hb12
  have H12 := Lib.hid (And.intro hw12 (And.intro hB12 (And.intro e0 (And.intro e1 (And.intro e2 (And.intro e3 e4))))))
  clear hw12 hB12 e0 e1 e2 e3 e4 hb12 H11 hcell
  go_wp2_with ((refine gate_guard (by rfl) ?_; dsimp only); refine wpList_load_row rfl 60 (.tmp 6) rfl g rfl 60 _ (0, 0) _ H12.out.2.1 Try.underlying60 rfl infoEp ?_)
  refine (sched_Same.calls B0 d0 r0 B1 d1 r1 B2 d2 r2 B3 d3 r3 B4 d4 r4 none 0 [] none 0 [] none 0 [] none 0 [] none 0 [] false _ (H12.out.2.2.1) hd0 (H12.out.2.2.2.1) hd1 (H12.out.2.2.2.2.1) hd2 (H12.out.2.2.2.2.2.1) hd3 (H12.out.2.2.2.2.2.2) hd4 (Kd.C_nil _ _) (Nat.le_refl _) (Kd.C_nil _ _) (Nat.le_refl _) (Kd.C_nil _ _) (Nat.le_refl _) (Kd.C_nil _ _) (Nat.le_refl _) (Kd.C_nil _ _) (Nat.le_refl _) HF.out.2.2.2.2.2.2.2.1).mono ?_
  rintro e W13 ⟨rfl, hb13⟩
  have hfin := H12.out.1.trans (hb13.mono H12.out.1.size)
  have HZ := Lib.hid hfin
  clear hfin hb13 H12
  go_wp2
  go_ret
  exact ⟨rfl, HZ.out⟩
end P
end Go.Proofs.Ytpdgeanicciaiaa

/-! BytInj -/
namespace Go.Proofs.Ytpdgeanicciaiaa
set_option linter.unusedVariables false
set_option linter.unusedSimpArgs false
open Go.RowKit
theorem numB_one (n : Nat) (h : n < 256) : numB n 1 = [(n : Int)] := by
  simp [numB, numAt, List.range_succ]
  omega
theorem numB_two (n : Nat) : numB n 2 = [((n / 256 % 256 : Nat) : Int), ((n % 256 : Nat) : Int)] := by
  simp [numB, numAt, List.range_succ]
theorem numB_four (n : Nat) : numB n 4 = [((n / 16777216 % 256 : Nat) : Int), ((n / 65536 % 256 : Nat) : Int), ((n / 256 % 256 : Nat) : Int), ((n % 256 : Nat) : Int)] := by
  simp [numB, numAt, List.range_succ]
/-- Numbers of the same width with the same bytes are the same. -/
theorem numB_two_inj (n m : Nat) (hn : n < 65536) (hm : m < 65536) (h : numB n 2 = numB m 2) : n = m := by
  rw [numB_two, numB_two] at h
  simp only [List.cons.injEq, and_true] at h
  omega
theorem numB_four_inj (n m : Nat) (hn : n < 4294967296) (hm : m < 4294967296) (h : numB n 4 = numB m 4) : n = m := by
  rw [numB_four, numB_four] at h
  simp only [List.cons.injEq, and_true] at h
  omega
/-- A length's bytes, and what is behind them. -/
theorem lenB_inj (n m : Nat) (r s : List Int) (hn : n ≤ 1073741823) (hm : m ≤ 1073741823) (h : lenB n ++ r = lenB m ++ s) : n = m ∧ r = s := by
  unfold lenB at h
  by_cases n1 : n < 64
  · rw [if_pos n1, numB_one n (by omega)] at h
    by_cases m1 : m < 64
    · rw [if_pos m1, numB_one m (by omega)] at h
      simp only [List.cons_append, List.nil_append, List.cons.injEq] at h
      exact ⟨by omega, h.2⟩
    by_cases m2 : m < 16384
    · rw [if_neg m1, if_pos m2, numB_two] at h
      simp only [List.cons_append, List.nil_append, List.cons.injEq] at h
      omega
    · rw [if_neg m1, if_neg m2, numB_four] at h
      simp only [List.cons_append, List.nil_append, List.cons.injEq] at h
      omega
  by_cases n2 : n < 16384
  · rw [if_neg n1, if_pos n2, numB_two] at h
    by_cases m1 : m < 64
    · rw [if_pos m1, numB_one m (by omega)] at h
      simp only [List.cons_append, List.nil_append, List.cons.injEq] at h
      omega
    by_cases m2 : m < 16384
    · rw [if_neg m1, if_pos m2, numB_two] at h
      simp only [List.cons_append, List.nil_append, List.cons.injEq] at h
      exact ⟨by omega, h.2.2⟩
    · rw [if_neg m1, if_neg m2, numB_four] at h
      simp only [List.cons_append, List.nil_append, List.cons.injEq] at h
      omega
  · rw [if_neg n1, if_neg n2, numB_four] at h
    by_cases m1 : m < 64
    · rw [if_pos m1, numB_one m (by omega)] at h
      simp only [List.cons_append, List.nil_append, List.cons.injEq] at h
      omega
    by_cases m2 : m < 16384
    · rw [if_neg m1, if_pos m2, numB_two] at h
      simp only [List.cons_append, List.nil_append, List.cons.injEq] at h
      omega
    · rw [if_neg m1, if_neg m2, numB_four] at h
      simp only [List.cons_append, List.nil_append, List.cons.injEq] at h
      exact ⟨by omega, h.2.2.2.2⟩
theorem rowB_inj (a b r s : List Int) (ha : a.length ≤ 1073741823) (hb : b.length ≤ 1073741823) (h : rowB a ++ r = rowB b ++ s) : a = b ∧ r = s := by
  unfold rowB at h
  rw [List.append_assoc, List.append_assoc] at h
  obtain ⟨hl, h⟩ := lenB_inj _ _ _ _ ha hb h
  exact List.append_inj h hl
end Go.Proofs.Ytpdgeanicciaiaa

/-! RowsIn -/
namespace Go.Proofs.Ytpdgeanicciaiaa
set_option linter.unusedVariables false
open Go.Deep Go.RowKit Go.ChangeShapes Go.WideShapes Go.Proofs.YtpdgeanicciaiaaW.PrintWords
theorem weights_mem_all {H : Type} {P : Program} {e : TypeId} : ∀ {l : List (DataW H)} {d : DataW H}, d ∈ l → ∀ n ∈ d.weights P e, n ∈ DataW.weightsAll P e l
  | d0 :: r, d, h, n, hn => by
    simp only [DataW.weightsAll, List.mem_append]
    rcases List.mem_cons.1 h with rfl | h
    · exact Or.inl hn
    · exact Or.inr (weights_mem_all h n hn)
/-- What is known of a row of rows of bytes that came in. -/
theorem open_rows {H : Type} {enc : TypeId × Value → H} {P : Program} {W : World} {base : Nat} {held : Bool} {t e q : TypeId} {a : Option Addr} {len cap : Nat} {d : DataW H} {ps : List MemPlace} {ts : List TypeId} {ds : List (DataW H)} {j : Nat}
    (hsz : (DataW.weightsEach P ts ds).all (· ≤ reachBytes) = true) (htj : ts[j]? = some t) (hdj : ds[j]? = some d)
    (ht : P.underlying t = some (.slice e)) (he : P.underlying e = some (.slice q)) (hq : P.underlying q = some (.int .u8)) (ce : P.cellsOf e = 1) (cq : P.cellsOf q = 1) (bq : P.bytesOf q = 1)
    (h : DataW.Trod enc P W base (fun _ => true) held t (.slice a len cap) d ps) :
    ∃ l : List (List Int), l.length = len ∧ len ≤ cap ∧ Kd.C (Kd.slice q (Kd.int .u8)) W a len l ∧ ∀ x ∈ l, (∀ n ∈ x, (Lit.int .u8 n).wf = true) ∧ x.length ≤ 140737488351232 := by
  obtain ⟨fuel, hf⟩ := h
  rcases open_int_rows ht he hq ce cq hf with ⟨hcs, _⟩ | ⟨x, l, c, A, L, C, Z, hcs, hb, hl, hm, hd, hx⟩
  · simp [Value.cells] at hcs
    obtain ⟨rfl, rfl, rfl⟩ := hcs
    exact ⟨[], rfl, Nat.le_refl _, ⟨rfl, by simp, fun h => absurd h (by simp)⟩, fun x hx => by simp at hx⟩
  simp [Value.cells] at hcs
  obtain ⟨rfl, rfl, rfl⟩ := hcs
  have hlt : ∀ r, r < len → ((Z r).take (L r)).length = L r := fun r hr => by
    obtain ⟨_, h1, _, h3, _⟩ := hx r (by omega)
    rw [List.length_take]
    omega
  refine ⟨(List.range len).map fun r => (Z r).take (L r), by simp, hl, ⟨by simp, by unfold maxLen at hm; omega, fun h0 => ⟨x, rfl, fun r p hr => ?_⟩⟩, fun y hy => ?_⟩
  · have hrl : r < len := by
      rcases Nat.lt_or_ge r len with h | h
      · exact h
      · rw [List.getElem?_eq_none (by simpa using h)] at hr
        cases hr
    have hp : p = (Z r).take (L r) := by
      simp [hrl] at hr
      exact hr.symm
    subst hp
    obtain ⟨h0', h1, h2, h3, h4, h5, h6⟩ := hx r (by omega)
    have hlr := hlt r hrl
    refine ⟨[.slice (A r) (L r) (C r)], rfl, ⟨A r, C r, by rw [hlr], by omega, ?_⟩, fun i u hu => ?_⟩
    · rw [hlr]
      refine Kd.C_of_reads (enc := Value.int .u8) (d := (0 : Int)) (h1 := fun _ => rfl) ⟨hlr, by unfold maxLen at h2; omega, fun hpos => ?_⟩
      cases hA : A r with
      | none =>
        have := h5 hA
        omega
      | some a' =>
        refine ⟨a', rfl, fun i hi => ?_⟩
        rw [(h6 a' hA).2 i (by omega)]
        rw [List.getD_eq_getElem?_getD, List.getD_eq_getElem?_getD, List.getElem?_take, if_pos hi]
    · rcases i with _ | i
      · have : (Kd.slice q (Kd.int .u8)).sz = 1 := rfl
        rw [this, Nat.mul_one, Nat.add_zero, h0']
        exact hu
      · cases hu
  · obtain ⟨r, hr, rfl⟩ := List.mem_map.1 hy
    have hrl := List.mem_range.1 hr
    obtain ⟨h0', h1, h2, h3, h4, h5, h6⟩ := hx r (by omega)
    refine ⟨fun n hn => h4 n (List.mem_of_mem_take hn), ?_⟩
    rw [hlt r hrl]
    cases hA : A r with
    | none =>
      have := h5 hA
      omega
    | some a' =>
      obtain ⟨hd, _⟩ := Prod.mk.inj hd
      have hmem : intRow .u8 (A r) (L r) (Z r) ∈ (List.range len).map fun r => intRow (H := H) .u8 (A r) (L r) (Z r) := List.mem_map.2 ⟨r, hr, rfl⟩
      have hw : (L r + (C r - L r)) * 1 ∈ (intRow (H := H) .u8 (A r) (L r) (Z r)).weights P e := by
        rw [hA]
        unfold intRow
        simp [DataW.weights, he, bq, lits, h3]
        left
        omega
      have hin : (L r + (C r - L r)) * 1 ∈ d.weights P t := by
        rw [hd]
        simp only [DataW.weights, ht]
        exact List.mem_cons_of_mem _ (List.mem_append.2 (Or.inl (weights_mem_all hmem _ hw)))
      have := List.all_eq_true.1 hsz _ (DataW.weights_mem_each htj hdj _ hin)
      simp [reachBytes] at this
      omega
end Go.Proofs.Ytpdgeanicciaiaa
